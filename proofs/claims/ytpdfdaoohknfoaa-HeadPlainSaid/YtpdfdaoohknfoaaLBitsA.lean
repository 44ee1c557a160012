/- What the functions of package bits, compute, said over plain lists of bits. -/
import Derived.Test.YtpdfdaoohknfoaaPx38
import Derived.Test.YtpdfdaoohknfoaaPx39
import Derived.Test.YtpdfdaoohknfoaaPx40
import Derived.Test.YtpdfdaoohknfoaaPx9
import Derived.Test.YtpdfdaoohknfoaaPx8
import Derived.Test.YtpdfdaoohknfoaaLBase
namespace Go.Proofs.Ytpdfdaoohknfoaa.LB
set_option linter.unusedVariables false
set_option linter.unusedSimpArgs false
open Go.RowKit Go.Proofs.YtpdfdaoohknfoaaW.PrintWords Go.Proofs.YtpdfdaoohknfoaaW.PrintLast Go.Proofs.Ytpdfdaoohknfoaa.P Go.Proofs.Ytpdfdaoohknfoaa.BT
/-- no bits from a place on -/
theorem high_zero {x : Int} (h : 0 ≤ x ∧ x < 256) (r : Nat) (hr : r < 8) : x / 2 ^ r = 0 ↔ ∀ k, r ≤ k → k < 8 → x / 2 ^ k % 2 = 0 := by
  constructor
  · intro e k hk _
    have : x / 2 ^ k = 0 := by
      rw [show k = r + (k - r) by omega, Int.pow_add, ← Int.ediv_ediv_of_nonneg (Int.le_of_lt (Int.pow_pos (by omega))), e]; simp
    omega
  · intro e
    have e1 := e 1; have e2 := e 2; have e3 := e 3; have e4 := e 4; have e5 := e 5; have e6 := e 6; have e7 := e 7; have e0 := e 0
    clear e
    have hr' : r = 0 ∨ r = 1 ∨ r = 2 ∨ r = 3 ∨ r = 4 ∨ r = 5 ∨ r = 6 ∨ r = 7 := by omega
    rcases hr' with e | e | e | e | e | e | e | e <;> subst e <;> simp only [Int.reducePow] at * <;> simp at * <;> omega
/-- what bits.Right computes -/
def rightB (B : List Int) (N : Int) : Bool := decide (0 ≤ N ∧ N ≤ 32000 ∧ (B.length : Int) = (N + 7) / 8 ∧ (N % 8 = 0 ∨ nth B (N / 8).toNat / 2 ^ (N % 8).toNat = 0))
theorem right_iff {B : List Int} (hB : Bytes B) (N : Int) : rightB B N = true ↔ RightW B N := by
  unfold rightB RightW
  simp only [decide_eq_true_eq]
  constructor
  · rintro ⟨h0, h1, h2, h3⟩
    refine ⟨h0, h1, h2, fun i hi => ?_⟩
    by_cases h8 : N % 8 = 0
    · exact bitN_beyond B i (by omega)
    · by_cases hi8 : i / 8 = (N / 8).toNat
      · have := (high_zero (nth_byte hB (N / 8).toNat) (N % 8).toNat (by omega)).1 (by omega) (i % 8) (by omega) (by omega)
        unfold bitN; rw [hi8]; exact this
      · exact bitN_beyond B i (by omega)
  · rintro ⟨h0, h1, h2, h3⟩
    refine ⟨h0, h1, h2, ?_⟩
    by_cases h8 : N % 8 = 0
    · exact .inl h8
    · refine .inr ((high_zero (nth_byte hB _) _ (by omega)).2 fun k hk hk' => ?_)
      have := h3 (8 * (N / 8).toNat + k) (by omega)
      unfold bitN at this
      rwa [show (8 * (N / 8).toNat + k) / 8 = (N / 8).toNat by omega, show (8 * (N / 8).toNat + k) % 8 = k by omega] at this
theorem right_eq (B : List Int) {N : Int} (hN : -9223372036854775808 ≤ N ∧ N ≤ 9223372036854775807) : bits_Right.f B N = some (rightB B N) := by
  unfold bits_Right.f rightB
  by_cases h0 : N < 0
  · rw [if_pos h0]; congr 1; symm; simp only [decide_eq_false_iff_not]; omega
  rw [if_neg h0]
  by_cases h1 : N > 32000
  · rw [if_pos h1]; congr 1; symm; simp only [decide_eq_false_iff_not]; omega
  rw [if_neg h1, w64 (x := N + 7) (by omega) (by omega), tdiv_nn 8 (by omega), tmod_nn 8 (by omega), tdiv_nn 8 (by omega), w64 (x := (N + 7) / 8) (by omega) (by omega), w64 (x := N / 8) (by omega) (by omega)]
  by_cases h2 : (B.length : Int) = (N + 7) / 8
  · rw [if_pos h2]
    by_cases h3 : N % 8 = 0
    · rw [if_pos h3]; congr 1; symm; simp only [decide_eq_true_eq]; omega
    · rw [if_neg h3, if_pos (by omega), if_pos (by omega), if_pos (by omega), shr_small' (by simp [IntKind.bits]; omega), rd_nth]
      congr 1
      rw [Bool.eq_iff_iff]
      simp only [beq_iff_eq, decide_eq_true_eq]
      omega
  · rw [if_neg h2]; congr 1; symm; simp only [decide_eq_false_iff_not]; omega
def goodS (B : List Int) (N : Int) : List Int × Int := if rightB B N = true then (B, N) else ([], 0)
theorem own_eq (B : List Int) {N : Int} (hl : B.length ≤ 1000000) (hN : -9223372036854775808 ≤ N ∧ N ≤ 9223372036854775807) : bits_own.f B N = some (goodS B N) := by
  unfold bits_own.f goodS
  rw [right_eq B hN]
  simp only [Option.bind_some]
  split
  · rw [if_pos (by simp; omega)]; simp
  · rfl
theorem right_nil : RightW [] 0 := ⟨by omega, by omega, rfl, fun i _ => bitN_beyond [] i (by simp)⟩
theorem good_right {B : List Int} (hB : Bytes B) (N : Int) : RightW (goodS B N).1 (goodS B N).2 ∧ Bytes (goodS B N).1 := by
  unfold goodS; split
  · exact ⟨(right_iff hB N).1 (by assumption), hB⟩
  · exact ⟨right_nil, fun x hx => by simp at hx⟩
theorem good_of_right {B : List Int} (hB : Bytes B) {N : Int} (h : RightW B N) : goodS B N = (B, N) := by unfold goodS; rw [if_pos ((right_iff hB N).2 h)]
/-- a right writer is its bits -/
theorem good_pack {B : List Int} (hB : Bytes B) (N : Int) : ∃ l, Bits01 l ∧ l.length ≤ 32000 ∧ goodS B N = (pack l, (l.length : Int)) ∧ l = bitsTo (goodS B N).1 (goodS B N).2 := by
  obtain ⟨h, hb⟩ := good_right hB N
  have hl := bitsTo_length h
  refine ⟨bitsTo (goodS B N).1 (goodS B N).2, bitsTo_bits _ _, by rw [hl]; have := h.2.1; omega, ?_, rfl⟩
  rw [pack_bitsTo hb h, hl, Int.toNat_of_nonneg h.1]
theorem or_byte {a b : Int} {r : Nat} (ha : 0 ≤ a) (ha' : a < 2 ^ r) (hb : b = 0 ∨ b = 1) (hr : r < 8) : Go.bits .or .u8 a (b * 2 ^ r) = a + b * 2 ^ r := by
  have hp : (2 : Int) ^ r ≤ 128 := by
    have : (2 : Nat) ^ r ≤ 2 ^ 7 := Nat.pow_le_pow_right (by omega) (by omega)
    have := Int.ofNat_le.2 this; simpa using this
  have hm : b * 2 ^ r = 0 ∨ b * 2 ^ r = 2 ^ r := by rcases hb with e | e <;> subst e <;> simp
  have hq : (0 : Int) < 2 ^ r := Int.pow_pos (by omega)
  rw [u8_or a _ ha (by omega) (by omega) (by omega)]
  have e1 : (b * 2 ^ r).toNat = b.toNat * 2 ^ r := by
    rcases hb with e | e <;> subst e
    · simp
    · have : ((2 : Int) ^ r) = ((2 ^ r : Nat) : Int) := by simp
      rw [Int.one_mul, this, Int.toNat_natCast]; simp
  have e2 : a.toNat < 2 ^ r := by have : ((2 : Int) ^ r) = ((2 ^ r : Nat) : Int) := by simp
                                  omega
  rw [e1, Nat.or_comm, nat_join r _ _ (Nat.mul_mod_left _ _) e2]
  have : ((b.toNat * 2 ^ r : Nat) : Int) = b * 2 ^ r := by
    rw [Int.natCast_mul, Int.toNat_of_nonneg (by omega)]; simp
  rw [Int.natCast_add, this]; omega
theorem and_one {x : Int} (h : 0 ≤ x) (h' : x < 18446744073709551616) : Go.bits .and .u64 x 1 = x % 2 := by
  rw [u64_and x 1 h h' (by omega) (by omega)]
  simp only [Int.toNat_one]
  rw [nat_mask1]; omega
theorem and_one8 {x : Int} (h : 0 ≤ x) (h' : x < 256) : Go.bits .and .u8 x 1 = x % 2 := by
  rw [u8_and x 1 h h' (by omega) (by omega)]
  simp only [Int.toNat_one]
  rw [nat_mask1]; omega
theorem shl_byte {b : Int} {r : Int} (hb : b = 0 ∨ b = 1) (h0 : 0 ≤ r) (hr : r < 8) : shl .u8 b r = b * 2 ^ r.toNat := by
  unfold shl
  rw [Nat.min_eq_left (by simp [IntKind.bits]; omega), IntKind.wrap_u8]
  have hp : (2 : Int) ^ r.toNat ≤ 128 := by
    have : (2 : Nat) ^ r.toNat ≤ 2 ^ 7 := Nat.pow_le_pow_right (by omega) (by omega)
    have := Int.ofNat_le.2 this; simpa using this
  have hq : (0 : Int) < 2 ^ r.toNat := Int.pow_pos (by omega)
  rcases hb with e | e <;> subst e <;> simp <;> omega
/-- the loop of bits.Put -/
theorem put_loop (n : Int) (d : Nat) : ∀ (k : Nat) (v i : Int) (l : List Int), Bits01 l → n ≤ 32 → 0 ≤ i → i + d = n → 0 ≤ v → v < 18446744073709551616 → l.length + d ≤ 32000 → d < k →
    bits_Put.l0 k v n i (pack l) l.length = some (pack (l ++ vbits v d), (l.length : Int) + d, 0) := by
  induction d with
  | zero =>
    intro k v i l hl hn h0 hd hv hv' hmax hk
    obtain ⟨k, rfl⟩ : ∃ m, k = m + 1 := ⟨k - 1, by omega⟩
    simp only [bits_Put.l0]
    rw [if_neg (by omega), vbits_zero]; simp
  | succ d ih =>
    intro k v i l hl hn h0 hd hv hv' hmax hk
    obtain ⟨k, rfl⟩ : ∃ m, k = m + 1 := ⟨k - 1, by omega⟩
    simp only [bits_Put.l0]
    have hb : v % 2 = 0 ∨ v % 2 = 1 := by omega
    have hb' : Bits01 (l ++ [v % 2]) := bits_append hl (fun x hx => by rw [List.mem_singleton.1 hx]; exact hb)
    have hlen : (pack l).length = (l.length + 7) / 8 := pack_length l
    rw [if_pos (by omega), tmod_nn 8 (by omega), tdiv_nn 8 (by omega), w64 (x := (l.length : Int) / 8) (by omega) (by omega), w64 (x := i + 1) (by omega) (by omega), w64 (x := (l.length : Int) + 1) (by omega) (by omega)]
    rw [and_one hv hv', show v % 2 % 256 = v % 2 by omega]
    have next := ih k (v / 2) (i + 1) (l ++ [v % 2]) hb' hn (by omega) (by omega) (by omega) (by omega) (by simp; omega) (by omega)
    rw [List.length_append, List.length_singleton, Int.natCast_add, Int.natCast_one, List.append_assoc, List.singleton_append, ← vbits_cons] at next
    have e0 : ((l.length : Int) / 8).toNat = l.length / 8 := by omega
    by_cases h8 : l.length % 8 = 0
    · rw [if_pos (by omega), if_pos (by omega)]
      simp only [Option.bind_some]
      rw [if_pos (by omega), if_pos (by simp; omega), if_pos (by omega), shl_byte hb (by omega) (by omega), rd_nth, e0]
      have e1 : nth (pack l ++ [0]) (l.length / 8) = 0 := by rw [nth_append, if_neg (by omega), show l.length / 8 - (pack l).length = 0 by omega]; rfl
      have e2 : ((l.length : Int) % 8).toNat = 0 := by omega
      rw [e1, e2, or_byte (r := 0) (by omega) (by simp) hb (by omega)]
      have e3 : (pack l ++ [0]).set (l.length / 8) (0 + v % 2 * 2 ^ 0) = pack (l ++ [v % 2]) := by
        rw [pack_snoc_new _ h8, show l.length / 8 = (pack l).length by omega, List.set_append_right _ _ (Nat.le_refl _)]; simp
      rw [e3, next]
      congr 2; congr 1; omega
    · rw [if_neg (by omega), if_pos (by omega), if_pos (by omega), if_pos (by omega), shl_byte hb (by omega) (by omega), rd_nth, e0, pack_nth]
      have e2 : ((l.length : Int) % 8).toNat = l.length % 8 := by omega
      obtain ⟨h1, h2⟩ := byteAt_low hl h8
      rw [e2, or_byte h1 h2 hb (by omega), ← pack_snoc_in _ h8, next]
      congr 2; congr 1; omega
/-- what bits.Put answers -/
def putS (B : List Int) (N v n : Int) : List Int × Int × Int :=
  if n < 0 ∨ 32 < n ∨ 2 ^ n.toNat ≤ v then ((goodS B N).1, (goodS B N).2, 1)
  else if 32000 < (goodS B N).2 + n then ((goodS B N).1, (goodS B N).2, 3)
  else (pack (bitsTo (goodS B N).1 (goodS B N).2 ++ vbits v n.toNat), (goodS B N).2 + n, 0)
theorem put_eq {B : List Int} (hB : Bytes B) (hl : B.length ≤ 1000000) {N v n : Int} (hN : -9223372036854775808 ≤ N ∧ N ≤ 9223372036854775807) (hv : 0 ≤ v ∧ v < 18446744073709551616)
    (k : Nat) (hk : 40 ≤ k) : bits_Put.f k B N v n = some (putS B N v n) := by
  obtain ⟨k, rfl⟩ : ∃ m, k = m + 1 := ⟨k - 1, by omega⟩
  unfold bits_Put.f
  rw [own_eq B hl hN]
  simp only [Option.bind_some]
  obtain ⟨l, hb, hlen, e, el⟩ := good_pack hB N
  unfold putS
  rw [← el, e]
  simp only
  by_cases h1 : n < 0
  · rw [if_pos h1, if_pos (.inl h1)]; simp [bits_Put.j0]
  rw [if_neg h1]
  by_cases h2 : n > 32
  · rw [if_pos h2, if_pos (.inr (.inl h2))]; simp [bits_Put.j0]
  rw [if_neg h2, if_pos (by omega), shr_small' (by simp [IntKind.bits]; omega)]
  have hp : (0 : Int) < 2 ^ n.toNat := Int.pow_pos (by omega)
  by_cases h3 : 2 ^ n.toNat ≤ v
  · rw [if_pos (.inr (.inr h3))]
    have : (v / 2 ^ n.toNat != 0) = true := by
      rw [bne_iff_ne]; intro e0
      have := Int.lt_ediv_add_one_mul_self v hp
      rw [e0] at this; omega
    simp only [bits_Put.j0]; rw [if_pos this]
  · rw [if_neg (by omega)]
    have : (v / 2 ^ n.toNat != 0) = false := by
      rw [bne_eq_false_iff_eq]; exact Int.ediv_eq_zero_of_lt hv.1 (by omega)
    simp only [bits_Put.j0]
    rw [this, if_neg (by decide), w64 (x := (l.length : Int) + n) (by omega) (by omega)]
    by_cases h4 : 32000 < (l.length : Int) + n
    · rw [if_pos h4, if_pos h4]
    · rw [if_neg (by omega), if_neg h4, put_loop n n.toNat k v 0 l hb (by omega) (by omega) (by omega) hv.1 hv.2 (by omega) (by omega)]
      congr 2; congr 1; omega
end Go.Proofs.Ytpdfdaoohknfoaa.LB
