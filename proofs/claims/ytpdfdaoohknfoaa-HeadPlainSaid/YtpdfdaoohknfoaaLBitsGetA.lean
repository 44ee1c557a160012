/- What bits.Get reads: the number of the bits from a place on; and the document's list of bits. -/
import Derived.Test.YtpdfdaoohknfoaaPx25
import Derived.Test.YtpdfdaoohknfoaaLBitsA
namespace Go.Proofs.Ytpdfdaoohknfoaa.LB
set_option linter.unusedVariables false
set_option linter.unusedSimpArgs false
open Go.RowKit Go.Proofs.YtpdfdaoohknfoaaW.PrintWords Go.Proofs.YtpdfdaoohknfoaaW.PrintLast Go.Proofs.Ytpdfdaoohknfoaa.P Go.Proofs.Ytpdfdaoohknfoaa.BT
theorem refBits_l1 (x0 : List Int) (i : Int) (d : Nat) : ∀ (k : Nat) (v j : Int) (acc : List Int), 0 ≤ v → v < 9223372036854775808 → 0 ≤ j → j + d = 8 → acc.length + d < 17592186044416 →
    psalteryref01_Bits.l1 (k + d + 1) x0 acc i v j = psalteryref01_Bits.l0 k x0 (acc ++ vbits v d) (wrap64 (i + 1)) := by
  induction d with
  | zero =>
    intro k v j acc hv hv' h0 hd hl
    simp only [psalteryref01_Bits.l1]
    rw [if_neg (by omega), vbits_zero, List.append_nil]
  | succ d ih =>
    intro k v j acc hv hv' h0 hd hl
    obtain ⟨m, hm⟩ : ∃ m, m = k + d + 1 := ⟨_, rfl⟩
    rw [show k + (d + 1) + 1 = m + 1 by omega]
    simp only [psalteryref01_Bits.l1]
    rw [if_pos (by omega), if_pos (by omega), tmod_nn 2 hv, tdiv_nn 2 hv, w64 (x := v / 2) (by omega) (by omega), w64 (x := j + 1) (by omega) (by omega)]
    rw [hm, ih k (v / 2) (j + 1) (acc ++ [v % 2]) (by omega) (by omega) (by omega) (by omega) (by simp; omega), List.append_assoc, List.singleton_append, ← vbits_cons]
theorem bitsL_snoc (l : List Int) (x : Int) : bitsL (l ++ [x]) = bitsL l ++ vbits x 8 := by
  apply ext_nth
  · rw [bitsL_length, List.length_append, List.length_append, bitsL_length, vbits_length]; simp; omega
  · intro i hi
    rw [bitsL_length, List.length_append, List.length_singleton] at hi
    rw [bitsL_nth, nth_append, bitsL_length]
    split
    · rw [bitsL_nth]; unfold bitN; rw [nth_append, if_pos (by omega)]
    · unfold bitN vbits
      rw [nth_append, if_neg (by omega), nth_map_range, if_pos (by omega), show i / 8 - l.length = 0 by omega, show i % 8 = i - 8 * l.length by omega]; rfl
theorem take_succ_nth (l : List Int) (i : Nat) (h : i < l.length) : l.take (i + 1) = l.take i ++ [nth l i] := by
  rw [List.take_succ_eq_append_getElem h, nth_lt h]
theorem refBits_l0 (x0 : List Int) (hB : Bytes x0) (hl : x0.length ≤ 1000000) (d : Nat) : ∀ (k i : Nat), i + d = x0.length → 10 * d < k → psalteryref01_Bits.l0 k x0 (bitsL (x0.take i)) i = some (bitsL x0) := by
  induction d with
  | zero =>
    intro k i hi hk
    obtain ⟨k, rfl⟩ : ∃ m, k = m + 1 := ⟨k - 1, by omega⟩
    simp only [psalteryref01_Bits.l0]
    rw [if_neg (by omega), List.take_of_length_le (by omega)]
  | succ d ih =>
    intro k i hi hk
    obtain ⟨k, rfl⟩ : ∃ m, k = m + 8 + 1 + 1 := ⟨k - 10, by omega⟩
    simp only [psalteryref01_Bits.l0]
    have hb := nth_byte hB i
    rw [if_pos (by omega), if_pos (by omega), rd_nth, Int.toNat_natCast, w64 (x := nth x0 i) (by omega) (by omega)]
    rw [refBits_l1 x0 i 8 k (nth x0 i) 0 _ hb.1 (by omega) (by omega) (by omega) (by rw [bitsL_length, List.length_take]; omega), w64 (by omega) (by omega), ← bitsL_snoc, ← take_succ_nth _ _ (by omega)]
    exact ih k (i + 1) (by omega) (by omega)
theorem refBits_eq {x0 : List Int} (hB : Bytes x0) (hl : x0.length ≤ 1000000) (k : Nat) (hk : 10 * x0.length < k) : psalteryref01_Bits.f k x0 = some (bitsL x0) := by
  unfold psalteryref01_Bits.f
  exact refBits_l0 x0 hB hl x0.length k 0 (by omega) hk
/-- n bits from a place on -/
def seg (B : List Int) (at_ n : Nat) : List Int := ((bitsL B).drop at_).take n
theorem seg_bits (B : List Int) (a n : Nat) : Bits01 (seg B a n) := fun x hx => bitsL_bits B x (List.mem_of_mem_drop (List.mem_of_mem_take hx))
theorem seg_length {B : List Int} {a n : Nat} (h : a + n ≤ 8 * B.length) : (seg B a n).length = n := by
  unfold seg; rw [List.length_take, List.length_drop, bitsL_length]; omega
theorem nth_drop (l : List Int) (a i : Nat) : nth (l.drop a) i = nth l (a + i) := by
  unfold nth List.getD; rw [List.getElem?_drop]
theorem seg_snoc {B : List Int} {a n : Nat} (h : a + n < 8 * B.length) : seg B a (n + 1) = seg B a n ++ [bitN B (a + n)] := by
  unfold seg
  rw [take_succ_nth _ _ (by rw [List.length_drop, bitsL_length]; omega), nth_drop, bitsL_nth]
theorem seg_cons {B : List Int} {a n : Nat} (h : a < 8 * B.length) : seg B a (n + 1) = bitN B a :: seg B (a + 1) n := by
  unfold seg
  rw [List.drop_eq_getElem_cons (by rw [bitsL_length]; omega), List.take_succ_cons, ← nth_lt (by rw [bitsL_length]; omega), bitsL_nth]
/-- what Get answers: place, number, error -/
def getS (B : List Int) (at_ n : Int) : Int × Int × Int :=
  if n < 0 ∨ 32 < n ∨ at_ < 0 then (at_, 0, 1)
  else if 8 * (B.length : Int) < at_ + n then (at_, 0, 4)
  else (at_ + n, numOf (seg B at_.toNat n.toNat), 0)
theorem left_eq (B : List Int) (hl : B.length ≤ 1000000) {at_ : Int} (ha : -9223372036854775808 ≤ at_ ∧ at_ ≤ 9223372036854775807) :
    bits_Left.f B at_ = some (if at_ < 0 ∨ 8 * (B.length : Int) < at_ then 0 else 8 * (B.length : Int) - at_) := by
  unfold bits_Left.f
  rw [w64 (x := 8 * (B.length : Int)) (by omega) (by omega)]
  by_cases h0 : at_ < 0
  · rw [if_pos h0, if_pos (.inl h0)]
  rw [if_neg h0]
  by_cases h1 : at_ > 8 * (B.length : Int)
  · rw [if_pos h1, if_pos (.inr h1)]
  · rw [if_neg h1, if_neg (by omega), w64 (by omega) (by omega)]
theorem or_u64 {v b : Int} {i : Nat} (h0 : 0 ≤ v) (h1 : v < 2 ^ i) (hb : b = 0 ∨ b = 1) (hi : i ≤ 32) : Go.bits .or .u64 v (b * 2 ^ i) = v + b * 2 ^ i := by
  have hp := pow_le32 hi
  have hq : (0 : Int) < 2 ^ i := Int.pow_pos (by omega)
  have hm : b * 2 ^ i = 0 ∨ b * 2 ^ i = 2 ^ i := by rcases hb with e | e <;> subst e <;> simp
  rw [u64_or v _ h0 (by omega) (by omega) (by omega)]
  have hc : ((2 : Int) ^ i) = ((2 ^ i : Nat) : Int) := by simp
  have e1 : (b * 2 ^ i).toNat = b.toNat * 2 ^ i := by
    rcases hb with e | e <;> subst e
    · simp
    · rw [Int.one_mul, hc, Int.toNat_natCast]; simp
  rw [e1, Nat.or_comm, nat_join i _ _ (Nat.mul_mod_left _ _) (by omega), Int.natCast_add, Int.natCast_mul]
  have : ((b.toNat : Nat) : Int) = b := by omega
  rw [this]; simp; omega
theorem shl_u64 {b : Int} {i : Int} (hb : b = 0 ∨ b = 1) (h0 : 0 ≤ i) (hi : i ≤ 32) : shl .u64 b i = b * 2 ^ i.toNat := by
  unfold shl
  have hp := pow_le32 (i := i.toNat) (by omega)
  have hq : (0 : Int) < 2 ^ i.toNat := Int.pow_pos (by omega)
  rw [Nat.min_eq_left (by simp [IntKind.bits]; omega)]
  rcases hb with e | e <;> subst e
  · rw [Int.zero_mul]; rfl
  · rw [Int.one_mul, u64w (by omega) (by omega)]
theorem bit_read {B : List Int} (hB : Bytes B) (a : Nat) : IntKind.u64.wrap (Go.bits .and .u8 (shr .u8 (nth B (a / 8)) (a % 8 : Nat)) 1) = bitN B a := by
  have hb := nth_byte hB (a / 8)
  rw [shr_small' (by simp [IntKind.bits]; omega), Int.toNat_natCast]
  have hq : (0 : Int) < 2 ^ (a % 8) := Int.pow_pos (by omega)
  have h1 : 0 ≤ nth B (a / 8) / 2 ^ (a % 8) := Int.ediv_nonneg hb.1 (Int.le_of_lt hq)
  have h2 : nth B (a / 8) / 2 ^ (a % 8) ≤ nth B (a / 8) := Int.ediv_le_self _ hb.1
  rw [and_one8 h1 (by omega), u64w (by omega) (by omega)]; rfl
theorem get_loop {B : List Int} (hB : Bytes B) (hl : B.length ≤ 1000000) (a n : Nat) (hn : n ≤ 32) (han : a + n ≤ 8 * B.length) (d : Nat) : ∀ (k i : Nat), i + d = n → d < k →
    bits_Get.l0 k n (numOf (seg B a i)) n i B a = some ((a : Int) + n, numOf (seg B a n), 0) := by
  induction d with
  | zero =>
    intro k i hi hk
    obtain ⟨k, rfl⟩ : ∃ m, k = m + 1 := ⟨k - 1, by omega⟩
    simp only [bits_Get.l0]
    rw [if_neg (by omega), w64 (by omega) (by omega), show i = n by omega]
  | succ d ih =>
    intro k i hi hk
    obtain ⟨k, rfl⟩ : ∃ m, k = m + 1 := ⟨k - 1, by omega⟩
    simp only [bits_Get.l0]
    rw [if_pos (by omega), w64 (x := (a : Int) + i) (by omega) (by omega), tdiv_nn 8 (by omega), tmod_nn 8 (by omega), w64 (x := ((a : Int) + i) / 8) (by omega) (by omega)]
    rw [if_pos (by omega), if_pos (by omega), if_pos (by omega), if_pos (by omega), w64 (x := (i : Int) + 1) (by omega) (by omega), rd_nth]
    rw [show (((a : Int) + i) / 8).toNat = (a + i) / 8 by omega, show ((a : Int) + i) % 8 = (((a + i) % 8 : Nat) : Int) by omega, bit_read hB (a + i)]
    have hb := bitN_bit B (a + i)
    have hr := numOf_range (seg_bits B a i)
    rw [seg_length (by omega)] at hr
    rw [shl_u64 hb (by omega) (by omega), Int.toNat_natCast, or_u64 hr.1 hr.2 hb (by omega)]
    have e := numOf_snoc (seg B a i) (bitN B (a + i))
    rw [← seg_snoc (by omega), seg_length (by omega)] at e
    rw [← e]
    have := ih k (i + 1) (by omega) (by omega)
    rwa [Int.natCast_add, Int.natCast_one] at this
theorem get_eq {B : List Int} (hB : Bytes B) (hl : B.length ≤ 1000000) {at_ n : Int} (ha : -9223372036854775808 ≤ at_ ∧ at_ ≤ 9223372036854775807) (k : Nat) (hk : 40 ≤ k) :
    bits_Get.f k B at_ n = some (getS B at_ n) := by
  obtain ⟨k, rfl⟩ : ∃ m, k = m + 1 + 1 := ⟨k - 2, by omega⟩
  unfold bits_Get.f getS
  by_cases h1 : n < 0
  · rw [if_pos h1, if_pos (.inl h1)]; simp [bits_Get.j0]
  rw [if_neg h1]
  by_cases h2 : n > 32
  · rw [if_pos h2, if_pos (.inr (.inl h2))]; simp [bits_Get.j0]
  rw [if_neg h2]
  simp only [bits_Get.j0]
  by_cases h3 : at_ < 0
  · rw [decide_eq_true h3, if_pos rfl, if_pos (.inr (.inr h3))]
  rw [decide_eq_false h3, if_neg (by decide), if_neg (c := n < 0 ∨ 32 < n ∨ at_ < 0) (by omega), w64 (x := 8 * (B.length : Int)) (by omega) (by omega)]
  simp only [bits_Get.j1]
  by_cases h4 : at_ > 8 * (B.length : Int)
  · rw [if_pos h4]; simp only [if_true]; rw [if_pos (by omega)]
  rw [if_neg h4, left_eq B hl ha]
  simp only [Option.bind_some]
  rw [if_neg (c := at_ < 0 ∨ 8 * (B.length : Int) < at_) (by omega)]
  by_cases h5 : 8 * (B.length : Int) - at_ < n
  · rw [decide_eq_true h5, if_pos rfl, if_pos (by omega)]
  rw [decide_eq_false h5, if_neg (by decide), if_neg (by omega)]
  have e := get_loop hB hl at_.toNat n.toNat (by omega) (by omega) n.toNat k 0 (by omega) (by omega)
  rw [Int.toNat_of_nonneg (by omega), Int.toNat_of_nonneg (by omega)] at e
  exact e
end Go.Proofs.Ytpdfdaoohknfoaa.LB
