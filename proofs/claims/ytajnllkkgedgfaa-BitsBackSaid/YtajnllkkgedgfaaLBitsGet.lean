/- bits.Get, and the document's, read the same number: that of the bits from a place on. -/
import Derived.Test.YtajnllkkgedgfaaLBitsRef
namespace Go.Proofs.Ytajnllkkgedgfaa.LB
set_option linter.unusedVariables false
set_option linter.unusedSimpArgs false
open Go.RowKit Go.Proofs.YtajnllkkgedgfaaW.PrintWords Go.Proofs.YtajnllkkgedgfaaW.PrintLast Go.Proofs.Ytajnllkkgedgfaa.P Go.Proofs.Ytajnllkkgedgfaa.BT
/-- n bits from a place on -/
def seg (B : List Int) (at_ n : Nat) : List Int := ((bitsL B).drop at_).take n
theorem seg_bits (B : List Int) (a n : Nat) : Bits01 (seg B a n) := fun x hx => bitsL_bits B x (List.mem_of_mem_drop (List.mem_of_mem_take hx))
theorem seg_length {B : List Int} {a n : Nat} (h : a + n ≤ 8 * B.length) : (seg B a n).length = n := by
  unfold seg; rw [List.length_take, List.length_drop, bitsL_length]; omega
theorem nth_drop (l : List Int) (a i : Nat) : nth (l.drop a) i = nth l (a + i) := by
  unfold nth List.getD; rw [List.getElem?_drop]
theorem seg_snoc {B : List Int} {a n : Nat} (h : a + n < 8 * B.length) : seg B a (n + 1) = seg B a n ++ [bitN B (a + n)] := by
  unfold seg
  rw [take_succ_nth _ _ (by rw [List.length_drop, bitsL_length]; omega), nth_drop, bitsL_nth]
theorem seg_cons {B : List Int} {a n : Nat} (h : a < 8 * B.length) : seg B a (n + 1) = bitN B a :: seg B (a + 1) n := by
  unfold seg
  rw [List.drop_eq_getElem_cons (by rw [bitsL_length]; omega), List.take_succ_cons, ← nth_lt (by rw [bitsL_length]; omega), bitsL_nth]
/-- what Get answers: place, number, error -/
def getS (B : List Int) (at_ n : Int) : Int × Int × Int :=
  if n < 0 ∨ 32 < n ∨ at_ < 0 then (at_, 0, 1)
  else if 8 * (B.length : Int) < at_ + n then (at_, 0, 4)
  else (at_ + n, numOf (seg B at_.toNat n.toNat), 0)
theorem left_eq (B : List Int) (hl : B.length ≤ 1000000) {at_ : Int} (ha : -9223372036854775808 ≤ at_ ∧ at_ ≤ 9223372036854775807) :
    bits_Left.f B at_ = some (if at_ < 0 ∨ 8 * (B.length : Int) < at_ then 0 else 8 * (B.length : Int) - at_) := by
  unfold bits_Left.f
  rw [w64 (x := 8 * (B.length : Int)) (by omega) (by omega)]
  by_cases h0 : at_ < 0
  · rw [if_pos h0, if_pos (.inl h0)]
  rw [if_neg h0]
  by_cases h1 : at_ > 8 * (B.length : Int)
  · rw [if_pos h1, if_pos (.inr h1)]
  · rw [if_neg h1, if_neg (by omega), w64 (by omega) (by omega)]
theorem pow_le32 {i : Nat} (h : i ≤ 32) : (2 : Int) ^ i ≤ 4294967296 := by
  have : (2 : Nat) ^ i ≤ 2 ^ 32 := Nat.pow_le_pow_right (by omega) h
  have := Int.ofNat_le.2 this; simpa using this
theorem or_u64 {v b : Int} {i : Nat} (h0 : 0 ≤ v) (h1 : v < 2 ^ i) (hb : b = 0 ∨ b = 1) (hi : i ≤ 32) : Go.bits .or .u64 v (b * 2 ^ i) = v + b * 2 ^ i := by
  have hp := pow_le32 hi
  have hq : (0 : Int) < 2 ^ i := Int.pow_pos (by omega)
  have hm : b * 2 ^ i = 0 ∨ b * 2 ^ i = 2 ^ i := by rcases hb with e | e <;> subst e <;> simp
  rw [u64_or v _ h0 (by omega) (by omega) (by omega)]
  have hc : ((2 : Int) ^ i) = ((2 ^ i : Nat) : Int) := by simp
  have e1 : (b * 2 ^ i).toNat = b.toNat * 2 ^ i := by
    rcases hb with e | e <;> subst e
    · simp
    · rw [Int.one_mul, hc, Int.toNat_natCast]; simp
  rw [e1, Nat.or_comm, nat_join i _ _ (Nat.mul_mod_left _ _) (by omega), Int.natCast_add, Int.natCast_mul]
  have : ((b.toNat : Nat) : Int) = b := by omega
  rw [this]; simp; omega
theorem shl_u64 {b : Int} {i : Int} (hb : b = 0 ∨ b = 1) (h0 : 0 ≤ i) (hi : i ≤ 32) : shl .u64 b i = b * 2 ^ i.toNat := by
  unfold shl
  have hp := pow_le32 (i := i.toNat) (by omega)
  have hq : (0 : Int) < 2 ^ i.toNat := Int.pow_pos (by omega)
  rw [Nat.min_eq_left (by simp [IntKind.bits]; omega)]
  rcases hb with e | e <;> subst e
  · rw [Int.zero_mul]; rfl
  · rw [Int.one_mul, u64w (by omega) (by omega)]
theorem bit_read {B : List Int} (hB : Bytes B) (a : Nat) : IntKind.u64.wrap (Go.bits .and .u8 (shr .u8 (nth B (a / 8)) (a % 8 : Nat)) 1) = bitN B a := by
  have hb := nth_byte hB (a / 8)
  rw [shr_small' (by simp [IntKind.bits]; omega), Int.toNat_natCast]
  have hq : (0 : Int) < 2 ^ (a % 8) := Int.pow_pos (by omega)
  have h1 : 0 ≤ nth B (a / 8) / 2 ^ (a % 8) := Int.ediv_nonneg hb.1 (Int.le_of_lt hq)
  have h2 : nth B (a / 8) / 2 ^ (a % 8) ≤ nth B (a / 8) := Int.ediv_le_self _ hb.1
  rw [and_one8 h1 (by omega), u64w (by omega) (by omega)]; rfl
theorem get_loop {B : List Int} (hB : Bytes B) (hl : B.length ≤ 1000000) (a n : Nat) (hn : n ≤ 32) (han : a + n ≤ 8 * B.length) (d : Nat) : ∀ (k i : Nat), i + d = n → d < k →
    bits_Get.l0 k n (numOf (seg B a i)) n i B a = some ((a : Int) + n, numOf (seg B a n), 0) := by
  induction d with
  | zero =>
    intro k i hi hk
    obtain ⟨k, rfl⟩ : ∃ m, k = m + 1 := ⟨k - 1, by omega⟩
    simp only [bits_Get.l0]
    rw [if_neg (by omega), w64 (by omega) (by omega), show i = n by omega]
  | succ d ih =>
    intro k i hi hk
    obtain ⟨k, rfl⟩ : ∃ m, k = m + 1 := ⟨k - 1, by omega⟩
    simp only [bits_Get.l0]
    rw [if_pos (by omega), w64 (x := (a : Int) + i) (by omega) (by omega), tdiv_nn 8 (by omega), tmod_nn 8 (by omega), w64 (x := ((a : Int) + i) / 8) (by omega) (by omega)]
    rw [if_pos (by omega), if_pos (by omega), if_pos (by omega), if_pos (by omega), w64 (x := (i : Int) + 1) (by omega) (by omega), rd_nth]
    rw [show (((a : Int) + i) / 8).toNat = (a + i) / 8 by omega, show ((a : Int) + i) % 8 = (((a + i) % 8 : Nat) : Int) by omega, bit_read hB (a + i)]
    have hb := bitN_bit B (a + i)
    have hr := numOf_range (seg_bits B a i)
    rw [seg_length (by omega)] at hr
    rw [shl_u64 hb (by omega) (by omega), Int.toNat_natCast, or_u64 hr.1 hr.2 hb (by omega)]
    have e := numOf_snoc (seg B a i) (bitN B (a + i))
    rw [← seg_snoc (by omega), seg_length (by omega)] at e
    rw [← e]
    have := ih k (i + 1) (by omega) (by omega)
    rwa [Int.natCast_add, Int.natCast_one] at this
theorem get_eq {B : List Int} (hB : Bytes B) (hl : B.length ≤ 1000000) {at_ n : Int} (ha : -9223372036854775808 ≤ at_ ∧ at_ ≤ 9223372036854775807) (k : Nat) (hk : 40 ≤ k) :
    bits_Get.f k B at_ n = some (getS B at_ n) := by
  obtain ⟨k, rfl⟩ : ∃ m, k = m + 1 + 1 := ⟨k - 2, by omega⟩
  unfold bits_Get.f getS
  by_cases h1 : n < 0
  · rw [if_pos h1, if_pos (.inl h1)]; simp [bits_Get.j0]
  rw [if_neg h1]
  by_cases h2 : n > 32
  · rw [if_pos h2, if_pos (.inr (.inl h2))]; simp [bits_Get.j0]
  rw [if_neg h2]
  simp only [bits_Get.j0]
  by_cases h3 : at_ < 0
  · rw [decide_eq_true h3, if_pos rfl, if_pos (.inr (.inr h3))]
  rw [decide_eq_false h3, if_neg (by decide), if_neg (c := n < 0 ∨ 32 < n ∨ at_ < 0) (by omega), w64 (x := 8 * (B.length : Int)) (by omega) (by omega)]
  simp only [bits_Get.j1]
  by_cases h4 : at_ > 8 * (B.length : Int)
  · rw [if_pos h4]; simp only [if_true]; rw [if_pos (by omega)]
  rw [if_neg h4, left_eq B hl ha]
  simp only [Option.bind_some]
  rw [if_neg (c := at_ < 0 ∨ 8 * (B.length : Int) < at_) (by omega)]
  by_cases h5 : 8 * (B.length : Int) - at_ < n
  · rw [decide_eq_true h5, if_pos rfl, if_pos (by omega)]
  rw [decide_eq_false h5, if_neg (by decide), if_neg (by omega)]
  have e := get_loop hB hl at_.toNat n.toNat (by omega) (by omega) n.toNat k 0 (by omega) (by omega)
  rw [Int.toNat_of_nonneg (by omega), Int.toNat_of_nonneg (by omega)] at e
  exact e
theorem refGet_loop {B : List Int} (hl : B.length ≤ 1000000) (a : Nat) (n : Nat) (hn : n ≤ 32) (han : a + n ≤ 8 * B.length) (d : Nat) : ∀ (k : Nat), d ≤ n → d < k →
    psalteryref01_Get.l0 k a (bitsL B) (numOf (seg B (a + d) (n - d))) ((d : Int) - 1) = some (numOf (seg B a n), 0) := by
  induction d with
  | zero =>
    intro k hd hk
    obtain ⟨k, rfl⟩ : ∃ m, k = m + 1 := ⟨k - 1, by omega⟩
    simp only [psalteryref01_Get.l0]
    rw [if_neg (by omega)]; simp
  | succ d ih =>
    intro k hd hk
    obtain ⟨k, rfl⟩ : ∃ m, k = m + 1 := ⟨k - 1, by omega⟩
    simp only [psalteryref01_Get.l0]
    have hbl := bitsL_length B
    have hb := bitN_bit B (a + d)
    unfold IsBit at hb
    have hr := numOf_range (seg_bits B (a + (d + 1)) (n - (d + 1)))
    rw [seg_length (by omega)] at hr
    have hp := pow_le32 (i := n - (d + 1)) (by omega)
    rw [show ((d + 1 : Nat) : Int) - 1 = d by omega, if_pos (by omega), w64 (x := (a : Int) + d) (by omega) (by omega), if_pos (by omega), if_pos (by omega), rd_nth, show ((a : Int) + d).toNat = a + d by omega, bitsL_nth]
    rw [u64w (x := bitN B (a + d)) (by omega) (by omega), u64w (x := numOf _ * 2) (by omega) (by omega), u64w (by omega) (by omega), w64 (by omega) (by omega)]
    have e : numOf (seg B (a + d) (n - d)) = numOf (seg B (a + (d + 1)) (n - (d + 1))) * 2 + bitN B (a + d) := by
      rw [show n - d = (n - (d + 1)) + 1 by omega, seg_cons (by omega), numOf]; rw [show a + d + 1 = a + (d + 1) by omega]; omega
    rw [← e]
    exact ih k (by omega) (by omega)
theorem refGet_eq {B : List Int} (hB : Bytes B) (hl : B.length ≤ 1000000) {at_ n : Int} (ha : -9223372036854775808 ≤ at_ ∧ at_ ≤ 9223372036854775807) (k : Nat) (hk : 10 * B.length + 100 ≤ k) :
    psalteryref01_Get.f k B at_ n = some ((getS B at_ n).2.1, (getS B at_ n).2.2) := by
  obtain ⟨k, rfl⟩ : ∃ m, k = m + 1 + 1 := ⟨k - 2, by omega⟩
  unfold psalteryref01_Get.f getS
  by_cases h1 : n < 0
  · rw [if_pos h1, if_pos (.inl h1)]; simp [psalteryref01_Get.j0]
  rw [if_neg h1]
  by_cases h2 : n > 32
  · rw [if_pos h2, if_pos (.inr (.inl h2))]; simp [psalteryref01_Get.j0]
  rw [if_neg h2]
  simp only [psalteryref01_Get.j0]
  by_cases h3 : at_ < 0
  · rw [decide_eq_true h3, if_pos rfl, if_pos (.inr (.inr h3))]
  have hbl := bitsL_length B
  rw [decide_eq_false h3, if_neg (by decide), if_neg (c := n < 0 ∨ 32 < n ∨ at_ < 0) (by omega), refBits_eq hB hl _ (by omega)]
  simp only [Option.bind_some, psalteryref01_Get.j1]
  by_cases h4 : at_ > ((bitsL B).length : Int)
  · rw [if_pos h4]; simp only [if_true]; rw [if_pos (by omega)]
  rw [if_neg h4, w64 (by omega) (by omega)]
  by_cases h5 : n > ((bitsL B).length : Int) - at_
  · rw [decide_eq_true h5, if_pos rfl, if_pos (by omega)]
  rw [decide_eq_false h5, if_neg (by decide), if_neg (by omega), w64 (by omega) (by omega)]
  have e := refGet_loop hl at_.toNat n.toNat (by omega) (by omega) n.toNat k (Nat.le_refl _) (by omega)
  rw [Nat.sub_self, show seg B (at_.toNat + n.toNat) 0 = [] by unfold seg; simp, Int.toNat_of_nonneg (by omega), Int.toNat_of_nonneg (by omega)] at e
  exact e
end Go.Proofs.Ytajnllkkgedgfaa.LB
