/- What the document's Get reads. -/
import Derived.Test.YtpdfdaoohknfoaaPx26
import Derived.Test.YtpdfdaoohknfoaaT1
namespace Go.Proofs.Ytpdfdaoohknfoaa.LB
set_option linter.unusedVariables false
set_option linter.unusedSimpArgs false
open Go.RowKit Go.Proofs.YtpdfdaoohknfoaaW.PrintWords Go.Proofs.YtpdfdaoohknfoaaW.PrintLast Go.Proofs.Ytpdfdaoohknfoaa.P Go.Proofs.Ytpdfdaoohknfoaa.BT
theorem refGet_loop {B : List Int} (hl : B.length ≤ 1000000) (a : Nat) (n : Nat) (hn : n ≤ 32) (han : a + n ≤ 8 * B.length) (d : Nat) : ∀ (k : Nat), d ≤ n → d < k →
    psalteryref01_Get.l0 k a (bitsL B) (numOf (seg B (a + d) (n - d))) ((d : Int) - 1) = some (numOf (seg B a n), 0) := by
  induction d with
  | zero =>
    intro k hd hk
    obtain ⟨k, rfl⟩ : ∃ m, k = m + 1 := ⟨k - 1, by omega⟩
    simp only [psalteryref01_Get.l0]
    rw [if_neg (by omega)]; simp
  | succ d ih =>
    intro k hd hk
    obtain ⟨k, rfl⟩ : ∃ m, k = m + 1 := ⟨k - 1, by omega⟩
    simp only [psalteryref01_Get.l0]
    have hbl := bitsL_length B
    have hb := bitN_bit B (a + d)
    unfold IsBit at hb
    have hr := numOf_range (seg_bits B (a + (d + 1)) (n - (d + 1)))
    rw [seg_length (by omega)] at hr
    have hp := pow_le32 (i := n - (d + 1)) (by omega)
    rw [show ((d + 1 : Nat) : Int) - 1 = d by omega, if_pos (by omega), w64 (x := (a : Int) + d) (by omega) (by omega), if_pos (by omega), if_pos (by omega), rd_nth, show ((a : Int) + d).toNat = a + d by omega, bitsL_nth]
    rw [u64w (x := bitN B (a + d)) (by omega) (by omega), u64w (x := numOf _ * 2) (by omega) (by omega), u64w (by omega) (by omega), w64 (by omega) (by omega)]
    have e : numOf (seg B (a + d) (n - d)) = numOf (seg B (a + (d + 1)) (n - (d + 1))) * 2 + bitN B (a + d) := by
      rw [show n - d = (n - (d + 1)) + 1 by omega, seg_cons (by omega), numOf]; rw [show a + d + 1 = a + (d + 1) by omega]; omega
    rw [← e]
    exact ih k (by omega) (by omega)
theorem refGet_eq {B : List Int} (hB : Bytes B) (hl : B.length ≤ 1000000) {at_ n : Int} (ha : -9223372036854775808 ≤ at_ ∧ at_ ≤ 9223372036854775807) (k : Nat) (hk : 10 * B.length + 100 ≤ k) :
    psalteryref01_Get.f k B at_ n = some ((getS B at_ n).2.1, (getS B at_ n).2.2) := by
  obtain ⟨k, rfl⟩ : ∃ m, k = m + 1 + 1 := ⟨k - 2, by omega⟩
  unfold psalteryref01_Get.f getS
  by_cases h1 : n < 0
  · rw [if_pos h1, if_pos (.inl h1)]; simp [psalteryref01_Get.j0]
  rw [if_neg h1]
  by_cases h2 : n > 32
  · rw [if_pos h2, if_pos (.inr (.inl h2))]; simp [psalteryref01_Get.j0]
  rw [if_neg h2]
  simp only [psalteryref01_Get.j0]
  by_cases h3 : at_ < 0
  · rw [decide_eq_true h3, if_pos rfl, if_pos (.inr (.inr h3))]
  have hbl := bitsL_length B
  rw [decide_eq_false h3, if_neg (by decide), if_neg (c := n < 0 ∨ 32 < n ∨ at_ < 0) (by omega), refBits_eq hB hl _ (by omega)]
  simp only [Option.bind_some, psalteryref01_Get.j1]
  by_cases h4 : at_ > ((bitsL B).length : Int)
  · rw [if_pos h4]; simp only [if_true]; rw [if_pos (by omega)]
  rw [if_neg h4, w64 (by omega) (by omega)]
  by_cases h5 : n > ((bitsL B).length : Int) - at_
  · rw [decide_eq_true h5, if_pos rfl, if_pos (by omega)]
  rw [decide_eq_false h5, if_neg (by decide), if_neg (by omega), w64 (by omega) (by omega)]
  have e := refGet_loop hl at_.toNat n.toNat (by omega) (by omega) n.toNat k (Nat.le_refl _) (by omega)
  rw [Nat.sub_self, show seg B (at_.toNat + n.toNat) 0 = [] by unfold seg; simp, Int.toNat_of_nonneg (by omega), Int.toNat_of_nonneg (by omega)] at e
  exact e
end Go.Proofs.Ytpdfdaoohknfoaa.LB
