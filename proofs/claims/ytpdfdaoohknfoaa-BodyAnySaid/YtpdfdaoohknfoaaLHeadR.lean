/- What vhead.Read answers. -/
import Derived.Test.YtpdfdaoohknfoaaQ4
import Derived.Test.YtpdfdaoohknfoaaT1
namespace Go.Proofs.Ytpdfdaoohknfoaa.LV
set_option linter.unusedVariables false
set_option linter.unusedSimpArgs false
open Go.RowKit Go.Proofs.YtpdfdaoohknfoaaW.PrintWords Go.Proofs.YtpdfdaoohknfoaaW.PrintLast Go.Proofs.YtpdfdaoohknfoaaW.PrintMore Go.Proofs.Ytpdfdaoohknfoaa.P Go.Proofs.Ytpdfdaoohknfoaa.LB Go.Proofs.Ytpdfdaoohknfoaa.HT Go.Proofs.Ytpdfdaoohknfoaa.LH Go.Proofs.Ytpdfdaoohknfoaa.BT
theorem getS_in {B : List Int} {a n : Nat} (h : a + n ≤ 8 * B.length) (hn : n ≤ 32) : getS B (a : Int) (n : Int) = (((a + n : Nat) : Int), vl B a n, 0) := by
  unfold getS
  rw [if_neg (by omega), if_neg (by omega), Int.toNat_natCast, Int.toNat_natCast]; rfl
theorem vl_small {B : List Int} {a n : Nat} (h : a + n ≤ 8 * B.length) (hn : n ≤ 32) : 0 ≤ vl B a n ∧ vl B a n < 4294967296 := by
  have h1 := vl_range h
  have h2 := pow_le32 hn
  omega
end Go.Proofs.Ytpdfdaoohknfoaa.LV
