/- The law HeadRights: which headers are right; and the plain one; proved for every input. -/
import Derived.Test.YtpdfdaoohknfoaaPx20
import Derived.Test.YtpdfdaoohknfoaaLHeadPlainR
namespace Go.Proofs.Ytpdfdaoohknfoaa.Pure
set_option linter.unusedVariables false
set_option linter.unusedSimpArgs false
open Go.RowKit Go.Proofs.YtpdfdaoohknfoaaW.PrintWords Go.Proofs.YtpdfdaoohknfoaaW.PrintLast Go.Proofs.YtpdfdaoohknfoaaW.PrintMore Go.Proofs.Ytpdfdaoohknfoaa.P Go.Proofs.Ytpdfdaoohknfoaa.LB Go.Proofs.Ytpdfdaoohknfoaa.HT Go.Proofs.Ytpdfdaoohknfoaa.LH Go.Proofs.Ytpdfdaoohknfoaa.LV
theorem HeadRights : psalterylaw16_HeadRights.Pure := by
  intro c q fl rs a b _ _ _ _ _ _
  obtain ⟨K, hK⟩ : ∃ K : Nat, 10000 ≤ K := ⟨_, Nat.le_refl _⟩
  refine ⟨K, ?_⟩
  unfold psalterylaw16_HeadRights.f
  rw [great_eq, Option.bind_some, knows16 K (by omega)]
  by_cases g : 200 < fl.length ∨ 200 < rs.length
  · rw [decide_eq_true g, if_pos rfl]; rfl
  · rw [decide_eq_false g, if_neg (by decide), head_right c q fl rs K (by omega), Option.bind_some]
    unfold psalterylaw16_As.f
    rw [Option.bind_some, ref_right c q fl rs K (by omega), Option.bind_some, if_pos (by simp), plain_eq a b K (by omega), Option.bind_some, rplain_eq a b K (by omega), Option.bind_some, Option.bind_some]
    rw [same16 a b (plainF 45) (plainR 16) (by rw [plainF_length]; omega) (by rw [plainR_length]; omega) K (by rw [plainF_length]; omega) (by rw [plainR_length]; omega)]; rfl
end Go.Proofs.Ytpdfdaoohknfoaa.Pure
