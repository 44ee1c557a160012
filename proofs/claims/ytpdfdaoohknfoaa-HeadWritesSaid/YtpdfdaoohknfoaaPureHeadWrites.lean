/- The law HeadWrites: a header is written as the document says, or the error is told; proved for every input. -/
import Derived.Test.YtpdfdaoohknfoaaPx24
import Derived.Test.YtpdfdaoohknfoaaLHeadWR
namespace Go.Proofs.Ytpdfdaoohknfoaa.Pure
set_option linter.unusedVariables false
set_option linter.unusedSimpArgs false
open Go.RowKit Go.Proofs.YtpdfdaoohknfoaaW.PrintWords Go.Proofs.YtpdfdaoohknfoaaW.PrintLast Go.Proofs.YtpdfdaoohknfoaaW.PrintMore Go.Proofs.Ytpdfdaoohknfoaa.P Go.Proofs.Ytpdfdaoohknfoaa.LB Go.Proofs.Ytpdfdaoohknfoaa.HT Go.Proofs.Ytpdfdaoohknfoaa.LH Go.Proofs.Ytpdfdaoohknfoaa.LV Go.Proofs.Ytpdfdaoohknfoaa.BT
theorem HeadWrites : psalterylaw16_HeadWrites.Pure := by
  intro c q fl rs _ _ _ _
  obtain ⟨K, hK⟩ : ∃ K : Nat, 100000 ≤ K := ⟨_, Nat.le_refl _⟩
  refine ⟨K, ?_⟩
  unfold psalterylaw16_HeadWrites.f
  rw [great_eq, Option.bind_some, knows16 K (by omega)]
  by_cases g : 200 < fl.length ∨ 200 < rs.length
  · rw [decide_eq_true g, if_pos rfl]; rfl
  · rw [decide_eq_false g, if_neg (by decide), write_eq c q fl rs K (by omega), Option.bind_some]
    unfold psalterylaw16_As.f
    rw [Option.bind_some, ref_right c q fl rs K (by omega), Option.bind_some]
    unfold writeS
    by_cases hr : rightHd c q fl rs = true
    · rw [if_pos hr, if_pos hr, Option.bind_some, refWrite_eq hr K (by omega), Option.bind_some, if_pos rfl, if_pos rfl]; rfl
    · rw [if_neg hr, if_neg hr, if_pos (show ((([] : List Int), (1 : Int)).1.length : Int) = 0 from rfl), if_pos rfl]; rfl
end Go.Proofs.Ytpdfdaoohknfoaa.Pure
