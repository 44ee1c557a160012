/- The law BodyRights: which bodies are right; proved for every input. -/
import Derived.Test.YtpdfdaoohknfoaaPx54
import Derived.Test.YtpdfdaoohknfoaaLBodyRightR
import Derived.Test.YtpdfdaoohknfoaaT1
namespace Go.Proofs.Ytpdfdaoohknfoaa.Pure
set_option linter.unusedVariables false
set_option linter.unusedSimpArgs false
open Go.RowKit Go.Proofs.YtpdfdaoohknfoaaW.PrintWords Go.Proofs.YtpdfdaoohknfoaaW.PrintLast Go.Proofs.YtpdfdaoohknfoaaW.PrintMore Go.Proofs.Ytpdfdaoohknfoaa.P Go.Proofs.Ytpdfdaoohknfoaa.LB Go.Proofs.Ytpdfdaoohknfoaa.HT Go.Proofs.Ytpdfdaoohknfoaa.LH Go.Proofs.Ytpdfdaoohknfoaa.BT Go.Proofs.Ytpdfdaoohknfoaa.LV Go.Proofs.Ytpdfdaoohknfoaa.LK
theorem BodyRights : psalterylaw17_BodyRights.Pure := by
  intro c q fl rs P R _ _ _ _ _ _
  obtain ⟨K, hK⟩ : ∃ K : Nat, 10000 ≤ K := ⟨_, Nat.le_refl _⟩
  refine ⟨K, ?_⟩
  unfold psalterylaw17_BodyRights.f
  obtain ⟨b, hg, hb⟩ := great17 c q fl rs P R K (by omega)
  rw [hg, Option.bind_some, knows17 K (by omega)]
  cases b
  · obtain ⟨h1, h2, h3, h4⟩ := hb rfl
    have hP : ∀ p ∈ P, p.length ≤ 1000 := fun p hp => Nat.le_trans (h1 p hp) (by omega)
    have hR : ∀ r ∈ R, r.length ≤ 1000 := fun r hr => Nat.le_trans (h2 r hr) (by omega)
    rw [if_neg (by decide), bdRight_eq c q fl rs P R hP hR K (by omega), Option.bind_some]
    unfold psalterylaw16_As.f psalterylaw17_As.f
    rw [Option.bind_some, Option.bind_some, rbdRight_eq c q fl rs P R hP K (by omega), Option.bind_some, if_pos (by simp)]; rfl
  · rw [if_pos rfl]; rfl
end Go.Proofs.Ytpdfdaoohknfoaa.Pure
