/- The law BodyWrites: a body is written as the document says, or the error is told; proved for every input. -/
import Derived.Test.YtpdfdaoohknfoaaPx59
import Derived.Test.YtpdfdaoohknfoaaLBodyRightR
import Derived.Test.YtpdfdaoohknfoaaT1
import Derived.Test.YtpdfdaoohknfoaaLBodyWR
namespace Go.Proofs.Ytpdfdaoohknfoaa.Pure
set_option linter.unusedVariables false
set_option linter.unusedSimpArgs false
open Go.RowKit Go.Proofs.YtpdfdaoohknfoaaW.PrintWords Go.Proofs.YtpdfdaoohknfoaaW.PrintLast Go.Proofs.YtpdfdaoohknfoaaW.PrintMore Go.Proofs.Ytpdfdaoohknfoaa.P Go.Proofs.Ytpdfdaoohknfoaa.LB Go.Proofs.Ytpdfdaoohknfoaa.HT Go.Proofs.Ytpdfdaoohknfoaa.LH Go.Proofs.Ytpdfdaoohknfoaa.BT Go.Proofs.Ytpdfdaoohknfoaa.LV Go.Proofs.Ytpdfdaoohknfoaa.LK
theorem BodyWrites : psalterylaw17_BodyWrites.Pure := by
  intro c q fl rs P R _ _ _ _ _ _
  obtain ⟨K, hK⟩ : ∃ K : Nat, 100000 ≤ K := ⟨_, Nat.le_refl _⟩
  refine ⟨K, ?_⟩
  unfold psalterylaw17_BodyWrites.f
  obtain ⟨b, hg, hb⟩ := great17 c q fl rs P R K (by omega)
  rw [hg, Option.bind_some, knows17 K (by omega)]
  cases b
  · obtain ⟨h1, h2, h3, h4⟩ := hb rfl
    have hP : ∀ p ∈ P, p.length ≤ 1000 := fun p hp => Nat.le_trans (h1 p hp) (by omega)
    have hR : ∀ r ∈ R, r.length ≤ 1000 := fun r hr => Nat.le_trans (h2 r hr) (by omega)
    rw [if_neg (by decide), writeBd_eq c q fl rs P R hP hR K (by omega), Option.bind_some]
    unfold psalterylaw16_As.f psalterylaw17_As.f
    rw [Option.bind_some, Option.bind_some, rbdRight_eq c q fl rs P R hP K (by omega), Option.bind_some]
    unfold writeBd
    by_cases h : rightBd c q fl rs P R = true
    · rw [if_pos h, if_pos h, Option.bind_some, Option.bind_some, wref_eq h K (by omega), Option.bind_some, if_pos rfl, if_pos rfl]; rfl
    · rw [if_neg h, if_neg h, if_pos (show ((([] : List Int), (1 : Int)).1.length : Int) = 0 from rfl), if_pos rfl]; rfl
  · rw [if_pos rfl]; rfl
end Go.Proofs.Ytpdfdaoohknfoaa.Pure
