/- The law BodyReads: any bytes are read as the document says, or the error is told; proved for every input. -/
import Derived.Test.YtpdfdaoohknfoaaPx68
import Derived.Test.YtpdfdaoohknfoaaT1
import Derived.Test.YtpdfdaoohknfoaaLBodyRead
import Derived.Test.YtpdfdaoohknfoaaLBodyRR
import Derived.Test.YtpdfdaoohknfoaaLBodyAny
import Derived.Test.YtpdfdaoohknfoaaLBodySame
namespace Go.Proofs.Ytpdfdaoohknfoaa.Pure
set_option linter.unusedVariables false
set_option linter.unusedSimpArgs false
open Go.RowKit Go.Proofs.YtpdfdaoohknfoaaW.PrintWords Go.Proofs.YtpdfdaoohknfoaaW.PrintLast Go.Proofs.YtpdfdaoohknfoaaW.PrintMore Go.Proofs.Ytpdfdaoohknfoaa.P Go.Proofs.Ytpdfdaoohknfoaa.LB Go.Proofs.Ytpdfdaoohknfoaa.HT Go.Proofs.Ytpdfdaoohknfoaa.LH Go.Proofs.Ytpdfdaoohknfoaa.BT Go.Proofs.Ytpdfdaoohknfoaa.LV Go.Proofs.Ytpdfdaoohknfoaa.LK
theorem same_read (c q : Int) (fl rs B : List Int) (k : Nat) (hk : 5000 ≤ k) : psalteryref17_Same.f k (readBd c q fl rs B).1 (readBd c q fl rs B).2.1 (readBd c q fl rs B).1 (readBd c q fl rs B).2.1 = some true := by
  rcases read_cases c q fl rs B with ⟨e, _, h⟩ | ⟨P, R, h, hr, _⟩
  · rw [h]; exact same_nil k hk
  · rw [h]; exact same_right hr k hk
theorem BodyReads : psalterylaw17_BodyReads.Pure := by
  intro c q fl rs l _ _ _ _ hl
  obtain ⟨K, hK⟩ : ∃ K : Nat, 100000 ≤ K := ⟨_, Nat.le_refl _⟩
  refine ⟨K + 1, ?_⟩
  have hB := wf_u8 hl.2
  unfold psalterylaw17_BodyReads.f
  rw [great_eq, Option.bind_some]
  by_cases g : 200 < fl.length ∨ 200 < rs.length
  · rw [decide_eq_true g, if_pos rfl]
    simp only [psalterylaw17_BodyReads.j0]
    rw [if_pos trivial, knows17 K (by omega)]; rfl
  · rw [decide_eq_false g, if_neg (by decide)]
    simp only [psalterylaw17_BodyReads.j0]
    by_cases g2 : (l.length : Int) > 1000
    · rw [decide_eq_true g2, if_pos rfl, knows17 K (by omega)]; rfl
    · rw [decide_eq_false g2, if_neg (by decide), Option.bind_some, if_pos (by rw [List.length_nil]; omega), List.nil_append, readBd_eq hB (by omega) c q fl rs K (by omega), Option.bind_some]
      unfold psalterylaw16_As.f psalterylaw17_As.f
      rw [Option.bind_some, rrefBd_eq hB (by omega) c q fl rs K (by omega), Option.bind_some, Option.bind_some, same_read c q fl rs l K (by omega), Option.bind_some, if_pos rfl, if_pos rfl, knows17 K (by omega)]; rfl
end Go.Proofs.Ytpdfdaoohknfoaa.Pure
