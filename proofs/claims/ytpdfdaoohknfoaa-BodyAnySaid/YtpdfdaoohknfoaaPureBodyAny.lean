/- The law BodyAny: what is read of any bytes is right, and, written and read, it again, in not more bytes; proved for every input. -/
import Derived.Test.YtpdfdaoohknfoaaPx70
import Derived.Test.YtpdfdaoohknfoaaT1
import Derived.Test.YtpdfdaoohknfoaaLBodyRead
import Derived.Test.YtpdfdaoohknfoaaLBodyWrite
import Derived.Test.YtpdfdaoohknfoaaLBodyAny
import Derived.Test.YtpdfdaoohknfoaaLBodySame
namespace Go.Proofs.Ytpdfdaoohknfoaa.Pure
set_option linter.unusedVariables false
set_option linter.unusedSimpArgs false
open Go.RowKit Go.Proofs.YtpdfdaoohknfoaaW.PrintWords Go.Proofs.YtpdfdaoohknfoaaW.PrintLast Go.Proofs.YtpdfdaoohknfoaaW.PrintMore Go.Proofs.Ytpdfdaoohknfoaa.P Go.Proofs.Ytpdfdaoohknfoaa.LB Go.Proofs.Ytpdfdaoohknfoaa.HT Go.Proofs.Ytpdfdaoohknfoaa.LH Go.Proofs.Ytpdfdaoohknfoaa.BT Go.Proofs.Ytpdfdaoohknfoaa.LV Go.Proofs.Ytpdfdaoohknfoaa.LK
theorem BodyAny : psalterylaw17_BodyAny.Pure := by
  intro c q fl rs l _ _ _ _ hl
  obtain ⟨K, hK⟩ : ∃ K : Nat, 100000 ≤ K := ⟨_, Nat.le_refl _⟩
  refine ⟨K + 1, ?_⟩
  have hB := wf_u8 hl.2
  unfold psalterylaw17_BodyAny.f
  rw [great_eq, Option.bind_some]
  by_cases g : 200 < fl.length ∨ 200 < rs.length
  · rw [decide_eq_true g, if_pos rfl]
    simp only [psalterylaw17_BodyAny.j0]
    rw [if_pos trivial, knows17 K (by omega)]; rfl
  · rw [decide_eq_false g, if_neg (by decide)]
    simp only [psalterylaw17_BodyAny.j0]
    by_cases g2 : (l.length : Int) > 1000
    · rw [decide_eq_true g2, if_pos rfl, knows17 K (by omega)]; rfl
    · rw [decide_eq_false g2, if_neg (by decide), Option.bind_some, if_pos (by rw [List.length_nil]; omega), List.nil_append, readBd_eq hB (by omega) c q fl rs K (by omega), Option.bind_some]
      unfold psalterylaw17_As.f
      rcases read_cases c q fl rs l with ⟨e, he, h⟩ | ⟨P, R, h, hr, hlen⟩
      · rw [h, if_neg (show ¬ (no e).2.2 = 0 from he), Option.bind_some, show psalteryref17_Same.f K (no e).1 (no e).2.1 [] [] = some true from same_nil K (by omega), Option.bind_some, if_pos rfl, knows17 K (by omega)]; rfl
      · obtain ⟨r1, r2, r3, r4⟩ := rightBd_parts hr
        obtain ⟨a1, a2, a3, a4, a5, a6, a7, a8, a9⟩ := right_parts r1
        obtain ⟨hP, hR⟩ := rows_small P R (by omega) r4
        have hw : vpack_Write.f K c q fl rs P R = some (pack (bodyB fl rs P R), 0) := by
          rw [writeBd_eq c q fl rs P R hP hR K (by omega)]; unfold writeBd; rw [if_pos hr]
        have hrd : vpack_Read.f K c q fl rs (pack (bodyB fl rs P R)) = some (P, R, 0) := by
          rw [readBd_eq (pack_bytes (bodyB_bits fl rs P R)) (by omega) c q fl rs K (by omega), back hr]
        have hrt : vpack_Right.f K c q fl rs P R = some true := by
          rw [bdRight_eq c q fl rs P R hP hR K (by omega), hr]
        rw [h, if_pos rfl, hw, Option.bind_some, hrd, Option.bind_some, hrt, Option.bind_some, if_pos rfl, if_pos rfl, if_pos rfl, Option.bind_some, Option.bind_some, same_right hr K (by omega), Option.bind_some, if_pos rfl, if_pos (show ((pack (bodyB fl rs P R)).length : Int) ≤ (l.length : Int) by omega), knows17 K (by omega)]; rfl
end Go.Proofs.Ytpdfdaoohknfoaa.Pure
