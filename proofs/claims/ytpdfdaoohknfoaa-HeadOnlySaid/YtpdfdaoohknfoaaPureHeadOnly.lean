/- The law HeadOnly: what was read has just the bytes that it was read from; proved for every input. -/
import Derived.Test.YtpdfdaoohknfoaaPx31
import Derived.Test.YtpdfdaoohknfoaaLHeadW
import Derived.Test.YtpdfdaoohknfoaaLHeadR
namespace Go.Proofs.Ytpdfdaoohknfoaa.Pure
set_option linter.unusedVariables false
set_option linter.unusedSimpArgs false
open Go.RowKit Go.Proofs.YtpdfdaoohknfoaaW.PrintWords Go.Proofs.YtpdfdaoohknfoaaW.PrintLast Go.Proofs.YtpdfdaoohknfoaaW.PrintMore Go.Proofs.Ytpdfdaoohknfoaa.P Go.Proofs.Ytpdfdaoohknfoaa.LB Go.Proofs.Ytpdfdaoohknfoaa.HT Go.Proofs.Ytpdfdaoohknfoaa.LH Go.Proofs.Ytpdfdaoohknfoaa.LV Go.Proofs.Ytpdfdaoohknfoaa.BT
theorem HeadOnly : psalterylaw16_HeadOnly.Pure := by
  intro l hl hm hw
  obtain ⟨K, hK⟩ : ∃ K : Nat, 100000 ≤ K := ⟨_, Nat.le_refl _⟩
  refine ⟨K, ?_⟩
  have hB := wf_u8 hw
  unfold psalterylaw16_HeadOnly.f
  rw [knows16 K (by omega)]
  by_cases g : (l.length : Int) > 1000
  · rw [if_pos g]; rfl
  · rw [if_neg g, Option.bind_some, if_pos (by rw [List.length_nil]; omega), List.nil_append, read_eq hB (by omega) K (by omega), Option.bind_some]
    unfold psalterylaw16_As.f
    have hno : ∀ e : Int, e ≠ 0 → readS l = nothing e → (if (readS l).2.2.2.2 = 0 then (vhead_Write.f K (readS l).1 (readS l).2.1 (readS l).2.2.1 (readS l).2.2.2.1).bind fun bt364 => (if (strOfNums bt364.1).toList = (strOfNums l).toList then (if bt364.2 = 0 then ((vhead_Right.f K (readS l).1 (readS l).2.1 (readS l).2.2.1 (readS l).2.2.2.1).bind fun t368 => (if t368 = true then ((some true).bind fun t369 => (some t369)) else (some false))) else (some false)) else (some false)) else ((some ((readS l).1, (readS l).2.1)).bind fun bt370 => ((psalteryref16_Same.f K bt370.1 bt370.2 (readS l).2.2.1 (readS l).2.2.2.1 0 0 ([] : List Int) ([] : List Int)).bind fun t372 => (if t372 = true then ((some true).bind fun t373 => (some t373)) else (some false))))) = some true := by
      intro e he h
      rw [h, if_neg (show ¬ (nothing e).2.2.2.2 = 0 from he), Option.bind_some]
      rw [show psalteryref16_Same.f K ((nothing e).1, (nothing e).2.1).1 ((nothing e).1, (nothing e).2.1).2 (nothing e).2.2.1 (nothing e).2.2.2.1 0 0 [] [] = some true from same16 0 0 [] [] (by simp) (by simp) K (by simp; omega) (by simp; omega)]; rfl
    by_cases c1 : l.length < 41
    · exact hno 4 (by omega) (by unfold readS; rw [if_pos c1])
    by_cases c2 : 41 < l.length
    · exact hno 2 (by omega) (by unfold readS; rw [if_neg c1, if_pos c2])
    by_cases c3 : vl l 0 16 = 22099 ∧ vl l 326 2 = 0 ∧ rightHd (vl l 16 1 + 1) (vl l 17 4) (lst l 21 45) (lst l 246 16) = true
    · have e : readS l = (vl l 16 1 + 1, vl l 17 4, lst l 21 45, lst l 246 16, 0) := by unfold readS readH; rw [if_neg c1, if_neg c2, if_pos c3]
      rw [e, if_pos rfl, write_eq _ _ _ _ K (by omega), Option.bind_some]
      unfold writeS
      rw [if_pos c3.2.2, read_back hB (by omega) c3.1 c3.2.1, if_pos rfl, if_pos rfl, head_right _ _ _ _ K (by omega), Option.bind_some, if_pos c3.2.2]; rfl
    · exact hno 2 (by omega) (by unfold readS readH; rw [if_neg c1, if_neg c2, if_neg c3])
end Go.Proofs.Ytpdfdaoohknfoaa.Pure
