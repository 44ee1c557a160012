/- The law CoupleListsBack: lists that are coupled, and parted, are what they were; proved for every input. -/
import Derived.Test.YtfipeildlleoeaaPx49
import Derived.Test.YtfipeildlleoeaaLCouple
namespace Go.Proofs.Ytfipeildlleoeaa.Pure
set_option linter.unusedVariables false
set_option linter.unusedSimpArgs false
open Go.RowKit Go.Proofs.YtfipeildlleoeaaW.PrintWords Go.Proofs.YtfipeildlleoeaaW.PrintLast Go.Proofs.YtfipeildlleoeaaW.PrintMore Go.Proofs.Ytfipeildlleoeaa.P Go.Proofs.Ytfipeildlleoeaa.LB Go.Proofs.Ytfipeildlleoeaa.LC
theorem CoupleListsBack : psalterylaw15_CoupleListsBack.Pure := by
  intro l r hl hl' hw hr hr' hw'
  obtain ⟨K, hK⟩ : ∃ K : Nat, 10000 ≤ K := ⟨_, Nat.le_refl _⟩
  refine ⟨K + 1, ?_⟩
  unfold psalterylaw15_CoupleListsBack.f
  by_cases c : (l.length : Int) > 100
  · rw [if_pos c]; simp only [psalterylaw15_CoupleListsBack.j0, if_true]; rw [knows15 K (by omega)]; rfl
  rw [if_neg c]
  by_cases c' : (r.length : Int) > 100
  · rw [decide_eq_true c']; simp only [psalterylaw15_CoupleListsBack.j0, if_true]; rw [knows15 K (by omega)]; rfl
  rw [decide_eq_false c']
  simp only [psalterylaw15_CoupleListsBack.j0, Bool.false_eq_true, if_false]
  rw [couple_CoupleAll_eq l r K (by omega) (by omega), knows15 K (by omega)]
  simp only [Option.bind_some]
  have err : (if ((([] : List Int), ([] : List Int), (1 : Int)).2.2) = 0 then ((couple_PartAll.f K ([] : List Int) ([] : List Int)).bind fun _ => some true) else some true) = some true := if_neg (by decide)
  by_cases h : l.length = r.length
  · have hp := prs_len cp l r h
    rw [if_pos h]
    cases hf : allf 1099511627776 l r with
    | true =>
      rw [if_pos rfl]
      have hb := back_all l r h hf
      dsimp only
      rw [if_pos rfl, couple_PartAll_eq _ _ K (by omega) (by omega), if_pos (by omega), if_pos hb.1, hb.2]
      simp only [Option.bind_some]
      rw [same_self l hl K (by omega), same_self r hr K (by omega)]
      rfl
    | false => simp only [Bool.false_eq_true, if_false]; rw [if_neg (by decide)]; rfl
  · simp only [if_neg h]; rw [if_neg (by decide)]; rfl
end Go.Proofs.Ytfipeildlleoeaa.Pure
