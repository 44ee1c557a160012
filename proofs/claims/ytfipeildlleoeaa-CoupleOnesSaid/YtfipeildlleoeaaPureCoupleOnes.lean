/- The law CoupleOnes: a pair is coupled and parted as the document says, or the error is told; proved for every input. -/
import Derived.Test.YtfipeildlleoeaaPx43
import Derived.Test.YtfipeildlleoeaaLCouple
namespace Go.Proofs.Ytfipeildlleoeaa.Pure
set_option linter.unusedVariables false
set_option linter.unusedSimpArgs false
open Go.RowKit Go.Proofs.YtfipeildlleoeaaW.PrintWords Go.Proofs.YtfipeildlleoeaaW.PrintLast Go.Proofs.YtfipeildlleoeaaW.PrintMore Go.Proofs.Ytfipeildlleoeaa.P Go.Proofs.Ytfipeildlleoeaa.LB Go.Proofs.Ytfipeildlleoeaa.LC
theorem CoupleOnes : psalterylaw15_CoupleOnes.Pure := by
  intro x y hx hy
  obtain ⟨K, hK⟩ : ∃ K : Nat, 1000 ≤ K := ⟨_, Nat.le_refl _⟩
  refine ⟨K + 1, ?_⟩
  unfold psalterylaw15_CoupleOnes.f
  simp only [psalterylaw15_CoupleOnes.j0]
  rw [couple_Couple_eq x y (K + 1) (by omega), couple_Part_eq x y (K + 1) (by omega), refFair_eq (by omega) (by omega), refFair_eq (by omega) (by omega), knows15 K (by omega)]
  simp only [Option.bind_some]
  by_cases h : fair 1099511627776 x y
  · have h' : fair 4398046511104 x y := by obtain ⟨h1, h2, h3, h4⟩ := h; exact ⟨by omega, by omega, by omega, by omega⟩
    rw [decide_eq_true h, decide_eq_true h', if_pos h, if_pos h', if_pos rfl, if_pos rfl, refCp_eq h, refPt_eq h' K (by omega)]
    simp only [Option.bind_some, if_true]
  · rw [decide_eq_false h, if_neg h]
    simp only [Bool.false_eq_true, if_false, if_true]
    by_cases h' : fair 4398046511104 x y
    · rw [decide_eq_true h', if_pos h', if_pos rfl, refPt_eq h' K (by omega)]
      simp only [Option.bind_some, if_true]
    · rw [decide_eq_false h', if_neg h']
      simp only [Bool.false_eq_true, if_false, if_true]
end Go.Proofs.Ytfipeildlleoeaa.Pure
