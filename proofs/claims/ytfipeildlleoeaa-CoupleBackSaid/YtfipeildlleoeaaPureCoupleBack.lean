/- The law CoupleBack: a pair that is coupled, and parted, is what it was; proved for every input. -/
import Derived.Test.YtfipeildlleoeaaPx45
import Derived.Test.YtfipeildlleoeaaLCouple
namespace Go.Proofs.Ytfipeildlleoeaa.Pure
set_option linter.unusedVariables false
set_option linter.unusedSimpArgs false
open Go.RowKit Go.Proofs.YtfipeildlleoeaaW.PrintWords Go.Proofs.YtfipeildlleoeaaW.PrintLast Go.Proofs.YtfipeildlleoeaaW.PrintMore Go.Proofs.Ytfipeildlleoeaa.P Go.Proofs.Ytfipeildlleoeaa.LB Go.Proofs.Ytfipeildlleoeaa.LC
theorem CoupleBack : psalterylaw15_CoupleBack.Pure := by
  intro x y hx hy
  obtain ⟨K, hK⟩ : ∃ K : Nat, 1000 ≤ K := ⟨_, Nat.le_refl _⟩
  refine ⟨K, ?_⟩
  unfold psalterylaw15_CoupleBack.f
  rw [couple_Couple_eq x y K (by omega), knows15 K (by omega)]
  simp only [Option.bind_some]
  by_cases h : fair 1099511627776 x y
  · rw [if_pos h, couple_Part_eq _ _ K (by omega), if_pos (cp_fair h)]
    simp only [Option.bind_some, pt_cp, if_true]
  · rw [if_neg h]
    simp only [if_true]
    rfl
end Go.Proofs.Ytfipeildlleoeaa.Pure
