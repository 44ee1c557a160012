/- The law FloorPlaces: posts stand where the document says, and it is told whether they are right; proved for every input. -/
import Derived.Test.YtoghpjggcfnoeaaPx15
import Derived.Test.YtoghpjggcfnoeaaLFloor
namespace Go.Proofs.Ytoghpjggcfnoeaa.Pure
set_option linter.unusedVariables false
set_option linter.unusedSimpArgs false
open Go.RowKit Go.Proofs.YtoghpjggcfnoeaaW.PrintWords Go.Proofs.YtoghpjggcfnoeaaW.PrintLast Go.Proofs.YtoghpjggcfnoeaaW.PrintMore Go.Proofs.Ytoghpjggcfnoeaa.P Go.Proofs.Ytoghpjggcfnoeaa.LB Go.Proofs.Ytoghpjggcfnoeaa.LF
theorem FloorPlaces : psalterylaw14_FloorPlaces.Pure := by
  intro p l
  intros
  obtain ⟨K, hK⟩ : ∃ K : Nat, l.length + 10000 ≤ K := ⟨_, Nat.le_refl _⟩
  refine ⟨K, ?_⟩
  unfold psalterylaw14_FloorPlaces.f
  rw [knows14 K (by omega), at_eq, refAt_eq p K (by omega), right_eq l (by assumption) K (by omega), refRight_eq l (by assumption) K (by omega)]
  simp only [Option.bind_some, if_true, beq_self_eq_true, ite_self]
end Go.Proofs.Ytoghpjggcfnoeaa.Pure
