/- The law BandPlaces: bands begin where the document says, have as many coefficients, and gains have the values; proved for every input. -/
import Derived.Test.YtoghpjggcfnoeaaPx42
import Derived.Test.YtoghpjggcfnoeaaLBand
namespace Go.Proofs.Ytoghpjggcfnoeaa.Pure
set_option linter.unusedVariables false
set_option linter.unusedSimpArgs false
open Go.RowKit Go.Proofs.YtoghpjggcfnoeaaW.PrintWords Go.Proofs.YtoghpjggcfnoeaaW.PrintLast Go.Proofs.YtoghpjggcfnoeaaW.PrintMore Go.Proofs.Ytoghpjggcfnoeaa.P Go.Proofs.Ytoghpjggcfnoeaa.LB Go.Proofs.Ytoghpjggcfnoeaa.LF Go.Proofs.Ytoghpjggcfnoeaa.LQ
theorem BandPlaces : psalterylaw10_BandPlaces.Pure := by
  intro b g
  intros
  obtain ⟨K, hK⟩ : ∃ K : Nat, 10000 ≤ K := ⟨_, Nat.le_refl _⟩
  refine ⟨K, ?_⟩
  unfold psalterylaw10_BandPlaces.f
  rw [knows10 K (by omega), from_eq, refFrom_eq, width_eq, refWidth_eq b K (by omega), val_eq g K (by omega), refVal_eq g K (by omega)]
  simp only [Option.bind_some, if_true]
end Go.Proofs.Ytoghpjggcfnoeaa.Pure
