/- The law BandGains: coefficients have the gain that the document says, or the error is told; proved for every input. -/
import Derived.Test.YtoghpjggcfnoeaaPx48
import Derived.Test.YtoghpjggcfnoeaaLBand
namespace Go.Proofs.Ytoghpjggcfnoeaa.Pure
set_option linter.unusedVariables false
set_option linter.unusedSimpArgs false
open Go.RowKit Go.Proofs.YtoghpjggcfnoeaaW.PrintWords Go.Proofs.YtoghpjggcfnoeaaW.PrintLast Go.Proofs.YtoghpjggcfnoeaaW.PrintMore Go.Proofs.Ytoghpjggcfnoeaa.P Go.Proofs.Ytoghpjggcfnoeaa.LB Go.Proofs.Ytoghpjggcfnoeaa.LF Go.Proofs.Ytoghpjggcfnoeaa.LQ
theorem BandGains : psalterylaw10_BandGains.Pure := by
  intro l hl hm hw
  obtain ⟨K, hK⟩ : ∃ K : Nat, l.length + 10000 ≤ K := ⟨_, Nat.le_refl _⟩
  refine ⟨K + 1, ?_⟩
  unfold psalterylaw10_BandGains.f
  rw [great_eq, knows10 (K + 1) (by omega), gain_eq l hl (K + 1) (by omega), refFair_eq l hl (K + 1) (by omega)]
  simp only [Option.bind_some]
  by_cases c : (l.length : Int) > 100
  · rw [if_pos (by simpa using c)]
  rw [if_neg (by simpa using c)]
  by_cases c3 : fairL l = true ∧ l.length ≤ 8
  · rw [if_pos c3, if_pos c3.1]
    have c' := c3.1
    simp only [fairL, Bool.and_eq_true, decide_eq_true_eq] at c'
    have hb := gn_bound l c'.1 c3.2
    simp only [psalterylaw10_BandGains.j0]
    rw [if_neg (show ¬ decide ((l.length : Int) > 8) = true by simp; omega), refGain_eq l c'.1 (by omega) K (by omega), knows10 K (by omega)]
    simp only [Option.bind_some, if_true]
    rw [if_pos hb.2]
  · rw [if_neg c3]
    have easy : psalterylaw10_BandGains.j0 (K + 1) l 0 1 true = some true := by
      simp only [psalterylaw10_BandGains.j0, if_true]; rw [knows10 K (by omega)]; rfl
    by_cases c1 : fairL l = true
    · have h8 : ¬ l.length ≤ 8 := fun h => c3 ⟨c1, h⟩
      rw [if_pos c1, decide_eq_true (show (l.length : Int) > 8 by omega)]
      exact easy
    · rw [if_neg c1]; exact easy
end Go.Proofs.Ytoghpjggcfnoeaa.Pure
