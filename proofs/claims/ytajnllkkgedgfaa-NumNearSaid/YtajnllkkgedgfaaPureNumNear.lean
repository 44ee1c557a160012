/- The law NumNear: what num.Div tells, times the divisor, is not farther from the number than half of the divisor, and of two numbers the greater one has no less quotient; for numbers up to 2^60 as the law lets in; proved for every input. -/
import Derived.Test.YtajnllkkgedgfaaPx39
import Derived.Test.YtajnllkkgedgfaaPureNumRoots
namespace Go.Proofs.Ytajnllkkgedgfaa.Pure
set_option linter.unusedVariables false
set_option linter.unusedSimpArgs false
open Go.RowKit Go.Proofs.YtajnllkkgedgfaaW.PrintWords Go.Proofs.YtajnllkkgedgfaaW.PrintLast Go.Proofs.Ytajnllkkgedgfaa.P Go.Proofs.Ytajnllkkgedgfaa.NT Go.Proofs.Ytajnllkkgedgfaa.LB
theorem NumNear : psalterylaw03_NumNear.Pure := by
  intro a c b ha hc hb
  have ha' := wf_i64 ha
  have hc' := wf_i64 hc
  have hb' := wf_i64 hb
  obtain ⟨K, hK⟩ : ∃ K : Nat, 1000 ≤ K := ⟨_, Nat.le_refl _⟩
  refine ⟨K + 1, ?_⟩
  unfold psalterylaw03_NumNear.f
  simp only [psalterylaw03_NumNear.j0]
  rw [knows03 K (by omega)]
  simp only [Option.bind_some, if_true]
  by_cases h1 : b < 1
  · rw [if_pos h1]
  rw [if_neg h1]
  by_cases h2 : b > 1152921504606846976
  · rw [if_pos h2]
  rw [if_neg h2]
  by_cases h3 : a < -1152921504606846976
  · rw [if_pos h3]
  rw [if_neg h3]
  by_cases h4 : a > 1152921504606846976
  · rw [if_pos h4]
  rw [if_neg h4]
  by_cases h5 : c < -1152921504606846976
  · rw [if_pos h5]
  rw [if_neg h5]
  by_cases h6 : c > 1152921504606846976
  · rw [decide_eq_true h6, if_pos rfl]
  rw [decide_eq_false h6, if_neg (by decide), div_eq ha' hb'.2, div_eq hc' hb'.2, if_neg h1, if_neg h1]
  simp only [Option.bind_some]
  have hn := near_close (a := a) (b := b) (by omega)
  have hm := near_mono (a := a) (c := c) (b := b) (by omega)
  generalize near a b * b = p at *
  rw [w64 (x := p) (by omega) (by omega), w64 (x := a - p) (by omega) (by omega)]
  have last : (if a > c then some true else if near a b ≤ near c b then some true else some false) = some true := by
    by_cases h : a > c
    · rw [if_pos h]
    · rw [if_neg h, if_pos (hm (by omega))]
  by_cases h7 : a - p < 0
  · rw [if_pos h7]; simp only [if_true]; rw [w64 (x := -(a - p)) (by omega) (by omega), w64 (x := 2 * -(a - p)) (by omega) (by omega), if_pos (by omega)]
    exact last
  · rw [if_neg h7]; simp only [if_true]; rw [w64 (x := 2 * (a - p)) (by omega) (by omega), if_pos (by omega)]
    exact last
end Go.Proofs.Ytajnllkkgedgfaa.Pure
