/- The law NumDivs: num.Div is the document's division to the nearest, or the error is told; for any two numbers; proved for every input. -/
import Derived.Test.YtajnllkkgedgfaaPx38
import Derived.Test.YtajnllkkgedgfaaPureNumRoots
namespace Go.Proofs.Ytajnllkkgedgfaa.Pure
set_option linter.unusedVariables false
set_option linter.unusedSimpArgs false
open Go.RowKit Go.Proofs.YtajnllkkgedgfaaW.PrintWords Go.Proofs.YtajnllkkgedgfaaW.PrintLast Go.Proofs.Ytajnllkkgedgfaa.P Go.Proofs.Ytajnllkkgedgfaa.NT Go.Proofs.Ytajnllkkgedgfaa.LB
theorem NumDivs : psalterylaw03_NumDivs.Pure := by
  intro a b ha hb
  have ha' := wf_i64 ha
  have hb' := wf_i64 hb
  obtain ⟨K, hK⟩ : ∃ K : Nat, 1000 ≤ K := ⟨_, Nat.le_refl _⟩
  refine ⟨K, ?_⟩
  unfold psalterylaw03_NumDivs.f
  rw [div_eq ha' hb'.2, knows03 K (by omega)]
  simp only [Option.bind_some]
  by_cases h : b < 1
  · rw [if_pos h, if_pos h, if_pos rfl, if_pos rfl]
  · rw [if_neg h, if_neg h, refDiv_eq ha' (by omega) hb'.2 K (by omega)]
    simp only [Option.bind_some, if_true]
end Go.Proofs.Ytajnllkkgedgfaa.Pure
