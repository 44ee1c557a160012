/- The law NumMuls: num.Mul is the document's long product; for any two numbers; proved for every input. -/
import Derived.Test.YtajnllkkgedgfaaPx36
import Derived.Test.YtajnllkkgedgfaaPureNumRoots
import Derived.Test.YtajnllkkgedgfaaLMul
namespace Go.Proofs.Ytajnllkkgedgfaa.Pure
set_option linter.unusedVariables false
set_option linter.unusedSimpArgs false
open Go.RowKit Go.Proofs.YtajnllkkgedgfaaW.PrintWords Go.Proofs.YtajnllkkgedgfaaW.PrintLast Go.Proofs.Ytajnllkkgedgfaa.P Go.Proofs.Ytajnllkkgedgfaa.NT Go.Proofs.Ytajnllkkgedgfaa.LB
theorem NumMuls : psalterylaw03_NumMuls.Pure := by
  intro a b ha hb
  have ha' := wf_u64 ha
  have hb' := wf_u64 hb
  obtain ⟨K, hK⟩ : ∃ K : Nat, 1000 ≤ K := ⟨_, Nat.le_refl _⟩
  refine ⟨K, ?_⟩
  obtain ⟨h, l, e1, e2, e3, e4, e5⟩ := mul_eq ha' hb'
  obtain ⟨x, y, f1, f2, f3, f4, f5⟩ := refMul_eq ha' hb' K (by omega)
  unfold psalterylaw03_NumMuls.f
  rw [e1, f1, knows03 K (by omega)]
  simp only [Option.bind_some]
  rw [if_pos (by omega), if_pos (by omega)]
end Go.Proofs.Ytajnllkkgedgfaa.Pure
