/- The law NumLogs: num.Log2 is the document's logarithm, and the greater number has no less one; for any two numbers; proved for every input. -/
import Derived.Test.YtajnllkkgedgfaaPx34
import Derived.Test.YtajnllkkgedgfaaPureNumRoots
namespace Go.Proofs.Ytajnllkkgedgfaa.Pure
set_option linter.unusedVariables false
set_option linter.unusedSimpArgs false
open Go.RowKit Go.Proofs.YtajnllkkgedgfaaW.PrintWords Go.Proofs.YtajnllkkgedgfaaW.PrintLast Go.Proofs.Ytajnllkkgedgfaa.P Go.Proofs.Ytajnllkkgedgfaa.NT Go.Proofs.Ytajnllkkgedgfaa.LB
theorem NumLogs : psalterylaw03_NumLogs.Pure := by
  intro n m hn hm
  have hn' := wf_u64 hn
  have hm' := wf_u64 hm
  obtain ⟨K, hK⟩ : ∃ K : Nat, 1000 ≤ K := ⟨_, Nat.le_refl _⟩
  refine ⟨K, ?_⟩
  unfold psalterylaw03_NumLogs.f
  rw [log_eq hn'.1 hn'.2 K (by omega), log_eq hm'.1 hm'.2 K (by omega), refLog_eq hn'.1 hn'.2 K (by omega), knows03 K (by omega)]
  simp only [Option.bind_some, if_true]
  by_cases h : n > m
  · rw [if_pos h]
  · rw [if_neg h, if_pos (lg_mono _ _ (by omega))]
end Go.Proofs.Ytajnllkkgedgfaa.Pure
