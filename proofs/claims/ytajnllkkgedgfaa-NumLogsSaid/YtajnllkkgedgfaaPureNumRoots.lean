/- The law NumRoots: num.Sqrt is the document's root, and the greater number has no less one; for any two numbers; proved for every input. -/
import Derived.Test.YtajnllkkgedgfaaPx32
import Derived.Test.YtajnllkkgedgfaaPx31
import Derived.Test.YtajnllkkgedgfaaLNum
namespace Go.Proofs.Ytajnllkkgedgfaa.Pure
set_option linter.unusedVariables false
set_option linter.unusedSimpArgs false
open Go.RowKit Go.Proofs.YtajnllkkgedgfaaW.PrintWords Go.Proofs.YtajnllkkgedgfaaW.PrintLast Go.Proofs.Ytajnllkkgedgfaa.P Go.Proofs.Ytajnllkkgedgfaa.NT Go.Proofs.Ytajnllkkgedgfaa.LB
theorem knows03 (k : Nat) (hk : 200 ≤ k) : psalterylaw03_knows.f k = some true := at_rounds (g := fun k => psalterylaw03_knows.f k) (fun k => psalterylaw03_knows.mono k) hk psalterylaw03_knows.sure
theorem NumRoots : psalterylaw03_NumRoots.Pure := by
  intro n m hn hm
  have hn' := wf_u64 hn
  have hm' := wf_u64 hm
  obtain ⟨K, hK⟩ : ∃ K : Nat, 1000 ≤ K := ⟨_, Nat.le_refl _⟩
  refine ⟨K, ?_⟩
  obtain ⟨r, hr, hr'⟩ := sqrt_eq hn'.1 hn'.2 K (by omega)
  obtain ⟨s, hs, hs'⟩ := sqrt_eq hm'.1 hm'.2 K (by omega)
  obtain ⟨t, ht, ht'⟩ := refSqrt_eq hn'.1 hn'.2 K (by omega)
  unfold psalterylaw03_NumRoots.f
  rw [hr, hs, ht, knows03 K (by omega)]
  simp only [Option.bind_some]
  rw [if_pos (root_unique hr' ht')]
  by_cases h : n > m
  · rw [if_pos h]
  · rw [if_neg h, if_pos (root_mono hr' hs' (by omega))]
end Go.Proofs.Ytajnllkkgedgfaa.Pure
