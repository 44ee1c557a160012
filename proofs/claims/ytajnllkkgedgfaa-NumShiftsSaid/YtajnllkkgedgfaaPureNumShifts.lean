/- The law NumShifts: a number is shifted and clamped as the document says, or the error is told; for any numbers; proved for every input. -/
import Derived.Test.YtajnllkkgedgfaaPx42
import Derived.Test.YtajnllkkgedgfaaPureNumRoots
namespace Go.Proofs.Ytajnllkkgedgfaa.Pure
set_option linter.unusedVariables false
set_option linter.unusedSimpArgs false
open Go.RowKit Go.Proofs.YtajnllkkgedgfaaW.PrintWords Go.Proofs.YtajnllkkgedgfaaW.PrintLast Go.Proofs.Ytajnllkkgedgfaa.P Go.Proofs.Ytajnllkkgedgfaa.NT Go.Proofs.Ytajnllkkgedgfaa.LB
theorem clamp_eq (v low high : Int) : num_Clamp.f v low high = some (if v < low then low else if v > high then high else v) := by
  unfold num_Clamp.f; split
  · rfl
  · split <;> rfl
theorem refClamp_eq (v low high : Int) : psalteryref03_Clamp.f v low high = some (if v < low then low else if v > high then high else v) := by
  unfold psalteryref03_Clamp.f; split
  · rfl
  · split <;> rfl
theorem NumShifts : psalterylaw03_NumShifts.Pure := by
  intro v n low high hv hn hlow hhigh
  have hv' := wf_i64 hv
  have hn' := wf_i64 hn
  obtain ⟨K, hK⟩ : ∃ K : Nat, 1000 ≤ K := ⟨_, Nat.le_refl _⟩
  refine ⟨K + 1, ?_⟩
  unfold psalterylaw03_NumShifts.f
  rw [clamp_eq, refClamp_eq, shift_eq]
  simp only [Option.bind_some, if_true, psalterylaw03_NumShifts.j0]
  rw [knows03 K (by omega)]
  simp only [Option.bind_some]
  by_cases h1 : n < 0
  · rw [if_pos h1, if_pos (c := n < 0 ∨ 62 < n) (.inl h1)]; simp
  rw [if_neg h1]
  by_cases h2 : n > 62
  · rw [if_pos (c := n < 0 ∨ 62 < n) (.inr h2), decide_eq_true h2]; simp
  · rw [if_neg (c := n < 0 ∨ 62 < n) (by omega), decide_eq_false h2, if_neg (by decide)]
    unfold psalteryref03_Shift.f
    rw [refShift_loop n (by omega) n.toNat K v 0 (by omega) (by omega) hv'.1 hv'.2 (by omega)]
    simp only [Option.bind_some, if_true]
end Go.Proofs.Ytajnllkkgedgfaa.Pure
