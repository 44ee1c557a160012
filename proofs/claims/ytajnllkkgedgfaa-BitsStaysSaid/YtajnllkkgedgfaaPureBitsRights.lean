/- The law BitsRights: bits.Right and the document's Right agree, and Left tells how many bits are left, for any bytes and any number; proved for every input. -/
import Derived.Test.YtajnllkkgedgfaaPx10
import Derived.Test.YtajnllkkgedgfaaPx7
import Derived.Test.YtajnllkkgedgfaaLBitsRef
import Derived.Test.YtajnllkkgedgfaaLBitsGet
namespace Go.Proofs.Ytajnllkkgedgfaa.Pure
set_option linter.unusedVariables false
set_option linter.unusedSimpArgs false
open Go.RowKit Go.Proofs.YtajnllkkgedgfaaW.PrintWords Go.Proofs.YtajnllkkgedgfaaW.PrintLast Go.Proofs.Ytajnllkkgedgfaa.P Go.Proofs.Ytajnllkkgedgfaa.BT Go.Proofs.Ytajnllkkgedgfaa.LB
theorem knows01 (k : Nat) (hk : 200 ≤ k) : psalterylaw01_knows.f k = some true := at_rounds (g := fun k => psalterylaw01_knows.f k) (fun k => psalterylaw01_knows.mono k) hk psalterylaw01_knows.sure
theorem great01 (l : List Int) : psalterylaw01_great.f l = some (decide ((l.length : Int) > 5000)) := rfl
theorem BitsRights : psalterylaw01_BitsRights.Pure := by
  intro B N _ _ hw hN
  have hB := wf_u8 hw
  have hN' := wf_i64 hN
  obtain ⟨K, hK⟩ : ∃ K : Nat, 200000 ≤ K := ⟨_, Nat.le_refl _⟩
  refine ⟨K + 1 + 1, ?_⟩
  unfold psalterylaw01_BitsRights.f
  rw [great01]
  simp only [Option.bind_some]
  by_cases hg : (B.length : Int) > 5000
  · rw [decide_eq_true hg, if_pos rfl, knows01 _ (by omega)]; rfl
  rw [decide_eq_false hg, if_neg (by decide)]
  have fin : ∀ x : Int, x = (if N < 0 ∨ 8 * (B.length : Int) < N then 0 else 8 * (B.length : Int) - N) → psalterylaw01_BitsRights.j1 (K + 1) B N x = some true := by
    intro x hx
    simp only [psalterylaw01_BitsRights.j1]
    rw [right_eq B hN', refRight_eq hB (by omega) hN' _ (by omega), left_eq B (by omega) hN']
    simp only [Option.bind_some, beq_self_eq_true, if_true]
    rw [if_pos hx.symm, knows01 _ (by omega)]; rfl
  rw [w64 (x := 8 * (B.length : Int)) (by omega) (by omega)]
  by_cases h0 : N ≥ 0
  · rw [if_pos h0]
    simp only [psalterylaw01_BitsRights.j0]
    rw [w64 (x := 8 * (B.length : Int)) (by omega) (by omega)]
    by_cases h1 : N ≤ 8 * (B.length : Int)
    · rw [decide_eq_true h1, if_pos rfl, w64 (by omega) (by omega)]
      exact fin _ (by rw [if_neg (by omega)])
    · rw [decide_eq_false h1, if_neg (by decide)]
      exact fin _ (by rw [if_pos (by omega)])
  · rw [if_neg h0]
    simp only [psalterylaw01_BitsRights.j0]
    rw [if_neg (by decide)]
    exact fin _ (by rw [if_pos (by omega)])
end Go.Proofs.Ytajnllkkgedgfaa.Pure
