/- The law RemapAgain: what is made of residues, and is not beyond the greatest coefficient, has these residues; proved for every input. -/
import Derived.Test.YtfipeildlleoeaaPx24
import Derived.Test.YtfipeildlleoeaaLRemap
namespace Go.Proofs.Ytfipeildlleoeaa.Pure
set_option linter.unusedVariables false
set_option linter.unusedSimpArgs false
open Go.RowKit Go.Proofs.YtfipeildlleoeaaW.PrintWords Go.Proofs.YtfipeildlleoeaaW.PrintLast Go.Proofs.YtfipeildlleoeaaW.PrintMore Go.Proofs.Ytfipeildlleoeaa.P Go.Proofs.Ytfipeildlleoeaa.LB Go.Proofs.Ytfipeildlleoeaa.LR Go.Proofs.Ytfipeildlleoeaa.NT
theorem RemapAgain_loop (l r : List Int) (h : okq 8388608 l r = true) (d : Nat) : ∀ (i k : Nat), i + d = 16 → d + 300 < k →
    psalterylaw21_RemapAgain.l0 k l r (List.zipWith rs l r) (List.zipWith near (List.zipWith rs l r) r) (i : Int) = some true := by
  simp only [okq, Bool.and_eq_true, beq_iff_eq] at h
  have hz : (List.zipWith rs l r).length = 16 := by rw [List.length_zipWith]; omega
  have hz' : (List.zipWith near (List.zipWith rs l r) r).length = 16 := by rw [List.length_zipWith]; omega
  induction d with
  | zero =>
    intro i k hi hk
    obtain ⟨k, rfl⟩ : ∃ j, k = j + 1 := ⟨k - 1, by omega⟩
    simp only [psalterylaw21_RemapAgain.l0]
    rw [if_neg (by omega), knows21 k (by omega)]; rfl
  | succ d ih =>
    intro i k hi hk
    obtain ⟨k, rfl⟩ : ∃ j, k = j + 1 := ⟨k - 1, by omega⟩
    have ha := rd_in h.1.1.1 i (by omega)
    have hb := rd_in h.1.2 i (by omega)
    have hp := LR.prod_bound ha hb
    have e1 : rd (List.zipWith rs l r) (i : Int) = rs (rd l i) (rd r i) := rd_zip rs l r i (by omega) (by omega)
    have e2 : rd (List.zipWith near (List.zipWith rs l r) r) (i : Int) = near (rs (rd l i) (rd r i)) (rd r i) := by rw [rd_zip near _ r i (by omega) (by omega), e1]
    have e3 := rs_small (a := rd l i) (b := rd r i)
    have e4 := near_times (a := rd l i) (b := rd r i) (by omega)
    have e5 : rs (rd l i) (rd r i) = cl (rd l i * rd r i) := rfl
    simp only [psalterylaw21_RemapAgain.l0]
    rw [e1, e2, w64 (x := rd l i * rd r i) (by omega) (by omega), w64 (x := (i : Int) + 1) (by omega) (by omega), hz, hz']
    have next := ih (i + 1) k (by omega) (by omega)
    rw [show (((i + 1 : Nat) : Int)) = (i : Int) + 1 by omega] at next
    rw [next]
    generalize rd l i = a at *
    generalize rd r i = b at *
    generalize hpp : a * b = p at *
    rw [if_pos (by omega), if_pos (by omega), if_pos (by omega), if_pos (by omega)]
    by_cases c1 : p > 1048576
    · rw [if_pos c1, if_pos (by omega), e5, show cl p = 1048576 by unfold cl; rw [if_neg (by omega), if_pos (by omega)], if_pos rfl]
    rw [if_neg c1]
    by_cases c2 : p < -1048576
    · rw [if_pos c2, if_pos (by omega), e5, show cl p = -1048576 by unfold cl; rw [if_pos (by omega)], if_neg (by decide), if_pos rfl]
    rw [if_neg c2, if_pos (by omega), e3 (by omega), e4, if_pos rfl]
theorem RemapAgain : psalterylaw21_RemapAgain.Pure := by
  intro l r hl hl' hw hr hr' hw'
  obtain ⟨K, hK⟩ : ∃ K : Nat, 10000 ≤ K := ⟨_, Nat.le_refl _⟩
  refine ⟨K + 1, ?_⟩
  unfold psalterylaw21_RemapAgain.f
  rw [great_eq, knows21 (K + 1) (by omega)]
  simp only [Option.bind_some]
  by_cases c : 100 < l.length ∨ 100 < r.length
  · rw [decide_eq_true c, if_pos rfl]
  rw [decide_eq_false c, if_neg (by decide), Restore_eq l r (by omega) (by omega) (K + 1) (by omega)]
  simp only [Option.bind_some]
  cases hq : okq 8388608 l r with
  | false => rfl
  | true =>
    rw [if_pos rfl]
    have hq' := hq
    simp only [okq, Bool.and_eq_true, beq_iff_eq] at hq'
    have hz : (List.zipWith rs l r).length = 16 := by rw [List.length_zipWith]; omega
    have hz' : (List.zipWith near (List.zipWith rs l r) r).length = 16 := by rw [List.length_zipWith]; omega
    have h2 : okq 1048576 (List.zipWith rs l r) r = true := by
      simp only [okq, Bool.and_eq_true, beq_iff_eq]
      exact ⟨⟨⟨zip_in l r, hz⟩, hq'.1.2⟩, hq'.2⟩
    dsimp only
    rw [if_pos rfl, Quantize_eq _ r (by omega) (by omega) (K + 1) (by omega), if_pos h2]
    simp only [Option.bind_some]
    rw [if_pos trivial, hz', if_pos (by decide), hz]
    simp only [psalterylaw21_RemapAgain.j0]
    rw [if_neg (by decide)]
    exact RemapAgain_loop l r hq 16 0 K rfl (by omega)
end Go.Proofs.Ytfipeildlleoeaa.Pure
