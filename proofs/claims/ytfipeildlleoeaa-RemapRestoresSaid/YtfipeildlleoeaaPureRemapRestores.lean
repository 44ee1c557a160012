/- The law RemapRestores: coefficients are made of residues as the document says, or the error is told; proved for every input. -/
import Derived.Test.YtfipeildlleoeaaPx21
import Derived.Test.YtfipeildlleoeaaLRemap
namespace Go.Proofs.Ytfipeildlleoeaa.Pure
set_option linter.unusedVariables false
set_option linter.unusedSimpArgs false
open Go.RowKit Go.Proofs.YtfipeildlleoeaaW.PrintWords Go.Proofs.YtfipeildlleoeaaW.PrintLast Go.Proofs.YtfipeildlleoeaaW.PrintMore Go.Proofs.Ytfipeildlleoeaa.P Go.Proofs.Ytfipeildlleoeaa.LB Go.Proofs.Ytfipeildlleoeaa.LR Go.Proofs.Ytfipeildlleoeaa.NT
theorem RemapRestores : psalterylaw21_RemapRestores.Pure := by
  intro l r hl hl' hw hr hr' hw'
  obtain ⟨K, hK⟩ : ∃ K : Nat, 10000 ≤ K := ⟨_, Nat.le_refl _⟩
  refine ⟨K + 1, ?_⟩
  unfold psalterylaw21_RemapRestores.f
  rw [great_eq, knows21 (K + 1) (by omega)]
  simp only [Option.bind_some]
  by_cases c : 100 < l.length ∨ 100 < r.length
  · rw [decide_eq_true c, if_pos rfl]
  rw [decide_eq_false c, if_neg (by decide), Restore_eq l r (by omega) (by omega) (K + 1) (by omega), refRow_eq l (by omega) (K + 1) (by omega), refRow_eq r (by omega) (K + 1) (by omega)]
  simp only [Option.bind_some]
  have bad : okq 8388608 l r = false → psalterylaw21_RemapRestores.j0 (K + 1) l r (if okq 8388608 l r = true then (List.zipWith rs l r, (0 : Int)) else ([], 1)).1 (if okq 8388608 l r = true then (List.zipWith rs l r, (0 : Int)) else ([], 1)).2 true = some true := by
    intro h
    rw [h]
    simp only [psalterylaw21_RemapRestores.j0, if_true, Bool.false_eq_true, if_false, List.length_nil]
    rw [knows21 K (by omega)]; rfl
  cases h1 : (inr (-8388608) 8388608 l && l.length == 16) with
  | false =>
    rw [if_neg (by decide)]
    exact bad (by unfold okq; rw [h1]; rfl)
  | true =>
    rw [if_pos rfl]
    cases h2 : (inr 1 4194304 r && r.length == 16) with
    | false => exact bad (by unfold okq; rw [h1, Bool.true_and, h2])
    | true =>
      have hq : okq 8388608 l r = true := by unfold okq; rw [h1, Bool.true_and, h2]
      rw [if_pos hq]
      simp only [psalterylaw21_RemapRestores.j0, Bool.not_true, Bool.false_eq_true, if_false]
      rw [refRestore_eq l r hq K (by omega), knows21 K (by omega)]
      simp only [Option.bind_some]
      have hz : (List.zipWith rs l r).length ≤ 1000 := by rw [List.length_zipWith]; omega
      rw [same_self _ hz K (by omega)]
      rfl
end Go.Proofs.Ytfipeildlleoeaa.Pure
