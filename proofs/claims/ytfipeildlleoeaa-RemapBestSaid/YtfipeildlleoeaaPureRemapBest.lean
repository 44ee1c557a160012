/- The law RemapBest: with floors of 1 coefficients are their own residues, and are made again as they were; proved for every input. -/
import Derived.Test.YtfipeildlleoeaaPx23
import Derived.Test.YtfipeildlleoeaaLRemap
namespace Go.Proofs.Ytfipeildlleoeaa.Pure
set_option linter.unusedVariables false
set_option linter.unusedSimpArgs false
open Go.RowKit Go.Proofs.YtfipeildlleoeaaW.PrintWords Go.Proofs.YtfipeildlleoeaaW.PrintLast Go.Proofs.YtfipeildlleoeaaW.PrintMore Go.Proofs.Ytfipeildlleoeaa.P Go.Proofs.Ytfipeildlleoeaa.LB Go.Proofs.Ytfipeildlleoeaa.LR Go.Proofs.Ytfipeildlleoeaa.NT
theorem RemapBest : psalterylaw21_RemapBest.Pure := by
  intro l hl hl' hw
  obtain ⟨K, hK⟩ : ∃ K : Nat, 10000 ≤ K := ⟨_, Nat.le_refl _⟩
  refine ⟨K, ?_⟩
  unfold psalterylaw21_RemapBest.f
  rw [great_eq, knows21 K (by omega), all_eq 1 K (by omega)]
  simp only [Option.bind_some]
  by_cases c : 100 < l.length ∨ 100 < ([] : List Int).length
  · rw [decide_eq_true c, if_pos rfl]
  have c' : l.length ≤ 100 := by omega
  rw [decide_eq_false c, if_neg (by decide), Quantize_eq l _ (by omega) (by simp) K (by omega)]
  simp only [Option.bind_some]
  cases hq : okq 1048576 l (List.replicate 16 1) with
  | false => rfl
  | true =>
    rw [if_pos rfl]
    have hq' := hq
    simp only [okq, Bool.and_eq_true, beq_iff_eq] at hq'
    have e16 : l.length = 16 := hq'.1.1.2
    have z1 : List.zipWith near l (List.replicate 16 1) = l := by have := zip_one near (fun a _ => near_one a) l hq'.1.1.1; rwa [e16] at this
    have z2 : List.zipWith rs l (List.replicate 16 1) = l := by have := zip_one rs (fun a h => by rw [rs_small (by omega), Int.mul_one]) l hq'.1.1.1; rwa [e16] at this
    have hr : okq 8388608 l (List.replicate 16 1) = true := by
      simp only [okq, Bool.and_eq_true, beq_iff_eq]
      exact ⟨⟨⟨inr_of fun x hx => by have := inr_mem hq'.1.1.1 x hx; omega, e16⟩, hq'.1.2⟩, hq'.2⟩
    dsimp only
    rw [if_pos rfl, z1, Restore_eq l _ (by omega) (by simp) K (by omega), if_pos hr]
    simp only [Option.bind_some]
    rw [z2, same_self l (by omega) K (by omega)]
    rfl
end Go.Proofs.Ytfipeildlleoeaa.Pure
