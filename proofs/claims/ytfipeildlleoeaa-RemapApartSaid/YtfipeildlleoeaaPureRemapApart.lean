/- The law RemapApart: a coefficient hangs on the floor at its own place alone; proved for every input. -/
import Derived.Test.YtfipeildlleoeaaPx25
import Derived.Test.YtfipeildlleoeaaLRemap
namespace Go.Proofs.Ytfipeildlleoeaa.Pure
set_option linter.unusedVariables false
set_option linter.unusedSimpArgs false
open Go.RowKit Go.Proofs.YtfipeildlleoeaaW.PrintWords Go.Proofs.YtfipeildlleoeaaW.PrintLast Go.Proofs.YtfipeildlleoeaaW.PrintMore Go.Proofs.Ytfipeildlleoeaa.P Go.Proofs.Ytfipeildlleoeaa.LB Go.Proofs.Ytfipeildlleoeaa.LR Go.Proofs.Ytfipeildlleoeaa.NT
theorem rd_set_ne (l : List Int) (j : Nat) (v : Int) (i : Nat) (h : i ≠ j) : rd (l.set j v) (i : Int) = rd l (i : Int) := by
  simp [rd, List.getD_eq_getElem?_getD, List.getElem?_set_ne (Ne.symm h)]
theorem RemapApart_loop (at_ : Int) (x y : List Int) (hx : x.length = 16) (hy : y.length = 16) (h : ∀ i : Nat, i < 16 → (i : Int) ≠ at_ → rd y (i : Int) = rd x (i : Int)) (d : Nat) : ∀ (i k : Nat), i + d = 16 → d + 300 < k →
    psalterylaw21_RemapApart.l0 k at_ x y (i : Int) = some true := by
  induction d with
  | zero =>
    intro i k hi hk
    obtain ⟨k, rfl⟩ : ∃ j, k = j + 1 := ⟨k - 1, by omega⟩
    simp only [psalterylaw21_RemapApart.l0]
    rw [if_neg (by omega), knows21 k (by omega)]; rfl
  | succ d ih =>
    intro i k hi hk
    obtain ⟨k, rfl⟩ : ∃ j, k = j + 1 := ⟨k - 1, by omega⟩
    have next := ih (i + 1) k (by omega) (by omega)
    rw [show (((i + 1 : Nat) : Int)) = (i : Int) + 1 by omega] at next
    simp only [psalterylaw21_RemapApart.l0]
    rw [w64 (by omega) (by omega), next, if_pos (by omega)]
    by_cases c : (i : Int) = at_
    · rw [if_pos c]
    · rw [if_neg c, if_pos (by omega), if_pos (by omega), if_pos (by omega), if_pos (h i (by omega) c)]
theorem inr_set {lo hi v : Int} (h : lo ≤ v ∧ v ≤ hi) {l : List Int} (hl : inr lo hi l = true) (j : Nat) : inr lo hi (l.set j v) = true :=
  inr_of fun x hx => by
    rcases List.mem_or_eq_of_mem_set hx with h1 | h1
    · exact inr_mem hl x h1
    · rw [h1]; exact h
theorem RemapApart : psalterylaw21_RemapApart.Pure := by
  intro l r at_ v f
  intros
  obtain ⟨K, hK⟩ : ∃ K : Nat, 10000 ≤ K := ⟨_, Nat.le_refl _⟩
  refine ⟨K + 2, ?_⟩
  have easy : psalterylaw21_RemapApart.j0 (K + 2) l r at_ v f true = some true := by
    simp only [psalterylaw21_RemapApart.j0, if_true]; rw [knows21 (K + 1) (by omega)]; rfl
  unfold psalterylaw21_RemapApart.f
  rw [great_eq]
  simp only [Option.bind_some]
  rw [easy]
  by_cases c : 100 < l.length ∨ 100 < r.length
  · rw [decide_eq_true c, if_pos rfl]
  rw [decide_eq_false c, if_neg (by decide)]
  by_cases c1 : at_ < 0
  · rw [if_pos c1]
  rw [if_neg c1]
  by_cases c2 : at_ ≥ 16
  · rw [if_pos c2]
  rw [if_neg c2]
  by_cases c3 : v < -1048576
  · rw [if_pos c3]
  rw [if_neg c3]
  by_cases c4 : v > 1048576
  · rw [if_pos c4]
  rw [if_neg c4]
  by_cases c5 : f < 1
  · rw [if_pos c5]
  rw [if_neg c5]
  by_cases c6 : f > 4194304
  · rw [decide_eq_true c6]; exact easy
  rw [decide_eq_false c6]
  simp only [psalterylaw21_RemapApart.j0, Bool.false_eq_true, if_false]
  rw [Quantize_eq l r (by omega) (by omega) (K + 1) (by omega), knows21 (K + 1) (by omega)]
  simp only [Option.bind_some, List.nil_append, List.length_nil]
  cases hq : okq 1048576 l r with
  | false => rfl
  | true =>
    rw [if_pos rfl]
    have hq' := hq
    simp only [okq, Bool.and_eq_true, beq_iff_eq] at hq'
    have e16 := hq'.1.1.2
    have e16' := hq'.2
    have h2 : okq 1048576 (l.set at_.toNat v) (r.set at_.toNat f) = true := by
      simp only [okq, Bool.and_eq_true, beq_iff_eq, List.length_set]
      exact ⟨⟨⟨inr_set ⟨by omega, by omega⟩ hq'.1.1.1 _, e16⟩, inr_set ⟨by omega, by omega⟩ hq'.1.2 _⟩, e16'⟩
    have hz : (List.zipWith near l r).length = 16 := by rw [List.length_zipWith]; omega
    have hz' : (List.zipWith near (l.set at_.toNat v) (r.set at_.toNat f)).length = 16 := by rw [List.length_zipWith, List.length_set, List.length_set]; omega
    dsimp only
    rw [if_pos rfl, if_pos (by omega), if_pos (by omega), if_pos (by omega), if_pos (by omega), if_pos (by omega), Quantize_eq _ _ (by rw [List.length_set]; omega) (by rw [List.length_set]; omega) (K + 1) (by omega), if_pos h2]
    simp only [Option.bind_some]
    rw [if_pos trivial, hz', if_pos (by decide), hz]
    simp only [psalterylaw21_RemapApart.j1]
    rw [if_neg (by decide)]
    refine RemapApart_loop at_ _ _ hz hz' (fun i hi hne => ?_) 16 0 K rfl (by omega)
    rw [rd_zip near _ _ i (by rw [List.length_set]; omega) (by rw [List.length_set]; omega), rd_zip near _ _ i (by omega) (by omega), rd_set_ne _ _ _ _ (by omega), rd_set_ne _ _ _ _ (by omega)]
end Go.Proofs.Ytfipeildlleoeaa.Pure
