/- The law RemapNear: what is measured and made again is not farther from what it was than half of the floor, and no sign is turned; proved for every input. -/
import Derived.Test.YtfipeildlleoeaaPx22
import Derived.Test.YtfipeildlleoeaaLRemap
namespace Go.Proofs.Ytfipeildlleoeaa.Pure
set_option linter.unusedVariables false
set_option linter.unusedSimpArgs false
open Go.RowKit Go.Proofs.YtfipeildlleoeaaW.PrintWords Go.Proofs.YtfipeildlleoeaaW.PrintLast Go.Proofs.YtfipeildlleoeaaW.PrintMore Go.Proofs.Ytfipeildlleoeaa.P Go.Proofs.Ytfipeildlleoeaa.LB Go.Proofs.Ytfipeildlleoeaa.LR Go.Proofs.Ytfipeildlleoeaa.NT
theorem near_fair {c f : Int} (hc : -1048576 ≤ c ∧ c ≤ 1048576) (hf : 1 ≤ f ∧ f ≤ 4194304) : (-f ≤ 2 * (rs (near c f) f - c) ∧ 2 * (rs (near c f) f - c) ≤ f) ∧ (rs (near c f) f > 0 → c ≥ 0) ∧ (rs (near c f) f < 0 → c ≤ 0) ∧ (near c f > 0 → c > 0) ∧ (near c f < 0 → c < 0) := by
  have h1 := near_close (a := c) (b := f) (by omega)
  have h2 := near_bound (a := c) (b := f) (by omega)
  have h3 : near c f > 0 → 0 ≤ near c f * f := fun h => Int.mul_nonneg (by omega) (by omega)
  have h4 : near c f < 0 → near c f * f ≤ 0 := fun h => Int.mul_nonpos_of_nonpos_of_nonneg (by omega) (by omega)
  have h5 : near c f = 0 → near c f * f = 0 := fun h => by rw [h, Int.zero_mul]
  unfold rs cl
  generalize near c f * f = p at *
  generalize near c f = r at *
  refine ⟨?_, ?_, ?_, ?_, ?_⟩
  · repeat' split
    all_goals omega
  · repeat' split
    all_goals omega
  · repeat' split
    all_goals omega
  · omega
  · omega
theorem near_in : ∀ l r : List Int, inr (-1048576) 1048576 l = true → inr 1 4194304 r = true → inr (-8388608) 8388608 (List.zipWith near l r) = true
  | [], _, _, _ => rfl
  | _ :: _, [], _, _ => rfl
  | x :: l, y :: r, h1, h2 => by
    simp only [inr, Bool.and_eq_true, decide_eq_true_eq] at h1 h2
    simp only [List.zipWith_cons_cons, inr, Bool.and_eq_true, decide_eq_true_eq]
    have h3 := near_bound (a := x) (b := y) (by omega)
    exact ⟨by omega, near_in l r h1.2 h2.2⟩
theorem RemapNear_loop (l r : List Int) (h : okq 1048576 l r = true) (d : Nat) : ∀ (i k : Nat), i + d = 16 → 3 * d + 300 < k →
    psalterylaw21_RemapNear.l0 k l r (List.zipWith near l r) (List.zipWith rs (List.zipWith near l r) r) (i : Int) = some true := by
  simp only [okq, Bool.and_eq_true, beq_iff_eq] at h
  have hz : (List.zipWith near l r).length = 16 := by rw [List.length_zipWith]; omega
  have hz' : (List.zipWith rs (List.zipWith near l r) r).length = 16 := by rw [List.length_zipWith]; omega
  induction d with
  | zero =>
    intro i k hi hk
    obtain ⟨k, rfl⟩ : ∃ j, k = j + 1 := ⟨k - 1, by omega⟩
    simp only [psalterylaw21_RemapNear.l0]
    rw [if_neg (by omega), knows21 k (by omega)]; rfl
  | succ d ih =>
    intro i k hi hk
    obtain ⟨k, rfl⟩ : ∃ j, k = j + 1 + 1 + 1 := ⟨k - 3, by omega⟩
    have ha := rd_in h.1.1.1 i (by omega)
    have hb := rd_in h.1.2 i (by omega)
    have e1 : rd (List.zipWith near l r) (i : Int) = near (rd l i) (rd r i) := rd_zip near l r i (by omega) (by omega)
    have e2 : rd (List.zipWith rs (List.zipWith near l r) r) (i : Int) = rs (near (rd l i) (rd r i)) (rd r i) := by rw [rd_zip rs _ r i (by omega) (by omega), e1]
    have fair := near_fair ha hb
    have hx := rs_in (near (rd l i) (rd r i)) (rd r i)
    have next := ih (i + 1) k (by omega) (by omega)
    rw [show (((i + 1 : Nat) : Int)) = (i : Int) + 1 by omega] at next
    have J : psalterylaw21_RemapNear.j3 (k + 1) l r (List.zipWith near l r) (List.zipWith rs (List.zipWith near l r) r) (i : Int) false = some true := by
      simp only [psalterylaw21_RemapNear.j3]
      rw [if_neg (by decide), w64 (by omega) (by omega)]; exact next
    have step : ∀ e : Int, e ≤ 0 ∨ e > 0 → e = rs (near (rd l i) (rd r i)) (rd r i) - rd l i ∨ e = -(rs (near (rd l i) (rd r i)) (rd r i) - rd l i) →
        psalterylaw21_RemapNear.j2 (k + 1 + 1) l r (List.zipWith near l r) (List.zipWith rs (List.zipWith near l r) r) (i : Int) e = some true := by
      intro e _ he
      conv => lhs; unfold psalterylaw21_RemapNear.j2
      rw [e1, e2, hz, hz']
      generalize psalterylaw21_RemapNear.j3 (k + 1) l r (List.zipWith near l r) (List.zipWith rs (List.zipWith near l r) r) (i : Int) = j at *
      generalize rs (near (rd l i) (rd r i)) (rd r i) = x at *
      generalize near (rd l i) (rd r i) = n at *
      generalize rd l i = c at *
      generalize rd r i = f at *
      obtain ⟨⟨f1, f2⟩, f3, f4, f5, f6⟩ := fair
      rw [if_pos (by omega), if_pos (by omega), w64 (x := 2 * e) (by omega) (by omega), if_neg (by omega), if_pos (by omega)]
      clear ih e1 e2 hz hz' next
      have hl16 : (i : Int) < (l.length : Int) := by omega
      have hi2 : (i : Int) < ((16 : Nat) : Int) := by omega
      simp only [hl16, hi2, if_true]
      by_cases c1 : x > 0
      · have k1 : ¬ c < 0 := by omega
        have k2 : ¬ x < 0 := by omega
        simp only [c1, k1, k2, if_true, if_false]
        by_cases c3 : n > 0
        · have k3 : ¬ c ≤ 0 := by omega
          have k4 : ¬ n < 0 := by omega
          simp only [c3, k3, k4, if_true, if_false]; exact J
        · by_cases c4 : n < 0
          · have k5 : ¬ c ≥ 0 := by omega
            simp only [c3, c4, k5, if_true, if_false, decide_false]; exact J
          · simp only [c3, c4, if_false]; exact J
      · by_cases c2 : x < 0
        · have k1 : ¬ c > 0 := by omega
          simp only [c1, c2, k1, if_true, if_false]
          by_cases c3 : n > 0
          · have k3 : ¬ c ≤ 0 := by omega
            have k4 : ¬ n < 0 := by omega
            simp only [c3, k3, k4, if_true, if_false]; exact J
          · by_cases c4 : n < 0
            · have k5 : ¬ c ≥ 0 := by omega
              simp only [c3, c4, k5, if_true, if_false, decide_false]; exact J
            · simp only [c3, c4, if_false]; exact J
        · simp only [c1, c2, if_false]
          by_cases c3 : n > 0
          · have k3 : ¬ c ≤ 0 := by omega
            have k4 : ¬ n < 0 := by omega
            simp only [c3, k3, k4, if_true, if_false]; exact J
          · by_cases c4 : n < 0
            · have k5 : ¬ c ≥ 0 := by omega
              simp only [c3, c4, k5, if_true, if_false, decide_false]; exact J
            · simp only [c3, c4, if_false]; exact J
    conv => lhs; unfold psalterylaw21_RemapNear.l0
    rw [e2, hz', if_pos (by omega), if_pos (by omega), if_pos (by omega), if_pos (by omega), w64 (x := rs (near (rd l i) (rd r i)) (rd r i) - rd l i) (by omega) (by omega)]
    split
    · rw [w64 (by omega) (by omega)]; exact step _ (by omega) (.inr rfl)
    · exact step _ (by omega) (.inl rfl)
theorem RemapNear : psalterylaw21_RemapNear.Pure := by
  intro l r hl hl' hw hr hr' hw'
  obtain ⟨K, hK⟩ : ∃ K : Nat, 10000 ≤ K := ⟨_, Nat.le_refl _⟩
  refine ⟨K + 1, ?_⟩
  unfold psalterylaw21_RemapNear.f
  rw [great_eq, knows21 (K + 1) (by omega)]
  simp only [Option.bind_some]
  by_cases c : 100 < l.length ∨ 100 < r.length
  · rw [decide_eq_true c, if_pos rfl]
  rw [decide_eq_false c, if_neg (by decide), Quantize_eq l r (by omega) (by omega) (K + 1) (by omega)]
  simp only [Option.bind_some]
  cases hq : okq 1048576 l r with
  | false => rfl
  | true =>
    rw [if_pos rfl]
    have hq' := hq
    simp only [okq, Bool.and_eq_true, beq_iff_eq] at hq'
    have hz : (List.zipWith near l r).length = 16 := by rw [List.length_zipWith]; omega
    have hz' : (List.zipWith rs (List.zipWith near l r) r).length = 16 := by rw [List.length_zipWith]; omega
    have h2 : okq 8388608 (List.zipWith near l r) r = true := by
      simp only [okq, Bool.and_eq_true, beq_iff_eq]
      exact ⟨⟨⟨near_in l r hq'.1.1.1 hq'.1.2, hz⟩, hq'.1.2⟩, hq'.2⟩
    dsimp only
    rw [if_pos rfl, Restore_eq _ r (by omega) (by omega) (K + 1) (by omega), if_pos h2]
    simp only [Option.bind_some]
    rw [if_pos trivial, hz', if_pos (by decide), hz]
    simp only [psalterylaw21_RemapNear.j0]
    rw [if_neg (by decide)]
    exact RemapNear_loop l r hq 16 0 K rfl (by omega)
end Go.Proofs.Ytfipeildlleoeaa.Pure
