/- The law BandOwn: the value of an odd gain, alone in a band, has that gain; that of an even one has it, or the one below; proved for every input. -/
import Derived.Test.YtoghpjggcfnoeaaPx55
import Derived.Test.YtoghpjggcfnoeaaLBand
namespace Go.Proofs.Ytoghpjggcfnoeaa.Pure
set_option linter.unusedVariables false
set_option linter.unusedSimpArgs false
open Go.RowKit Go.Proofs.YtoghpjggcfnoeaaW.PrintWords Go.Proofs.YtoghpjggcfnoeaaW.PrintLast Go.Proofs.YtoghpjggcfnoeaaW.PrintMore Go.Proofs.Ytoghpjggcfnoeaa.P Go.Proofs.Ytoghpjggcfnoeaa.LB Go.Proofs.Ytoghpjggcfnoeaa.LF Go.Proofs.Ytoghpjggcfnoeaa.LQ Go.Proofs.Ytoghpjggcfnoeaa.NT
theorem own_odd (m : Nat) (s : Int) (h : IsRoot (2 ^ (2 * m)) s) : s = 2 ^ m := by
  have e : (2 : Int) ^ (2 * m) = 2 ^ m * 2 ^ m := by rw [Nat.two_mul, Int.pow_add]
  have hp : (0 : Int) < 2 ^ m := Int.pow_pos (by omega)
  rw [e] at h
  refine root_unique h ⟨by omega, Int.le_refl _, ?_⟩
  rw [Int.mul_add, Int.add_mul]; omega
theorem BandOwn : psalterylaw10_BandOwn.Pure := by
  intro g hg
  have hw := wf_i64 hg
  obtain ⟨K, hK⟩ : ∃ K : Nat, 10000 ≤ K := ⟨_, Nat.le_refl _⟩
  refine ⟨K + 1, ?_⟩
  have easy : psalterylaw10_BandOwn.j0 (K + 1) g true = some true := by
    simp only [psalterylaw10_BandOwn.j0, if_true]; rw [knows10 K (by omega)]; rfl
  unfold psalterylaw10_BandOwn.f
  by_cases c : g < 1
  · rw [if_pos c, easy]
  rw [if_neg c]
  by_cases c1 : g > 41
  · rw [decide_eq_true c1, easy]
  rw [decide_eq_false c1]
  simp only [psalterylaw10_BandOwn.j0, Bool.false_eq_true, if_false]
  obtain ⟨s, e1, e2⟩ := value_root g (by omega) K (by omega)
  rw [e1, knows10 K (by omega)]
  simp only [Option.bind_some]
  obtain ⟨n, hn⟩ : ∃ n : Nat, g - 1 = n := ⟨(g - 1).toNat, by omega⟩
  rw [hn, Int.toNat_natCast] at e2
  have e : (2 : Int) ^ n = ((2 ^ n : Nat) : Int) := by rw [Int.natCast_pow]; rfl
  have hq : (2 : Nat) ^ n ≤ 2 ^ 40 := Nat.pow_le_pow_right (by omega) (by omega)
  have hq2 : (2 : Nat) ^ 40 = 1099511627776 := by decide
  have hs : s ≤ 1048576 := by
    apply Decidable.byContradiction; intro cc
    have h3 := sq_mono (x := 1048577) (y := s) (by omega) (by omega)
    have := e2.2.1; omega
  have h0 := e2.1
  have hf : fairL [s] = true := by
    have : inc [s] = true := inc_of (by intro x hx; simp only [List.mem_singleton] at hx; subst hx; omega)
    unfold fairL; rw [this]; simp
  rw [gain_eq [s] (by show (1 : Nat) ≤ maxLen; decide) K (by simp only [List.length_cons, List.length_nil]; omega), if_pos ⟨hf, by simp⟩]
  simp only [Option.bind_some, if_true]
  have hsq : sq [s] = s * s := by simp only [sq]; omega
  have hpos : 1 ≤ s := by
    apply Decidable.byContradiction; intro cc
    have : s = 0 := by omega
    subst this
    have h2 := e2.2.2
    have : 0 < (2 : Nat) ^ n := Nat.pow_pos (by omega)
    omega
  have hss : 0 ≤ s * s := Int.mul_nonneg h0 h0
  have up : lg (s * s).toNat ≤ n := by
    have hp : 0 < (2 : Nat) ^ n := Nat.pow_pos (by omega)
    have h1 := e2.2.1
    have := lg_upper (n + 1) (s * s).toNat (by rw [Nat.pow_succ]; omega)
    omega
  have low : n < lg (s * s).toNat + 2 := by
    have hr : IsRoot ((2 : Int) ^ (2 * (n / 2))) (2 ^ (n / 2)) := by
      have ee : (2 : Int) ^ (2 * (n / 2)) = 2 ^ (n / 2) * 2 ^ (n / 2) := by rw [Nat.two_mul, Int.pow_add]
      have hp : (0 : Int) < 2 ^ (n / 2) := Int.pow_pos (by omega)
      refine ⟨by omega, by rw [ee]; exact Int.le_refl _, ?_⟩
      rw [ee, Int.mul_add, Int.add_mul]; omega
    have hle : (2 : Int) ^ (2 * (n / 2)) ≤ 2 ^ n := by
      have h1 : (2 : Nat) ^ (2 * (n / 2)) ≤ 2 ^ n := Nat.pow_le_pow_right (by omega) (by omega)
      have h2 : (2 : Int) ^ (2 * (n / 2)) = ((2 ^ (2 * (n / 2)) : Nat) : Int) := by rw [Int.natCast_pow]; rfl
      rw [e, h2]; exact Int.ofNat_le.2 h1
    have h3 := root_mono hr e2 hle
    have h4 : (0 : Int) < 2 ^ (n / 2) := Int.pow_pos (by omega)
    have h5 := sq_mono (x := (2 : Int) ^ (n / 2)) (y := s) (by omega) h3
    have h6 := hr.2.1
    have h6' : (2 : Int) ^ (2 * (n / 2)) ≤ s * s := by
      have ee : (2 : Int) ^ (2 * (n / 2)) = 2 ^ (n / 2) * 2 ^ (n / 2) := by rw [Nat.two_mul, Int.pow_add]
      rw [ee]; exact h5
    have h7 : (2 : Nat) ^ (2 * (n / 2)) ≤ (s * s).toNat := by
      have h2 : (2 : Int) ^ (2 * (n / 2)) = ((2 ^ (2 * (n / 2)) : Nat) : Int) := by rw [Int.natCast_pow]; rfl
      omega
    have h8 := lg_mono _ _ h7
    have h9 : lg (2 ^ (2 * (n / 2))) = (2 * (n / 2) : Nat) := lg_of_bounds _ _ (Nat.le_refl _) (by
      rw [Nat.pow_succ]; have : 0 < (2 : Nat) ^ (2 * (n / 2)) := Nat.pow_pos (by omega)
      omega)
    omega
  have hgn : gn [s] = lg (s * s).toNat + 1 := by unfold gn; rw [hsq]
  by_cases c2 : gn [s] = g
  · rw [if_pos c2]
  · rw [if_neg c2]
    have hg1 : gn [s] = g - 1 := by omega
    have even : ¬ ∃ m : Nat, n = 2 * m := by
      rintro ⟨m, rfl⟩
      have := own_odd m s e2
      have h4 : s * s = 2 ^ (2 * m) := by rw [this, Nat.two_mul, Int.pow_add]
      have h5 : lg (s * s).toNat = (2 * m : Nat) := by
        rw [h4, e, Int.toNat_natCast]
        exact lg_of_bounds _ _ (Nat.le_refl _) (by rw [Nat.pow_succ]; have : 0 < (2 : Nat) ^ (2 * m) := Nat.pow_pos (by omega)
                                                   omega)
      omega
    have hm : Int.tmod g 2 = 0 := by
      rw [tmod_nn 2 (by omega)]
      apply Decidable.byContradiction; intro cc
      exact even ⟨n / 2, by omega⟩
    rw [if_pos hm, w64 (by omega) (by omega), if_pos hg1]
end Go.Proofs.Ytoghpjggcfnoeaa.Pure
