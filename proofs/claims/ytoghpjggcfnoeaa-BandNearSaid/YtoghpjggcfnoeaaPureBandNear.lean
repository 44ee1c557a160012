/- The law BandNear: a gain's value is not above the norm, and the norm's square is less than two times the value's neighbour's square; proved for every input. -/
import Derived.Test.YtoghpjggcfnoeaaPx53
import Derived.Test.YtoghpjggcfnoeaaLBand
namespace Go.Proofs.Ytoghpjggcfnoeaa.Pure
set_option linter.unusedVariables false
set_option linter.unusedSimpArgs false
open Go.RowKit Go.Proofs.YtoghpjggcfnoeaaW.PrintWords Go.Proofs.YtoghpjggcfnoeaaW.PrintLast Go.Proofs.YtoghpjggcfnoeaaW.PrintMore Go.Proofs.Ytoghpjggcfnoeaa.P Go.Proofs.Ytoghpjggcfnoeaa.LB Go.Proofs.Ytoghpjggcfnoeaa.LF Go.Proofs.Ytoghpjggcfnoeaa.LQ Go.Proofs.Ytoghpjggcfnoeaa.NT
theorem near_words (n : Int) (h0 : 0 < n) (h1 : n ≤ 8796093022208) : ∃ s, val (lg n.toNat + 1) = s ∧ 0 ≤ s ∧ s ≤ 4194304 ∧ s * s ≤ n ∧ n < 2 * ((s + 1) * (s + 1)) ∧ 0 ≤ lg n.toNat := by
  have hl := lg_lower n.toNat
  have hp : 0 ≤ lg n.toNat := by rw [lg_pos (by omega)]; have := lg_lower (n.toNat / 2); omega
  obtain ⟨j, hj⟩ := Int.eq_ofNat_of_zero_le hp
  have hb := lg_bounds n.toNat j hj
  have hu := lg_upper 44 n.toNat (by have : (2 : Nat) ^ 44 = 17592186044416 := by decide
                                     omega)
  obtain ⟨s, e1, e2⟩ := value_root (lg n.toNat + 1) (by omega) 101 (by omega)
  rw [val_eq _ 101 (by omega)] at e1
  refine ⟨s, Option.some.inj e1, e2.1, ?_, ?_, ?_, hp⟩
  · apply Decidable.byContradiction; intro c
    have h3 := sq_mono (x := 4194305) (y := s) (by omega) (by omega)
    have h2 := e2.2.1
    rw [hj, show ((j : Int) + 1 - 1).toNat = j by omega] at h2
    have e : (2 : Int) ^ j = ((2 ^ j : Nat) : Int) := by rw [Int.natCast_pow]; rfl
    omega
  · have h2 := e2.2.1
    rw [hj, show ((j : Int) + 1 - 1).toNat = j by omega] at h2
    have e : (2 : Int) ^ j = ((2 ^ j : Nat) : Int) := by rw [Int.natCast_pow]; rfl
    omega
  · have h2 := e2.2.2
    rw [hj, show ((j : Int) + 1 - 1).toNat = j by omega] at h2
    have e : (2 : Int) ^ j = ((2 ^ j : Nat) : Int) := by rw [Int.natCast_pow]; rfl
    rw [Nat.pow_succ] at hb
    omega
theorem BandNear : psalterylaw10_BandNear.Pure := by
  intro l hl hm hw
  obtain ⟨K, hK⟩ : ∃ K : Nat, l.length + 10000 ≤ K := ⟨_, Nat.le_refl _⟩
  refine ⟨K, ?_⟩
  unfold psalterylaw10_BandNear.f
  rw [great_eq, knows10 K (by omega), gain_eq l hl K (by omega)]
  simp only [Option.bind_some]
  by_cases c : (l.length : Int) > 100
  · rw [if_pos (by simpa using c)]
  rw [if_neg (by simpa using c)]
  by_cases c1 : fairL l = true ∧ l.length ≤ 8
  · rw [if_pos c1]
    have c' := c1.1
    simp only [fairL, Bool.and_eq_true, decide_eq_true_eq] at c'
    have hb := sq_bound c'.1
    rw [refSquare_eq l c'.1 (by omega) K (by omega), val_eq _ K (by omega)]
    simp only [Option.bind_some, if_true]
    by_cases c2 : sq l = 0
    · have e : gn l = 0 := by unfold gn; rw [c2]; rw [show (0 : Int).toNat = 0 from rfl, lg_zero]; omega
      rw [if_pos c2, e, val_zero 0 (by omega)]; rfl
    · rw [if_neg c2]
      obtain ⟨s, e1, e2, e3, e4, e5, e6⟩ := near_words (sq l) (by omega) (by omega)
      have e7 : val (gn l) = s := e1
      have e8 : (s + 1) * (s + 1) = s * s + 2 * s + 1 := by
        rw [Int.mul_add, Int.add_mul]; omega
      have e9 : 0 ≤ s * s := Int.mul_nonneg e2 e2
      have e10 : (2 * (s + 1)) * (s + 1) = 2 * ((s + 1) * (s + 1)) := by rw [Int.mul_assoc]
      rw [e7, u64w (x := s) (by omega) (by omega), u64w (x := s * s) (by omega) (by omega), if_pos e4, u64w (x := s + 1) (by omega) (by omega), u64w (x := 2 * (s + 1)) (by omega) (by omega), e10, u64w (by omega) (by omega), if_pos e5, if_pos (show gn l ≥ 1 by unfold gn; omega)]
  · rw [if_neg c1]; rfl
end Go.Proofs.Ytoghpjggcfnoeaa.Pure
