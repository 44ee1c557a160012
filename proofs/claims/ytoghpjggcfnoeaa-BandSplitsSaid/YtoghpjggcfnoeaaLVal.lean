/- A gain's value. -/
import Derived.Test.YtoghpjggcfnoeaaPx7
import Derived.Test.YtoghpjggcfnoeaaPx19
import Derived.Test.YtoghpjggcfnoeaaLSqrt
namespace Go.Proofs.Ytoghpjggcfnoeaa.LF
set_option linter.unusedVariables false
set_option linter.unusedSimpArgs false
open Go.RowKit Go.Proofs.YtoghpjggcfnoeaaW.PrintWords Go.Proofs.YtoghpjggcfnoeaaW.PrintLast Go.Proofs.Ytoghpjggcfnoeaa.P Go.Proofs.Ytoghpjggcfnoeaa.LB Go.Proofs.Ytoghpjggcfnoeaa.NT
theorem pow_lt44 {n : Nat} (h : n ≤ 43) : (2 : Int) ^ n ≤ 8796093022208 ∧ (0 : Int) < 2 ^ n := by
  have h1 : (2 : Nat) ^ n ≤ 2 ^ 43 := Nat.pow_le_pow_right (by omega) h
  have h2 : (0 : Nat) < 2 ^ n := Nat.pow_pos (by omega)
  have e : (2 : Int) ^ n = ((2 ^ n : Nat) : Int) := by rw [Int.natCast_pow]; rfl
  rw [e]; omega
theorem root_le {n s : Int} (h : IsRoot n s) : s ≤ n := by
  obtain ⟨h0, h1, _⟩ := h
  by_cases c : s = 0
  · subst c; omega
  · have : s * 1 ≤ s * s := Int.mul_le_mul_of_nonneg_left (by omega) h0
    omega
theorem value_root (g : Int) (h : 1 ≤ g ∧ g ≤ 44) (k : Nat) (hk : 40 < k) : ∃ s, band_Value.f k g = some s ∧ IsRoot (2 ^ (g - 1).toNat) s := by
  have hp := pow_lt44 (n := (g - 1).toNat) (by omega)
  obtain ⟨s, h1, h2⟩ := sqrt_eq (n := 2 ^ (g - 1).toNat) (by omega) (by omega) k (by omega)
  have h3 := root_le h2
  refine ⟨s, ?_, h2⟩
  unfold band_Value.f
  rw [if_neg (by omega), if_neg (by omega), w64 (x := g - 1) (by omega) (by omega), if_pos (by omega)]
  have e : shl .u64 1 (g - 1) = 2 ^ (g - 1).toNat := by
    unfold shl
    rw [Nat.min_eq_left (by simp [IntKind.bits]; omega), Int.one_mul, u64w (by omega) (by omega)]
  rw [e, h1]
  simp only [Option.bind_some]
  rw [w64 (by have := h2.1; omega) (by omega)]
theorem refValue_loop (g : Int) (h : 1 ≤ g ∧ g ≤ 44) (d : Nat) : ∀ (i : Int) (k : Nat), 1 ≤ i → i + d = g → d + 40 < k → psalteryref10_Value.l0 k g (2 ^ (i - 1).toNat) i = psalteryref10_Value.l0 (k - d) g (2 ^ (g - 1).toNat) g := by
  induction d with
  | zero => intro i k h0 h1 hk; rw [show i = g by omega]; rfl
  | succ d ih =>
    intro i k h0 h1 hk
    obtain ⟨k, rfl⟩ : ∃ j, k = j + 1 := ⟨k - 1, by omega⟩
    have hp := pow_lt44 (n := (i - 1).toNat) (by omega)
    have e := ih (i + 1) k (by omega) (by omega) (by omega)
    have e2 : (2 : Int) ^ (i + 1 - 1).toNat = 2 ^ (i - 1).toNat * 2 := by
      rw [show (i + 1 - 1).toNat = (i - 1).toNat + 1 by omega, Int.pow_succ]
    conv => lhs; unfold psalteryref10_Value.l0
    rw [if_pos (by omega), u64w (by omega) (by omega), w64 (by omega) (by omega), ← e2, e, show k + 1 - (d + 1) = k - d by omega]
theorem refValue_root (g : Int) (h : 1 ≤ g ∧ g ≤ 44) (k : Nat) (hk : 100 < k) : ∃ s, psalteryref10_Value.f k g = some s ∧ IsRoot (2 ^ (g - 1).toNat) s := by
  obtain ⟨k, rfl⟩ : ∃ j, k = j + 1 := ⟨k - 1, by omega⟩
  have hp := pow_lt44 (n := (g - 1).toNat) (by omega)
  obtain ⟨m, hm⟩ : ∃ m, k - (g - 1).toNat = m + 1 := ⟨k - (g - 1).toNat - 1, by omega⟩
  obtain ⟨s, h1, h2⟩ := refSqrt_eq (n := 2 ^ (g - 1).toNat) (by omega) (by omega) m (by omega)
  have h3 := root_le h2
  refine ⟨s, ?_, h2⟩
  unfold psalteryref10_Value.f
  rw [if_neg (by omega), decide_eq_false (by omega)]
  simp only [psalteryref10_Value.j0, Bool.false_eq_true, if_false]
  have e := refValue_loop g h (g - 1).toNat 1 k (by omega) (by omega) (by omega)
  rw [show ((1 : Int) - 1).toNat = 0 from rfl, Int.pow_zero, hm] at e
  rw [e]
  simp only [psalteryref10_Value.l0]
  rw [if_neg (by omega), h1]
  simp only [Option.bind_some]
  rw [w64 (by have := h2.1; omega) (by omega)]
/-- a gain's value -/
def val (g : Int) : Int := (band_Value.f 100 g).getD 0
theorem val_eq (g : Int) (k : Nat) (hk : 40 < k) : band_Value.f k g = some (val g) := by
  unfold val
  by_cases h : 1 ≤ g ∧ g ≤ 44
  · obtain ⟨s, h1, h2⟩ := value_root g h k hk
    obtain ⟨t, h3, h4⟩ := value_root g h 100 (by omega)
    rw [h1, h3, root_unique h2 h4]; rfl
  · unfold band_Value.f
    by_cases c : g < 1
    · rw [if_pos c, if_pos c]; rfl
    · rw [if_neg c, if_neg c, if_pos (by omega), if_pos (by omega)]; rfl
theorem refVal_eq (g : Int) (k : Nat) (hk : 100 < k) : psalteryref10_Value.f k g = some (val g) := by
  by_cases h : 1 ≤ g ∧ g ≤ 44
  · obtain ⟨s, h1, h2⟩ := refValue_root g h k hk
    obtain ⟨t, h3, h4⟩ := value_root g h 101 (by omega)
    rw [val_eq g 101 (by omega)] at h3
    rw [h1, Option.some.inj h3, root_unique h2 h4]
  · have e := val_eq g 100 (by omega)
    have z : band_Value.f 100 g = some 0 := by
      unfold band_Value.f
      by_cases c : g < 1
      · rw [if_pos c]
      · rw [if_neg c, if_pos (by omega)]
    rw [z] at e
    obtain ⟨k, rfl⟩ : ∃ j, k = j + 1 := ⟨k - 1, by omega⟩
    rw [← e]
    unfold psalteryref10_Value.f
    simp only [psalteryref10_Value.j0, if_true]
    by_cases c : g < 1
    · rw [if_pos c]
    · rw [if_neg c, decide_eq_true (by omega), if_pos rfl]
theorem val_zero (g : Int) (h : g < 1) : val g = 0 := by unfold val band_Value.f; rw [if_pos h]; rfl
theorem val_nonneg (g : Int) : 0 ≤ val g := by
  by_cases h : 1 ≤ g ∧ g ≤ 44
  · obtain ⟨t, h3, h4⟩ := value_root g h 101 (by omega)
    rw [val_eq g 101 (by omega)] at h3
    rw [Option.some.inj h3]; exact h4.1
  · unfold val band_Value.f
    by_cases c : g < 1
    · rw [if_pos c]; exact Int.le_refl _
    · rw [if_neg c, if_pos (by omega)]; exact Int.le_refl _
theorem val_mono {g h : Int} (h0 : g ≤ h) (h1 : h ≤ 44) : val g ≤ val h := by
  by_cases c : g < 1
  · rw [val_zero g c]; exact val_nonneg h
  obtain ⟨s, a1, a2⟩ := value_root g (by omega) 101 (by omega)
  obtain ⟨t, b1, b2⟩ := value_root h (by omega) 101 (by omega)
  rw [val_eq g 101 (by omega)] at a1
  rw [val_eq h 101 (by omega)] at b1
  rw [Option.some.inj a1, Option.some.inj b1]
  refine root_mono a2 b2 ?_
  have : (2 : Nat) ^ (g - 1).toNat ≤ 2 ^ (h - 1).toNat := Nat.pow_le_pow_right (by omega) (by omega)
  have e : ∀ n : Nat, (2 : Int) ^ n = ((2 ^ n : Nat) : Int) := fun n => by rw [Int.natCast_pow]; rfl
  rw [e, e]; omega
end Go.Proofs.Ytoghpjggcfnoeaa.LF
