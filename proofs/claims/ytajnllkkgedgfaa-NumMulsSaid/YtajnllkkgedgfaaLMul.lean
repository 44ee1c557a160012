/- What num.Mul, and the document's, compute: the two halves of a long product. -/
import Derived.Test.YtajnllkkgedgfaaPx26
import Derived.Test.YtajnllkkgedgfaaPx35
import Derived.Test.YtajnllkkgedgfaaLNum
namespace Go.Proofs.Ytajnllkkgedgfaa.LB
set_option linter.unusedVariables false
set_option linter.unusedSimpArgs false
open Go.RowKit Go.Proofs.YtajnllkkgedgfaaW.PrintWords Go.Proofs.YtajnllkkgedgfaaW.PrintLast Go.Proofs.Ytajnllkkgedgfaa.P Go.Proofs.Ytajnllkkgedgfaa.NT
theorem mul_half {x y : Int} (hx : 0 ≤ x ∧ x < 4294967296) (hy : 0 ≤ y ∧ y < 4294967296) : 0 ≤ x * y ∧ x * y ≤ 18446744065119617025 := by
  refine ⟨Int.mul_nonneg hx.1 hy.1, ?_⟩
  have := Int.mul_le_mul (show x ≤ 4294967295 by omega) (show y ≤ 4294967295 by omega) hy.1 (by omega)
  omega
theorem mul_parts (a b : Int) : a * b = (a / 4294967296) * (b / 4294967296) * 18446744073709551616 + ((a / 4294967296) * (b % 4294967296) + (a % 4294967296) * (b / 4294967296)) * 4294967296 + (a % 4294967296) * (b % 4294967296) := by
  have ha := Int.mul_ediv_add_emod a 4294967296
  have hb := Int.mul_ediv_add_emod b 4294967296
  generalize a / 4294967296 = x at *
  generalize a % 4294967296 = y at *
  generalize b / 4294967296 = u at *
  generalize b % 4294967296 = v at *
  subst ha hb
  grind
theorem mul_eq {a b : Int} (ha : 0 ≤ a ∧ a < 18446744073709551616) (hb : 0 ≤ b ∧ b < 18446744073709551616) : ∃ h l, num_Mul.f a b = some (h, l) ∧ h * 18446744073709551616 + l = a * b ∧ 0 ≤ l ∧ l < 18446744073709551616 ∧ 0 ≤ h := by
  refine ⟨_, _, rfl, ?_⟩
  have e := mul_parts a b
  have h0 := mul_half (x := a % 4294967296) (y := b % 4294967296) (by omega) (by omega)
  have h1 := mul_half (x := a / 4294967296) (y := b % 4294967296) (by omega) (by omega)
  have h2 := mul_half (x := a % 4294967296) (y := b / 4294967296) (by omega) (by omega)
  have h3 := mul_half (x := a / 4294967296) (y := b / 4294967296) (by omega) (by omega)
  have hab : a * b ≤ 18446744073709551615 * 18446744073709551615 := Int.mul_le_mul (by omega) (by omega) hb.1 (by omega)
  unfold num_Mul.high num_Mul.low num_Mul.mid num_Mul.p0 num_Mul.p1 num_Mul.p2 num_Mul.p3
  rw [and_low32 ha.1 ha.2, and_low32 hb.1 hb.2]
  generalize a % 4294967296 * (b % 4294967296) = p0 at *
  generalize a / 4294967296 * (b % 4294967296) = p1 at *
  generalize a % 4294967296 * (b / 4294967296) = p2 at *
  generalize a / 4294967296 * (b / 4294967296) = p3 at *
  generalize a * b = ab at *
  rw [u64w h0.1 (by omega), u64w h1.1 (by omega), u64w h2.1 (by omega), u64w h3.1 (by omega), and_low32 h1.1 (by omega), and_low32 h2.1 (by omega), and_low32 h0.1 (by omega)]
  rw [u64w (x := p0 / 4294967296 + p1 % 4294967296) (by omega) (by omega), u64w (x := p0 / 4294967296 + p1 % 4294967296 + p2 % 4294967296) (by omega) (by omega)]
  have hl : Go.bits .or .u64 (IntKind.u64.wrap ((p0 / 4294967296 + p1 % 4294967296 + p2 % 4294967296) * 4294967296)) (p0 % 4294967296) = IntKind.u64.wrap ((p0 / 4294967296 + p1 % 4294967296 + p2 % 4294967296) * 4294967296) + p0 % 4294967296 := by
    rw [u64_eq]
    refine or_join (i := 32) (by omega) (by omega) ?_ (by omega) ?_ (by omega)
    · simp only [Int.reducePow]; omega
    · simp only [Int.reducePow]; omega
  rw [hl]
  simp only [u64_eq]
  omega
theorem refMul_loop (a : Int) (ha : 0 ≤ a ∧ a < 18446744073709551616) (d : Nat) : ∀ (k : Nat) (H L ρ : Int), d ≤ 64 → 0 ≤ H → 0 ≤ L → L < 18446744073709551616 → 0 ≤ ρ → ρ < 2 ^ d →
    (H * 18446744073709551616 + L) * 2 ^ d + a * ρ < 340282366920938463463374607431768211456 → d < k →
    ∃ h l, psalteryref03_Mul.l0 k a (ρ * 2 ^ (64 - d)) H L (64 - d) = some (h, l) ∧ h * 18446744073709551616 + l = (H * 18446744073709551616 + L) * 2 ^ d + a * ρ ∧ 0 ≤ l ∧ l < 18446744073709551616 ∧ 0 ≤ h := by
  induction d with
  | zero =>
    intro k H L ρ hd hH hL hL' hr hr' hv hk
    obtain ⟨k, rfl⟩ : ∃ m, k = m + 1 := ⟨k - 1, by omega⟩
    simp only [Int.pow_zero] at hr'
    have : ρ = 0 := by omega
    subst this
    simp only [psalteryref03_Mul.l0]
    exact ⟨H, L, by rw [if_neg (by omega)], by simp, hL, hL', hH⟩
  | succ d ih =>
    intro k H L ρ hd hH hL hL' hr hr' hv hk
    obtain ⟨k, rfl⟩ : ∃ m, k = m + 1 := ⟨k - 1, by omega⟩
    simp only [psalteryref03_Mul.l0]
    have hq : (0 : Int) < 2 ^ d := Int.pow_pos (by omega)
    have hs : (0 : Int) < 2 ^ (63 - d) := Int.pow_pos (by omega)
    have hp := pow_succ' d
    have hqs : (2 : Int) ^ d * 2 ^ (63 - d) = 9223372036854775808 := by rw [← Int.pow_add, show d + (63 - d) = 63 by omega]; rfl
    have e1 : 64 - (d + 1) = 63 - d := by omega
    have e2 : (2 : Int) ^ (64 - d) = 2 * 2 ^ (63 - d) := by rw [show 64 - d = (63 - d) + 1 by omega, pow_succ']
    rw [e1]
    rw [hp] at hr' hv
    -- the top bit
    obtain ⟨β, ρ', hβ, hρ, hρ0, hρ1⟩ : ∃ β ρ' : Int, (β = 0 ∨ β = 1) ∧ ρ = β * 2 ^ d + ρ' ∧ 0 ≤ ρ' ∧ ρ' < 2 ^ d := by
      by_cases h : ρ < 2 ^ d
      · exact ⟨0, ρ, .inl rfl, by omega, hr, h⟩
      · exact ⟨1, ρ - 2 ^ d, .inr rfl, by omega, by omega, by omega⟩
    have hρs0 : 0 ≤ ρ' * 2 ^ (63 - d) := Int.mul_nonneg hρ0 (by omega)
    have hρs1 : ρ' * 2 ^ (63 - d) < 9223372036854775808 := by rw [← hqs]; exact Int.mul_lt_mul_of_pos_right hρ1 hs
    have hx : ρ * 2 ^ (63 - d) = β * 9223372036854775808 + ρ' * 2 ^ (63 - d) := by rw [hρ, Int.add_mul, Int.mul_assoc, hqs]
    have hx2 : ρ' * 2 ^ (64 - d) = ρ' * 2 ^ (63 - d) * 2 := by rw [e2, Int.mul_left_comm, Int.mul_comm]
    have haρ : a * ρ = a * β * 2 ^ d + a * ρ' := by rw [hρ, Int.mul_add, Int.mul_assoc]
    have haρ0 : 0 ≤ a * ρ' := Int.mul_nonneg ha.1 hρ0
    generalize hV : H * 18446744073709551616 + L = V at *
    have hVv : V * (2 * 2 ^ d) + a * ρ = (2 * V + a * β) * 2 ^ d + a * ρ' := by rw [haρ]; grind
    have haβ : a * β = 0 ∨ a * β = a := by rcases hβ with e | e <;> subst e <;> simp
    have hV2 : 2 * V + a * β < 340282366920938463463374607431768211456 := by
      have h1 : (2 * V + a * β) * 1 ≤ (2 * V + a * β) * 2 ^ d := Int.mul_le_mul_of_nonneg_left (by omega) (by omega)
      omega
    rw [hx, hp, hVv]
    rw [hVv] at hv
    rw [tdiv_nn _ (by omega), tdiv_nn _ hL, u64w (x := L / 9223372036854775808) (by omega) (by omega)]
    have fin : ∀ H' L' : Int, H' * 18446744073709551616 + L' = 2 * V + a * β → 0 ≤ L' → L' < 18446744073709551616 →
        ∃ h l, psalteryref03_Mul.l0 k a (IntKind.u64.wrap ((β * 9223372036854775808 + ρ' * 2 ^ (63 - d)) * 2)) H' L' (wrap64 (((64 : Int) - ((d + 1 : Nat) : Int)) + 1)) = some (h, l) ∧ h * 18446744073709551616 + l = (2 * V + a * β) * 2 ^ d + a * ρ' ∧ 0 ≤ l ∧ l < 18446744073709551616 ∧ 0 ≤ h := by
      intro H' L' hHL hL0 hL1
      rw [w64 (by omega) (by omega), show ((64 : Int) - ((d + 1 : Nat) : Int)) + 1 = 64 - (d : Int) by omega, u64_eq, show ((β * 9223372036854775808 + ρ' * 2 ^ (63 - d)) * 2) % 18446744073709551616 = ρ' * 2 ^ (64 - d) by omega]
      rw [← hHL]
      exact ih k H' L' ρ' (by omega) (by omega) hL0 hL1 hρ0 hρ1 (by rw [hHL]; exact hv) (by omega)
    rw [if_pos (by omega)]
    rcases hβ with hb | hb
    · subst hb
      rw [Int.mul_zero, Int.add_zero] at *
      rw [u64w (x := (0 * 9223372036854775808 + ρ' * 2 ^ (63 - d)) / 9223372036854775808) (by omega) (by omega), if_neg (by omega)]
      simp only [u64_eq] at *
      exact fin _ _ (by omega) (by omega) (by omega)
    · subst hb
      rw [Int.mul_one] at *
      rw [u64w (x := (1 * 9223372036854775808 + ρ' * 2 ^ (63 - d)) / 9223372036854775808) (by omega) (by omega), if_pos (by omega)]
      simp only [u64_eq] at *
      split
      · exact fin _ _ (by omega) (by omega) (by omega)
      · exact fin _ _ (by omega) (by omega) (by omega)
theorem refMul_eq {a b : Int} (ha : 0 ≤ a ∧ a < 18446744073709551616) (hb : 0 ≤ b ∧ b < 18446744073709551616) (k : Nat) (hk : 64 < k) : ∃ h l, psalteryref03_Mul.f k a b = some (h, l) ∧ h * 18446744073709551616 + l = a * b ∧ 0 ≤ l ∧ l < 18446744073709551616 ∧ 0 ≤ h := by
  have hab : a * b ≤ 18446744073709551615 * 18446744073709551615 := Int.mul_le_mul (by omega) (by omega) hb.1 (by omega)
  have := refMul_loop a ha 64 k 0 0 b (by omega) (by omega) (by omega) (by omega) hb.1 (by simpa using hb.2) (by omega) hk
  unfold psalteryref03_Mul.f
  simpa using this
end Go.Proofs.Ytajnllkkgedgfaa.LB
