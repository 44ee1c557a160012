/- What num.Div and its reference compute. -/
import Derived.Test.YtfipeildlleoeaaPx5
import Derived.Test.YtfipeildlleoeaaPx16
import Derived.Test.YtfipeildlleoeaaLBase
import Derived.Test.YtfipeildlleoeaaThNum
namespace Go.Proofs.Ytfipeildlleoeaa.LB
set_option linter.unusedVariables false
set_option linter.unusedSimpArgs false
open Go.RowKit Go.Proofs.YtfipeildlleoeaaW.PrintWords Go.Proofs.YtfipeildlleoeaaW.PrintLast Go.Proofs.Ytfipeildlleoeaa.P Go.Proofs.Ytfipeildlleoeaa.NT
theorem size_eq {a : Int} (ha : -9223372036854775808 ≤ a ∧ a ≤ 9223372036854775807) : num_size.f a = some (if a < 0 then -a else a) := by
  unfold num_size.f
  simp only [u64_eq]
  split <;> (congr 1; omega)
theorem div_eq {a b : Int} (ha : -9223372036854775808 ≤ a ∧ a ≤ 9223372036854775807) (hb : b ≤ 9223372036854775807) : num_Div.f a b = some (if b < 1 then (0, 1) else (near a b, 0)) := by
  unfold num_Div.f
  by_cases h1 : b < 1
  · rw [if_pos h1, if_pos h1]
  rw [if_neg h1, if_neg h1, size_eq ha]
  simp only [Option.bind_some]
  rw [u64w (x := b) (by omega) (by omega), if_neg (by omega)]
  have fin : ∀ n : Int, 0 ≤ n → n ≤ 9223372036854775808 → ∃ q, q = near n b ∧ 0 ≤ q ∧ q ≤ n ∧ (if n % b ≥ b - n % b then n / b + 1 else n / b) = q := by
    intro n h0 _
    have := (near_bound (a := n) (b := b) (by omega)).1 h0
    exact ⟨near n b, rfl, this.1, this.2, (near_pos (by omega) h0).symm⟩
  have hn0 : 0 ≤ (if a < 0 then -a else a) := by split <;> omega
  have hn1 : (if a < 0 then -a else a) ≤ 9223372036854775808 := by split <;> omega
  have hn2 : ¬ a < 0 → (if a < 0 then -a else a) ≤ 9223372036854775807 := by intro h; rw [if_neg h]; omega
  have hs : near a b = if a < 0 then - near (if a < 0 then -a else a) b else near (if a < 0 then -a else a) b := by
    split
    · exact near_neg (by assumption)
    · rfl
  rw [hs]
  generalize (if a < 0 then -a else a) = n at *
  obtain ⟨q, hq, q0, q1, q2⟩ := fin n hn0 hn1
  have m0 := Int.emod_nonneg n (show b ≠ 0 by omega)
  have m1 := Int.emod_lt_of_pos n (show 0 < b by omega)
  have d0 : 0 ≤ n / b := Int.ediv_nonneg hn0 (by omega)
  have d1 : n / b ≤ n := Int.ediv_le_self _ hn0
  rw [tmod_nn b hn0, tdiv_nn b hn0, u64w (x := b - n % b) (by omega) (by omega), u64w (x := n / b) d0 (by omega), ← hq]
  by_cases hc : n % b ≥ b - n % b
  · rw [if_pos hc] at q2 ⊢
    rw [q2]
    simp only [u64_eq, wrap64_eq]
    split
    · congr 2; omega
    · have := hn2 (by assumption); congr 2; omega
  · rw [if_neg hc] at q2 ⊢
    rw [q2]
    simp only [u64_eq, wrap64_eq]
    split
    · congr 2; omega
    · have := hn2 (by assumption); congr 2; omega
theorem tdiv_neg {a b : Int} (ha : a < 0) : Int.tdiv a b = -((-a) / b) := by
  have := tdiv_nn (a := -a) b (by omega)
  rw [Int.neg_tdiv] at this; omega
theorem refDiv_eq {a b : Int} (ha : -9223372036854775808 ≤ a ∧ a ≤ 9223372036854775807) (hb : 1 ≤ b) (hb' : b ≤ 9223372036854775807) (k : Nat) (hk : 0 < k) : psalteryref03_Div.f k a b = some (near a b) := by
  obtain ⟨k, rfl⟩ : ∃ m, k = m + 1 := ⟨k - 1, by omega⟩
  unfold psalteryref03_Div.f
  rw [if_neg (by omega)]
  simp only [psalteryref03_Div.j0]
  by_cases h0 : 0 ≤ a
  · have e1 := Int.mul_ediv_add_emod a b
    have m0 := Int.emod_nonneg a (show b ≠ 0 by omega)
    have m1 := Int.emod_lt_of_pos a (show 0 < b by omega)
    have d0 : 0 ≤ a / b := Int.ediv_nonneg h0 (by omega)
    have d1 : a / b ≤ a := Int.ediv_le_self _ h0
    have hq := near_pos (b := b) (by omega) h0
    rw [Int.mul_comm] at e1
    have hm : 0 ≤ a / b * b := Int.mul_nonneg d0 (by omega)
    have hnb := (near_bound (a := a) (b := b) (by omega)).1 h0
    rw [tdiv_nn b h0, w64 (x := a / b) (by omega) (by omega), w64 (x := a / b * b) (by omega) (by omega), w64 (x := a - a / b * b) (by omega) (by omega), show a - a / b * b = a % b by omega]
    rw [if_pos (by omega), w64 (x := b - a % b) (by omega) (by omega)]
    by_cases hc : a % b ≥ b - a % b
    · rw [if_pos hc] at hq
      rw [decide_eq_true hc, if_pos rfl, w64 (by omega) (by omega), hq]
    · rw [if_neg hc] at hq
      rw [decide_eq_false hc, if_neg (by decide), if_neg (by omega), hq]
  · have e1 := Int.mul_ediv_add_emod (-a) b
    have m0 := Int.emod_nonneg (-a) (show b ≠ 0 by omega)
    have m1 := Int.emod_lt_of_pos (-a) (show 0 < b by omega)
    have d0 : 0 ≤ (-a) / b := Int.ediv_nonneg (by omega) (by omega)
    have d1 : (-a) / b ≤ -a := Int.ediv_le_self _ (by omega)
    have hq := near_pos (a := -a) (b := b) (by omega) (by omega)
    have hs := near_neg (a := a) (b := b) (by omega)
    rw [Int.mul_comm] at e1
    have hm : 0 ≤ (-a) / b * b := Int.mul_nonneg d0 (by omega)
    have hnb := (near_bound (a := a) (b := b) (by omega)).2 (by omega)
    have en : -((-a) / b) * b = -((-a) / b * b) := Int.neg_mul _ _
    rw [tdiv_neg (by omega), w64 (x := -((-a) / b)) (by omega) (by omega), en, w64 (x := -((-a) / b * b)) (by omega) (by omega), w64 (x := a - -((-a) / b * b)) (by omega) (by omega), show a - -((-a) / b * b) = -((-a) % b) by omega]
    by_cases hz : -((-a) % b) ≥ 0
    · rw [if_pos hz, w64 (x := b - -((-a) % b)) (by omega) (by omega), decide_eq_false (by omega), if_neg (by decide), if_neg (by omega)]
      rw [if_neg (by omega)] at hq
      congr 1; omega
    · rw [if_neg hz, if_neg (by decide), if_pos (by omega), w64 (x := - -((-a) % b)) (by omega) (by omega), w64 (x := b + -((-a) % b)) (by omega) (by omega)]
      by_cases hc : (-a) % b ≥ b - (-a) % b
      · rw [if_pos hc] at hq
        rw [if_pos (by omega), w64 (by omega) (by omega)]; congr 1; omega
      · rw [if_neg hc] at hq
        rw [if_neg (by omega)]; congr 1; omega
end Go.Proofs.Ytfipeildlleoeaa.LB
