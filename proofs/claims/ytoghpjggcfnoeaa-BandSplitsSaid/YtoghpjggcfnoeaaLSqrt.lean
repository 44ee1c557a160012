/- What num.Sqrt and its reference compute: the root. -/
import Derived.Test.YtoghpjggcfnoeaaPx6
import Derived.Test.YtoghpjggcfnoeaaPx18
import Derived.Test.YtoghpjggcfnoeaaLBase
import Derived.Test.YtoghpjggcfnoeaaThNum
namespace Go.Proofs.Ytoghpjggcfnoeaa.LB
set_option linter.unusedVariables false
set_option linter.unusedSimpArgs false
open Go.RowKit Go.Proofs.YtoghpjggcfnoeaaW.PrintWords Go.Proofs.YtoghpjggcfnoeaaW.PrintLast Go.Proofs.Ytoghpjggcfnoeaa.P Go.Proofs.Ytoghpjggcfnoeaa.NT
theorem pow_succ' (m : Nat) : (2 : Int) ^ (m + 1) = 2 * 2 ^ m := by rw [Int.pow_succ, Int.mul_comm]
theorem sqrt_loop (n : Int) (h0 : 0 ≤ n) (hn : n < 18446744073709551616) (m : Nat) : ∀ (k : Nat) (r a : Int), r = a * 2 ^ m → 0 ≤ a → r * r ≤ n → n < (r + 2 ^ m) * (r + 2 ^ m) → r + 2 ^ m ≤ 4294967296 → m < k →
    ∃ s, num_Sqrt.l0 k n r (if m = 0 then 0 else 2 ^ (m - 1)) = some s ∧ IsRoot n s := by
  induction m with
  | zero =>
    intro k r a hr ha h1 h2 h3 hk
    obtain ⟨k, rfl⟩ : ∃ m, k = m + 1 := ⟨k - 1, by omega⟩
    simp only [num_Sqrt.l0]
    exact ⟨r, by rw [if_neg (by simp)], by simp at hr; omega, h1, by simpa using h2⟩
  | succ m ih =>
    intro k r a hr ha h1 h2 h3 hk
    obtain ⟨k, rfl⟩ : ∃ m, k = m + 1 := ⟨k - 1, by omega⟩
    simp only [num_Sqrt.l0]
    have hq : (0 : Int) < 2 ^ m := Int.pow_pos (by omega)
    have hp := pow_succ' m
    rw [hp] at hr h2 h3
    have hr' : r = (2 * a) * 2 ^ m := by rw [hr, Int.mul_left_comm, ← Int.mul_assoc]
    have hr0 : 0 ≤ r := by rw [hr']; exact Int.mul_nonneg (by omega) (by omega)
    have hor : Go.bits .or .u64 r (2 ^ m) = r + 2 ^ m := by
      refine or_join (i := m + 1) hr0 (by omega) ?_ (by omega) (by omega) (by omega)
      rw [hp, hr]; exact Int.mul_emod_left _ _
    rw [if_neg (Nat.succ_ne_zero m), Nat.add_sub_cancel, if_pos hq, hor, if_neg (by omega), tdiv_nn _ h0]
    have hd0 : 0 ≤ n / (r + 2 ^ m) := Int.ediv_nonneg h0 (by omega)
    have hd1 : n / (r + 2 ^ m) ≤ n := Int.ediv_le_self _ h0
    have hbit : (2 : Int) ^ m / 2 = if m = 0 then 0 else 2 ^ (m - 1) := by
      cases m with
      | zero => simp
      | succ m => rw [if_neg (Nat.succ_ne_zero m), pow_succ' m, Nat.add_sub_cancel]; omega
    rw [u64w hd0 (by omega), hbit]
    by_cases hc : r + 2 ^ m ≤ n / (r + 2 ^ m)
    · rw [if_pos hc]
      rw [le_div_iff (by omega)] at hc
      refine ih k (r + 2 ^ m) (2 * a + 1) (by rw [Int.add_mul, ← hr', Int.one_mul]) (by omega) hc ?_ (by omega) (by omega)
      rwa [show r + 2 ^ m + 2 ^ m = r + 2 * 2 ^ m by omega]
    · rw [if_neg hc]
      rw [le_div_iff (by omega)] at hc
      exact ih k r (2 * a) hr' (by omega) h1 (by omega) (by omega) (by omega)
theorem sqrt_eq {n : Int} (h0 : 0 ≤ n) (hn : n < 18446744073709551616) (k : Nat) (hk : 32 < k) : ∃ s, num_Sqrt.f k n = some s ∧ IsRoot n s := by
  have := sqrt_loop n h0 hn 32 k 0 0 (by simp) (by omega) (by omega) (by simp; omega) (by simp) hk
  unfold num_Sqrt.f
  simpa using this
theorem refSqrt_loop (n : Int) (hn : n < 18446744073709551616) (m : Nat) : ∀ (k : Nat) (low high : Int), 0 ≤ low → low < high → high ≤ 4294967296 → low * low ≤ n → n < high * high → high - low ≤ 2 ^ m → m < k →
    ∃ s, psalteryref03_Sqrt.l0 k n low high = some s ∧ IsRoot n s := by
  have stop : ∀ (low high : Int), 0 ≤ low → low < high → ¬ high - low > 1 → low * low ≤ n → n < high * high → IsRoot n low := by
    intro low high h0 h1 h2 h3 h4
    have : high = low + 1 := by omega
    subst this; exact ⟨h0, h3, h4⟩
  induction m with
  | zero =>
    intro k low high h0 h1 h2 h3 h4 h5 hk
    obtain ⟨k, rfl⟩ : ∃ m, k = m + 1 := ⟨k - 1, by omega⟩
    simp only [psalteryref03_Sqrt.l0]
    simp only [Int.pow_zero] at h5
    rw [u64w (x := high - low) (by omega) (by omega), if_neg (by omega)]
    exact ⟨low, rfl, stop low high h0 h1 (by omega) h3 h4⟩
  | succ m ih =>
    intro k low high h0 h1 h2 h3 h4 h5 hk
    obtain ⟨k, rfl⟩ : ∃ m, k = m + 1 := ⟨k - 1, by omega⟩
    simp only [psalteryref03_Sqrt.l0]
    rw [u64w (x := high - low) (by omega) (by omega)]
    by_cases hc : high - low > 1
    · have hp := pow_succ' m
      rw [if_pos hc, u64w (x := low + high) (by omega) (by omega), tdiv_nn 2 (by omega), u64w (x := (low + high) / 2) (by omega) (by omega)]
      have hmm : (low + high) / 2 * ((low + high) / 2) ≤ 4294967295 * 4294967295 := Int.mul_le_mul (by omega) (by omega) (by omega) (by omega)
      have hm0 : 0 ≤ (low + high) / 2 * ((low + high) / 2) := Int.mul_nonneg (by omega) (by omega)
      rw [u64w hm0 (by omega)]
      by_cases hle : (low + high) / 2 * ((low + high) / 2) ≤ n
      · rw [if_pos hle]; exact ih k _ high (by omega) (by omega) h2 hle h4 (by omega) (by omega)
      · rw [if_neg hle]; exact ih k low _ h0 (by omega) (by omega) h3 (by omega) (by omega) (by omega)
    · rw [if_neg hc]; exact ⟨low, rfl, stop low high h0 h1 hc h3 h4⟩
theorem refSqrt_eq {n : Int} (h0 : 0 ≤ n) (hn : n < 18446744073709551616) (k : Nat) (hk : 32 < k) : ∃ s, psalteryref03_Sqrt.f k n = some s ∧ IsRoot n s :=
  refSqrt_loop n hn 32 k 0 4294967296 (by omega) (by omega) (by omega) (by omega) (by omega) (by simp) hk
end Go.Proofs.Ytoghpjggcfnoeaa.LB
