/- What num.Log2 computes. -/
import Derived.Test.YtoghpjggcfnoeaaPx36
import Derived.Test.YtoghpjggcfnoeaaLSqrt
namespace Go.Proofs.Ytoghpjggcfnoeaa.LB
set_option linter.unusedVariables false
set_option linter.unusedSimpArgs false
open Go.RowKit Go.Proofs.YtoghpjggcfnoeaaW.PrintWords Go.Proofs.YtoghpjggcfnoeaaW.PrintLast Go.Proofs.Ytoghpjggcfnoeaa.P Go.Proofs.Ytoghpjggcfnoeaa.NT
theorem log_loop (m : Nat) : ∀ (k : Nat) (n c : Int), 0 ≤ n → n < 2 ^ m → -1 ≤ c → c + m ≤ 1000 → m < k → num_Log2.l0 k n c = some (c + 1 + lg n.toNat) := by
  induction m with
  | zero =>
    intro k n c h0 h1 h2 h3 hk
    obtain ⟨k, rfl⟩ : ∃ m, k = m + 1 := ⟨k - 1, by omega⟩
    simp only [num_Log2.l0]
    simp only [Int.pow_zero] at h1
    rw [if_neg (by omega), show n.toNat = 0 by omega, lg_zero]; congr 1; omega
  | succ m ih =>
    intro k n c h0 h1 h2 h3 hk
    obtain ⟨k, rfl⟩ : ∃ m, k = m + 1 := ⟨k - 1, by omega⟩
    simp only [num_Log2.l0]
    rw [pow_succ'] at h1
    by_cases h : n > 0
    · rw [if_pos h, w64 (by omega) (by omega), ih k (n / 2) (c + 1) (by omega) (by omega) (by omega) (by omega) (by omega), lg_pos (n := n.toNat) (by omega), show (n / 2).toNat = n.toNat / 2 by omega]
      congr 1; omega
    · rw [if_neg h, show n.toNat = 0 by omega, lg_zero]; congr 1; omega
theorem log_eq {n : Int} (h0 : 0 ≤ n) (hn : n < 18446744073709551616) (k : Nat) (hk : 64 < k) : num_Log2.f k n = some (lg n.toNat) := by
  unfold num_Log2.f
  rw [log_loop 64 k n (-1) h0 (by simpa using hn) (by omega) (by omega) hk]; congr 1; omega
theorem lg_upper (m : Nat) : ∀ n : Nat, n < 2 ^ m → lg n < m := by
  induction m with
  | zero => intro n h; simp at h; subst h; rw [lg_zero]; omega
  | succ m ih =>
    intro n h
    by_cases e : n = 0
    · subst e; rw [lg_zero]; omega
    · rw [lg_pos (by omega)]; rw [Nat.pow_succ] at h; have := ih (n / 2) (by omega); omega
end Go.Proofs.Ytoghpjggcfnoeaa.LB
