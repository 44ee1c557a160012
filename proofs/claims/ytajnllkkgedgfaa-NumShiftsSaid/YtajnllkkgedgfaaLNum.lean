/- What the functions of package num, and of the document's layer 3, compute: roots, logarithms, long products, divisions to the nearest, shifts. -/
import Derived.Test.YtajnllkkgedgfaaPx23
import Derived.Test.YtajnllkkgedgfaaPx25
import Derived.Test.YtajnllkkgedgfaaPx28
import Derived.Test.YtajnllkkgedgfaaPx29
import Derived.Test.YtajnllkkgedgfaaPx30
import Derived.Test.YtajnllkkgedgfaaPx24
import Derived.Test.YtajnllkkgedgfaaPx33
import Derived.Test.YtajnllkkgedgfaaPx37
import Derived.Test.YtajnllkkgedgfaaPx40
import Derived.Test.YtajnllkkgedgfaaPx41
import Derived.Test.YtajnllkkgedgfaaLBase
import Derived.Test.YtajnllkkgedgfaaThNum
namespace Go.Proofs.Ytajnllkkgedgfaa.LB
set_option linter.unusedVariables false
set_option linter.unusedSimpArgs false
open Go.RowKit Go.Proofs.YtajnllkkgedgfaaW.PrintWords Go.Proofs.YtajnllkkgedgfaaW.PrintLast Go.Proofs.Ytajnllkkgedgfaa.P Go.Proofs.Ytajnllkkgedgfaa.NT
theorem pow_succ' (m : Nat) : (2 : Int) ^ (m + 1) = 2 * 2 ^ m := by rw [Int.pow_succ, Int.mul_comm]
theorem sqrt_loop (n : Int) (h0 : 0 ≤ n) (hn : n < 18446744073709551616) (m : Nat) : ∀ (k : Nat) (r a : Int), r = a * 2 ^ m → 0 ≤ a → r * r ≤ n → n < (r + 2 ^ m) * (r + 2 ^ m) → r + 2 ^ m ≤ 4294967296 → m < k →
    ∃ s, num_Sqrt.l0 k n r (if m = 0 then 0 else 2 ^ (m - 1)) = some s ∧ IsRoot n s := by
  induction m with
  | zero =>
    intro k r a hr ha h1 h2 h3 hk
    obtain ⟨k, rfl⟩ : ∃ m, k = m + 1 := ⟨k - 1, by omega⟩
    simp only [num_Sqrt.l0]
    exact ⟨r, by rw [if_neg (by simp)], by simp at hr; omega, h1, by simpa using h2⟩
  | succ m ih =>
    intro k r a hr ha h1 h2 h3 hk
    obtain ⟨k, rfl⟩ : ∃ m, k = m + 1 := ⟨k - 1, by omega⟩
    simp only [num_Sqrt.l0]
    have hq : (0 : Int) < 2 ^ m := Int.pow_pos (by omega)
    have hp := pow_succ' m
    rw [hp] at hr h2 h3
    have hr' : r = (2 * a) * 2 ^ m := by rw [hr, Int.mul_left_comm, ← Int.mul_assoc]
    have hr0 : 0 ≤ r := by rw [hr']; exact Int.mul_nonneg (by omega) (by omega)
    have hor : Go.bits .or .u64 r (2 ^ m) = r + 2 ^ m := by
      refine or_join (i := m + 1) hr0 (by omega) ?_ (by omega) (by omega) (by omega)
      rw [hp, hr]; exact Int.mul_emod_left _ _
    rw [if_neg (Nat.succ_ne_zero m), Nat.add_sub_cancel, if_pos hq, hor, if_neg (by omega), tdiv_nn _ h0]
    have hd0 : 0 ≤ n / (r + 2 ^ m) := Int.ediv_nonneg h0 (by omega)
    have hd1 : n / (r + 2 ^ m) ≤ n := Int.ediv_le_self _ h0
    have hbit : (2 : Int) ^ m / 2 = if m = 0 then 0 else 2 ^ (m - 1) := by
      cases m with
      | zero => simp
      | succ m => rw [if_neg (Nat.succ_ne_zero m), pow_succ' m, Nat.add_sub_cancel]; omega
    rw [u64w hd0 (by omega), hbit]
    by_cases hc : r + 2 ^ m ≤ n / (r + 2 ^ m)
    · rw [if_pos hc]
      rw [le_div_iff (by omega)] at hc
      refine ih k (r + 2 ^ m) (2 * a + 1) (by rw [Int.add_mul, ← hr', Int.one_mul]) (by omega) hc ?_ (by omega) (by omega)
      rwa [show r + 2 ^ m + 2 ^ m = r + 2 * 2 ^ m by omega]
    · rw [if_neg hc]
      rw [le_div_iff (by omega)] at hc
      exact ih k r (2 * a) hr' (by omega) h1 (by omega) (by omega) (by omega)
theorem sqrt_eq {n : Int} (h0 : 0 ≤ n) (hn : n < 18446744073709551616) (k : Nat) (hk : 32 < k) : ∃ s, num_Sqrt.f k n = some s ∧ IsRoot n s := by
  have := sqrt_loop n h0 hn 32 k 0 0 (by simp) (by omega) (by omega) (by simp; omega) (by simp) hk
  unfold num_Sqrt.f
  simpa using this
theorem refSqrt_loop (n : Int) (hn : n < 18446744073709551616) (m : Nat) : ∀ (k : Nat) (low high : Int), 0 ≤ low → low < high → high ≤ 4294967296 → low * low ≤ n → n < high * high → high - low ≤ 2 ^ m → m < k →
    ∃ s, psalteryref03_Sqrt.l0 k n low high = some s ∧ IsRoot n s := by
  have stop : ∀ (low high : Int), 0 ≤ low → low < high → ¬ high - low > 1 → low * low ≤ n → n < high * high → IsRoot n low := by
    intro low high h0 h1 h2 h3 h4
    have : high = low + 1 := by omega
    subst this; exact ⟨h0, h3, h4⟩
  induction m with
  | zero =>
    intro k low high h0 h1 h2 h3 h4 h5 hk
    obtain ⟨k, rfl⟩ : ∃ m, k = m + 1 := ⟨k - 1, by omega⟩
    simp only [psalteryref03_Sqrt.l0]
    simp only [Int.pow_zero] at h5
    rw [u64w (x := high - low) (by omega) (by omega), if_neg (by omega)]
    exact ⟨low, rfl, stop low high h0 h1 (by omega) h3 h4⟩
  | succ m ih =>
    intro k low high h0 h1 h2 h3 h4 h5 hk
    obtain ⟨k, rfl⟩ : ∃ m, k = m + 1 := ⟨k - 1, by omega⟩
    simp only [psalteryref03_Sqrt.l0]
    rw [u64w (x := high - low) (by omega) (by omega)]
    by_cases hc : high - low > 1
    · have hp := pow_succ' m
      rw [if_pos hc, u64w (x := low + high) (by omega) (by omega), tdiv_nn 2 (by omega), u64w (x := (low + high) / 2) (by omega) (by omega)]
      have hmm : (low + high) / 2 * ((low + high) / 2) ≤ 4294967295 * 4294967295 := Int.mul_le_mul (by omega) (by omega) (by omega) (by omega)
      have hm0 : 0 ≤ (low + high) / 2 * ((low + high) / 2) := Int.mul_nonneg (by omega) (by omega)
      rw [u64w hm0 (by omega)]
      by_cases hle : (low + high) / 2 * ((low + high) / 2) ≤ n
      · rw [if_pos hle]; exact ih k _ high (by omega) (by omega) h2 hle h4 (by omega) (by omega)
      · rw [if_neg hle]; exact ih k low _ h0 (by omega) (by omega) h3 (by omega) (by omega) (by omega)
    · rw [if_neg hc]; exact ⟨low, rfl, stop low high h0 h1 hc h3 h4⟩
theorem refSqrt_eq {n : Int} (h0 : 0 ≤ n) (hn : n < 18446744073709551616) (k : Nat) (hk : 32 < k) : ∃ s, psalteryref03_Sqrt.f k n = some s ∧ IsRoot n s :=
  refSqrt_loop n hn 32 k 0 4294967296 (by omega) (by omega) (by omega) (by omega) (by omega) (by simp) hk
theorem log_loop (m : Nat) : ∀ (k : Nat) (n c : Int), 0 ≤ n → n < 2 ^ m → -1 ≤ c → c + m ≤ 1000 → m < k → num_Log2.l0 k n c = some (c + 1 + lg n.toNat) := by
  induction m with
  | zero =>
    intro k n c h0 h1 h2 h3 hk
    obtain ⟨k, rfl⟩ : ∃ m, k = m + 1 := ⟨k - 1, by omega⟩
    simp only [num_Log2.l0]
    simp only [Int.pow_zero] at h1
    rw [if_neg (by omega), show n.toNat = 0 by omega, lg_zero]; congr 1; omega
  | succ m ih =>
    intro k n c h0 h1 h2 h3 hk
    obtain ⟨k, rfl⟩ : ∃ m, k = m + 1 := ⟨k - 1, by omega⟩
    simp only [num_Log2.l0]
    rw [pow_succ'] at h1
    by_cases h : n > 0
    · rw [if_pos h, w64 (by omega) (by omega), ih k (n / 2) (c + 1) (by omega) (by omega) (by omega) (by omega) (by omega), lg_pos (n := n.toNat) (by omega), show (n / 2).toNat = n.toNat / 2 by omega]
      congr 1; omega
    · rw [if_neg h, show n.toNat = 0 by omega, lg_zero]; congr 1; omega
theorem log_eq {n : Int} (h0 : 0 ≤ n) (hn : n < 18446744073709551616) (k : Nat) (hk : 64 < k) : num_Log2.f k n = some (lg n.toNat) := by
  unfold num_Log2.f
  rw [log_loop 64 k n (-1) h0 (by simpa using hn) (by omega) (by omega) hk]; congr 1; omega
theorem lg_upper (m : Nat) : ∀ n : Nat, n < 2 ^ m → lg n < m := by
  induction m with
  | zero => intro n h; simp at h; subst h; rw [lg_zero]; omega
  | succ m ih =>
    intro n h
    by_cases e : n = 0
    · subst e; rw [lg_zero]; omega
    · rw [lg_pos (by omega)]; rw [Nat.pow_succ] at h; have := ih (n / 2) (by omega); omega
theorem refLog_loop (m : Nat) : ∀ (k : Nat) (n : Int), m ≤ 64 → 0 ≤ n → n < 2 ^ m → m < k → psalteryref03_Log2.f k n = some (lg n.toNat) := by
  induction m with
  | zero =>
    intro k n hm h0 h1 hk
    obtain ⟨k, rfl⟩ : ∃ m, k = m + 1 := ⟨k - 1, by omega⟩
    simp only [Int.pow_zero] at h1
    simp only [psalteryref03_Log2.f]
    rw [if_pos (by omega), show n.toNat = 0 by omega, lg_zero]
  | succ m ih =>
    intro k n hm h0 h1 hk
    obtain ⟨k, rfl⟩ : ∃ m, k = m + 1 := ⟨k - 1, by omega⟩
    have hb : (2 : Int) ^ (m + 1) ≤ 18446744073709551616 := by
      have : (2 : Nat) ^ (m + 1) ≤ 2 ^ 64 := Nat.pow_le_pow_right (by omega) hm
      have := Int.ofNat_le.2 this; simpa using this
    simp only [psalteryref03_Log2.f]
    by_cases h : n = 0
    · rw [if_pos h, h]; rw [show (0 : Int).toNat = 0 from rfl, lg_zero]
    · rw [if_neg h, tdiv_nn 2 h0, u64w (by omega) (by omega), ih k (n / 2) (by omega) (by omega) (by rw [pow_succ'] at h1; omega) (by omega)]
      simp only [Option.bind_some]
      have h2 : (n / 2).toNat < 2 ^ m := by
        have hc : ((2 : Int) ^ m) = ((2 ^ m : Nat) : Int) := by simp
        rw [pow_succ'] at h1; omega
      have := lg_upper m _ h2
      have h3 := lg_lower (n / 2).toNat
      rw [w64 (by omega) (by omega), lg_pos (n := n.toNat) (by omega), show (n / 2).toNat = n.toNat / 2 by omega]
theorem refLog_eq {n : Int} (h0 : 0 ≤ n) (hn : n < 18446744073709551616) (k : Nat) (hk : 64 < k) : psalteryref03_Log2.f k n = some (lg n.toNat) := refLog_loop 64 k n (by omega) h0 (by simpa using hn) hk
theorem size_eq {a : Int} (ha : -9223372036854775808 ≤ a ∧ a ≤ 9223372036854775807) : num_size.f a = some (if a < 0 then -a else a) := by
  unfold num_size.f
  simp only [u64_eq]
  split <;> (congr 1; omega)
theorem div_eq {a b : Int} (ha : -9223372036854775808 ≤ a ∧ a ≤ 9223372036854775807) (hb : b ≤ 9223372036854775807) : num_Div.f a b = some (if b < 1 then (0, 1) else (near a b, 0)) := by
  unfold num_Div.f
  by_cases h1 : b < 1
  · rw [if_pos h1, if_pos h1]
  rw [if_neg h1, if_neg h1, size_eq ha]
  simp only [Option.bind_some]
  rw [u64w (x := b) (by omega) (by omega), if_neg (by omega)]
  have fin : ∀ n : Int, 0 ≤ n → n ≤ 9223372036854775808 → ∃ q, q = near n b ∧ 0 ≤ q ∧ q ≤ n ∧ (if n % b ≥ b - n % b then n / b + 1 else n / b) = q := by
    intro n h0 _
    have := (near_bound (a := n) (b := b) (by omega)).1 h0
    exact ⟨near n b, rfl, this.1, this.2, (near_pos (by omega) h0).symm⟩
  have hn0 : 0 ≤ (if a < 0 then -a else a) := by split <;> omega
  have hn1 : (if a < 0 then -a else a) ≤ 9223372036854775808 := by split <;> omega
  have hn2 : ¬ a < 0 → (if a < 0 then -a else a) ≤ 9223372036854775807 := by intro h; rw [if_neg h]; omega
  have hs : near a b = if a < 0 then - near (if a < 0 then -a else a) b else near (if a < 0 then -a else a) b := by
    split
    · exact near_neg (by assumption)
    · rfl
  rw [hs]
  generalize (if a < 0 then -a else a) = n at *
  obtain ⟨q, hq, q0, q1, q2⟩ := fin n hn0 hn1
  have m0 := Int.emod_nonneg n (show b ≠ 0 by omega)
  have m1 := Int.emod_lt_of_pos n (show 0 < b by omega)
  have d0 : 0 ≤ n / b := Int.ediv_nonneg hn0 (by omega)
  have d1 : n / b ≤ n := Int.ediv_le_self _ hn0
  rw [tmod_nn b hn0, tdiv_nn b hn0, u64w (x := b - n % b) (by omega) (by omega), u64w (x := n / b) d0 (by omega), ← hq]
  by_cases hc : n % b ≥ b - n % b
  · rw [if_pos hc] at q2 ⊢
    rw [q2]
    simp only [u64_eq, wrap64_eq]
    split
    · congr 2; omega
    · have := hn2 (by assumption); congr 2; omega
  · rw [if_neg hc] at q2 ⊢
    rw [q2]
    simp only [u64_eq, wrap64_eq]
    split
    · congr 2; omega
    · have := hn2 (by assumption); congr 2; omega
theorem tdiv_neg {a b : Int} (ha : a < 0) : Int.tdiv a b = -((-a) / b) := by
  have := tdiv_nn (a := -a) b (by omega)
  rw [Int.neg_tdiv] at this; omega
theorem refDiv_eq {a b : Int} (ha : -9223372036854775808 ≤ a ∧ a ≤ 9223372036854775807) (hb : 1 ≤ b) (hb' : b ≤ 9223372036854775807) (k : Nat) (hk : 0 < k) : psalteryref03_Div.f k a b = some (near a b) := by
  obtain ⟨k, rfl⟩ : ∃ m, k = m + 1 := ⟨k - 1, by omega⟩
  unfold psalteryref03_Div.f
  rw [if_neg (by omega)]
  simp only [psalteryref03_Div.j0]
  by_cases h0 : 0 ≤ a
  · have e1 := Int.mul_ediv_add_emod a b
    have m0 := Int.emod_nonneg a (show b ≠ 0 by omega)
    have m1 := Int.emod_lt_of_pos a (show 0 < b by omega)
    have d0 : 0 ≤ a / b := Int.ediv_nonneg h0 (by omega)
    have d1 : a / b ≤ a := Int.ediv_le_self _ h0
    have hq := near_pos (b := b) (by omega) h0
    rw [Int.mul_comm] at e1
    have hm : 0 ≤ a / b * b := Int.mul_nonneg d0 (by omega)
    have hnb := (near_bound (a := a) (b := b) (by omega)).1 h0
    rw [tdiv_nn b h0, w64 (x := a / b) (by omega) (by omega), w64 (x := a / b * b) (by omega) (by omega), w64 (x := a - a / b * b) (by omega) (by omega), show a - a / b * b = a % b by omega]
    rw [if_pos (by omega), w64 (x := b - a % b) (by omega) (by omega)]
    by_cases hc : a % b ≥ b - a % b
    · rw [if_pos hc] at hq
      rw [decide_eq_true hc, if_pos rfl, w64 (by omega) (by omega), hq]
    · rw [if_neg hc] at hq
      rw [decide_eq_false hc, if_neg (by decide), if_neg (by omega), hq]
  · have e1 := Int.mul_ediv_add_emod (-a) b
    have m0 := Int.emod_nonneg (-a) (show b ≠ 0 by omega)
    have m1 := Int.emod_lt_of_pos (-a) (show 0 < b by omega)
    have d0 : 0 ≤ (-a) / b := Int.ediv_nonneg (by omega) (by omega)
    have d1 : (-a) / b ≤ -a := Int.ediv_le_self _ (by omega)
    have hq := near_pos (a := -a) (b := b) (by omega) (by omega)
    have hs := near_neg (a := a) (b := b) (by omega)
    rw [Int.mul_comm] at e1
    have hm : 0 ≤ (-a) / b * b := Int.mul_nonneg d0 (by omega)
    have hnb := (near_bound (a := a) (b := b) (by omega)).2 (by omega)
    have en : -((-a) / b) * b = -((-a) / b * b) := Int.neg_mul _ _
    rw [tdiv_neg (by omega), w64 (x := -((-a) / b)) (by omega) (by omega), en, w64 (x := -((-a) / b * b)) (by omega) (by omega), w64 (x := a - -((-a) / b * b)) (by omega) (by omega), show a - -((-a) / b * b) = -((-a) % b) by omega]
    by_cases hz : -((-a) % b) ≥ 0
    · rw [if_pos hz, w64 (x := b - -((-a) % b)) (by omega) (by omega), decide_eq_false (by omega), if_neg (by decide), if_neg (by omega)]
      rw [if_neg (by omega)] at hq
      congr 1; omega
    · rw [if_neg hz, if_neg (by decide), if_pos (by omega), w64 (x := - -((-a) % b)) (by omega) (by omega), w64 (x := b + -((-a) % b)) (by omega) (by omega)]
      by_cases hc : (-a) % b ≥ b - (-a) % b
      · rw [if_pos hc] at hq
        rw [if_pos (by omega), w64 (by omega) (by omega)]; congr 1; omega
      · rw [if_neg hc] at hq
        rw [if_neg (by omega)]; congr 1; omega
theorem shift_eq {v n : Int} : num_Shift.f v n = some (if n < 0 ∨ 62 < n then (0, 1) else (v / 2 ^ n.toNat, 0)) := by
  unfold num_Shift.f
  by_cases h1 : n < 0
  · rw [if_pos h1, if_pos (.inl h1)]
  rw [if_neg h1]
  by_cases h2 : n > 62
  · rw [if_pos h2, if_pos (.inr h2)]
  rw [if_neg h2, if_neg (c := n < 0 ∨ 62 < n) (by omega), u64w (x := n) (by omega) (by omega), if_pos (by omega), shr_small' (by simp [IntKind.bits]; omega)]
theorem refShift_loop (n : Int) (hn : n ≤ 62) (d : Nat) : ∀ (k : Nat) (v i : Int), 0 ≤ i → i + d = n → -9223372036854775808 ≤ v → v ≤ 9223372036854775807 → d < k → psalteryref03_Shift.l0 k v n i = some (v / 2 ^ d) := by
  induction d with
  | zero =>
    intro k v i h0 h1 hv hv' hk
    obtain ⟨k, rfl⟩ : ∃ m, k = m + 1 := ⟨k - 1, by omega⟩
    simp only [psalteryref03_Shift.l0]
    rw [if_neg (by omega)]; simp
  | succ d ih =>
    intro k v i h0 h1 hv hv' hk
    obtain ⟨k, rfl⟩ : ∃ m, k = m + 1 := ⟨k - 1, by omega⟩
    simp only [psalteryref03_Shift.l0]
    have e : v / 2 ^ (d + 1) = v / 2 / 2 ^ d := by rw [pow_succ', ← Int.ediv_ediv_of_nonneg (by omega)]
    have step : ∀ q : Int, q = v / 2 → psalteryref03_Shift.l0 k q n (wrap64 (i + 1)) = some (v / 2 ^ (d + 1)) := by
      intro q hq
      rw [w64 (by omega) (by omega), e, ← hq]
      exact ih k q (i + 1) (by omega) (by omega) (by omega) (by omega) (by omega)
    rw [if_pos (by omega)]
    by_cases hs : 0 ≤ v
    · rw [tdiv_nn 2 hs, w64 (x := v / 2) (by omega) (by omega), w64 (x := v / 2 * 2) (by omega) (by omega), if_neg (by omega)]
      exact step _ rfl
    · rw [tdiv_neg (by omega), w64 (x := -(-v / 2)) (by omega) (by omega), w64 (x := -(-v / 2) * 2) (by omega) (by omega)]
      by_cases hc : -(-v / 2) * 2 > v
      · rw [if_pos hc, w64 (x := -(-v / 2) - 1) (by omega) (by omega)]; exact step _ (by omega)
      · rw [if_neg hc]; exact step _ (by omega)
end Go.Proofs.Ytajnllkkgedgfaa.LB
