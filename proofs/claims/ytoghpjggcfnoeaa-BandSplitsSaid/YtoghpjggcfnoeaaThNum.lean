/- Plain theory of num, with no program in sight. -/
namespace Go.Proofs.Ytoghpjggcfnoeaa.NT
set_option linter.unusedVariables false
set_option linter.unusedSimpArgs false
/-- the greatest number whose square is not above -/
def IsRoot (n s : Int) : Prop := 0 ≤ s ∧ s * s ≤ n ∧ n < (s + 1) * (s + 1)
theorem sq_mono {x y : Int} (h0 : 0 ≤ x) (h : x ≤ y) : x * x ≤ y * y := Int.mul_le_mul h h h0 (by omega)
theorem root_mono {n m s t : Int} (hs : IsRoot n s) (ht : IsRoot m t) (h : n ≤ m) : s ≤ t := by
  apply Decidable.byContradiction; intro hc
  have := sq_mono (x := t + 1) (y := s) (by have := ht.1; omega) (by omega)
  have h1 := hs.2.1; have h2 := ht.2.2; omega
theorem root_unique {n s t : Int} (hs : IsRoot n s) (ht : IsRoot n t) : s = t :=
  Int.le_antisymm (root_mono hs ht (Int.le_refl _)) (root_mono ht hs (Int.le_refl _))
theorem le_div_iff {t n : Int} (h : 0 < t) : t ≤ n / t ↔ t * t ≤ n := by
  rw [Int.le_ediv_iff_mul_le h]
/-- the logarithm -/
def lg (n : Nat) : Int := if h : n = 0 then -1 else 1 + lg (n / 2)
theorem lg_zero : lg 0 = -1 := by rw [lg]; simp
theorem lg_pos {n : Nat} (h : 0 < n) : lg n = 1 + lg (n / 2) := by rw [lg, dif_neg (by omega)]
theorem lg_mono (n : Nat) : ∀ m, n ≤ m → lg n ≤ lg m := by
  induction n using Nat.strongRecOn with
  | _ n ih =>
    intro m h
    have hm1 : ∀ m : Nat, -1 ≤ lg m := by
      intro m
      induction m using Nat.strongRecOn with
      | _ m ihm =>
        by_cases e : m = 0
        · subst e; rw [lg_zero]; omega
        · rw [lg_pos (by omega)]; have := ihm (m / 2) (by omega); omega
    by_cases e : n = 0
    · subst e; rw [lg_zero]; exact hm1 m
    · rw [lg_pos (by omega), lg_pos (n := m) (by omega)]
      have := ih (n / 2) (by omega) (m / 2) (by omega); omega
theorem lg_lower (n : Nat) : -1 ≤ lg n := by have := lg_mono 0 n (by omega); rwa [lg_zero] at this
theorem lg_bounds (n : Nat) : ∀ k : Nat, lg n = k → 2 ^ k ≤ n ∧ n < 2 ^ (k + 1) := by
  induction n using Nat.strongRecOn with
  | _ n ih =>
    intro k hk
    by_cases e : n = 0
    · subst e; rw [lg_zero] at hk; omega
    · rw [lg_pos (by omega)] at hk
      cases k with
      | zero =>
        have h1 : lg (n / 2) = -1 := by omega
        by_cases e2 : n / 2 = 0
        · simp; omega
        · rw [lg_pos (by omega)] at h1; have := lg_lower (n / 2 / 2); omega
      | succ k =>
        have := ih (n / 2) (by omega) k (by omega)
        rw [Nat.pow_succ] at *; rw [Nat.pow_succ 2 (k + 1), Nat.pow_succ]; omega
theorem lg_of_bounds (n k : Nat) (h1 : 2 ^ k ≤ n) (h2 : n < 2 ^ (k + 1)) : lg n = k := by
  have hp : 0 < 2 ^ k := Nat.pow_pos (by omega)
  have h0 : 0 ≤ lg n := by
    rw [lg_pos (by omega)]; have := lg_lower (n / 2); omega
  obtain ⟨j, hj⟩ := Int.eq_ofNat_of_zero_le h0
  have hb := lg_bounds n j hj
  rw [hj]
  congr 1
  rcases Nat.lt_trichotomy j k with h | h | h
  · have := Nat.pow_le_pow_right (n := 2) (by omega) (show j + 1 ≤ k by omega); omega
  · exact h
  · have := Nat.pow_le_pow_right (n := 2) (by omega) (show k + 1 ≤ j by omega); omega
/-- a division to the nearest -/
def near (a b : Int) : Int := if 0 ≤ a then (2 * a + b) / (2 * b) else -((2 * (-a) + b) / (2 * b))
theorem fl {x y : Int} (h : 0 < y) : y * (x / y) ≤ x ∧ x < y * (x / y) + y := by
  have h1 := Int.mul_ediv_add_emod x y
  have h2 := Int.emod_nonneg x (show y ≠ 0 by omega)
  have h3 := Int.emod_lt_of_pos x h
  omega
theorem near_pos {a b : Int} (hb : 0 < b) (ha : 0 ≤ a) : near a b = if a % b ≥ b - a % b then a / b + 1 else a / b := by
  unfold near; rw [if_pos ha]
  have h1 := Int.mul_ediv_add_emod a b
  have h2 := Int.emod_nonneg a (show b ≠ 0 by omega)
  have h3 := Int.emod_lt_of_pos a hb
  split
  · apply Int.le_antisymm
    · apply Int.le_of_lt_add_one
      apply Int.ediv_lt_of_lt_mul (by omega)
      rw [show (a / b + 1 + 1) * (2 * b) = 2 * (b * (a / b)) + 4 * b by rw [Int.add_mul, Int.add_mul]; rw [show a / b * (2 * b) = 2 * (b * (a / b)) by rw [Int.mul_comm (a / b), Int.mul_assoc]]; omega]
      omega
    · rw [Int.le_ediv_iff_mul_le (by omega)]
      rw [show (a / b + 1) * (2 * b) = 2 * (b * (a / b)) + 2 * b by rw [Int.add_mul]; rw [show a / b * (2 * b) = 2 * (b * (a / b)) by rw [Int.mul_comm (a / b), Int.mul_assoc]]; omega]
      omega
  · apply Int.le_antisymm
    · apply Int.le_of_lt_add_one
      apply Int.ediv_lt_of_lt_mul (by omega)
      rw [show (a / b + 1) * (2 * b) = 2 * (b * (a / b)) + 2 * b by rw [Int.add_mul]; rw [show a / b * (2 * b) = 2 * (b * (a / b)) by rw [Int.mul_comm (a / b), Int.mul_assoc]]; omega]
      omega
    · rw [Int.le_ediv_iff_mul_le (by omega)]
      rw [show a / b * (2 * b) = 2 * (b * (a / b)) by rw [Int.mul_comm (a / b), Int.mul_assoc]]
      omega
theorem near_neg {a b : Int} (ha : a < 0) : near a b = - near (-a) b := by
  unfold near; rw [if_neg (by omega), if_pos (by omega)]
theorem near_close {a b : Int} (hb : 0 < b) : 2 * (a - near a b * b) ≤ b ∧ 2 * (near a b * b - a) ≤ b := by
  unfold near
  split
  · have h := fl (x := 2 * a + b) (y := 2 * b) (by omega)
    rw [Int.mul_assoc] at h
    generalize (2 * a + b) / (2 * b) = q at *
    rw [Int.mul_comm q b]; omega
  · have h := fl (x := 2 * (-a) + b) (y := 2 * b) (by omega)
    rw [Int.mul_assoc] at h
    generalize (2 * (-a) + b) / (2 * b) = q at *
    rw [Int.neg_mul, Int.mul_comm q b]; omega
theorem near_mono {a c b : Int} (hb : 0 < b) (h : a ≤ c) : near a b ≤ near c b := by
  have hp : ∀ x : Int, 0 ≤ x → 0 ≤ (2 * x + b) / (2 * b) := fun x hx => Int.ediv_nonneg (by omega) (by omega)
  have hm : ∀ x y : Int, x ≤ y → (2 * x + b) / (2 * b) ≤ (2 * y + b) / (2 * b) := fun x y hxy => Int.ediv_le_ediv (by omega) (by omega)
  unfold near
  split <;> split
  · exact hm _ _ h
  · omega
  · have := hp c (by assumption); have := hp (-a) (by omega); omega
  · have := hm (-c) (-a) (by omega); omega
theorem near_bound {a b : Int} (hb : 0 < b) : (0 ≤ a → 0 ≤ near a b ∧ near a b ≤ a) ∧ (a ≤ 0 → near a b ≤ 0 ∧ a ≤ near a b) := by
  have hp : ∀ x : Int, 0 ≤ x → 0 ≤ (2 * x + b) / (2 * b) ∧ (2 * x + b) / (2 * b) ≤ x := by
    intro x hx
    refine ⟨Int.ediv_nonneg (by omega) (by omega), ?_⟩
    apply Int.le_of_lt_add_one
    apply Int.ediv_lt_of_lt_mul (by omega)
    have : x * 1 ≤ x * b := Int.mul_le_mul_of_nonneg_left (by omega) hx
    rw [show (x + 1) * (2 * b) = 2 * (x * b) + 2 * b by rw [Int.add_mul]; rw [show x * (2 * b) = 2 * (x * b) by rw [Int.mul_left_comm]]; omega]
    omega
  unfold near
  constructor
  · intro h; rw [if_pos h]; exact hp a h
  · intro h; split
    · have : a = 0 := by omega
      subst this; have := hp 0 (by omega); omega
    · have := hp (-a) (by omega); omega
end Go.Proofs.Ytoghpjggcfnoeaa.NT
