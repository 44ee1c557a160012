/- Plain theory of huff, with no program in sight. -/
namespace Go.Proofs.Ytpdfdaoohknfoaa.HT
set_option linter.unusedVariables false
set_option linter.unusedSimpArgs false
/-- a sum -/
def S (f : Nat → Int) : Nat → Int
  | 0 => 0
  | n + 1 => S f n + f n
theorem S_congr {f g : Nat → Int} (n : Nat) (h : ∀ t, t < n → f t = g t) : S f n = S g n := by
  induction n with
  | zero => rfl
  | succ n ih => rw [S, S, ih fun t ht => h t (by omega), h n (by omega)]
theorem S_le {f g : Nat → Int} (n : Nat) (h : ∀ t, t < n → f t ≤ g t) : S f n ≤ S g n := by
  induction n with
  | zero => exact Int.le_refl _
  | succ n ih => rw [S, S]; have := ih fun t ht => h t (by omega); have := h n (by omega); omega
theorem S_add (f g : Nat → Int) (n : Nat) : S (fun t => f t + g t) n = S f n + S g n := by
  induction n with
  | zero => rfl
  | succ n ih => rw [S, S, S, ih]; omega
theorem S_zero (n : Nat) : S (fun _ => 0) n = 0 := by
  induction n with
  | zero => rfl
  | succ n ih => rw [S, ih]; rfl
theorem S_one (a : Nat) (x : Int) (n : Nat) (h : a < n) : S (fun t => if t = a then x else 0) n = x := by
  induction n with
  | zero => omega
  | succ n ih =>
    rw [S]
    by_cases e : a = n
    · subst e; rw [if_pos rfl, S_congr a (g := fun _ => 0) (fun t ht => if_neg (by omega)), S_zero]; omega
    · rw [ih (by omega), if_neg (by omega)]; omega
theorem S_nonneg {f : Nat → Int} (n : Nat) (h : ∀ t, t < n → 0 ≤ f t) : 0 ≤ S f n := by
  have := S_le (f := fun _ => 0) (g := f) n h; rwa [S_zero] at this
/-- somewhere a row that begins at P or below, and ends above it, steps over it -/
theorem ivt (f : Nat → Int) (P : Int) (n : Nat) (h0 : f 0 ≤ P) (h1 : P < f n) : ∃ i, i < n ∧ f i ≤ P ∧ P < f (i + 1) := by
  induction n with
  | zero => omega
  | succ n ih =>
    by_cases h : P < f n
    · obtain ⟨i, hi, h2⟩ := ih h; exact ⟨i, by omega, h2⟩
    · exact ⟨n, by omega, by omega, h1⟩

section
variable (b : Nat → Int) (n : Nat)
/-- how much of 2^16 a symbol takes -/
def wt (t : Nat) : Int := if 0 < b t then 2 ^ (16 - (b t).toNat) else 0
/-- all that stands ahead of the place (k, s) -/
def W (k : Nat) (s : Nat) : Int := S (fun t => if 0 < b t ∧ (b t < k ∨ (b t = k ∧ t < s)) then wt b t else 0) n
theorem wt_nonneg (t : Nat) : 0 ≤ wt b t := by
  unfold wt; split
  · exact Int.le_of_lt (Int.pow_pos (by omega))
  · exact Int.le_refl _
theorem W_step (k s : Nat) (hk : 0 < k) (hs : s < n) : W b n k (s + 1) = W b n k s + if b s = k then 2 ^ (16 - k) else 0 := by
  unfold W
  have e : ∀ t, t < n → (if 0 < b t ∧ (b t < k ∨ (b t = k ∧ t < s + 1)) then wt b t else 0) = (if 0 < b t ∧ (b t < k ∨ (b t = k ∧ t < s)) then wt b t else 0) + (if t = s then (if b s = k then 2 ^ (16 - k) else 0) else 0) := by
    intro t ht
    by_cases e : t = s
    · subst e; rw [if_pos rfl]
      by_cases e2 : b t = k
      · rw [if_pos ⟨by omega, .inr ⟨e2, by omega⟩⟩, if_neg (by omega), if_pos e2]; unfold wt; rw [if_pos (by omega), e2]; simp
      · rw [if_neg e2]
        by_cases e3 : 0 < b t ∧ b t < k
        · rw [if_pos ⟨e3.1, .inl e3.2⟩, if_pos ⟨e3.1, .inl e3.2⟩]; omega
        · rw [if_neg (by omega), if_neg (by omega)]; rfl
    · rw [if_neg e]
      by_cases e3 : 0 < b t ∧ (b t < k ∨ (b t = k ∧ t < s))
      · rw [if_pos e3, if_pos ⟨e3.1, by omega⟩]; omega
      · rw [if_neg e3, if_neg (by omega)]; rfl
  rw [S_congr n e, S_add, S_one s _ n hs]
theorem W_next (k : Nat) : W b n (k + 1) 0 = W b n k n := by
  unfold W
  apply S_congr
  intro t ht
  by_cases e : 0 < b t ∧ (b t < k ∨ (b t = k ∧ t < n))
  · rw [if_pos e, if_pos ⟨e.1, by omega⟩]
  · rw [if_neg e, if_neg (by omega)]
theorem W_first : W b n 1 0 = 0 := by
  unfold W
  rw [S_congr n (g := fun _ => 0) (fun t ht => if_neg (by omega)), S_zero]
theorem W_last (h : ∀ t, t < n → b t ≤ 16) : W b n 17 0 = S (wt b) n := by
  unfold W
  apply S_congr
  intro t ht
  have := h t ht
  by_cases e : 0 < b t
  · rw [if_pos (by omega)]
  · rw [if_neg (by omega)]; unfold wt; rw [if_neg e]
/-- where a used symbol's codes begin, in parts of 2^16 -/
def St (s : Nat) : Int := W b n (b s).toNat s
theorem W_nonneg (k s : Nat) : 0 ≤ W b n k s := by
  unfold W; apply S_nonneg; intro t _; split
  · exact wt_nonneg b t
  · exact Int.le_refl _
theorem wt_used {s : Nat} (h : 0 < b s) : wt b s = 2 ^ (16 - (b s).toNat) := by unfold wt; rw [if_pos h]
theorem St_end {s : Nat} (hs : s < n) (h : 0 < b s) : St b n s + wt b s = W b n (b s).toNat (s + 1) := by
  rw [W_step _ _ _ _ (by omega) hs, if_pos (by omega), wt_used b h]; rfl
/-- unlike symbols' parts do not meet -/
theorem apart {s t : Nat} (hs : s < n) (h : 0 < b s) (hlt : b s < b t ∨ (b s = b t ∧ s < t)) : St b n s + wt b s ≤ St b n t := by
  rw [St_end b n hs h]
  unfold St W
  apply S_le
  intro u hu
  split
  · rename_i e
    rw [if_pos ⟨e.1, by omega⟩]; exact Int.le_refl _
  · split
    · exact wt_nonneg b u
    · exact Int.le_refl _
theorem in_whole {s : Nat} (hs : s < n) (h : 0 < b s) : St b n s + wt b s ≤ S (wt b) n := by
  rw [St_end b n hs h]
  unfold W
  apply S_le
  intro u hu
  split
  · exact Int.le_refl _
  · exact wt_nonneg b u
/-- each place in the whole is some symbol's -/
theorem covered (hb : ∀ t, t < n → b t ≤ 16) (P : Int) (h0 : 0 ≤ P) (h1 : P < S (wt b) n) : ∃ s, s < n ∧ 0 < b s ∧ St b n s ≤ P ∧ P < St b n s + wt b s := by
  obtain ⟨i, hi, h2, h3⟩ := ivt (fun i => W b n (i + 1) 0) P 16 (by simpa [W_first] using h0) (by show P < W b n 17 0; rw [W_last b n hb]; exact h1)
  rw [W_next] at h3
  obtain ⟨s, hs, h4, h5⟩ := ivt (fun s => W b n (i + 1) s) P n h2 h3
  rw [W_step b n _ _ (by omega) hs] at h5
  by_cases e : b s = ((i + 1 : Nat) : Int)
  · rw [if_pos e] at h5
    refine ⟨s, hs, by omega, ?_, ?_⟩
    · unfold St; rw [e]; simpa using h4
    · rw [wt_used b (by omega)]; unfold St; rw [e]; simpa using h5
  · rw [if_neg e] at h5; omega
/-- what stands ahead of (k, s) is whole parts of k bits -/
theorem W_dvd (k s : Nat) (hk : k ≤ 16) : ∃ c, 0 ≤ c ∧ W b n k s = c * 2 ^ (16 - k) := by
  unfold W
  have key : ∀ m, ∃ c, 0 ≤ c ∧ S (fun t => if 0 < b t ∧ (b t < k ∨ (b t = k ∧ t < s)) then wt b t else 0) m = c * 2 ^ (16 - k) := by
    intro m
    induction m with
    | zero => exact ⟨0, by omega, by simp [S]⟩
    | succ m ih =>
      obtain ⟨c, hc, e⟩ := ih
      rw [S, e]
      split
      · rename_i h
        refine ⟨c + 2 ^ (k - (b m).toNat), by have := Int.pow_pos (n := 2) (m := k - (b m).toNat) (by omega); omega, ?_⟩
        rw [wt_used b h.1, Int.add_mul, ← Int.pow_add]; congr 2; omega
      · exact ⟨c, hc, by omega⟩
  exact key n
/-- the code of a used symbol -/
def code (s : Nat) : Int := St b n s / 2 ^ (16 - (b s).toNat)
theorem code_eq (s : Nat) (h : b s ≤ 16) : code b n s * 2 ^ (16 - (b s).toNat) = St b n s := by
  unfold code St
  obtain ⟨c, _, e⟩ := W_dvd b n (b s).toNat s (by omega)
  rw [e, Int.mul_ediv_cancel _ (by have := Int.pow_pos (n := 2) (m := 16 - (b s).toNat) (by omega); omega)]
theorem code_nonneg (s : Nat) : 0 ≤ code b n s := Int.ediv_nonneg (W_nonneg b n _ _) (Int.le_of_lt (Int.pow_pos (by omega)))
theorem pow_split {m : Nat} (h : m ≤ 16) : (2 : Int) ^ m * 2 ^ (16 - m) = 65536 := by
  rw [← Int.pow_add, show m + (16 - m) = 16 by omega]; rfl
theorem code_lt {s : Nat} (hs : s < n) (h : 0 < b s) (h16 : b s ≤ 16) (hw : S (wt b) n ≤ 65536) : code b n s < 2 ^ (b s).toNat := by
  have h1 := in_whole b n hs h
  rw [← code_eq b n s h16, wt_used b h] at h1
  have h2 := pow_split (m := (b s).toNat) (by omega)
  have hp : (0 : Int) < 2 ^ (16 - (b s).toNat) := Int.pow_pos (by omega)
  have h3 : (code b n s + 1) * 2 ^ (16 - (b s).toNat) ≤ 2 ^ (b s).toNat * 2 ^ (16 - (b s).toNat) := by rw [h2, Int.add_mul]; omega
  have := Int.le_of_mul_le_mul_right h3 hp; omega
/-- the place P, of 16 bits, is a symbol's just if its first bits are the symbol's code -/
theorem code_at (s : Nat) (h : 0 < b s) (h16 : b s ≤ 16) (P : Int) : P / 2 ^ (16 - (b s).toNat) = code b n s ↔ St b n s ≤ P ∧ P < St b n s + wt b s := by
  rw [← code_eq b n s h16, wt_used b h]
  have hp : (0 : Int) < 2 ^ (16 - (b s).toNat) := Int.pow_pos (by omega)
  generalize (2 : Int) ^ (16 - (b s).toNat) = q at *
  generalize code b n s = c
  constructor
  · intro e
    have h1 := Int.mul_ediv_add_emod P q
    have h2 := Int.emod_nonneg P (show q ≠ 0 by omega)
    have h3 := Int.emod_lt_of_pos P hp
    rw [e, Int.mul_comm] at h1; omega
  · intro ⟨h1, h2⟩
    apply Int.le_antisymm
    · apply Int.le_of_lt_add_one; apply Int.ediv_lt_of_lt_mul hp; rw [Int.add_mul]; omega
    · rw [Int.le_ediv_iff_mul_le hp]; exact h1
/-- a place is of one symbol alone -/
theorem one_symbol {s t : Nat} (hs : s < n) (ht : t < n) (h : 0 < b s) (h' : 0 < b t) (P : Int) (h1 : St b n s ≤ P ∧ P < St b n s + wt b s) (h2 : St b n t ≤ P ∧ P < St b n t + wt b t) : s = t := by
  rcases Nat.lt_trichotomy s t with e | e | e
  · rcases Int.lt_trichotomy (b s) (b t) with k | k | k
    · have := apart b n hs h (.inl k) (t := t); omega
    · have := apart b n hs h (.inr ⟨k, e⟩) (t := t); omega
    · have := apart b n ht h' (.inl k) (t := s); omega
  · exact e
  · rcases Int.lt_trichotomy (b s) (b t) with k | k | k
    · have := apart b n hs h (.inl k) (t := t); omega
    · have := apart b n ht h' (.inr ⟨k.symm, e⟩) (t := s); omega
    · have := apart b n ht h' (.inl k) (t := s); omega
/-- no code is the beginning of another one -/
theorem prefix_free {s t : Nat} (hs : s < n) (ht : t < n) (h : 0 < b s) (h16 : b t ≤ 16) (hle : b s ≤ b t) (e : code b n t / 2 ^ (b t - b s).toNat = code b n s) : s = t := by
  have hq := code_eq b n t h16
  have hp : (0 : Int) < 2 ^ (16 - (b t).toNat) := Int.pow_pos (by omega)
  have h2 : St b n t / 2 ^ (16 - (b s).toNat) = code b n s := by
    rw [← hq, show 16 - (b s).toNat = (16 - (b t).toNat) + (b t - b s).toNat by omega, Int.pow_add, ← Int.ediv_ediv_of_nonneg (Int.le_of_lt hp), Int.mul_ediv_cancel _ (by omega), e]
  exact one_symbol b n hs ht h (by omega) _ ((code_at b n s h (by omega) _).1 h2) ⟨Int.le_refl _, by rw [wt_used b (by omega)]; have := Int.pow_pos (n := 2) (m := 16 - (b t).toNat) (by omega); omega⟩
end
/-- so many bits from a place on, the first one the highest -/
def hi (f : Nat → Int) (at_ : Nat) : Nat → Int
  | 0 => 0
  | m + 1 => 2 * hi f at_ m + f (at_ + m)
theorem hi_range {f : Nat → Int} (hf : ∀ i, f i = 0 ∨ f i = 1) (at_ m : Nat) : 0 ≤ hi f at_ m ∧ hi f at_ m < 2 ^ m := by
  induction m with
  | zero => simp [hi]
  | succ m ih => rw [hi, Int.pow_succ]; have := hf (at_ + m); omega
theorem hi_div {f : Nat → Int} (hf : ∀ i, f i = 0 ∨ f i = 1) (at_ m j : Nat) : hi f at_ (m + j) / 2 ^ j = hi f at_ m := by
  induction j with
  | zero => simp
  | succ j ih =>
    rw [← Nat.add_assoc, hi, Int.pow_succ, Int.mul_comm (2 ^ j) 2, ← Int.ediv_ediv_of_nonneg (by omega)]
    have := hf (at_ + (m + j))
    rw [show (2 * hi f at_ (m + j) + f (at_ + (m + j))) / 2 = hi f at_ (m + j) by omega, ih]
theorem hi_congr {f g : Nat → Int} {a a' m : Nat} (h : ∀ i, i < m → f (a + i) = g (a' + i)) : hi f a m = hi g a' m := by
  induction m with
  | zero => rfl
  | succ m ih => rw [hi, hi, ih fun i hi => h i (by omega), h m (by omega)]
/-- the bits of a code, the highest one first -/
theorem hi_inj {f g : Nat → Int} (hf : ∀ i, f i = 0 ∨ f i = 1) (hg : ∀ i, g i = 0 ∨ g i = 1) {a a' m : Nat} (h : hi f a m = hi g a' m) : ∀ i, i < m → f (a + i) = g (a' + i) := by
  induction m with
  | zero => intro i hi; omega
  | succ m ih =>
    rw [hi, hi] at h
    have h1 := hf (a + m); have h2 := hg (a' + m)
    intro i hi'
    by_cases e : i = m
    · subst e; omega
    · exact ih (by omega) i (by omega)
theorem hi_bits (c : Int) (m : Nat) (h0 : 0 ≤ c) (h1 : c < 2 ^ m) : hi (fun i => c / 2 ^ (m - 1 - i) % 2) 0 m = c := by
  have key : ∀ j, j ≤ m → hi (fun i => c / 2 ^ (m - 1 - i) % 2) 0 j = c / 2 ^ (m - j) := by
    intro j
    induction j with
    | zero => intro _; rw [hi, Nat.sub_zero, Int.ediv_eq_zero_of_lt h0 h1]
    | succ j ih =>
      intro hj
      rw [hi, ih (by omega)]
      simp only [Nat.zero_add]
      rw [show m - j = (m - 1 - j) + 1 by omega, show m - (j + 1) = m - 1 - j by omega, Int.pow_succ, ← Int.ediv_ediv_of_nonneg (Int.le_of_lt (Int.pow_pos (by omega)))]
      omega
  have := key m (Nat.le_refl _)
  simpa using this
end Go.Proofs.Ytpdfdaoohknfoaa.HT
