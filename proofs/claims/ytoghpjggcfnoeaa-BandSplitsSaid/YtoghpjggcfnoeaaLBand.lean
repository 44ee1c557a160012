/- What the functions of band and pvq, and of the document's layers 7 and 10, compute. -/
import Derived.Test.YtoghpjggcfnoeaaPx41
import Derived.Test.YtoghpjggcfnoeaaPx35
import Derived.Test.YtoghpjggcfnoeaaPx38
import Derived.Test.YtoghpjggcfnoeaaPx47
import Derived.Test.YtoghpjggcfnoeaaPx44
import Derived.Test.YtoghpjggcfnoeaaPx29
import Derived.Test.YtoghpjggcfnoeaaPx30
import Derived.Test.YtoghpjggcfnoeaaPx31
import Derived.Test.YtoghpjggcfnoeaaPx32
import Derived.Test.YtoghpjggcfnoeaaPx43
import Derived.Test.YtoghpjggcfnoeaaLVal
import Derived.Test.YtoghpjggcfnoeaaLLog
namespace Go.Proofs.Ytoghpjggcfnoeaa.LQ
set_option linter.unusedVariables false
set_option linter.unusedSimpArgs false
open Go.RowKit Go.Proofs.YtoghpjggcfnoeaaW.PrintWords Go.Proofs.YtoghpjggcfnoeaaW.PrintLast Go.Proofs.YtoghpjggcfnoeaaW.PrintMore Go.Proofs.Ytoghpjggcfnoeaa.P Go.Proofs.Ytoghpjggcfnoeaa.LB Go.Proofs.Ytoghpjggcfnoeaa.NT Go.Proofs.Ytoghpjggcfnoeaa.LF
theorem knows10 (k : Nat) (hk : 200 ≤ k) : psalterylaw10_knows.f k = some true := at_rounds (g := fun k => psalterylaw10_knows.f k) (fun k => psalterylaw10_knows.mono k) hk psalterylaw10_knows.sure
theorem rd_mid (l r : List Int) (x : Int) : rd (l ++ x :: r) (l.length : Int) = x := by simp [rd]
def inc : List Int → Bool
  | [] => true
  | v :: l => decide (-1048576 ≤ v ∧ v ≤ 1048576) && inc l
theorem inc_mem : ∀ {l : List Int}, inc l = true → ∀ x ∈ l, -1048576 ≤ x ∧ x ≤ 1048576
  | [], _, x, hx => by cases hx
  | v :: l, h, x, hx => by
    simp only [inc, Bool.and_eq_true, decide_eq_true_eq] at h
    rcases List.mem_cons.1 hx with rfl | hx
    · exact h.1
    · exact inc_mem h.2 x hx
theorem inc_of : ∀ {l : List Int}, (∀ x ∈ l, -1048576 ≤ x ∧ x ≤ 1048576) → inc l = true
  | [], _ => rfl
  | v :: l, h => by
    simp only [inc, Bool.and_eq_true, decide_eq_true_eq]
    exact ⟨h v (List.mem_cons_self ..), inc_of fun x hx => h x (List.mem_cons_of_mem _ hx)⟩
/-- coefficients -/
def fairL (l : List Int) : Bool := inc l && decide (1 ≤ l.length ∧ l.length ≤ 16)
/-- the square of the norm -/
def sq : List Int → Int
  | [] => 0
  | v :: l => v * v + sq l
theorem sq_one {v : Int} (h : -1048576 ≤ v ∧ v ≤ 1048576) : 0 ≤ v * v ∧ v * v ≤ 1099511627776 := by
  constructor
  · rcases Int.le_total 0 v with c | c
    · exact Int.mul_nonneg c c
    · rw [← Int.neg_mul_neg]; exact Int.mul_nonneg (by omega) (by omega)
  · rcases Int.le_total 0 v with c | c
    · have := sq_mono (x := v) (y := 1048576) c h.2; omega
    · have := sq_mono (x := -v) (y := 1048576) (by omega) (by omega); rw [Int.neg_mul_neg] at this; omega
theorem sq_bound : ∀ {l : List Int}, inc l = true → 0 ≤ sq l ∧ sq l ≤ 1099511627776 * (l.length : Int)
  | [], _ => ⟨Int.le_refl _, Int.le_refl _⟩
  | v :: l, h => by
    simp only [inc, Bool.and_eq_true, decide_eq_true_eq] at h
    have h1 := sq_one h.1
    have h2 := sq_bound h.2
    simp only [sq, List.length_cons]; omega
theorem fair_loop (whole : List Int) : ∀ (s p : List Int) (k : Nat), p.length + s.length ≤ maxLen → s.length < k →
    pvq_fair.l0 k whole (p ++ s) ((p ++ s).length : Int) (p.length : Int) = some (inc s && decide (1 ≤ whole.length ∧ whole.length ≤ 16))
  | [], p, k, hn, hk => by
    obtain ⟨k, rfl⟩ : ∃ j, k = j + 1 := ⟨k - 1, by omega⟩
    simp only [pvq_fair.l0, List.append_nil, inc, Bool.true_and]
    rw [if_neg (by omega)]
    by_cases c : 1 ≤ whole.length
    · rw [if_pos (by omega)]; congr 1; rw [decide_eq_decide]; omega
    · rw [if_neg (by omega), decide_eq_false (by omega)]
  | v :: s, p, k, hn, hk => by
    have hM : (maxLen : Int) = 9223372036854775807 := rfl
    obtain ⟨k, rfl⟩ : ∃ j, k = j + 1 := ⟨k - 1, by omega⟩
    simp only [List.length_cons] at hn hk
    have hlen : ((p ++ v :: s).length : Int) = p.length + s.length + 1 := by simp only [List.length_append, List.length_cons]; omega
    simp only [pvq_fair.l0]
    rw [if_pos (by omega), if_pos (by omega), if_pos (by omega), rd_mid]
    unfold num_Clamp.f
    by_cases c : -1048576 ≤ v ∧ v ≤ 1048576
    · rw [if_neg (by omega), if_neg (by omega), show inc (v :: s) = inc s by simp only [inc, decide_eq_true c, Bool.true_and]]
      simp only [Option.bind_some, if_true]
      rw [w64 (by omega) (by omega)]
      have ih := fair_loop whole s (p ++ [v]) k (by simp only [List.length_append, List.length_cons, List.length_nil]; omega) (by omega)
      simp only [List.append_assoc, List.singleton_append] at ih
      rw [show (((p ++ [v]).length : Nat) : Int) = (p.length : Int) + 1 by simp only [List.length_append, List.length_cons, List.length_nil]; omega] at ih
      exact ih
    · rw [show inc (v :: s) = false by simp only [inc, decide_eq_false c, Bool.false_and], Bool.false_and]
      by_cases c1 : v < -1048576
      · rw [if_pos c1]; simp only [Option.bind_some]; rw [if_neg (by omega)]
      · rw [if_neg c1, if_pos (by omega)]; simp only [Option.bind_some]; rw [if_neg (by omega)]
theorem fair_eq (l : List Int) (hl : l.length ≤ maxLen) (k : Nat) (hk : l.length < k) : pvq_fair.f k l = some (fairL l) := by
  unfold pvq_fair.f
  have := fair_loop l l [] k (by simpa using hl) hk
  simp only [List.nil_append, List.length_nil] at this
  rw [show ((0 : Nat) : Int) = 0 from rfl] at this
  exact this
theorem square_loop : ∀ (s p : List Int) (a : Int) (k : Nat), inc s = true → p.length + s.length ≤ 16 → 0 ≤ a → a ≤ 1099511627776 * (p.length : Int) → s.length < k →
    pvq_Square.l0 k a (p ++ s) ((p ++ s).length : Int) (p.length : Int) = some (a + sq s, 0)
  | [], p, a, k, hc, hn, h0, h1, hk => by
    obtain ⟨k, rfl⟩ : ∃ j, k = j + 1 := ⟨k - 1, by omega⟩
    simp only [pvq_Square.l0, List.append_nil, sq]
    rw [if_neg (by omega), Int.add_zero]
  | v :: s, p, a, k, hc, hn, h0, h1, hk => by
    obtain ⟨k, rfl⟩ : ∃ j, k = j + 1 := ⟨k - 1, by omega⟩
    simp only [List.length_cons] at hn hk
    simp only [inc, Bool.and_eq_true, decide_eq_true_eq] at hc
    have hv := sq_one hc.1
    have hlen : ((p ++ v :: s).length : Int) = p.length + s.length + 1 := by simp only [List.length_append, List.length_cons]; omega
    simp only [pvq_Square.l0]
    rw [if_pos (by omega), if_pos (by omega), if_pos (by omega), rd_mid, w64 (x := v * v) (by omega) (by omega), u64w (x := v * v) (by omega) (by omega), u64w (by omega) (by omega), w64 (by omega) (by omega)]
    have ih := square_loop s (p ++ [v]) (a + v * v) k hc.2 (by simp only [List.length_append, List.length_cons, List.length_nil]; omega) (by omega) (by simp only [List.length_append, List.length_cons, List.length_nil]; omega) (by omega)
    simp only [List.append_assoc, List.singleton_append] at ih
    rw [show (((p ++ [v]).length : Nat) : Int) = (p.length : Int) + 1 by simp only [List.length_append, List.length_cons, List.length_nil]; omega] at ih
    rw [ih, sq, Int.add_assoc]
theorem square_eq (l : List Int) (hl : l.length ≤ maxLen) (k : Nat) (hk : l.length < k) : pvq_Square.f k l = some (if fairL l = true then (sq l, 0) else (0, 1)) := by
  unfold pvq_Square.f
  rw [fair_eq l hl k hk]
  simp only [Option.bind_some]
  by_cases c : fairL l = true
  · rw [if_pos c, if_pos c]
    have c' := c
    simp only [fairL, Bool.and_eq_true, decide_eq_true_eq] at c'
    have := square_loop l [] 0 k c'.1 (by simp only [List.length_nil]; omega) (Int.le_refl _) (by simp) hk
    simp only [List.nil_append, List.length_nil, Int.zero_add] at this
    rw [show ((0 : Nat) : Int) = 0 from rfl] at this
    exact this
  · rw [if_neg c, if_neg c]
theorem refFair_loop : ∀ (s p : List Int) (ok : Bool) (k : Nat), p.length + s.length ≤ maxLen → s.length < k →
    psalteryref07_Fair.l0 k (p ++ s) ok (p.length : Int) = some (ok && inc s)
  | [], p, ok, k, hn, hk => by
    obtain ⟨k, rfl⟩ : ∃ j, k = j + 1 := ⟨k - 1, by omega⟩
    simp only [psalteryref07_Fair.l0, List.append_nil, inc, Bool.and_true]
    rw [if_neg (by omega)]
  | v :: s, p, ok, k, hn, hk => by
    have hM : (maxLen : Int) = 9223372036854775807 := rfl
    obtain ⟨k, rfl⟩ : ∃ j, k = j + 1 := ⟨k - 1, by omega⟩
    simp only [List.length_cons] at hn hk
    have hlen : ((p ++ v :: s).length : Int) = p.length + s.length + 1 := by simp only [List.length_append, List.length_cons]; omega
    have ih := fun ok => refFair_loop s (p ++ [v]) ok k (by simp only [List.length_append, List.length_cons, List.length_nil]; omega) (by omega)
    simp only [List.append_assoc, List.singleton_append] at ih
    rw [show (((p ++ [v]).length : Nat) : Int) = (p.length : Int) + 1 by simp only [List.length_append, List.length_cons, List.length_nil]; omega] at ih
    simp only [psalteryref07_Fair.l0]
    rw [if_pos (by omega), w64 (by omega) (by omega), rd_mid, ih, ih]
    cases ok
    · rw [if_neg (by simp)]; simp
    · rw [if_pos rfl, if_pos (by omega)]
      by_cases c1 : v ≥ -1048576
      · rw [if_pos c1]
        congr 1
        simp only [inc, Bool.true_and]
        by_cases c2 : v ≤ 1048576
        · rw [decide_eq_true c2, decide_eq_true (by omega)]
        · rw [decide_eq_false c2, decide_eq_false (by omega)]
      · rw [if_neg c1]; simp only [inc]; rw [decide_eq_false (by omega)]; rfl
theorem refFair_eq (l : List Int) (hl : l.length ≤ maxLen) (k : Nat) (hk : l.length + 1 < k) : psalteryref07_Fair.f k l = some (fairL l) := by
  obtain ⟨k, rfl⟩ : ∃ j, k = j + 1 := ⟨k - 1, by omega⟩
  unfold psalteryref07_Fair.f fairL
  have := fun ok => refFair_loop l [] ok k (by simpa using hl) (by omega)
  simp only [List.nil_append, List.length_nil] at this
  rw [show ((0 : Nat) : Int) = 0 from rfl] at this
  simp only [psalteryref07_Fair.j0]
  rw [this, this, Bool.and_comm (inc l)]
  by_cases c : l.length > 0
  · rw [if_pos (by omega)]; congr 2; rw [decide_eq_decide]; omega
  · rw [if_neg (by omega), decide_eq_false (by omega)]
theorem refSize (v : Int) (h : -1048576 ≤ v ∧ v ≤ 1048576) : ∃ n, psalteryref07_size.f v = some n ∧ 0 ≤ n ∧ n * n = v * v ∧ n ≤ 1048576 := by
  unfold psalteryref07_size.f
  by_cases c : v < 0
  · rw [if_pos c, w64 (by omega) (by omega)]; exact ⟨_, rfl, by omega, Int.neg_mul_neg _ _, by omega⟩
  · rw [if_neg c]; exact ⟨_, rfl, by omega, rfl, h.2⟩
theorem refSquare_loop : ∀ (s p : List Int) (a : Int) (k : Nat), inc s = true → p.length + s.length ≤ 16 → 0 ≤ a → a ≤ 1099511627776 * (p.length : Int) → s.length < k →
    psalteryref07_Square.l0 k (p ++ s) a (p.length : Int) = some (a + sq s)
  | [], p, a, k, hc, hn, h0, h1, hk => by
    obtain ⟨k, rfl⟩ : ∃ j, k = j + 1 := ⟨k - 1, by omega⟩
    simp only [psalteryref07_Square.l0, List.append_nil, sq]
    rw [if_neg (by omega), Int.add_zero]
  | v :: s, p, a, k, hc, hn, h0, h1, hk => by
    obtain ⟨k, rfl⟩ : ∃ j, k = j + 1 := ⟨k - 1, by omega⟩
    simp only [List.length_cons] at hn hk
    simp only [inc, Bool.and_eq_true, decide_eq_true_eq] at hc
    have hv := sq_one hc.1
    obtain ⟨n, hn1, hn2, hn3, hn4⟩ := refSize v hc.1
    have hlen : ((p ++ v :: s).length : Int) = p.length + s.length + 1 := by simp only [List.length_append, List.length_cons]; omega
    simp only [psalteryref07_Square.l0]
    rw [if_pos (by omega), if_pos (by omega), rd_mid, hn1]
    simp only [Option.bind_some]
    rw [u64w (x := n) (by omega) (by omega), hn3, u64w (x := v * v) (by omega) (by omega), u64w (by omega) (by omega), w64 (by omega) (by omega)]
    have ih := refSquare_loop s (p ++ [v]) (a + v * v) k hc.2 (by simp only [List.length_append, List.length_cons, List.length_nil]; omega) (by omega) (by simp only [List.length_append, List.length_cons, List.length_nil]; omega) (by omega)
    simp only [List.append_assoc, List.singleton_append] at ih
    rw [show (((p ++ [v]).length : Nat) : Int) = (p.length : Int) + 1 by simp only [List.length_append, List.length_cons, List.length_nil]; omega] at ih
    rw [ih, sq, Int.add_assoc]
theorem refSquare_eq (l : List Int) (h : inc l = true) (hl : l.length ≤ 16) (k : Nat) (hk : 16 < k) : psalteryref07_Square.f k l = some (sq l) := by
  unfold psalteryref07_Square.f
  have := refSquare_loop l [] 0 k h (by simp only [List.length_nil]; omega) (Int.le_refl _) (by simp) (by omega)
  simp only [List.nil_append, List.length_nil, Int.zero_add] at this
  rw [show ((0 : Nat) : Int) = 0 from rfl] at this
  exact this
/-- a square's gain -/
def gn (l : List Int) : Int := lg (sq l).toNat + 1
theorem gn_bound (l : List Int) (h : inc l = true) (hl : l.length ≤ 8) : 0 ≤ gn l ∧ gn l ≤ 44 := by
  have h1 := sq_bound h
  have h2 := lg_lower (sq l).toNat
  have h3 := lg_upper 44 (sq l).toNat (by have : (2 : Nat) ^ 44 = 17592186044416 := by decide
                                          omega)
  unfold gn; omega
theorem gain_eq (l : List Int) (hl : l.length ≤ maxLen) (k : Nat) (hk : l.length + 100 < k) : band_Gain.f k l = some (if fairL l = true ∧ l.length ≤ 8 then (gn l, 0) else (0, 1)) := by
  unfold band_Gain.f
  rw [square_eq l hl k (by omega)]
  simp only [Option.bind_some]
  by_cases c : fairL l = true
  · rw [if_pos c]
    simp only [if_true]
    by_cases c1 : l.length ≤ 8
    · rw [if_neg (by omega), if_pos ⟨c, c1⟩]
      have c' := c
      simp only [fairL, Bool.and_eq_true, decide_eq_true_eq] at c'
      have hb := sq_bound c'.1
      have hg := gn_bound l c'.1 c1
      unfold band_gain.f
      rw [log_eq hb.1 (by omega) k (by omega)]
      simp only [Option.bind_some]
      unfold gn at hg ⊢
      rw [w64 (by omega) (by omega)]
    · rw [if_pos (by omega), if_neg (fun h => c1 h.2)]
  · rw [if_neg c]
    rw [if_neg (show ¬ ((0 : Int), (1 : Int)).2 = 0 by decide), if_neg (fun h => c h.1)]
theorem refGain_loop (m : Nat) : ∀ (k : Nat) (n c : Int), 0 ≤ n → n < 2 ^ m → 0 ≤ c → c + m ≤ 1000 → m ≤ 64 → m < k → psalteryref10_Gain.l0 k n c = some (c + 1 + lg n.toNat) := by
  induction m with
  | zero =>
    intro k n c h0 h1 h2 h3 hm hk
    obtain ⟨k, rfl⟩ : ∃ m, k = m + 1 := ⟨k - 1, by omega⟩
    simp only [psalteryref10_Gain.l0]
    simp only [Int.pow_zero] at h1
    rw [if_neg (by omega), show n.toNat = 0 by omega, lg_zero]; congr 1; omega
  | succ m ih =>
    intro k n c h0 h1 h2 h3 hm hk
    obtain ⟨k, rfl⟩ : ∃ m, k = m + 1 := ⟨k - 1, by omega⟩
    have hb : (2 : Int) ^ (m + 1) ≤ 18446744073709551616 := by
      have : (2 : Nat) ^ (m + 1) ≤ 2 ^ 64 := Nat.pow_le_pow_right (by omega) hm
      have := Int.ofNat_le.2 this; simpa using this
    simp only [psalteryref10_Gain.l0]
    by_cases h : n > 0
    · rw [if_pos h, tdiv_nn 2 h0, u64w (by omega) (by omega), w64 (by omega) (by omega), ih k (n / 2) (c + 1) (by omega) (by rw [pow_succ'] at h1; omega) (by omega) (by omega) (by omega) (by omega), lg_pos (n := n.toNat) (by omega), show (n / 2).toNat = n.toNat / 2 by omega]
      congr 1; omega
    · rw [if_neg h, show n.toNat = 0 by omega, lg_zero]; congr 1; omega
theorem refGain_eq (l : List Int) (h : inc l = true) (hl : l.length ≤ 16) (k : Nat) (hk : 100 < k) : psalteryref10_Gain.f k l = some (gn l) := by
  unfold psalteryref10_Gain.f
  have hb := sq_bound h
  rw [refSquare_eq l h hl k (by omega)]
  simp only [Option.bind_some]
  have e : (2 : Int) ^ 50 = 1125899906842624 := by decide
  rw [refGain_loop 50 k (sq l) 0 hb.1 (by omega) (Int.le_refl _) (by omega) (by omega) (by omega)]
  unfold gn; congr 1; omega
theorem great_eq (l : List Int) : psalterylaw10_great.f l = some (decide ((l.length : Int) > 100)) := rfl
def frm (b : Int) : Int := if b = 1 then 1 else if b = 2 then 2 else if b = 3 then 4 else if b = 4 then 8 else 0
def wid (b : Int) : Int := if b = 0 then 1 else if b = 1 then 1 else if b = 2 then 2 else if b = 3 then 4 else if b = 4 then 8 else 0
theorem refFrom_eq (b : Int) : psalteryref10_From.f b = some (frm b) := by
  unfold psalteryref10_From.f frm; repeat' split
  all_goals first | rfl | omega
theorem refWidth_eq (b : Int) (k : Nat) (hk : 0 < k) : psalteryref10_Width.f k b = some (wid b) := by
  obtain ⟨k, rfl⟩ : ∃ j, k = j + 1 := ⟨k - 1, by omega⟩
  unfold psalteryref10_Width.f wid
  simp only [psalteryref10_Width.j0]
  by_cases h0 : b = 0
  · subst h0; rfl
  by_cases h1 : b = 1
  · subst h1; rfl
  rw [if_neg h0, if_neg h0, if_neg h1, if_neg (by simpa using h1)]
  repeat' split
  all_goals first | rfl | omega
theorem there_eq (b : Int) : band_there.f b = some (decide (0 ≤ b ∧ b < 5)) := by
  unfold band_there.f
  by_cases c : b ≥ 0
  · rw [if_pos c]; congr 1; rw [decide_eq_decide]; omega
  · rw [if_neg c]; congr 1; rw [decide_eq_false (by omega)]
theorem from_eq (b : Int) : band_From.f b = some (frm b) := by
  by_cases c : 0 ≤ b ∧ b < 5
  · have : b = 0 ∨ b = 1 ∨ b = 2 ∨ b = 3 ∨ b = 4 := by omega
    rcases this with rfl | rfl | rfl | rfl | rfl <;> decide +kernel
  · unfold band_From.f frm
    rw [there_eq, decide_eq_false c]
    simp only [Option.bind_some]
    rw [if_neg (by simp), if_neg (by omega), if_neg (by omega), if_neg (by omega), if_neg (by omega)]
theorem width_eq (b : Int) : band_Width.f b = some (wid b) := by
  by_cases c : 0 ≤ b ∧ b < 5
  · have : b = 0 ∨ b = 1 ∨ b = 2 ∨ b = 3 ∨ b = 4 := by omega
    rcases this with rfl | rfl | rfl | rfl | rfl <;> decide +kernel
  · unfold band_Width.f wid
    rw [there_eq, decide_eq_false c]
    simp only [Option.bind_some]
    rw [if_neg (by simp), if_neg (by omega), if_neg (by omega), if_neg (by omega), if_neg (by omega), if_neg (by omega)]
end Go.Proofs.Ytoghpjggcfnoeaa.LQ
