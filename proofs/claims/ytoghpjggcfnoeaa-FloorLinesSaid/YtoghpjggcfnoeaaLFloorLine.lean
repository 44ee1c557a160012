/- The line through six posts, as floor.Line draws it. -/
import Derived.Test.YtoghpjggcfnoeaaPx5
import Derived.Test.YtoghpjggcfnoeaaLFloor
import Derived.Test.YtoghpjggcfnoeaaThNum
namespace Go.Proofs.Ytoghpjggcfnoeaa.LF
set_option linter.unusedVariables false
set_option linter.unusedSimpArgs false
open Go.RowKit Go.Proofs.YtoghpjggcfnoeaaW.PrintWords Go.Proofs.YtoghpjggcfnoeaaW.PrintLast Go.Proofs.YtoghpjggcfnoeaaW.PrintMore Go.Proofs.Ytoghpjggcfnoeaa.P Go.Proofs.Ytoghpjggcfnoeaa.LB
theorem tdiv_neg' {a b : Int} (ha : a < 0) : Int.tdiv a b = -((-a) / b) := by
  have := tdiv_nn (a := -a) b (by omega)
  rw [Int.neg_tdiv] at this; omega
theorem tdiv_in {n d : Int} (hd : 0 < d) : (0 ≤ n → 0 ≤ Int.tdiv n d ∧ Int.tdiv n d ≤ n) ∧ (n ≤ 0 → n ≤ Int.tdiv n d ∧ Int.tdiv n d ≤ 0) := by
  constructor
  · intro h
    rw [tdiv_nn d h]
    exact ⟨Int.ediv_nonneg h (by omega), Int.ediv_le_self _ h⟩
  · intro h
    by_cases h0 : n = 0
    · subst h0; simp
    rw [tdiv_neg' (by omega)]
    have h1 : 0 ≤ (-n) / d := Int.ediv_nonneg (by omega) (by omega)
    have h2 : (-n) / d ≤ -n := Int.ediv_le_self _ (by omega)
    omega
theorem tdiv_frac {D t d : Int} (ht : 0 ≤ t) (htd : t ≤ d) (hd : 0 < d) : (0 ≤ D → 0 ≤ Int.tdiv (D * t) d ∧ Int.tdiv (D * t) d ≤ D) ∧ (D ≤ 0 → D ≤ Int.tdiv (D * t) d ∧ Int.tdiv (D * t) d ≤ 0) := by
  constructor
  · intro h
    have h0 : 0 ≤ D * t := Int.mul_nonneg h ht
    rw [tdiv_nn d h0]
    exact ⟨Int.ediv_nonneg h0 (by omega), Int.ediv_le_of_le_mul hd (Int.mul_le_mul_of_nonneg_left htd h)⟩
  · intro h
    have h0 : 0 ≤ (-D) * t := Int.mul_nonneg (by omega) ht
    have e : D * t = -((-D) * t) := by rw [Int.neg_mul, Int.neg_neg]
    rw [e, Int.neg_tdiv, tdiv_nn d h0]
    have h1 : 0 ≤ (-D) * t / d := Int.ediv_nonneg h0 (by omega)
    have h2 : (-D) * t / d ≤ -D := Int.ediv_le_of_le_mul hd (Int.mul_le_mul_of_nonneg_left htd (by omega))
    omega
/-- the line's value at j, between the post p at x and the next one at w -/
def V (l : List Int) (p x w j : Int) : Int := rd l p + Int.tdiv ((rd l (p + 1) - rd l p) * (j - x)) (w - x)
theorem V_in (l : List Int) (p : Int) {x w j : Int} (h : x < w) (h0 : x ≤ j) (h1 : j ≤ w) : min (rd l p) (rd l (p + 1)) ≤ V l p x w j ∧ V l p x w j ≤ max (rd l p) (rd l (p + 1)) := by
  have := tdiv_frac (D := rd l (p + 1) - rd l p) (t := j - x) (d := w - x) (by omega) (by omega) (by omega)
  unfold V; omega
theorem V_left (l : List Int) (p : Int) {x w : Int} : V l p x w x = rd l p := by unfold V; rw [Int.sub_self, Int.mul_zero, Int.zero_tdiv, Int.add_zero]
theorem V_right (l : List Int) (p : Int) {x w : Int} (h : x < w) : V l p x w w = rd l (p + 1) := by
  unfold V; rw [Int.mul_tdiv_cancel _ (by omega)]; omega
theorem seg_loop (l : List Int) (hl : okl 6 l = true) (p x w : Int) (hp : 0 ≤ p ∧ p < 5) (hx : 0 ≤ x) (hxw : x < w) (hw : w ≤ 15) (d : Nat) : ∀ (j : Int) (k : Nat) (out : List Int), x ≤ j → j + d = w + 1 → d < k → out.length = 16 →
    ∃ (out' : List Int) (k' : Nat), floor_Line.l1 k l out p x w j p = floor_Line.l0 k' l out' (p + 1) ∧ k' + d + 1 = k ∧ out'.length = 16 ∧ ∀ i : Nat, i < 16 → rd out' i = if j ≤ (i : Int) ∧ (i : Int) ≤ w then V l p x w i else rd out i := by
  simp only [okl, Bool.and_eq_true, beq_iff_eq] at hl
  induction d with
  | zero =>
    intro j k out h0 h1 hk ho
    obtain ⟨k, rfl⟩ : ∃ j, k = j + 1 := ⟨k - 1, by omega⟩
    refine ⟨out, k, ?_, by omega, ho, fun i hi => by rw [if_neg (by omega)]⟩
    simp only [floor_Line.l1]; rw [if_neg (by omega), w64 (by omega) (by omega)]
  | succ d ih =>
    intro j k out h0 h1 hk ho
    obtain ⟨k, rfl⟩ : ∃ j, k = j + 1 := ⟨k - 1, by omega⟩
    have b0 := rd_in' hl.1 p (by omega) (by omega)
    have b1 := rd_in' hl.1 (p + 1) (by omega) (by omega)
    have m1 : (rd l (p + 1) - rd l p) * (j - x) ≤ 44 * (j - x) := Int.mul_le_mul_of_nonneg_right (by omega) (by omega)
    have m2 : -44 * (j - x) ≤ (rd l (p + 1) - rd l p) * (j - x) := Int.mul_le_mul_of_nonneg_right (by omega) (by omega)
    have t := tdiv_in (n := (rd l (p + 1) - rd l p) * (j - x)) (d := w - x) (by omega)
    have eV : V l p x w j = rd l p + Int.tdiv ((rd l (p + 1) - rd l p) * (j - x)) (w - x) := rfl
    simp only [floor_Line.l1]
    rw [if_pos (by omega), if_pos (by omega), if_pos (by omega), w64 (x := p + 1) (by omega) (by omega), if_pos (by omega), if_pos (by omega), w64 (x := w - x) (by omega) (by omega), if_neg (by omega), if_pos (by omega), if_pos (by omega),
      w64 (x := rd l (p + 1) - rd l p) (by omega) (by omega), w64 (x := j - x) (by omega) (by omega), w64 (x := (rd l (p + 1) - rd l p) * (j - x)) (by omega) (by omega), w64 (x := Int.tdiv ((rd l (p + 1) - rd l p) * (j - x)) (w - x)) (by omega) (by omega),
      w64 (x := rd l p + Int.tdiv ((rd l (p + 1) - rd l p) * (j - x)) (w - x)) (by omega) (by omega), ← eV, w64 (x := j + 1) (by omega) (by omega)]
    obtain ⟨out', k', e1, e2, e3, e4⟩ := ih (j + 1) k (out.set j.toNat (V l p x w j)) (by omega) (by omega) (by omega) (by rw [List.length_set]; exact ho)
    refine ⟨out', k', e1, by omega, e3, fun i hi => ?_⟩
    rw [e4 i hi, rd_set out j (by omega) (by omega)]
    by_cases c : (i : Int) = j
    · rw [if_neg (by omega), if_pos c, if_pos (by omega), c]
    · rw [if_neg c]
      by_cases c' : j + 1 ≤ (i : Int) ∧ (i : Int) ≤ w
      · rw [if_pos c', if_pos (by omega)]
      · rw [if_neg c', if_neg (by omega)]
theorem l0_step (l : List Int) (hl : okl 6 l = true) (p x w : Int) (hp : 0 ≤ p ∧ p < 5) (ex : at14 p = x) (ew : at14 (p + 1) = w) (hx : 0 ≤ x) (hxw : x < w) (hw : w ≤ 15) (k : Nat) (out : List Int) (hk : 20 < k) (ho : out.length = 16) :
    ∃ (out' : List Int) (k' : Nat), floor_Line.l0 k l out p = floor_Line.l0 k' l out' (p + 1) ∧ k < k' + 20 ∧ out'.length = 16 ∧ ∀ i : Nat, i < 16 → rd out' i = if x ≤ (i : Int) ∧ (i : Int) ≤ w then V l p x w i else rd out i := by
  obtain ⟨k, rfl⟩ : ∃ j, k = j + 1 := ⟨k - 1, by omega⟩
  obtain ⟨out', k', e1, e2, e3, e4⟩ := seg_loop l hl p x w hp hx hxw hw (w + 1 - x).toNat x k out (Int.le_refl _) (by omega) (by omega) ho
  refine ⟨out', k', ?_, by omega, e3, e4⟩
  simp only [floor_Line.l0]
  rw [if_pos (by omega), w64 (x := p + 1) (by omega) (by omega), at_eq, at_eq, ex, ew]
  exact e1
def lineV (l : List Int) (i : Int) : Int := if i < 1 then V l 0 0 1 i else if i < 2 then V l 1 1 2 i else if i < 4 then V l 2 2 4 i else if i < 8 then V l 3 4 8 i else V l 4 8 15 i
theorem line_eq (l : List Int) (hl : l.length ≤ maxLen) (k : Nat) (hk : l.length + 200 < k) :
    (okl 6 l = true ∧ ∃ out : List Int, floor_Line.f k l = some (out, 0) ∧ out.length = 16 ∧ ∀ i : Nat, i < 16 → rd out i = lineV l i) ∨ (okl 6 l = false ∧ floor_Line.f k l = some ([], 1)) := by
  unfold floor_Line.f
  rw [right_eq l hl k (by omega)]
  simp only [Option.bind_some]
  cases h : okl 6 l with
  | false => exact .inr ⟨rfl, rfl⟩
  | true =>
    refine .inl ⟨rfl, ?_⟩
    rw [if_pos rfl, if_pos (by decide)]
    obtain ⟨o1, k1, a1, b1, c1, d1⟩ := l0_step l h 0 0 1 (by omega) rfl rfl (by omega) (by omega) (by omega) k (List.replicate 16 0) (by omega) (by simp)
    obtain ⟨o2, k2, a2, b2, c2, d2⟩ := l0_step l h 1 1 2 (by omega) rfl rfl (by omega) (by omega) (by omega) k1 o1 (by omega) c1
    obtain ⟨o3, k3, a3, b3, c3, d3⟩ := l0_step l h 2 2 4 (by omega) rfl rfl (by omega) (by omega) (by omega) k2 o2 (by omega) c2
    obtain ⟨o4, k4, a4, b4, c4, d4⟩ := l0_step l h 3 4 8 (by omega) rfl rfl (by omega) (by omega) (by omega) k3 o3 (by omega) c3
    obtain ⟨o5, k5, a5, b5, c5, d5⟩ := l0_step l h 4 8 15 (by omega) rfl rfl (by omega) (by omega) (by omega) k4 o4 (by omega) c4
    refine ⟨o5, ?_, c5, fun i hi => ?_⟩
    · obtain ⟨k5, rfl⟩ : ∃ j, k5 = j + 1 := ⟨k5 - 1, by omega⟩
      rw [a1]; erw [a2]; erw [a3]; erw [a4]; erw [a5]
      simp only [floor_Line.l0]; rw [if_neg (by omega)]
    · rw [d5 i hi, d4 i hi, d3 i hi, d2 i hi, d1 i hi]
      unfold lineV
      by_cases q5 : (8 : Int) ≤ i
      · rw [if_pos (by omega), if_neg (by omega), if_neg (by omega), if_neg (by omega), if_neg (by omega)]
      rw [if_neg (by omega)]
      by_cases q4 : (4 : Int) ≤ i
      · rw [if_pos (by omega), if_neg (by omega), if_neg (by omega), if_neg (by omega), if_pos (by omega)]
      rw [if_neg (by omega)]
      by_cases q3 : (2 : Int) ≤ i
      · rw [if_pos (by omega), if_neg (by omega), if_neg (by omega), if_pos (by omega)]
      rw [if_neg (by omega)]
      by_cases q2 : (1 : Int) ≤ i
      · rw [if_pos (by omega), if_neg (by omega), if_pos (by omega)]
      rw [if_neg (by omega), if_pos (by omega), if_pos (by omega)]
end Go.Proofs.Ytoghpjggcfnoeaa.LF
