/- The law FloorLines: the line, and the floor, at each place are those that the document says, or the error is told; proved for every input. -/
import Derived.Test.YtoghpjggcfnoeaaPx21
import Derived.Test.YtoghpjggcfnoeaaPx17
import Derived.Test.YtoghpjggcfnoeaaPx20
import Derived.Test.YtoghpjggcfnoeaaPx16
import Derived.Test.YtoghpjggcfnoeaaLFloorVal
namespace Go.Proofs.Ytoghpjggcfnoeaa.Pure
set_option linter.unusedVariables false
set_option linter.unusedSimpArgs false
open Go.RowKit Go.Proofs.YtoghpjggcfnoeaaW.PrintWords Go.Proofs.YtoghpjggcfnoeaaW.PrintLast Go.Proofs.YtoghpjggcfnoeaaW.PrintMore Go.Proofs.Ytoghpjggcfnoeaa.P Go.Proofs.Ytoghpjggcfnoeaa.LB Go.Proofs.Ytoghpjggcfnoeaa.LF Go.Proofs.Ytoghpjggcfnoeaa.NT
theorem post_yes (i p q q' a : Int) (m : Nat) (hm : 0 < m) (h0 : 0 ≤ q) (h1 : q < 6) (hq : q + 1 = q') (ha : at14 q = a) (h : a ≤ i) : psalteryref14_post.l0 (m + 1) i p q = psalteryref14_post.l0 m i q q' := by
  conv => lhs; unfold psalteryref14_post.l0
  rw [if_pos h1, refAt_eq q m hm, ha, w64 (by omega) (by omega), hq]
  simp only [Option.bind_some]
  rw [if_pos h]
theorem post_no (i p q q' a : Int) (m : Nat) (hm : 0 < m) (h0 : 0 ≤ q) (h1 : q < 6) (hq : q + 1 = q') (ha : at14 q = a) (h : ¬ a ≤ i) : psalteryref14_post.l0 (m + 1) i p q = psalteryref14_post.l0 m i p q' := by
  conv => lhs; unfold psalteryref14_post.l0
  rw [if_pos h1, refAt_eq q m hm, ha, w64 (by omega) (by omega), hq]
  simp only [Option.bind_some]
  rw [if_neg h]
theorem post_end (i p : Int) (m : Nat) : psalteryref14_post.l0 (m + 1) i p 6 = some p := by
  conv => lhs; unfold psalteryref14_post.l0
  rw [if_neg (by omega)]
theorem post_eq (i : Int) (hi : 0 ≤ i ∧ i < 16) (k : Nat) (hk : 20 < k) : psalteryref14_post.f k i = some (if i < 1 then 0 else if i < 2 then 1 else if i < 4 then 2 else if i < 8 then 3 else if i < 15 then 4 else 5) := by
  obtain ⟨k, rfl⟩ : ∃ j, k = j + 1 + 1 + 1 + 1 + 1 + 1 + 1 := ⟨k - 7, by omega⟩
  unfold psalteryref14_post.f
  by_cases c0 : i < 1
  · rw [if_pos (show i < 1 by omega), post_yes i 0 0 1 0 _ (by omega) (by omega) (by omega) rfl rfl (by omega), post_no i 0 1 2 1 _ (by omega) (by omega) (by omega) rfl rfl (by omega), post_no i 0 2 3 2 _ (by omega) (by omega) (by omega) rfl rfl (by omega), post_no i 0 3 4 4 _ (by omega) (by omega) (by omega) rfl rfl (by omega), post_no i 0 4 5 8 _ (by omega) (by omega) (by omega) rfl rfl (by omega), post_no i 0 5 6 15 _ (by omega) (by omega) (by omega) rfl rfl (by omega), post_end i 0 _]
  by_cases c1 : i < 2
  · rw [if_neg (show ¬ i < 1 by omega), if_pos (show i < 2 by omega), post_yes i 0 0 1 0 _ (by omega) (by omega) (by omega) rfl rfl (by omega), post_yes i 0 1 2 1 _ (by omega) (by omega) (by omega) rfl rfl (by omega), post_no i 1 2 3 2 _ (by omega) (by omega) (by omega) rfl rfl (by omega), post_no i 1 3 4 4 _ (by omega) (by omega) (by omega) rfl rfl (by omega), post_no i 1 4 5 8 _ (by omega) (by omega) (by omega) rfl rfl (by omega), post_no i 1 5 6 15 _ (by omega) (by omega) (by omega) rfl rfl (by omega), post_end i 1 _]
  by_cases c2 : i < 4
  · rw [if_neg (show ¬ i < 1 by omega), if_neg (show ¬ i < 2 by omega), if_pos (show i < 4 by omega), post_yes i 0 0 1 0 _ (by omega) (by omega) (by omega) rfl rfl (by omega), post_yes i 0 1 2 1 _ (by omega) (by omega) (by omega) rfl rfl (by omega), post_yes i 1 2 3 2 _ (by omega) (by omega) (by omega) rfl rfl (by omega), post_no i 2 3 4 4 _ (by omega) (by omega) (by omega) rfl rfl (by omega), post_no i 2 4 5 8 _ (by omega) (by omega) (by omega) rfl rfl (by omega), post_no i 2 5 6 15 _ (by omega) (by omega) (by omega) rfl rfl (by omega), post_end i 2 _]
  by_cases c3 : i < 8
  · rw [if_neg (show ¬ i < 1 by omega), if_neg (show ¬ i < 2 by omega), if_neg (show ¬ i < 4 by omega), if_pos (show i < 8 by omega), post_yes i 0 0 1 0 _ (by omega) (by omega) (by omega) rfl rfl (by omega), post_yes i 0 1 2 1 _ (by omega) (by omega) (by omega) rfl rfl (by omega), post_yes i 1 2 3 2 _ (by omega) (by omega) (by omega) rfl rfl (by omega), post_yes i 2 3 4 4 _ (by omega) (by omega) (by omega) rfl rfl (by omega), post_no i 3 4 5 8 _ (by omega) (by omega) (by omega) rfl rfl (by omega), post_no i 3 5 6 15 _ (by omega) (by omega) (by omega) rfl rfl (by omega), post_end i 3 _]
  by_cases c4 : i < 15
  · rw [if_neg (show ¬ i < 1 by omega), if_neg (show ¬ i < 2 by omega), if_neg (show ¬ i < 4 by omega), if_neg (show ¬ i < 8 by omega), if_pos (show i < 15 by omega), post_yes i 0 0 1 0 _ (by omega) (by omega) (by omega) rfl rfl (by omega), post_yes i 0 1 2 1 _ (by omega) (by omega) (by omega) rfl rfl (by omega), post_yes i 1 2 3 2 _ (by omega) (by omega) (by omega) rfl rfl (by omega), post_yes i 2 3 4 4 _ (by omega) (by omega) (by omega) rfl rfl (by omega), post_yes i 3 4 5 8 _ (by omega) (by omega) (by omega) rfl rfl (by omega), post_no i 4 5 6 15 _ (by omega) (by omega) (by omega) rfl rfl (by omega), post_end i 4 _]
  rw [if_neg (show ¬ i < 1 by omega), if_neg (show ¬ i < 2 by omega), if_neg (show ¬ i < 4 by omega), if_neg (show ¬ i < 8 by omega), if_neg (show ¬ i < 15 by omega), post_yes i 0 0 1 0 _ (by omega) (by omega) (by omega) rfl rfl (by omega), post_yes i 0 1 2 1 _ (by omega) (by omega) (by omega) rfl rfl (by omega), post_yes i 1 2 3 2 _ (by omega) (by omega) (by omega) rfl rfl (by omega), post_yes i 2 3 4 4 _ (by omega) (by omega) (by omega) rfl rfl (by omega), post_yes i 3 4 5 8 _ (by omega) (by omega) (by omega) rfl rfl (by omega), post_yes i 4 5 6 15 _ (by omega) (by omega) (by omega) rfl rfl (by omega), post_end i 5 _]
theorem seg_eq (l : List Int) (hl : okl 6 l = true) (i : Int) (k : Nat) (hk : 0 < k) (p x w : Int) (hp : 0 ≤ p ∧ p < 5) (ex : at14 p = x) (ew : at14 (p + 1) = w) (hx : 0 ≤ x) (hxw : x < w) (hw : w ≤ 15) (h0 : x ≤ i) (h1 : i ≤ w) (hpost : psalteryref14_post.f k i = some p) :
    psalteryref14_Line.f k l i = some (V l p x w i) := by
  simp only [okl, Bool.and_eq_true, beq_iff_eq] at hl
  have b0 := rd_in' hl.1 p (by omega) (by omega)
  have b1 := rd_in' hl.1 (p + 1) (by omega) (by omega)
  have m1 : (rd l (p + 1) - rd l p) * (i - x) ≤ 44 * (i - x) := Int.mul_le_mul_of_nonneg_right (by omega) (by omega)
  have m2 : -44 * (i - x) ≤ (rd l (p + 1) - rd l p) * (i - x) := Int.mul_le_mul_of_nonneg_right (by omega) (by omega)
  have t := tdiv_in (n := (rd l (p + 1) - rd l p) * (i - x)) (d := w - x) (by omega)
  unfold psalteryref14_Line.f
  rw [hpost]
  simp only [Option.bind_some]
  rw [if_neg (by omega), w64 (x := p + 1) (by omega) (by omega), if_pos (by omega), if_pos (by omega), if_pos (by omega), if_pos (by omega), refAt_eq p k hk, refAt_eq (p + 1) k hk, ex, ew]
  simp only [Option.bind_some]
  rw [w64 (x := rd l (p + 1) - rd l p) (by omega) (by omega), w64 (x := i - x) (by omega) (by omega), w64 (x := w - x) (by omega) (by omega)]
  unfold V
  generalize (rd l (p + 1) - rd l p) * (i - x) = n at *
  rw [w64 (x := n) (by omega) (by omega)]
  by_cases c : n < 0
  · rw [if_pos c, if_neg (by omega), w64 (x := -n) (by omega) (by omega), Int.neg_tdiv]
    generalize Int.tdiv n (w - x) = q at *
    rw [w64 (x := -q) (by omega) (by omega), w64 (by omega) (by omega)]
    congr 1; omega
  · rw [if_neg c, if_neg (by omega)]
    generalize Int.tdiv n (w - x) = q at *
    rw [w64 (x := q) (by omega) (by omega), w64 (by omega) (by omega)]
theorem refLine_eq (l : List Int) (hl : okl 6 l = true) (i : Int) (hi : 0 ≤ i ∧ i < 16) (k : Nat) (hk : 20 < k) : psalteryref14_Line.f k l i = some (lineV l i) := by
  have hpost := post_eq i hi k hk
  unfold lineV
  by_cases c1 : i < 1
  · rw [if_pos c1] at hpost ⊢
    exact seg_eq l hl i k (by omega) 0 0 1 (by omega) rfl rfl (by omega) (by omega) (by omega) (by omega) (by omega) hpost
  rw [if_neg c1] at hpost ⊢
  by_cases c2 : i < 2
  · rw [if_pos c2] at hpost ⊢
    exact seg_eq l hl i k (by omega) 1 1 2 (by omega) rfl rfl (by omega) (by omega) (by omega) (by omega) (by omega) hpost
  rw [if_neg c2] at hpost ⊢
  by_cases c3 : i < 4
  · rw [if_pos c3] at hpost ⊢
    exact seg_eq l hl i k (by omega) 2 2 4 (by omega) rfl rfl (by omega) (by omega) (by omega) (by omega) (by omega) hpost
  rw [if_neg c3] at hpost ⊢
  by_cases c4 : i < 8
  · rw [if_pos c4] at hpost ⊢
    exact seg_eq l hl i k (by omega) 3 4 8 (by omega) rfl rfl (by omega) (by omega) (by omega) (by omega) (by omega) hpost
  rw [if_neg c4] at hpost ⊢
  by_cases c5 : i < 15
  · rw [if_pos c5] at hpost
    exact seg_eq l hl i k (by omega) 4 8 15 (by omega) rfl rfl (by omega) (by omega) (by omega) (by omega) (by omega) hpost
  rw [if_neg c5] at hpost
  obtain rfl : i = 15 := by omega
  simp only [okl, Bool.and_eq_true, beq_iff_eq] at hl
  unfold psalteryref14_Line.f
  rw [hpost]
  simp only [Option.bind_some, if_true]
  rw [if_pos (by omega), V_right l 4 (by omega)]
  rfl
theorem refFloor_eq (l : List Int) (hl : okl 6 l = true) (i : Int) (hi : 0 ≤ i ∧ i < 16) (k : Nat) (hk : 200 < k) : psalteryref14_Floor.f k l i = some (flv (lineV l i)) := by
  unfold psalteryref14_Floor.f
  rw [refLine_eq l hl i hi k (by omega)]
  simp only [Option.bind_some]
  rw [refVal_eq _ k (by omega)]
  simp only [Option.bind_some]
  unfold flv; split <;> rfl
theorem Lines_l0 (l x y : List Int) (hl : okl 6 l = true) (hx : x.length = 16) (hy : y.length = 16) (hv : ∀ i : Nat, i < 16 → rd x i = lineV l i) (hf : ∀ i : Nat, i < 16 → rd y i = flv (lineV l i)) (d : Nat) : ∀ (i k : Nat), i + d = 16 → d + 300 < k → psalterylaw14_FloorLines.l0 k l x y i = some true := by
  induction d with
  | zero =>
    intro i k hi hk
    obtain ⟨k, rfl⟩ : ∃ j, k = j + 1 := ⟨k - 1, by omega⟩
    simp only [psalterylaw14_FloorLines.l0]
    rw [if_neg (by omega), knows14 k (by omega)]; rfl
  | succ d ih =>
    intro i k hi hk
    obtain ⟨k, rfl⟩ : ∃ j, k = j + 1 := ⟨k - 1, by omega⟩
    have nx := ih (i + 1) k (by omega) (by omega)
    simp only [psalterylaw14_FloorLines.l0]
    rw [if_pos (by omega), if_pos (by omega), if_pos (by omega), refLine_eq l hl i (by omega) k (by omega)]
    simp only [Option.bind_some]
    rw [if_pos (hv i (by omega)), if_pos (by omega), refFloor_eq l hl i (by omega) k (by omega)]
    simp only [Option.bind_some]
    rw [if_pos (hf i (by omega)), w64 (by omega) (by omega), show (i : Int) + 1 = ((i + 1 : Nat) : Int) by omega]
    exact nx
theorem FloorLines : psalterylaw14_FloorLines.Pure := by
  intro l
  intros
  have hlen : l.length ≤ maxLen := by assumption
  obtain ⟨K, hK⟩ : ∃ K : Nat, l.length + 10000 ≤ K := ⟨_, Nat.le_refl _⟩
  refine ⟨K + 1, ?_⟩
  unfold psalterylaw14_FloorLines.f
  rw [knows14 (K + 1) (by omega), refRight_eq l hlen (K + 1) (by omega)]
  simp only [Option.bind_some]
  by_cases c : (l.length : Int) > 100
  · rw [if_pos c]
  rw [if_neg c]
  rcases line_eq l hlen (K + 1) (by omega) with ⟨h, x, x1, x2, x3⟩ | ⟨h, x1⟩
  · rcases floor_eq l hlen (K + 1) (by omega) with ⟨_, y, y1, y2, y3⟩ | ⟨h', _⟩
    · rw [x1]
      simp only [Option.bind_some]
      rw [y1]
      simp only [Option.bind_some]
      rw [if_pos h]
      simp only [if_true, psalterylaw14_FloorLines.j0]
      rw [x2, y2, if_pos (by decide), if_neg (by decide)]
      exact Lines_l0 l x y h x2 y2 x3 y3 16 0 K rfl (by omega)
    · rw [h] at h'; cases h'
  · rcases floor_eq l hlen (K + 1) (by omega) with ⟨h', _⟩ | ⟨_, y1⟩
    · rw [h] at h'; cases h'
    · rw [x1]
      simp only [Option.bind_some]
      rw [y1, h]
      rfl
end Go.Proofs.Ytoghpjggcfnoeaa.Pure
