/- The law FloorBounds: a floor is 1 at least, and the value of the greatest post, or 1, at most; proved for every input. -/
import Derived.Test.YtoghpjggcfnoeaaPx26
import Derived.Test.YtoghpjggcfnoeaaLFloorVal
namespace Go.Proofs.Ytoghpjggcfnoeaa.Pure
set_option linter.unusedVariables false
set_option linter.unusedSimpArgs false
open Go.RowKit Go.Proofs.YtoghpjggcfnoeaaW.PrintWords Go.Proofs.YtoghpjggcfnoeaaW.PrintLast Go.Proofs.YtoghpjggcfnoeaaW.PrintMore Go.Proofs.Ytoghpjggcfnoeaa.P Go.Proofs.Ytoghpjggcfnoeaa.LB Go.Proofs.Ytoghpjggcfnoeaa.LF Go.Proofs.Ytoghpjggcfnoeaa.NT
theorem line_top (l : List Int) (top : Int) (h : ∀ j : Nat, j < 6 → rd l j ≤ top) (i : Nat) (hi : i < 16) : lineV l i ≤ top := by
  have z0 := h 0 (by omega)
  have z1 := h 1 (by omega)
  have z2 := h 2 (by omega)
  have z3 := h 3 (by omega)
  have z4 := h 4 (by omega)
  have z5 := h 5 (by omega)
  unfold lineV
  repeat' split
  · have := V_in l 0 (x := 0) (w := 1) (j := i) (by omega) (by omega) (by omega); simp only [Int.zero_add] at this; simp at z0 z1; omega
  · have := V_in l 1 (x := 1) (w := 2) (j := i) (by omega) (by omega) (by omega); rw [show (1 : Int) + 1 = 2 from rfl] at this; simp at z1 z2; omega
  · have := V_in l 2 (x := 2) (w := 4) (j := i) (by omega) (by omega) (by omega); rw [show (2 : Int) + 1 = 3 from rfl] at this; simp at z2 z3; omega
  · have := V_in l 3 (x := 4) (w := 8) (j := i) (by omega) (by omega) (by omega); rw [show (3 : Int) + 1 = 4 from rfl] at this; simp at z3 z4; omega
  · have := V_in l 4 (x := 8) (w := 15) (j := i) (by omega) (by omega) (by omega); rw [show (4 : Int) + 1 = 5 from rfl] at this; simp at z4 z5; omega
theorem Bounds_l1 (y : List Int) (most : Int) (hy : y.length = 16) (h : ∀ i : Nat, i < 16 → 1 ≤ rd y i ∧ rd y i ≤ most) (d : Nat) : ∀ (i k : Nat), i + d = 16 → d + 300 < k → psalterylaw14_FloorBounds.l1 k y most i = some true := by
  induction d with
  | zero =>
    intro i k hi hk
    obtain ⟨k, rfl⟩ : ∃ j, k = j + 1 := ⟨k - 1, by omega⟩
    simp only [psalterylaw14_FloorBounds.l1]
    rw [if_neg (by omega), knows14 k (by omega)]; rfl
  | succ d ih =>
    intro i k hi hk
    obtain ⟨k, rfl⟩ : ∃ j, k = j + 1 := ⟨k - 1, by omega⟩
    have hb := h i (by omega)
    have nx := ih (i + 1) k (by omega) (by omega)
    simp only [psalterylaw14_FloorBounds.l1]
    rw [if_pos (by omega), if_pos (by omega), if_pos (by omega), if_neg (by omega), if_neg (by omega), w64 (by omega) (by omega), show (i : Int) + 1 = ((i + 1 : Nat) : Int) by omega]
    exact nx
theorem Bounds_l0 (l y : List Int) (hl : okl 6 l = true) (hy : y.length = 16) (h : ∀ i : Nat, i < 16 → rd y i = flv (lineV l i)) (d : Nat) : ∀ (i k : Nat) (top : Int), i + d = 6 → d + 500 < k → 0 ≤ top → top ≤ 44 → (∀ j : Nat, j < i → rd l j ≤ top) → psalterylaw14_FloorBounds.l0 k l y top i = some true := by
  have hl' := hl
  simp only [okl, Bool.and_eq_true, beq_iff_eq] at hl'
  induction d with
  | zero =>
    intro i k top hi hk h0 h1 ht
    obtain ⟨k, rfl⟩ : ∃ j, k = j + 2 := ⟨k - 2, by omega⟩
    have ht' : ∀ j : Nat, j < 6 → rd l j ≤ top := fun j hj => ht j (by omega)
    simp only [psalterylaw14_FloorBounds.l0]
    rw [if_neg (by omega), refVal_eq top (k + 1) (by omega)]
    simp only [Option.bind_some, psalterylaw14_FloorBounds.j2]
    have mono : ∀ i : Nat, i < 16 → val (lineV l i) ≤ val top := fun i hi => val_mono (line_top l top ht' i hi) h1
    by_cases c : val top < 1
    · rw [if_pos c]
      exact Bounds_l1 y 1 hy (fun i hi => by rw [h i hi]; unfold flv; have := mono i hi; rw [if_pos (by omega)]; omega) 16 0 k rfl (by omega)
    · rw [if_neg c]
      exact Bounds_l1 y (val top) hy (fun i hi => by rw [h i hi]; unfold flv; have := mono i hi; split <;> omega) 16 0 k rfl (by omega)
  | succ d ih =>
    intro i k top hi hk h0 h1 ht
    obtain ⟨k, rfl⟩ : ∃ j, k = j + 1 := ⟨k - 1, by omega⟩
    have hb := rd_in hl'.1 i (by omega)
    simp only [psalterylaw14_FloorBounds.l0]
    rw [if_pos (by omega), if_pos (by omega), if_pos (by omega), w64 (by omega) (by omega), show (i : Int) + 1 = ((i + 1 : Nat) : Int) by omega]
    by_cases c : rd l i > top
    · rw [if_pos c]
      exact ih (i + 1) k _ (by omega) (by omega) (by omega) (by omega) (fun j hj => by
        by_cases e : j = i
        · rw [e]; exact Int.le_refl _
        · have := ht j (by omega); omega)
    · rw [if_neg c]
      exact ih (i + 1) k _ (by omega) (by omega) h0 h1 (fun j hj => by
        by_cases e : j = i
        · rw [e]; omega
        · exact ht j (by omega))
theorem FloorBounds : psalterylaw14_FloorBounds.Pure := by
  intro l
  intros
  have hlen : l.length ≤ maxLen := by assumption
  obtain ⟨K, hK⟩ : ∃ K : Nat, l.length + 10000 ≤ K := ⟨_, Nat.le_refl _⟩
  refine ⟨K + 1, ?_⟩
  unfold psalterylaw14_FloorBounds.f
  rw [knows14 (K + 1) (by omega), refRight_eq l hlen (K + 1) (by omega)]
  simp only [Option.bind_some]
  rcases floor_eq l hlen (K + 1) (by omega) with ⟨h, y, e1, e2, e3⟩ | ⟨h, _⟩
  · rw [if_pos h, e1]
    simp only [Option.bind_some, if_true, psalterylaw14_FloorBounds.j0]
    rw [e2, if_neg (by decide)]
    exact Bounds_l0 l y h e2 e3 6 0 K 0 rfl (by omega) (by omega) (by omega) (fun j hj => by omega)
  · rw [h]; rfl
end Go.Proofs.Ytoghpjggcfnoeaa.Pure
