/- The law FloorThrough: the line goes through the posts, and between two of them it is not beyond them; proved for every input. -/
import Derived.Test.YtoghpjggcfnoeaaPx25
import Derived.Test.YtoghpjggcfnoeaaLFloorLine
namespace Go.Proofs.Ytoghpjggcfnoeaa.Pure
set_option linter.unusedVariables false
set_option linter.unusedSimpArgs false
open Go.RowKit Go.Proofs.YtoghpjggcfnoeaaW.PrintWords Go.Proofs.YtoghpjggcfnoeaaW.PrintLast Go.Proofs.YtoghpjggcfnoeaaW.PrintMore Go.Proofs.Ytoghpjggcfnoeaa.P Go.Proofs.Ytoghpjggcfnoeaa.LB Go.Proofs.Ytoghpjggcfnoeaa.LF
theorem at14_in (p : Nat) (hp : p < 6) : 0 ≤ at14 p ∧ at14 p ≤ 15 := by
  unfold at14; repeat' split
  all_goals omega
theorem post_cases {p : Nat} (hp : p < 6) : p = 0 ∨ p = 1 ∨ p = 2 ∨ p = 3 ∨ p = 4 ∨ p = 5 := by omega
theorem line_at (l : List Int) (p : Nat) (hp : p < 6) : lineV l (at14 p) = rd l p := by
  rcases post_cases hp with rfl | rfl | rfl | rfl | rfl | rfl
  · show lineV l 0 = rd l 0
    unfold lineV; rw [if_pos (by omega)]; exact V_left l 0
  · show lineV l 1 = rd l 1
    unfold lineV; rw [if_neg (by omega), if_pos (by omega)]; exact V_left l 1
  · show lineV l 2 = rd l 2
    unfold lineV; rw [if_neg (by omega), if_neg (by omega), if_pos (by omega)]; exact V_left l 2
  · show lineV l 4 = rd l 3
    unfold lineV; rw [if_neg (by omega), if_neg (by omega), if_neg (by omega), if_pos (by omega)]; exact V_left l 3
  · show lineV l 8 = rd l 4
    unfold lineV; rw [if_neg (by omega), if_neg (by omega), if_neg (by omega), if_neg (by omega)]; exact V_left l 4
  · show lineV l 15 = rd l 5
    unfold lineV; rw [if_neg (by omega), if_neg (by omega), if_neg (by omega), if_neg (by omega)]; exact V_right l 4 (by omega)
theorem line_between (l : List Int) (p : Nat) (hp : p < 5) (i : Int) (h0 : at14 p ≤ i) (h1 : i ≤ at14 (p + 1 : Nat)) : min (rd l p) (rd l (p + 1 : Nat)) ≤ lineV l i ∧ lineV l i ≤ max (rd l p) (rd l (p + 1 : Nat)) := by
  by_cases e : i = at14 (p + 1 : Nat)
  · rw [e, line_at l (p + 1) (by omega)]; omega
  have h2 : i < at14 (p + 1 : Nat) := by omega
  clear h1 e
  rcases post_cases (p := p) (by omega) with rfl | rfl | rfl | rfl | rfl | rfl
  · have h0' : 0 ≤ i := h0
    have h2' : i < 1 := h2
    unfold lineV; rw [if_pos (by omega)]; exact V_in l 0 (by omega) (by omega) (by omega)
  · have h0' : 1 ≤ i := h0
    have h2' : i < 2 := h2
    unfold lineV; rw [if_neg (by omega), if_pos (by omega)]; exact V_in l 1 (by omega) (by omega) (by omega)
  · have h0' : 2 ≤ i := h0
    have h2' : i < 4 := h2
    unfold lineV; rw [if_neg (by omega), if_neg (by omega), if_pos (by omega)]; exact V_in l 2 (by omega) (by omega) (by omega)
  · have h0' : 4 ≤ i := h0
    have h2' : i < 8 := h2
    unfold lineV; rw [if_neg (by omega), if_neg (by omega), if_neg (by omega), if_pos (by omega)]; exact V_in l 3 (by omega) (by omega) (by omega)
  · have h0' : 8 ≤ i := h0
    have h2' : i < 15 := h2
    unfold lineV; rw [if_neg (by omega), if_neg (by omega), if_neg (by omega), if_neg (by omega)]; exact V_in l 4 (by omega) (by omega) (by omega)
  · omega
theorem Through_l2 (l x : List Int) (hx : x.length = 16) (hv : ∀ i : Nat, i < 16 → rd x i = lineV l i) (p : Nat) (hp : p < 5) (lo hi : Int) (hb : ∀ i : Int, at14 p ≤ i → i ≤ at14 (p + 1 : Nat) → lo ≤ lineV l i ∧ lineV l i ≤ hi)
    (M : Nat) (next : ∀ k, M < k → psalterylaw14_FloorThrough.l1 k l x ((p : Int) + 1) = some true) (d : Nat) : ∀ (i k : Nat), at14 p ≤ i → (i : Int) + d = at14 (p + 1 : Nat) + 1 → M + d + 1 < k → psalterylaw14_FloorThrough.l2 k l x p lo hi i = some true := by
  have hw := at14_in (p + 1) (by omega)
  have ep : (p : Int) + 1 = ((p + 1 : Nat) : Int) := by omega
  induction d with
  | zero =>
    intro i k h0 h1 hk
    obtain ⟨k, rfl⟩ : ∃ j, k = j + 1 := ⟨k - 1, by omega⟩
    simp only [psalterylaw14_FloorThrough.l2]
    rw [w64 (by omega) (by omega), refAt_eq _ k (by omega)]
    simp only [Option.bind_some]
    rw [ep, if_neg (by omega), ← ep]
    exact next k (by omega)
  | succ d ih =>
    intro i k h0 h1 hk
    obtain ⟨k, rfl⟩ : ∃ j, k = j + 1 := ⟨k - 1, by omega⟩
    have h2 := hb i h0 (by omega)
    have nx := ih (i + 1) k (by omega) (by omega) (by omega)
    simp only [psalterylaw14_FloorThrough.l2]
    rw [w64 (x := (p : Int) + 1) (by omega) (by omega), refAt_eq _ k (by omega)]
    simp only [Option.bind_some]
    rw [ep, if_pos (by omega), if_pos (by omega), if_pos (by omega), hv i (by omega), if_neg (by omega), if_neg (by omega), w64 (x := (i : Int) + 1) (by omega) (by omega), show (i : Int) + 1 = ((i + 1 : Nat) : Int) by omega]
    exact nx
theorem Through_l1 (l x : List Int) (hl : okl 6 l = true) (hx : x.length = 16) (hv : ∀ i : Nat, i < 16 → rd x i = lineV l i) (d : Nat) : ∀ (p k : Nat), p + d = 5 → 300 + 30 * d < k → psalterylaw14_FloorThrough.l1 k l x p = some true := by
  have hl' := hl
  simp only [okl, Bool.and_eq_true, beq_iff_eq] at hl'
  induction d with
  | zero =>
    intro p k hp hk
    obtain ⟨k, rfl⟩ : ∃ j, k = j + 1 := ⟨k - 1, by omega⟩
    simp only [psalterylaw14_FloorThrough.l1]
    rw [if_neg (by omega), knows14 k (by omega)]; rfl
  | succ d ih =>
    intro p k hp hk
    obtain ⟨k, rfl⟩ : ∃ j, k = j + 2 := ⟨k - 2, by omega⟩
    have ep : (p : Int) + 1 = ((p + 1 : Nat) : Int) := by omega
    have hw := at14_in (p + 1) (by omega)
    have hx0 := at14_in p (by omega)
    have hq : at14 (p + 1 : Nat) + 1 - at14 p ≤ 9 := by
      rcases post_cases (p := p) (by omega) with rfl | rfl | rfl | rfl | rfl | rfl
      all_goals (first | decide | omega)
    have hq' : at14 p < at14 (p + 1 : Nat) := by
      rcases post_cases (p := p) (by omega) with rfl | rfl | rfl | rfl | rfl | rfl
      all_goals (first | decide | omega)
    have run : ∀ lo hi : Int, lo ≤ min (rd l p) (rd l (p + 1 : Nat)) → max (rd l p) (rd l (p + 1 : Nat)) ≤ hi → psalterylaw14_FloorThrough.j3 (k + 1) l x p lo hi = some true := by
      intro lo hi h1 h2
      simp only [psalterylaw14_FloorThrough.j3]
      rw [refAt_eq _ k (by omega)]
      simp only [Option.bind_some]
      have := Through_l2 l x hx hv p (by omega) lo hi (fun i a b => by have := line_between l p (by omega) i a b; omega) (300 + 30 * d) (fun k hk => by rw [ep]; exact ih (p + 1) k (by omega) hk) (at14 (p + 1 : Nat) + 1 - at14 p).toNat (at14 p).toNat k (by omega) (by omega) (by omega)
      rwa [show (((at14 p).toNat : Nat) : Int) = at14 p by omega] at this
    simp only [psalterylaw14_FloorThrough.l1]
    rw [if_pos (by omega), if_pos (by omega), if_pos (by omega), w64 (x := (p : Int) + 1) (by omega) (by omega), if_pos (by omega), if_pos (by omega), ep]
    by_cases c : rd l p > rd l (p + 1 : Nat)
    · rw [if_pos c]; exact run _ _ (by omega) (by omega)
    · rw [if_neg c]; exact run _ _ (by omega) (by omega)
theorem Through_l0 (l x : List Int) (hl : okl 6 l = true) (hx : x.length = 16) (hv : ∀ i : Nat, i < 16 → rd x i = lineV l i) (d : Nat) : ∀ (p k : Nat), p + d = 6 → 1000 + d < k → psalterylaw14_FloorThrough.l0 k l x p = some true := by
  have hl' := hl
  simp only [okl, Bool.and_eq_true, beq_iff_eq] at hl'
  induction d with
  | zero =>
    intro p k hp hk
    obtain ⟨k, rfl⟩ : ∃ j, k = j + 1 := ⟨k - 1, by omega⟩
    simp only [psalterylaw14_FloorThrough.l0]
    rw [if_neg (by omega)]
    exact Through_l1 l x hl hx hv 5 0 k rfl (by omega)
  | succ d ih =>
    intro p k hp hk
    obtain ⟨k, rfl⟩ : ∃ j, k = j + 1 := ⟨k - 1, by omega⟩
    have hw := at14_in p (by omega)
    have nx := ih (p + 1) k (by omega) (by omega)
    simp only [psalterylaw14_FloorThrough.l0]
    rw [if_pos (by omega), refAt_eq _ k (by omega)]
    simp only [Option.bind_some]
    have e := hv (at14 p).toNat (by omega)
    rw [show (((at14 p).toNat : Nat) : Int) = at14 p by omega, line_at l p (by omega)] at e
    rw [if_pos (by omega), if_pos (by omega), if_pos (by omega), if_pos (by omega), if_pos e, w64 (by omega) (by omega), show (p : Int) + 1 = ((p + 1 : Nat) : Int) by omega]
    exact nx
theorem FloorThrough : psalterylaw14_FloorThrough.Pure := by
  intro l
  intros
  obtain ⟨K, hK⟩ : ∃ K : Nat, l.length + 10000 ≤ K := ⟨_, Nat.le_refl _⟩
  refine ⟨K + 1, ?_⟩
  unfold psalterylaw14_FloorThrough.f
  rw [knows14 (K + 1) (by omega), refRight_eq l (by assumption) (K + 1) (by omega)]
  simp only [Option.bind_some]
  rcases line_eq l (by assumption) (K + 1) (by omega) with ⟨h, out, e1, e2, e3⟩ | ⟨h, _⟩
  · rw [if_pos h, e1]
    simp only [Option.bind_some, if_true, psalterylaw14_FloorThrough.j0]
    rw [e2, if_neg (by decide)]
    exact Through_l0 l out h e2 e3 6 0 K rfl (by omega)
  · rw [h]; rfl
end Go.Proofs.Ytoghpjggcfnoeaa.Pure
