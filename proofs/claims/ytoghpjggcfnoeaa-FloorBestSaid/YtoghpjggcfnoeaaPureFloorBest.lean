/- The law FloorBest: with quality 0 the floor is 1 everywhere; and of two qualities the greater one gives no less posts; proved for every input. -/
import Derived.Test.YtoghpjggcfnoeaaPx27
import Derived.Test.YtoghpjggcfnoeaaLFloorVal
namespace Go.Proofs.Ytoghpjggcfnoeaa.Pure
set_option linter.unusedVariables false
set_option linter.unusedSimpArgs false
open Go.RowKit Go.Proofs.YtoghpjggcfnoeaaW.PrintWords Go.Proofs.YtoghpjggcfnoeaaW.PrintLast Go.Proofs.YtoghpjggcfnoeaaW.PrintMore Go.Proofs.Ytoghpjggcfnoeaa.P Go.Proofs.Ytoghpjggcfnoeaa.LB Go.Proofs.Ytoghpjggcfnoeaa.LF Go.Proofs.Ytoghpjggcfnoeaa.NT
theorem V_zero (l : List Int) (p x w j : Int) (h0 : rd l p = 0) (h1 : rd l (p + 1) = 0) : V l p x w j = 0 := by
  unfold V; rw [h0, h1]; simp
theorem line_zero (l : List Int) (hz : ∀ j : Nat, j < 6 → rd l j = 0) (i : Int) : lineV l i = 0 := by
  have z0 := hz 0 (by omega)
  have z1 := hz 1 (by omega)
  have z2 := hz 2 (by omega)
  have z3 := hz 3 (by omega)
  have z4 := hz 4 (by omega)
  have z5 := hz 5 (by omega)
  unfold lineV
  repeat' split
  · exact V_zero l 0 _ _ _ z0 z1
  · exact V_zero l 1 _ _ _ z1 z2
  · exact V_zero l 2 _ _ _ z2 z3
  · exact V_zero l 3 _ _ _ z3 z4
  · exact V_zero l 4 _ _ _ z4 z5
theorem Best_l1 (u v : List Int) (hu : u.length = 6) (hv : v.length = 6) (h : ∀ j : Nat, j < 6 → rd u j ≤ rd v j) (d : Nat) : ∀ (i k : Nat), i + d = 6 → d + 300 < k → psalterylaw14_FloorBest.l1 k u v i = some true := by
  induction d with
  | zero =>
    intro i k hi hk
    obtain ⟨k, rfl⟩ : ∃ j, k = j + 1 := ⟨k - 1, by omega⟩
    simp only [psalterylaw14_FloorBest.l1]
    rw [if_neg (by omega), knows14 k (by omega)]; rfl
  | succ d ih =>
    intro i k hi hk
    obtain ⟨k, rfl⟩ : ∃ j, k = j + 1 := ⟨k - 1, by omega⟩
    have hb := h i (by omega)
    have nx := ih (i + 1) k (by omega) (by omega)
    simp only [psalterylaw14_FloorBest.l1]
    rw [if_pos (by omega), if_pos (by omega), if_pos (by omega), if_pos (by omega), if_neg (by omega), w64 (by omega) (by omega), show (i : Int) + 1 = ((i + 1 : Nat) : Int) by omega]
    exact nx
theorem Best_l0 (y u v : List Int) (hy : y.length = 16) (hu : u.length = 6) (hv : v.length = 6) (hy1 : ∀ i : Nat, i < 16 → rd y i = 1) (h : ∀ j : Nat, j < 6 → rd u j ≤ rd v j) (d : Nat) : ∀ (i k : Nat), i + d = 16 → d + 400 < k → psalterylaw14_FloorBest.l0 k y u v i = some true := by
  induction d with
  | zero =>
    intro i k hi hk
    obtain ⟨k, rfl⟩ : ∃ j, k = j + 1 := ⟨k - 1, by omega⟩
    simp only [psalterylaw14_FloorBest.l0]
    rw [if_neg (by omega)]
    exact Best_l1 u v hu hv h 6 0 k rfl (by omega)
  | succ d ih =>
    intro i k hi hk
    obtain ⟨k, rfl⟩ : ∃ j, k = j + 1 := ⟨k - 1, by omega⟩
    have nx := ih (i + 1) k (by omega) (by omega)
    simp only [psalterylaw14_FloorBest.l0]
    rw [if_pos (by omega), if_pos (by omega), if_pos (by omega), if_pos (hy1 i (by omega)), w64 (by omega) (by omega), show (i : Int) + 1 = ((i + 1 : Nat) : Int) by omega]
    exact nx
theorem FloorBest : psalterylaw14_FloorBest.Pure := by
  intro g a b
  intros
  have hM : (maxLen : Int) = 9223372036854775807 := rfl
  have hlen : g.length ≤ maxLen := by assumption
  obtain ⟨K, hK⟩ : ∃ K : Nat, g.length + 10000 ≤ K := ⟨_, Nat.le_refl _⟩
  refine ⟨K + 2, ?_⟩
  have easy : psalterylaw14_FloorBest.j0 (K + 2) g a b true = some true := by
    simp only [psalterylaw14_FloorBest.j0, if_true]; rw [knows14 (K + 1) (by omega)]; rfl
  unfold psalterylaw14_FloorBest.f
  rw [refRight11_eq g hlen (K + 2) (by omega)]
  simp only [Option.bind_some]
  rw [easy]
  by_cases h : okl 5 g = true
  · rw [if_pos h]
    by_cases c1 : a < 0
    · rw [if_pos c1]
    rw [if_neg c1]
    by_cases c2 : b > 12
    · rw [if_pos c2]
    rw [if_neg c2]
    by_cases c3 : a > b
    · rw [decide_eq_true c3]; exact easy
    rw [decide_eq_false c3]
    have fit : ∀ q : Int, 0 ≤ q → q ≤ 12 → ∃ out : List Int, floor_Fit.f (K + 1) g q = some (out, 0) ∧ out.length = 6 ∧ ∀ j : Nat, j < 6 → rd out j = fitv (rd g (min (j : Int) 4)) q := by
      intro q h0 h1
      rcases fit_eq g q hlen (K + 1) (by omega) with ⟨_, _, _, r⟩ | ⟨n, _⟩
      · exact r
      · exact absurd ⟨h, h0, h1⟩ n
    obtain ⟨x, x1, x2, x3⟩ := fit 0 (by omega) (by omega)
    obtain ⟨u, u1, u2, u3⟩ := fit a (by omega) (by omega)
    obtain ⟨v, v1, v2, v3⟩ := fit b (by omega) (by omega)
    have xz : ∀ j : Nat, j < 6 → rd x j = 0 := fun j hj => by rw [x3 j hj]; unfold fitv; rw [if_pos rfl]
    have xr : okl 6 x = true := by
      simp only [okl, Bool.and_eq_true, beq_iff_eq]
      exact ⟨inr_rd fun j hj => by rw [xz j (by omega)]; omega, x2⟩
    rcases floor_eq x (by omega) (K + 1) (by omega) with ⟨_, y, y1, y2, y3⟩ | ⟨n, _⟩
    · simp only [psalterylaw14_FloorBest.j0, Bool.false_eq_true, if_false]
      rw [x1, u1, v1]
      simp only [Option.bind_some]
      rw [y1]
      simp only [Option.bind_some, if_true, psalterylaw14_FloorBest.j1]
      rw [y2, u2, v2, if_pos (by decide), if_pos (by decide), if_neg (by decide)]
      refine Best_l0 y u v y2 u2 v2 (fun i hi => ?_) (fun j hj => ?_) 16 0 K rfl (by omega)
      · rw [y3 i hi, line_zero x xz]; unfold flv; rw [val_zero 0 (by omega), if_pos (by omega)]
      · rw [u3 j hj, v3 j hj]; unfold fitv; repeat' split
        all_goals omega
    · rw [xr] at n; cases n
  · rw [if_neg h]
end Go.Proofs.Ytoghpjggcfnoeaa.Pure
