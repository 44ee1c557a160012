-- PRINTED by print.py (a twelfth state) out of the translation. Not trusted: Lean checks it.
import Derived.Test.YtoghpjggcfnoeaaPx0
namespace Go.Proofs.Ytoghpjggcfnoeaa.P
open Go.RowKit Go.Proofs.YtoghpjggcfnoeaaW.PrintWords Go.Proofs.YtoghpjggcfnoeaaW.PrintLast Go.Proofs.YtoghpjggcfnoeaaW.PrintMore
attribute [local go_sem] max2_int min2_int max_two min_two max_three min_three max_four min_four   -- for this text's walks alone
set_option linter.unusedVariables false
set_option linter.unusedSimpArgs false

/-! ### psalteryref14_Fit: function 26 -/
def psalteryref14_Fit.j0 : Nat → Int → Int → Option (Int)
  | 0, _, _ => none
  | k + 1, x1, x7 => if (wrap64 ((wrap64 (x7 - 13)) + x1)) < 0 then (some 0) else (if (wrap64 ((wrap64 (x7 - 13)) + x1)) > 44 then (some 44) else (some (wrap64 ((wrap64 (x7 - 13)) + x1))))
def psalteryref14_Fit.f (k : Nat) (l0 : List Int) (a1 : Int) (a2 : Int) : Option (Int) := if a1 = 0 then (some 0) else (if 4 < (l0.length : Int) then (if a2 < 4 then (if 0 ≤ a2 then (if a2 < (l0.length : Int) then (psalteryref14_Fit.j0 k a1 (rd l0 a2)) else (none)) else (none)) else (psalteryref14_Fit.j0 k a1 (rd l0 4))) else (none))
theorem psalteryref14_Fit.mono_l : ∀ k, (∀ y0 y1, LeO (psalteryref14_Fit.j0 k y0 y1) (psalteryref14_Fit.j0 (k + 1) y0 y1))
  | 0 => fun _ _ r h => by simp [psalteryref14_Fit.j0] at h
  | k + 1 => by
    have ih0 := psalteryref14_Fit.mono_l k
    · intro y0 y1
      unfold psalteryref14_Fit.j0
      repeat' first
      | (with_reducible exact ih0 _ _)
      | (with_reducible exact LeO.refl _)
      | (with_reducible exact LeO.none _)
      | (with_reducible refine LeO.ite ?_ ?_)
      | (with_reducible refine LeO.bind ?_ (fun _ => ?_))
      | exact ih0 _ _
      | exact LeO.none _
      | refine LeO.ite ?_ ?_
      | refine LeO.bind ?_ (fun _ => ?_)
theorem psalteryref14_Fit.mono : ∀ a0 a1 a2 k, LeO (psalteryref14_Fit.f k a0 a1 a2) (psalteryref14_Fit.f (k + 1) a0 a1 a2) := by
  intro a0 a1 a2 k
  have ih0 := psalteryref14_Fit.mono_l k
  unfold psalteryref14_Fit.f
  repeat' first
      | (with_reducible exact ih0 _ _)
      | (with_reducible exact LeO.refl _)
      | (with_reducible exact LeO.none _)
      | (with_reducible refine LeO.ite ?_ ?_)
      | (with_reducible refine LeO.bind ?_ (fun _ => ?_))
      | exact ih0 _ _
      | exact LeO.none _
      | refine LeO.ite ?_ ?_
      | refine LeO.bind ?_ (fun _ => ?_)
set_option maxHeartbeats 8000000 in
set_option maxRecDepth 100000 in
theorem psalteryref14_Fit.calls (k : Nat) (A0 : Option Addr) (c0 : Nat) (l0 : List Int) (a1 : Int) (a2 : Int) (r : Int) (w : World) (hr0 : Kd.C (Kd.int .i64) w A0 l0.length l0) (hc0 : l0.length ≤ c0) (h : psalteryref14_Fit.f k l0 a1 a2 = some r) :
    Calls Try.prog 26 #[.slice A0 l0.length c0, .int .i64 a1, .int .i64 a2] w fun e w' => e = .returned (.int .i64 r) ∧ Drawn0 w w' := by
  have HR0 := Aside0.mk hr0
  have HC0 := Aside0.mk hc0
  clear hr0 hc0
  have H : (if a1 = 0 then (some 0) else (if 4 < (l0.length : Int) then (if a2 < 4 then (if 0 ≤ a2 then (if a2 < (l0.length : Int) then (psalteryref14_Fit.j0 k a1 (rd l0 a2)) else (none)) else (none)) else (psalteryref14_Fit.j0 k a1 (rd l0 4))) else (none))) = some r := h
  clear h
  by_cases c4 : a1 = 0
  · rw [if_pos c4] at H
    have c4b0 : (a1 == 0) = true := beq_iff_eq.mpr c4
    have c4b1 : (a1 != 0) = false := bne_eq_false_iff_eq.mpr c4
    clear c4
    obtain rfl := Option.some.inj H
    go_enter Try.func26, Try.ntmps26
    go_wp2
    go_ret
    exact ⟨by first | rfl | (simp; done) | (simp [*]; done), by repeat (first | exact Drawn0.refl _ | apply Drawn0.step)⟩
  · rw [if_neg c4] at H
    have c4b0 : (a1 == 0) = false := beq_eq_false_iff_ne.mpr c4
    have c4b1 : (a1 != 0) = true := bne_iff_ne.mpr c4
    by_cases c5 : 4 < (l0.length : Int)
    · rw [if_pos c5] at H
      have c5b0 : decide (4 < (l0.length : Int)) = true := decide_eq_true c5
      have c5b1 : decide (4 < l0.length) = true := decide_eq_true (by omega)
      clear c5
      have HC6 := Aside0.mk H
      clear H
      have p204 : 0 ≤ (4 : Int) := (by omega)
      have q204 : 4 < (l0.length : Int) := of_decide_eq_true (by first | (with_reducible assumption) | assumption)
      obtain ⟨ad204, e204, hx204_0⟩ := Kd.at_int HR0.out 4 p204 q204
      cases e204
      (try simp only [show (4 : Int).toNat = 4 from rfl, Nat.reduceMul, Nat.reduceEqDiff, Go.Addr.add, ↓reduceIte] at hx204_0)
      have qi204 : (4 < l0.length) = True := eq_true (by omega)
      (try rw [show ((4 : Int)).toNat = 4 from rfl] at hx204_0)
      replace p204 := eq_true p204
      replace q204 := eq_true q204
      go_enter Try.func26, Try.ntmps26
      go_upto_if 14 with (fail)
      go_cut [7] (fun v7 wc => ∃ (kq : Nat) (x7_5 : Int), v7 = .int .i64 x7_5 ∧ Aside0 (psalteryref14_Fit.j0 kq a1 x7_5 = some r) ∧ Aside0 (kq ≤ k) ∧ Drawn0 w wc)
      case first =>
        have H := HC6.out
        clear HC6
        by_cases c7 : a2 < 4
        · rw [if_pos c7] at H
          have c7b0 : decide (a2 < 4) = true := decide_eq_true c7
          clear c7
          (first | rw [c7b0] | (simp only [i64_w, i32_w]; rw [c7b0]) | skip)
          by_cases c8 : 0 ≤ a2
          · rw [if_pos c8] at H
            have c8b0 : decide (0 ≤ a2) = true := decide_eq_true c8
            clear c8
            by_cases c9 : a2 < (l0.length : Int)
            · rw [if_pos c9] at H
              have c9b0 : decide (a2 < (l0.length : Int)) = true := decide_eq_true c9
              clear c9
              have H' := Aside0.mk H
              clear H
              have p205 : 0 ≤ (a2 : Int) := of_decide_eq_true (by first | (with_reducible assumption) | assumption)
              have q205 : a2 < (l0.length : Int) := of_decide_eq_true (by first | (with_reducible assumption) | assumption)
              obtain ⟨ad205, e205, hx205_0⟩ := Kd.at_int HR0.out a2 p205 q205
              obtain rfl : ad204 = ad205 := (by injection e205)
              replace p205 := eq_true p205
              replace q205 := eq_true q205
              go_wp2
              go_meet
              case rel => exact ⟨_, (rd l0 a2), (by first | rfl | (simp; done) | (simp [*]; done)), H', ⟨by first | omega | exact Nat.le_refl _⟩, by repeat (first | exact Drawn0.refl _ | apply Drawn0.step)⟩
            · rw [if_neg c9] at H
              exact absurd H (by simp)
          · rw [if_neg c8] at H
            exact absurd H (by simp)
        · rw [if_neg c7] at H
          have c7b0 : decide (a2 < 4) = false := decide_eq_false c7
          clear c7
          (first | rw [c7b0] | (simp only [i64_w, i32_w]; rw [c7b0]) | skip)
          have H' := Aside0.mk H
          clear H
          go_wp2
          go_meet
          case rel => exact ⟨_, (rd l0 4), (by first | rfl | (simp; done) | (simp [*]; done)), H', ⟨by first | omega | exact Nat.le_refl _⟩, by repeat (first | exact Drawn0.refl _ | apply Drawn0.step)⟩
      case rest =>
        clear HC6
        try clear c2
        try clear p2
        try clear q2
        try clear hx2
        try clear qi2
        try clear c4
        try clear c4b0
        try clear c4b1
        try clear c5
        try clear c5b0
        try clear c5b1
        try clear c7
        try clear c7b0
        try clear c8
        try clear c8b0
        try clear c9
        try clear c9b0
        try clear hx204_0
        try clear hx205_0
        try clear p204
        try clear p205
        try clear q204
        try clear q205
        obtain ⟨kq, x7_5, rfl, HA, HJ5, ⟨mc5, rfl⟩⟩ := hcut
        cases kq with
        | zero => exact absurd HA.out (by simp [psalteryref14_Fit.j0])
        | succ kj5 =>
          have H := HA.out
          clear HA
          simp only [psalteryref14_Fit.j0] at H
          by_cases c10 : (wrap64 ((wrap64 (x7_5 - 13)) + a1)) < 0
          · rw [if_pos c10] at H
            have c10b0 : decide ((wrap64 ((wrap64 (x7_5 - 13)) + a1)) < 0) = true := decide_eq_true c10
            clear c10
            obtain rfl := Option.some.inj H
            go_wp2
            go_ret
            exact ⟨by first | rfl | (simp; done) | (simp [*]; done), by repeat (first | exact Drawn0.refl _ | apply Drawn0.step)⟩
          · rw [if_neg c10] at H
            have c10b0 : decide ((wrap64 ((wrap64 (x7_5 - 13)) + a1)) < 0) = false := decide_eq_false c10
            clear c10
            by_cases c11 : (wrap64 ((wrap64 (x7_5 - 13)) + a1)) > 44
            · rw [if_pos c11] at H
              have c11b0 : decide (44 < (wrap64 ((wrap64 (x7_5 - 13)) + a1))) = true := decide_eq_true c11
              clear c11
              obtain rfl := Option.some.inj H
              go_wp2
              go_ret
              exact ⟨by first | rfl | (simp; done) | (simp [*]; done), by repeat (first | exact Drawn0.refl _ | apply Drawn0.step)⟩
            · rw [if_neg c11] at H
              have c11b0 : decide (44 < (wrap64 ((wrap64 (x7_5 - 13)) + a1))) = false := decide_eq_false c11
              clear c11
              obtain rfl := Option.some.inj H
              go_wp2
              go_ret
              exact ⟨by first | rfl | (simp; done) | (simp [*]; done), by repeat (first | exact Drawn0.refl _ | apply Drawn0.step)⟩
    · rw [if_neg c5] at H
      exact absurd H (by simp)

end Go.Proofs.Ytoghpjggcfnoeaa.P
