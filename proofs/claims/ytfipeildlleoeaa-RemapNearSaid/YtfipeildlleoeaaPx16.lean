-- PRINTED by print.py (a twelfth state) out of the translation. Not trusted: Lean checks it.
import Derived.Test.YtfipeildlleoeaaPx0
namespace Go.Proofs.Ytfipeildlleoeaa.P
open Go.RowKit Go.Proofs.YtfipeildlleoeaaW.PrintWords Go.Proofs.YtfipeildlleoeaaW.PrintLast Go.Proofs.YtfipeildlleoeaaW.PrintMore
attribute [local go_sem] max2_int min2_int max_two min_two max_three min_three max_four min_four   -- for this text's walks alone
set_option linter.unusedVariables false
set_option linter.unusedSimpArgs false

/-! ### psalteryref03_Div: function 35 -/
def psalteryref03_Div.j0 : Nat → Int → Int → Int → Bool → Option (Int)
  | 0, _, _, _, _ => none
  | k + 1, x1, x5, x6, x23 => if x23 = true then (some (wrap64 (x5 + 1))) else (if x6 < 0 then (if (wrap64 (-x6)) ≥ (wrap64 (x1 + x6)) then (some (wrap64 (x5 - 1))) else (some x5)) else (some x5))
def psalteryref03_Div.f (k : Nat) (a0 : Int) (a1 : Int) : Option (Int) := if a1 = 0 then (none) else (if (wrap64 (a0 - (wrap64 ((wrap64 (Int.tdiv a0 a1)) * a1)))) ≥ 0 then (psalteryref03_Div.j0 k a1 (wrap64 (Int.tdiv a0 a1)) (wrap64 (a0 - (wrap64 ((wrap64 (Int.tdiv a0 a1)) * a1)))) (decide ((wrap64 (a0 - (wrap64 ((wrap64 (Int.tdiv a0 a1)) * a1)))) ≥ (wrap64 (a1 - (wrap64 (a0 - (wrap64 ((wrap64 (Int.tdiv a0 a1)) * a1))))))))) else (psalteryref03_Div.j0 k a1 (wrap64 (Int.tdiv a0 a1)) (wrap64 (a0 - (wrap64 ((wrap64 (Int.tdiv a0 a1)) * a1)))) false))
theorem psalteryref03_Div.mono_l : ∀ k, (∀ y0 y1 y2 y3, LeO (psalteryref03_Div.j0 k y0 y1 y2 y3) (psalteryref03_Div.j0 (k + 1) y0 y1 y2 y3))
  | 0 => fun _ _ _ _ r h => by simp [psalteryref03_Div.j0] at h
  | k + 1 => by
    have ih0 := psalteryref03_Div.mono_l k
    · intro y0 y1 y2 y3
      unfold psalteryref03_Div.j0
      repeat' first
      | (with_reducible exact ih0 _ _ _ _)
      | (with_reducible exact LeO.refl _)
      | (with_reducible exact LeO.none _)
      | (with_reducible refine LeO.ite ?_ ?_)
      | (with_reducible refine LeO.bind ?_ (fun _ => ?_))
      | exact ih0 _ _ _ _
      | exact LeO.none _
      | refine LeO.ite ?_ ?_
      | refine LeO.bind ?_ (fun _ => ?_)
theorem psalteryref03_Div.mono : ∀ a0 a1 k, LeO (psalteryref03_Div.f k a0 a1) (psalteryref03_Div.f (k + 1) a0 a1) := by
  intro a0 a1 k
  have ih0 := psalteryref03_Div.mono_l k
  unfold psalteryref03_Div.f
  repeat' first
      | (with_reducible exact ih0 _ _ _ _)
      | (with_reducible exact LeO.refl _)
      | (with_reducible exact LeO.none _)
      | (with_reducible refine LeO.ite ?_ ?_)
      | (with_reducible refine LeO.bind ?_ (fun _ => ?_))
      | exact ih0 _ _ _ _
      | exact LeO.none _
      | refine LeO.ite ?_ ?_
      | refine LeO.bind ?_ (fun _ => ?_)
set_option maxHeartbeats 8000000 in
set_option maxRecDepth 100000 in
theorem psalteryref03_Div.calls (k : Nat) (a0 : Int) (a1 : Int) (r : Int) (w : World) (h : psalteryref03_Div.f k a0 a1 = some r) :
    Calls Try.prog 35 #[.int .i64 a0, .int .i64 a1] w fun e w' => e = .returned (.int .i64 r) ∧ Drawn0 w w' := by
  have H : (if a1 = 0 then (none) else (if (wrap64 (a0 - (wrap64 ((wrap64 (Int.tdiv a0 a1)) * a1)))) ≥ 0 then (psalteryref03_Div.j0 k a1 (wrap64 (Int.tdiv a0 a1)) (wrap64 (a0 - (wrap64 ((wrap64 (Int.tdiv a0 a1)) * a1)))) (decide ((wrap64 (a0 - (wrap64 ((wrap64 (Int.tdiv a0 a1)) * a1)))) ≥ (wrap64 (a1 - (wrap64 (a0 - (wrap64 ((wrap64 (Int.tdiv a0 a1)) * a1))))))))) else (psalteryref03_Div.j0 k a1 (wrap64 (Int.tdiv a0 a1)) (wrap64 (a0 - (wrap64 ((wrap64 (Int.tdiv a0 a1)) * a1)))) false))) = some r := h
  clear h
  by_cases c3 : a1 = 0
  · rw [if_pos c3] at H
    exact absurd H (by simp)
  · rw [if_neg c3] at H
    have c3b0 : (a1 == 0) = false := beq_eq_false_iff_ne.mpr c3
    have c3b1 : (a1 != 0) = true := bne_iff_ne.mpr c3
    have HC4 := Aside0.mk H
    clear H
    go_enter Try.func35, Try.ntmps35
    go_upto_region 3 with (fail)
    go_cut [23] (fun v23 wc => ∃ (kq : Nat) (x23_3 : Bool), v23 = .bool x23_3 ∧ Aside0 (psalteryref03_Div.j0 kq a1 (wrap64 (Int.tdiv a0 a1)) (wrap64 (a0 - (wrap64 ((wrap64 (Int.tdiv a0 a1)) * a1)))) x23_3 = some r) ∧ Aside0 (kq ≤ k) ∧ Drawn0 w wc)
    case first =>
      have H := HC4.out
      clear HC4
      by_cases c5 : (wrap64 (a0 - (wrap64 ((wrap64 (Int.tdiv a0 a1)) * a1)))) ≥ 0
      · rw [if_pos c5] at H
        have c5b0 : decide (0 ≤ (wrap64 (a0 - (wrap64 ((wrap64 (Int.tdiv a0 a1)) * a1))))) = true := decide_eq_true c5
        clear c5
        (first | rw [c5b0] | (simp only [i64_w, i32_w]; rw [c5b0]) | skip)
        have H' := Aside0.mk H
        clear H
        go_wp2
        go_meet
        case rel => exact ⟨_, (decide ((wrap64 (a0 - (wrap64 ((wrap64 (Int.tdiv a0 a1)) * a1)))) ≥ (wrap64 (a1 - (wrap64 (a0 - (wrap64 ((wrap64 (Int.tdiv a0 a1)) * a1)))))))), (by first | rfl | (simp; done) | (simp [*]; done)), H', ⟨by first | omega | exact Nat.le_refl _⟩, by repeat (first | exact Drawn0.refl _ | apply Drawn0.step)⟩
      · rw [if_neg c5] at H
        have c5b0 : decide (0 ≤ (wrap64 (a0 - (wrap64 ((wrap64 (Int.tdiv a0 a1)) * a1))))) = false := decide_eq_false c5
        clear c5
        (first | rw [c5b0] | (simp only [i64_w, i32_w]; rw [c5b0]) | skip)
        have H' := Aside0.mk H
        clear H
        go_wp2
        go_meet
        case rel => exact ⟨_, (false), (by first | rfl | (simp; done) | (simp [*]; done)), H', ⟨by first | omega | exact Nat.le_refl _⟩, by repeat (first | exact Drawn0.refl _ | apply Drawn0.step)⟩
    case rest =>
      clear HC4
      try clear p2
      try clear c3
      try clear c3b0
      try clear c3b1
      try clear c5
      try clear c5b0
      obtain ⟨kq, x23_3, rfl, HA, HJ3, ⟨mc3, rfl⟩⟩ := hcut
      cases kq with
      | zero => exact absurd HA.out (by simp [psalteryref03_Div.j0])
      | succ kj3 =>
        have H := HA.out
        clear HA
        simp only [psalteryref03_Div.j0] at H
        by_cases c6 : x23_3 = true
        · subst c6
          have H1 : (some (wrap64 ((wrap64 (Int.tdiv a0 a1)) + 1))) = some r := by rw [if_pos rfl] at H; exact H
          clear H
          have H := H1
          clear H1
          obtain rfl := Option.some.inj H
          go_wp2
          go_ret
          exact ⟨by first | rfl | (simp; done) | (simp [*]; done), by repeat (first | exact Drawn0.refl _ | apply Drawn0.step)⟩
        · replace c6 := Bool.eq_false_iff.mpr c6
          subst c6
          have H1 : (if (wrap64 (a0 - (wrap64 ((wrap64 (Int.tdiv a0 a1)) * a1)))) < 0 then (if (wrap64 (-(wrap64 (a0 - (wrap64 ((wrap64 (Int.tdiv a0 a1)) * a1)))))) ≥ (wrap64 (a1 + (wrap64 (a0 - (wrap64 ((wrap64 (Int.tdiv a0 a1)) * a1)))))) then (some (wrap64 ((wrap64 (Int.tdiv a0 a1)) - 1))) else (some (wrap64 (Int.tdiv a0 a1)))) else (some (wrap64 (Int.tdiv a0 a1)))) = some r := by rw [if_neg (show ¬ (false = true) by decide)] at H; exact H
          clear H
          have H := H1
          clear H1
          by_cases c7 : (wrap64 (a0 - (wrap64 ((wrap64 (Int.tdiv a0 a1)) * a1)))) < 0
          · rw [if_pos c7] at H
            have c7b0 : decide ((wrap64 (a0 - (wrap64 ((wrap64 (Int.tdiv a0 a1)) * a1)))) < 0) = true := decide_eq_true c7
            clear c7
            by_cases c8 : (wrap64 (-(wrap64 (a0 - (wrap64 ((wrap64 (Int.tdiv a0 a1)) * a1)))))) ≥ (wrap64 (a1 + (wrap64 (a0 - (wrap64 ((wrap64 (Int.tdiv a0 a1)) * a1))))))
            · rw [if_pos c8] at H
              have c8b0 : decide ((wrap64 (a1 + (wrap64 (a0 - (wrap64 ((wrap64 (Int.tdiv a0 a1)) * a1)))))) ≤ (wrap64 (-(wrap64 (a0 - (wrap64 ((wrap64 (Int.tdiv a0 a1)) * a1))))))) = true := decide_eq_true c8
              clear c8
              obtain rfl := Option.some.inj H
              go_wp2
              go_ret
              exact ⟨by first | rfl | (simp; done) | (simp [*]; done), by repeat (first | exact Drawn0.refl _ | apply Drawn0.step)⟩
            · rw [if_neg c8] at H
              have c8b0 : decide ((wrap64 (a1 + (wrap64 (a0 - (wrap64 ((wrap64 (Int.tdiv a0 a1)) * a1)))))) ≤ (wrap64 (-(wrap64 (a0 - (wrap64 ((wrap64 (Int.tdiv a0 a1)) * a1))))))) = false := decide_eq_false c8
              clear c8
              obtain rfl := Option.some.inj H
              go_wp2
              go_ret
              exact ⟨by first | rfl | (simp; done) | (simp [*]; done), by repeat (first | exact Drawn0.refl _ | apply Drawn0.step)⟩
          · rw [if_neg c7] at H
            have c7b0 : decide ((wrap64 (a0 - (wrap64 ((wrap64 (Int.tdiv a0 a1)) * a1)))) < 0) = false := decide_eq_false c7
            clear c7
            obtain rfl := Option.some.inj H
            go_wp2
            go_ret
            exact ⟨by first | rfl | (simp; done) | (simp [*]; done), by repeat (first | exact Drawn0.refl _ | apply Drawn0.step)⟩

end Go.Proofs.Ytfipeildlleoeaa.P
