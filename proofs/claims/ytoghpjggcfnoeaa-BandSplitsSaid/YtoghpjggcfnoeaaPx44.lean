-- PRINTED by print.py (a twelfth state) out of the translation. Not trusted: Lean checks it.
import Derived.Test.YtoghpjggcfnoeaaPx0
namespace Go.Proofs.Ytoghpjggcfnoeaa.P
open Go.RowKit Go.Proofs.YtoghpjggcfnoeaaW.PrintWords Go.Proofs.YtoghpjggcfnoeaaW.PrintLast Go.Proofs.YtoghpjggcfnoeaaW.PrintMore
attribute [local go_sem] max2_int min2_int max_two min_two max_three min_three max_four min_four   -- for this text's walks alone
set_option linter.unusedVariables false
set_option linter.unusedSimpArgs false

/-! ### psalteryref07_Fair: function 36 -/
mutual
def psalteryref07_Fair.j0 : Nat → List Int → Bool → Option (Bool)
  | 0, _, _ => none
  | k + 1, x0, x3 => psalteryref07_Fair.l0 k x0 x3 0
def psalteryref07_Fair.l0 : Nat → List Int → Bool → Int → Option (Bool)
  | 0, _, _, _ => none
  | k + 1, x0, x3, x4 => if x4 < (x0.length : Int) then (if x3 = true then (if 0 ≤ x4 then (if (rd x0 x4) ≥ (-1048576) then (psalteryref07_Fair.l0 k x0 (decide ((rd x0 x4) ≤ 1048576)) (wrap64 (x4 + 1))) else (psalteryref07_Fair.l0 k x0 false (wrap64 (x4 + 1)))) else (none)) else (psalteryref07_Fair.l0 k x0 false (wrap64 (x4 + 1)))) else (some x3)
end
def psalteryref07_Fair.f (k : Nat) (l0 : List Int) : Option (Bool) := if (l0.length : Int) > 0 then (psalteryref07_Fair.j0 k l0 (decide ((l0.length : Int) ≤ 16))) else (psalteryref07_Fair.j0 k l0 false)
theorem psalteryref07_Fair.mono_l : ∀ k, (∀ y0 y1, LeO (psalteryref07_Fair.j0 k y0 y1) (psalteryref07_Fair.j0 (k + 1) y0 y1)) ∧ (∀ y0 y1 y2, LeO (psalteryref07_Fair.l0 k y0 y1 y2) (psalteryref07_Fair.l0 (k + 1) y0 y1 y2))
  | 0 => ⟨fun _ _ r h => by simp [psalteryref07_Fair.j0] at h, fun _ _ _ r h => by simp [psalteryref07_Fair.l0] at h⟩
  | k + 1 => by
    obtain ⟨ih0, ih1⟩ := psalteryref07_Fair.mono_l k
    refine ⟨?_, ?_⟩
    · intro y0 y1
      unfold psalteryref07_Fair.j0
      repeat' first
      | (with_reducible exact ih0 _ _)
      | (with_reducible exact ih1 _ _ _)
      | (with_reducible exact LeO.refl _)
      | (with_reducible exact LeO.none _)
      | (with_reducible refine LeO.ite ?_ ?_)
      | (with_reducible refine LeO.bind ?_ (fun _ => ?_))
      | exact ih0 _ _
      | exact ih1 _ _ _
      | exact LeO.none _
      | refine LeO.ite ?_ ?_
      | refine LeO.bind ?_ (fun _ => ?_)
    · intro y0 y1 y2
      unfold psalteryref07_Fair.l0
      repeat' first
      | (with_reducible exact ih0 _ _)
      | (with_reducible exact ih1 _ _ _)
      | (with_reducible exact LeO.refl _)
      | (with_reducible exact LeO.none _)
      | (with_reducible refine LeO.ite ?_ ?_)
      | (with_reducible refine LeO.bind ?_ (fun _ => ?_))
      | exact ih0 _ _
      | exact ih1 _ _ _
      | exact LeO.none _
      | refine LeO.ite ?_ ?_
      | refine LeO.bind ?_ (fun _ => ?_)
theorem psalteryref07_Fair.mono : ∀ a0 k, LeO (psalteryref07_Fair.f k a0) (psalteryref07_Fair.f (k + 1) a0) := by
  intro a0 k
  obtain ⟨ih0, ih1⟩ := psalteryref07_Fair.mono_l k
  unfold psalteryref07_Fair.f
  repeat' first
      | (with_reducible exact ih0 _ _)
      | (with_reducible exact ih1 _ _ _)
      | (with_reducible exact LeO.refl _)
      | (with_reducible exact LeO.none _)
      | (with_reducible refine LeO.ite ?_ ?_)
      | (with_reducible refine LeO.bind ?_ (fun _ => ?_))
      | exact ih0 _ _
      | exact ih1 _ _ _
      | exact LeO.none _
      | refine LeO.ite ?_ ?_
      | refine LeO.bind ?_ (fun _ => ?_)
set_option maxHeartbeats 8000000 in
set_option maxRecDepth 100000 in
theorem psalteryref07_Fair.calls (k : Nat) (A0 : Option Addr) (c0 : Nat) (l0 : List Int) (r : Bool) (w : World) (hr0 : Kd.C (Kd.int .i64) w A0 l0.length l0) (hc0 : l0.length ≤ c0) (h : psalteryref07_Fair.f k l0 = some r) :
    Calls Try.prog 36 #[.slice A0 l0.length c0] w fun e w' => e = .returned (.bool r) ∧ Drawn0 w w' := by
  have HR0 := Aside0.mk hr0
  have HC0 := Aside0.mk hc0
  clear hr0 hc0
  have H : (if (l0.length : Int) > 0 then (psalteryref07_Fair.j0 k l0 (decide ((l0.length : Int) ≤ 16))) else (psalteryref07_Fair.j0 k l0 false)) = some r := h
  clear h
  have HC2 := Aside0.mk H
  clear H
  go_enter Try.func36, Try.ntmps36
  go_upto_region 1 with (fail)
  go_cut [3] (fun v3 wc => ∃ (kq : Nat) (x3_1 : Bool), v3 = .bool x3_1 ∧ Aside0 (psalteryref07_Fair.j0 kq l0 x3_1 = some r) ∧ Aside0 (kq ≤ k) ∧ Drawn0 w wc)
  case first =>
    have H := HC2.out
    clear HC2
    by_cases c3 : (l0.length : Int) > 0
    · rw [if_pos c3] at H
      have c3b0 : decide (0 < (l0.length : Int)) = true := decide_eq_true c3
      have c3b1 : decide (0 < l0.length) = true := decide_eq_true (by omega)
      clear c3
      (first | rw [c3b0] | (simp only [i64_w, i32_w]; rw [c3b0]) | skip)
      have H' := Aside0.mk H
      clear H
      go_wp2
      go_meet
      case rel => exact ⟨_, (decide ((l0.length : Int) ≤ 16)), (by first | rfl | (simp; done) | (simp [*]; done)), H', ⟨by first | omega | exact Nat.le_refl _⟩, by repeat (first | exact Drawn0.refl _ | apply Drawn0.step)⟩
    · rw [if_neg c3] at H
      have c3b0 : decide (0 < (l0.length : Int)) = false := decide_eq_false c3
      have c3b1 : decide (0 < l0.length) = false := decide_eq_false (by omega)
      clear c3
      (first | rw [c3b0] | (simp only [i64_w, i32_w]; rw [c3b0]) | skip)
      have H' := Aside0.mk H
      clear H
      go_wp2
      go_meet
      case rel => exact ⟨_, (false), (by first | rfl | (simp; done) | (simp [*]; done)), H', ⟨by first | omega | exact Nat.le_refl _⟩, by repeat (first | exact Drawn0.refl _ | apply Drawn0.step)⟩
  case rest =>
    clear HC2
    try clear p2
    try clear c3
    try clear c3b0
    try clear c3b1
    obtain ⟨kq, x3_1, rfl, HA, HJ1, ⟨mc1, rfl⟩⟩ := hcut
    cases kq with
    | zero => exact absurd HA.out (by simp [psalteryref07_Fair.j0])
    | succ kj1 =>
      have H := HA.out
      clear HA
      simp only [psalteryref07_Fair.j0] at H
      have H' := Aside0.mk H
      clear H
      go_wp2
      go_loopg [3, 4] kj1 (fun kq v3 v4 w' => ∃ (x3_2 : Bool) (x4_2 : Int), v3 = .bool x3_2 ∧ v4 = .int .i64 x4_2 ∧ Aside0 (psalteryref07_Fair.l0 kq l0 x3_2 x4_2 = some r) ∧ Aside0 (kq ≤ kj1) ∧ Drawn0 w w')
      case atStart => exact ⟨(x3_1), (0), (by first | rfl | (simp; done) | (simp [*]; done)), (by first | rfl | (simp; done) | (simp [*]; done)), H', ⟨Nat.le_refl _⟩, by repeat (first | exact Drawn0.refl _ | apply Drawn0.step)⟩
      case round =>
        clear H'
        try clear c1
        try clear p2
        try clear c3
        try clear c3b0
        try clear c3b1
        try clear p2
        obtain ⟨x3_2, x4_2, rfl, rfl, HA, HK2, ⟨m2, rfl⟩⟩ := hrel
        cases gk with
        | zero => exact absurd HA.out (by simp [psalteryref07_Fair.l0])
        | succ k2 =>
          have H := HA.out
          clear HA
          simp only [psalteryref07_Fair.l0] at H
          by_cases c4 : x4_2 < (l0.length : Int)
          · rw [if_pos c4] at H
            have c4b0 : decide (x4_2 < (l0.length : Int)) = true := decide_eq_true c4
            clear c4
            by_cases c5 : x3_2 = true
            · subst c5
              have H1 : (if 0 ≤ x4_2 then (if (rd l0 x4_2) ≥ (-1048576) then (psalteryref07_Fair.l0 k2 l0 (decide ((rd l0 x4_2) ≤ 1048576)) (wrap64 (x4_2 + 1))) else (psalteryref07_Fair.l0 k2 l0 false (wrap64 (x4_2 + 1)))) else (none)) = some r := by rw [if_pos rfl] at H; exact H
              clear H
              have H := H1
              clear H1
              by_cases c6 : 0 ≤ x4_2
              · rw [if_pos c6] at H
                have c6b0 : decide (0 ≤ x4_2) = true := decide_eq_true c6
                clear c6
                by_cases c7 : (rd l0 x4_2) ≥ (-1048576)
                · rw [if_pos c7] at H
                  have c7b0 : decide ((-1048576) ≤ (rd l0 x4_2)) = true := decide_eq_true c7
                  clear c7
                  have H' := Aside0.mk H
                  clear H
                  have p333 : 0 ≤ (x4_2 : Int) := of_decide_eq_true (by first | (with_reducible assumption) | assumption)
                  have q333 : x4_2 < (l0.length : Int) := of_decide_eq_true (by first | (with_reducible assumption) | assumption)
                  obtain ⟨ad333, e333, hx333_0⟩ := Kd.at_int HR0.out x4_2 p333 q333
                  cases e333
                  replace p333 := eq_true p333
                  replace q333 := eq_true q333
                  have p334 : 0 ≤ (x4_2 : Int) := of_decide_eq_true (by first | (with_reducible assumption) | assumption)
                  have q334 : x4_2 < (l0.length : Int) := of_decide_eq_true (by first | (with_reducible assumption) | assumption)
                  obtain ⟨ad334, e334, hx334_0⟩ := Kd.at_int HR0.out x4_2 p334 q334
                  obtain rfl : ad333 = ad334 := (by injection e334)
                  replace p334 := eq_true p334
                  replace q334 := eq_true q334
                  go_wp2
                  go_roundg k2
                  case measure => have := HJ1.out; have := HK2.out; omega
                  case rel => exact ⟨(decide ((rd l0 x4_2) ≤ 1048576)), (wrap64 (x4_2 + 1)), (by first | rfl | (simp; done) | (simp [*]; done)), (by first | rfl | (simp; done) | (simp [*]; done)), H', ⟨by have := HJ1.out; have := HK2.out; omega⟩, by repeat (first | exact Drawn0.refl _ | apply Drawn0.step)⟩
                · rw [if_neg c7] at H
                  have c7b0 : decide ((-1048576) ≤ (rd l0 x4_2)) = false := decide_eq_false c7
                  clear c7
                  have H' := Aside0.mk H
                  clear H
                  have p333 : 0 ≤ (x4_2 : Int) := of_decide_eq_true (by first | (with_reducible assumption) | assumption)
                  have q333 : x4_2 < (l0.length : Int) := of_decide_eq_true (by first | (with_reducible assumption) | assumption)
                  obtain ⟨ad333, e333, hx333_0⟩ := Kd.at_int HR0.out x4_2 p333 q333
                  cases e333
                  replace p333 := eq_true p333
                  replace q333 := eq_true q333
                  go_wp2
                  go_roundg k2
                  case measure => have := HJ1.out; have := HK2.out; omega
                  case rel => exact ⟨(false), (wrap64 (x4_2 + 1)), (by first | rfl | (simp; done) | (simp [*]; done)), (by first | rfl | (simp; done) | (simp [*]; done)), H', ⟨by have := HJ1.out; have := HK2.out; omega⟩, by repeat (first | exact Drawn0.refl _ | apply Drawn0.step)⟩
              · rw [if_neg c6] at H
                exact absurd H (by simp)
            · replace c5 := Bool.eq_false_iff.mpr c5
              subst c5
              have H1 : (psalteryref07_Fair.l0 k2 l0 false (wrap64 (x4_2 + 1))) = some r := by rw [if_neg (show ¬ (false = true) by decide)] at H; exact H
              clear H
              have H := H1
              clear H1
              have H' := Aside0.mk H
              clear H
              go_wp2
              go_roundg k2
              case measure => have := HJ1.out; have := HK2.out; omega
              case rel => exact ⟨(false), (wrap64 (x4_2 + 1)), (by first | rfl | (simp; done) | (simp [*]; done)), (by first | rfl | (simp; done) | (simp [*]; done)), H', ⟨by have := HJ1.out; have := HK2.out; omega⟩, by repeat (first | exact Drawn0.refl _ | apply Drawn0.step)⟩
          · rw [if_neg c4] at H
            have c4b0 : decide (x4_2 < (l0.length : Int)) = false := decide_eq_false c4
            clear c4
            obtain rfl := Option.some.inj H
            go_wp2
            go_ret
            exact ⟨by first | rfl | (simp; done) | (simp [*]; done), by repeat (first | exact Drawn0.refl _ | apply Drawn0.step)⟩

end Go.Proofs.Ytoghpjggcfnoeaa.P
