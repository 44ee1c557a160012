/- Walks. -/
import Derived.Test.YtpdfdaoohknfoaaQ1
namespace Go.Proofs.Ytpdfdaoohknfoaa.P
open Go.RowKit Go.Proofs.YtpdfdaoohknfoaaW.PrintWords Go.Proofs.YtpdfdaoohknfoaaW.PrintLast Go.Proofs.YtpdfdaoohknfoaaW.PrintMore
attribute [local go_sem] max2_int min2_int max_two min_two max_three min_three max_four min_four   -- for this text's walks alone
set_option linter.unusedVariables false
set_option linter.unusedSimpArgs false

def psalteryref14_Right.l0 : Nat → List Int → Bool → Int → Option (Bool)
  | 0, _, _, _ => none
  | k + 1, x0, x3, x4 => if x4 < (x0.length : Int) then (if x3 = true then (if 0 ≤ x4 then (if (rd x0 x4) ≥ 0 then (psalteryref14_Right.l0 k x0 (decide ((rd x0 x4) ≤ 44)) (wrap64 (x4 + 1))) else (psalteryref14_Right.l0 k x0 false (wrap64 (x4 + 1)))) else (none)) else (psalteryref14_Right.l0 k x0 false (wrap64 (x4 + 1)))) else (some x3)
def psalteryref14_Right.f (k : Nat) (l0 : List Int) : Option (Bool) := psalteryref14_Right.l0 k l0 ((l0.length : Int) == 6) 0
theorem psalteryref14_Right.mono_l : ∀ k, (∀ y0 y1 y2, LeO (psalteryref14_Right.l0 k y0 y1 y2) (psalteryref14_Right.l0 (k + 1) y0 y1 y2))
  | 0 => fun _ _ _ r h => by simp [psalteryref14_Right.l0] at h
  | k + 1 => by
    have ih0 := psalteryref14_Right.mono_l k
    · intro y0 y1 y2
      unfold psalteryref14_Right.l0
      with_reducible repeat' first
   | exact ih0 _ _ _
   | exact LeO.refl _
   | exact LeO.none _
   | refine LeO.ite ?_ ?_
   | refine LeO.bind ?_ (fun _ => ?_)
theorem psalteryref14_Right.mono : ∀ a0 k, LeO (psalteryref14_Right.f k a0) (psalteryref14_Right.f (k + 1) a0) := by
  intro a0 k
  have ih0 := psalteryref14_Right.mono_l k
  unfold psalteryref14_Right.f
  with_reducible repeat' first
   | exact ih0 _ _ _
   | exact LeO.refl _
   | exact LeO.none _
   | refine LeO.ite ?_ ?_
   | refine LeO.bind ?_ (fun _ => ?_)
set_option maxHeartbeats 8000000 in
set_option maxRecDepth 100000 in
theorem psalteryref14_Right.calls (k : Nat) (A0 : Option Addr) (c0 : Nat) (l0 : List Int) (r : Bool) (w : World) (hr0 : Kd.C (Kd.int .i64) w A0 l0.length l0) (hc0 : l0.length ≤ c0) (h : psalteryref14_Right.f k l0 = some r) :
    Calls Try.prog 67 #[.slice A0 l0.length c0] w fun e w' => e = .returned (.bool r) ∧ Drawn0 w w' := by
 have HR0 := Aside0.mk hr0
 have HC0 := Aside0.mk hc0
 clear hr0 hc0
 have H : (psalteryref14_Right.l0 k l0 ((l0.length : Int) == 6) 0) = some r := h
 clear h
 have H' := Aside0.mk H
 clear H
 go_enter Try.func67, Try.ntmps67
 go_wp2
 go_loopg [3, 4] k (fun kq v3 v4 w' => ∃ (x3_1 : Bool) (x4_1 : Int), v3 = .bool x3_1 ∧ v4 = .int .i64 x4_1 ∧ Aside0 (psalteryref14_Right.l0 kq l0 x3_1 x4_1 = some r) ∧ Aside0 (kq ≤ k) ∧ Drawn0 w w')
 case atStart => exact ⟨(((l0.length : Int) == 6)), (0), rs_, rs_, H', ⟨Nat.le_refl _⟩, by repeat (first | exact Drawn0.refl _ | apply Drawn0.step)⟩
 case round => (
 clear H'
 obtain ⟨x3_1, x4_1, rfl, rfl, HA, HK1, ⟨m1, rfl⟩⟩ := hrel
 cases gk with
 | zero => exact absurd HA.out (by simp [psalteryref14_Right.l0])
 | succ k1 => (
 have H := HA.out
 clear HA
 simp only [psalteryref14_Right.l0] at H
 by_cases c2 : x4_1 < (l0.length : Int)
 {
 rw [if_pos c2] at H
 have c2b0 : decide (x4_1 < (l0.length : Int)) = true := decide_eq_true c2
 clear c2
 by_cases c3 : x3_1 = true
 {
 subst c3
 rw [if_pos rfl] at H
 by_cases c4 : 0 ≤ x4_1
 {
 rw [if_pos c4] at H
 have c4b0 : decide (0 ≤ x4_1) = true := decide_eq_true c4
 clear c4
 by_cases c5 : (rd l0 x4_1) ≥ 0
 {
 rw [if_pos c5] at H
 have c5b0 : decide (0 ≤ (rd l0 x4_1)) = true := decide_eq_true c5
 clear c5
 have H' := Aside0.mk H
 clear H
 have p642 : 0 ≤ (x4_1 : Int) := of_decide_eq_true am_
 have q642 : x4_1 < (l0.length : Int) := of_decide_eq_true am_
 obtain ⟨ad642, e642, hx642_0⟩ := Kd.at_int HR0.out x4_1 p642 q642
 cases e642
 replace p642 := eq_true p642
 replace q642 := eq_true q642
 have p643 : 0 ≤ (x4_1 : Int) := of_decide_eq_true am_
 have q643 : x4_1 < (l0.length : Int) := of_decide_eq_true am_
 obtain ⟨ad643, e643, hx643_0⟩ := Kd.at_int HR0.out x4_1 p643 q643
 obtain rfl : ad642 = ad643 := (by injection e643)
 replace p643 := eq_true p643
 replace q643 := eq_true q643
 go_wp2
 go_roundg k1
 case measure => have := HK1.out; omega
 case rel => exact ⟨(decide ((rd l0 x4_1) ≤ 44)), (wrap64 (x4_1 + 1)), rs_, rs_, H', ⟨by have := HK1.out; omega⟩, by repeat (first | exact Drawn0.refl _ | apply Drawn0.step)⟩}
 {
 rw [if_neg c5] at H
 have c5b0 : decide (0 ≤ (rd l0 x4_1)) = false := decide_eq_false c5
 clear c5
 have H' := Aside0.mk H
 clear H
 have p642 : 0 ≤ (x4_1 : Int) := of_decide_eq_true am_
 have q642 : x4_1 < (l0.length : Int) := of_decide_eq_true am_
 obtain ⟨ad642, e642, hx642_0⟩ := Kd.at_int HR0.out x4_1 p642 q642
 cases e642
 replace p642 := eq_true p642
 replace q642 := eq_true q642
 go_wp2
 go_roundg k1
 case measure => have := HK1.out; omega
 case rel => exact ⟨(false), (wrap64 (x4_1 + 1)), rs_, rs_, H', ⟨by have := HK1.out; omega⟩, by repeat (first | exact Drawn0.refl _ | apply Drawn0.step)⟩}}
 {
 rw [if_neg c4] at H
 exact absurd H (by simp)}}
 {
 replace c3 := Bool.eq_false_iff.mpr c3
 subst c3
 rw [if_neg (show ¬ (false = true) by decide)] at H
 have H' := Aside0.mk H
 clear H
 go_wp2
 go_roundg k1
 case measure => have := HK1.out; omega
 case rel => exact ⟨(false), (wrap64 (x4_1 + 1)), rs_, rs_, H', ⟨by have := HK1.out; omega⟩, by repeat (first | exact Drawn0.refl _ | apply Drawn0.step)⟩}}
 {
 rw [if_neg c2] at H
 have c2b0 : decide (x4_1 < (l0.length : Int)) = false := decide_eq_false c2
 clear c2
 obtain rfl := Option.some.inj H
 go_wp2
 go_ret
 exact ⟨by first | rfl | (simp; done) | (simp [*]; done), by repeat (first | exact Drawn0.refl _ | apply Drawn0.step)⟩}))
end Go.Proofs.Ytpdfdaoohknfoaa.P
