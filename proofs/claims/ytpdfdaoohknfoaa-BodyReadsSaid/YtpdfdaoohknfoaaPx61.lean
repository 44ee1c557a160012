/- Walks. -/
import Derived.Test.YtpdfdaoohknfoaaQ1
namespace Go.Proofs.Ytpdfdaoohknfoaa.P
open Go.RowKit Go.Proofs.YtpdfdaoohknfoaaW.PrintWords Go.Proofs.YtpdfdaoohknfoaaW.PrintLast Go.Proofs.YtpdfdaoohknfoaaW.PrintMore
attribute [local go_sem] max2_int min2_int max_two min_two max_three min_three max_four min_four   -- for this text's walks alone
set_option linter.unusedVariables false
set_option linter.unusedSimpArgs false

def psalteryref04_same.l0 : Nat → List Int → Int → List Int → Int → Option (Bool)
  | 0, _, _, _, _ => none
  | k + 1, x0, x1, x2, x7 => if x7 < (x2.length : Int) then (if 0 ≤ (wrap64 (x1 + x7)) then (if (wrap64 (x1 + x7)) < (x0.length : Int) then (if 0 ≤ x7 then (if (rd x0 (wrap64 (x1 + x7))) = (rd x2 x7) then (psalteryref04_same.l0 k x0 x1 x2 (wrap64 (x7 + 1))) else (some false)) else (none)) else (none)) else (none)) else (some true)
def psalteryref04_same.f (k : Nat) (l0 : List Int) (a1 : Int) (l2 : List Int) : Option (Bool) := if (wrap64 (a1 + (l2.length : Int))) > (l0.length : Int) then (some false) else (psalteryref04_same.l0 k l0 a1 l2 0)
theorem psalteryref04_same.mono_l : ∀ k, (∀ y0 y1 y2 y3, LeO (psalteryref04_same.l0 k y0 y1 y2 y3) (psalteryref04_same.l0 (k + 1) y0 y1 y2 y3))
  | 0 => fun _ _ _ _ r h => by simp [psalteryref04_same.l0] at h
  | k + 1 => by
    have ih0 := psalteryref04_same.mono_l k
    · intro y0 y1 y2 y3
      unfold psalteryref04_same.l0
      with_reducible repeat' first
   | exact ih0 _ _ _ _
   | exact LeO.refl _
   | exact LeO.none _
   | refine LeO.ite ?_ ?_
   | refine LeO.bind ?_ (fun _ => ?_)
theorem psalteryref04_same.mono : ∀ a0 a1 a2 k, LeO (psalteryref04_same.f k a0 a1 a2) (psalteryref04_same.f (k + 1) a0 a1 a2) := by
  intro a0 a1 a2 k
  have ih0 := psalteryref04_same.mono_l k
  unfold psalteryref04_same.f
  with_reducible repeat' first
   | exact ih0 _ _ _ _
   | exact LeO.refl _
   | exact LeO.none _
   | refine LeO.ite ?_ ?_
   | refine LeO.bind ?_ (fun _ => ?_)
set_option maxHeartbeats 8000000 in
set_option maxRecDepth 100000 in
theorem psalteryref04_same.calls (k : Nat) (A0 : Option Addr) (c0 : Nat) (l0 : List Int) (a1 : Int) (A2 : Option Addr) (c2 : Nat) (l2 : List Int) (r : Bool) (w : World) (hr0 : Kd.C (Kd.int .i64) w A0 l0.length l0) (hc0 : l0.length ≤ c0) (hr2 : Kd.C (Kd.int .i64) w A2 l2.length l2) (hc2 : l2.length ≤ c2) (h : psalteryref04_same.f k l0 a1 l2 = some r) :
    Calls Try.prog 74 #[.slice A0 l0.length c0, .int .i64 a1, .slice A2 l2.length c2] w fun e w' => e = .returned (.bool r) ∧ Drawn0 w w' := by
 have HR0 := Aside0.mk hr0
 have HC0 := Aside0.mk hc0
 clear hr0 hc0
 have HR2 := Aside0.mk hr2
 have HC2 := Aside0.mk hc2
 clear hr2 hc2
 have H : (if (wrap64 (a1 + (l2.length : Int))) > (l0.length : Int) then (some false) else (psalteryref04_same.l0 k l0 a1 l2 0)) = some r := h
 clear h
 by_cases c4 : (wrap64 (a1 + (l2.length : Int))) > (l0.length : Int)
 {
 rw [if_pos c4] at H
 have c4b0 : decide ((l0.length : Int) < (wrap64 (a1 + (l2.length : Int)))) = true := decide_eq_true c4
 clear c4
 obtain rfl := Option.some.inj H
 go_enter Try.func74, Try.ntmps74
 go_wp2
 repeat (go_quiet (fail); try go_wp2)
 go_ret
 exact ⟨by first | rfl | (simp; done) | (simp [*]; done), by repeat (first | exact Drawn0.refl _ | apply Drawn0.step)⟩}
 {
 rw [if_neg c4] at H
 have c4b0 : decide ((l0.length : Int) < (wrap64 (a1 + (l2.length : Int)))) = false := decide_eq_false c4
 clear c4
 have H' := Aside0.mk H
 clear H
 go_enter Try.func74, Try.ntmps74
 go_wp2
 repeat (go_quiet (fail); try go_wp2)
 go_loopg [7] k (fun kq v7 w' => ∃ (x7_1 : Int), v7 = .int .i64 x7_1 ∧ Aside0 (psalteryref04_same.l0 kq l0 a1 l2 x7_1 = some r) ∧ Aside0 (kq ≤ k) ∧ Drawn0 w w')
 case atStart => exact ⟨(0), rs_, H', ⟨Nat.le_refl _⟩, by repeat (first | exact Drawn0.refl _ | apply Drawn0.step)⟩
 case round => (
 clear H'
 try clear c4
 try clear c4b0
 obtain ⟨x7_1, rfl, HA, HK1, ⟨m1, rfl⟩⟩ := hrel
 cases gk with
 | zero => exact absurd HA.out (by simp [psalteryref04_same.l0])
 | succ k1 => (
 have H := HA.out
 clear HA
 simp only [psalteryref04_same.l0] at H
 by_cases c5 : x7_1 < (l2.length : Int)
 {
 rw [if_pos c5] at H
 have c5b0 : decide (x7_1 < (l2.length : Int)) = true := decide_eq_true c5
 clear c5
 obtain ⟨ji6, hji6⟩ : ∃ j_ : Int, (wrap64 (a1 + x7_1)) = j_ := ⟨_, rfl⟩
 replace H : (if 0 ≤ (ji6) then (if (ji6) < (l0.length : Int) then (if 0 ≤ x7_1 then (if (rd l0 (ji6)) = (rd l2 x7_1) then (psalteryref04_same.l0 k1 l0 a1 l2 (wrap64 (x7_1 + 1))) else (some false)) else (none)) else (none)) else (none)) = some r := by first | (rw [hji6] at H; exact H) | (simp only [hji6] at H ⊢; exact H)
 have hji6w : (IntKind.i64.wrap (a1 + x7_1)) = ji6 := (i64_w _).trans hji6
 by_cases c7 : 0 ≤ (ji6)
 {
 rw [if_pos c7] at H
 have c7b0 : decide (0 ≤ (ji6)) = true := decide_eq_true c7
 clear c7
 by_cases c8 : (ji6) < (l0.length : Int)
 {
 rw [if_pos c8] at H
 have c8b0 : decide ((ji6) < (l0.length : Int)) = true := decide_eq_true c8
 clear c8
 by_cases c9 : 0 ≤ x7_1
 {
 rw [if_pos c9] at H
 have c9b0 : decide (0 ≤ x7_1) = true := decide_eq_true c9
 clear c9
 by_cases c10 : (rd l0 (ji6)) = (rd l2 x7_1)
 {
 rw [if_pos c10] at H
 have c10b0 : ((rd l0 (ji6)) == (rd l2 x7_1)) = true := beq_iff_eq.mpr c10
 have c10b1 : ((rd l0 (ji6)) != (rd l2 x7_1)) = false := bne_eq_false_iff_eq.mpr c10
 clear c10
 have H' := Aside0.mk H
 clear H
 have p756 : 0 ≤ ((ji6) : Int) := of_decide_eq_true am_
 have q756 : (ji6) < (l0.length : Int) := of_decide_eq_true am_
 obtain ⟨ad756, e756, hx756_0⟩ := Kd.at_int HR0.out (ji6) p756 q756
 cases e756
 replace p756 := eq_true p756
 replace q756 := eq_true q756
 have p757 : 0 ≤ (x7_1 : Int) := of_decide_eq_true am_
 have q757 : x7_1 < (l2.length : Int) := of_decide_eq_true am_
 obtain ⟨ad757, e757, hx757_0⟩ := Kd.at_int HR2.out x7_1 p757 q757
 cases e757
 replace p757 := eq_true p757
 replace q757 := eq_true q757
 (try subst hji6)
 go_wp2
 (try subst hji6)
 repeat (go_quiet (fail); try go_wp2)
 first | go_roundg k1 | (subst hji6; go_roundg k1)
 case measure => have := HK1.out; omega
 case rel => exact ⟨(wrap64 (x7_1 + 1)), rs_, H', ⟨by have := HK1.out; omega⟩, by repeat (first | exact Drawn0.refl _ | apply Drawn0.step)⟩}
 {
 rw [if_neg c10] at H
 have c10b0 : ((rd l0 (ji6)) == (rd l2 x7_1)) = false := beq_eq_false_iff_ne.mpr c10
 have c10b1 : ((rd l0 (ji6)) != (rd l2 x7_1)) = true := bne_iff_ne.mpr c10
 obtain rfl := Option.some.inj H
 have p756 : 0 ≤ ((ji6) : Int) := of_decide_eq_true am_
 have q756 : (ji6) < (l0.length : Int) := of_decide_eq_true am_
 obtain ⟨ad756, e756, hx756_0⟩ := Kd.at_int HR0.out (ji6) p756 q756
 cases e756
 replace p756 := eq_true p756
 replace q756 := eq_true q756
 have p757 : 0 ≤ (x7_1 : Int) := of_decide_eq_true am_
 have q757 : x7_1 < (l2.length : Int) := of_decide_eq_true am_
 obtain ⟨ad757, e757, hx757_0⟩ := Kd.at_int HR2.out x7_1 p757 q757
 cases e757
 replace p757 := eq_true p757
 replace q757 := eq_true q757
 go_wp2
 repeat (go_quiet (fail); try go_wp2)
 go_ret
 exact ⟨by first | rfl | (simp; done) | (simp only [← hji6] <;> (first | rfl | simp)) | (simp [*]; done), by repeat (first | exact Drawn0.refl _ | apply Drawn0.step)⟩}}
 {
 rw [if_neg c9] at H
 exact absurd H (by simp)}}
 {
 rw [if_neg c8] at H
 exact absurd H (by simp)}}
 {
 rw [if_neg c7] at H
 exact absurd H (by simp)}}
 {
 rw [if_neg c5] at H
 have c5b0 : decide (x7_1 < (l2.length : Int)) = false := decide_eq_false c5
 clear c5
 obtain rfl := Option.some.inj H
 go_wp2
 repeat (go_quiet (fail); try go_wp2)
 go_ret
 exact ⟨by first | rfl | (simp; done) | (simp [*]; done), by repeat (first | exact Drawn0.refl _ | apply Drawn0.step)⟩}))}
end Go.Proofs.Ytpdfdaoohknfoaa.P
