-- PRINTED by print.py (a twelfth state) out of the translation. Not trusted: Lean checks it.
import Derived.Test.YtoghpjggcfnoeaaPx0
import Derived.Test.YtoghpjggcfnoeaaPx44
namespace Go.Proofs.Ytoghpjggcfnoeaa.P
open Go.RowKit Go.Proofs.YtoghpjggcfnoeaaW.PrintWords Go.Proofs.YtoghpjggcfnoeaaW.PrintLast Go.Proofs.YtoghpjggcfnoeaaW.PrintMore
attribute [local go_sem] max2_int min2_int max_two min_two max_three min_three max_four min_four   -- for this text's walks alone
set_option linter.unusedVariables false
set_option linter.unusedSimpArgs false

/-! ### psalteryref10_Fair: function 40 -/
def psalteryref10_Fair.f (k : Nat) (l0 : List Int) : Option (Bool) := if (l0.length : Int) = 16 then ((psalteryref07_Fair.f k l0).bind fun t346 => (some t346)) else (some false)
theorem psalteryref10_Fair.mono : ∀ a0 k, LeO (psalteryref10_Fair.f k a0) (psalteryref10_Fair.f (k + 1) a0) := by
  intro a0 k
  unfold psalteryref10_Fair.f
  repeat' first
      | (with_reducible exact psalteryref07_Fair.mono _ _)
      | (with_reducible exact LeO.refl _)
      | (with_reducible exact LeO.none _)
      | (with_reducible refine LeO.ite ?_ ?_)
      | (with_reducible refine LeO.bind ?_ (fun _ => ?_))
      | exact psalteryref07_Fair.mono _ _
      | exact LeO.none _
      | refine LeO.ite ?_ ?_
      | refine LeO.bind ?_ (fun _ => ?_)
set_option maxHeartbeats 8000000 in
set_option maxRecDepth 100000 in
theorem psalteryref10_Fair.calls (k : Nat) (A0 : Option Addr) (c0 : Nat) (l0 : List Int) (r : Bool) (w : World) (hr0 : Kd.C (Kd.int .i64) w A0 l0.length l0) (hc0 : l0.length ≤ c0) (h : psalteryref10_Fair.f k l0 = some r) :
    Calls Try.prog 40 #[.slice A0 l0.length c0] w fun e w' => e = .returned (.bool r) ∧ Drawn0 w w' := by
  have HR0 := Aside0.mk hr0
  have HC0 := Aside0.mk hc0
  clear hr0 hc0
  have H : (if (l0.length : Int) = 16 then ((psalteryref07_Fair.f k l0).bind fun t346 => (some t346)) else (some false)) = some r := h
  clear h
  by_cases c2 : (l0.length : Int) = 16
  · rw [if_pos c2] at H
    have c2b0 : ((l0.length : Int) == 16) = true := beq_iff_eq.mpr c2
    have c2b1 : ((l0.length : Int) != 16) = false := bne_eq_false_iff_eq.mpr c2
    clear c2
    replace H := Option.bind_eq_some_iff.mp H
    obtain ⟨t346, A30, H⟩ := H
    replace H : (some t346) = some r := H
    have A3 := Aside0.mk A30
    clear A30
    obtain rfl := Option.some.inj H
    go_enter Try.func40, Try.ntmps40
    go_wp2_with (first | (go_at_call 36; (with_reducible refine (psalteryref07_Fair.calls k _ _ l0 t346 _ ?side1 ?side2 A3.out).mono ?_); (case side1 => repeat (first | exact HR0.out | (with_reducible refine Kd.C_alloc ?_ _) | (with_reducible refine Kd.C_drewN ?_ _) | (with_reducible refine Kd.C_drew ?_))); (case side2 => exact HC0.out); rintro e w' ⟨rfl, ⟨nd, rfl⟩⟩))
    go_ret
    exact ⟨by first | rfl | (simp; done) | (simp [*]; done), by repeat (first | exact Drawn0.refl _ | apply Drawn0.step)⟩
  · rw [if_neg c2] at H
    have c2b0 : ((l0.length : Int) == 16) = false := beq_eq_false_iff_ne.mpr c2
    have c2b1 : ((l0.length : Int) != 16) = true := bne_iff_ne.mpr c2
    obtain rfl := Option.some.inj H
    go_enter Try.func40, Try.ntmps40
    go_wp2
    go_ret
    exact ⟨by first | rfl | (simp; done) | (simp [*]; done), by repeat (first | exact Drawn0.refl _ | apply Drawn0.step)⟩

end Go.Proofs.Ytoghpjggcfnoeaa.P
