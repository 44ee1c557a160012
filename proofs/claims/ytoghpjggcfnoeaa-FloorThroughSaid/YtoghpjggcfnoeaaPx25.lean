-- PRINTED by print.py (a twelfth state) out of the translation. Not trusted: Lean checks it.
import Derived.Test.YtoghpjggcfnoeaaPx0
import Derived.Test.YtoghpjggcfnoeaaPx5
import Derived.Test.YtoghpjggcfnoeaaPx12
import Derived.Test.YtoghpjggcfnoeaaPx13
import Derived.Test.YtoghpjggcfnoeaaPx14
namespace Go.Proofs.Ytoghpjggcfnoeaa.P
open Go.RowKit Go.Proofs.YtoghpjggcfnoeaaW.PrintWords Go.Proofs.YtoghpjggcfnoeaaW.PrintLast Go.Proofs.YtoghpjggcfnoeaaW.PrintMore
attribute [local go_sem] max2_int min2_int max_two min_two max_three min_three max_four min_four   -- for this text's walks alone
set_option linter.unusedVariables false
set_option linter.unusedSimpArgs false

/-! ### psalterylaw14_FloorThrough: function 6 -/
mutual
def psalterylaw14_FloorThrough.j0 : Nat → List Int → List Int → Bool → Option (Bool)
  | 0, _, _, _ => none
  | k + 1, x0, x3, x25 => if x25 = true then (some false) else (psalterylaw14_FloorThrough.l0 k x0 x3 0)
def psalterylaw14_FloorThrough.l0 : Nat → List Int → List Int → Int → Option (Bool)
  | 0, _, _, _ => none
  | k + 1, x0, x3, x5 => if x5 < 6 then ((psalteryref14_At.f k x5).bind fun t222 => (if 0 ≤ t222 then (if t222 < (x3.length : Int) then (if 0 ≤ x5 then (if x5 < (x0.length : Int) then (if (rd x3 t222) = (rd x0 x5) then (psalterylaw14_FloorThrough.l0 k x0 x3 (wrap64 (x5 + 1))) else (some false)) else (none)) else (none)) else (none)) else (none))) else (psalterylaw14_FloorThrough.l1 k x0 x3 0)
def psalterylaw14_FloorThrough.l1 : Nat → List Int → List Int → Int → Option (Bool)
  | 0, _, _, _ => none
  | k + 1, x0, x3, x6 => if x6 < 5 then (if 0 ≤ x6 then (if x6 < (x0.length : Int) then (if 0 ≤ (wrap64 (x6 + 1)) then (if (wrap64 (x6 + 1)) < (x0.length : Int) then (if (rd x0 x6) > (rd x0 (wrap64 (x6 + 1))) then (psalterylaw14_FloorThrough.j3 k x0 x3 x6 (rd x0 (wrap64 (x6 + 1))) (rd x0 x6)) else (psalterylaw14_FloorThrough.j3 k x0 x3 x6 (rd x0 x6) (rd x0 (wrap64 (x6 + 1))))) else (none)) else (none)) else (none)) else (none)) else ((psalterylaw14_knows.f k).bind fun t225 => (some t225))
def psalterylaw14_FloorThrough.j3 : Nat → List Int → List Int → Int → Int → Int → Option (Bool)
  | 0, _, _, _, _, _ => none
  | k + 1, x0, x3, x6, x7, x8 => (psalteryref14_At.f k x6).bind fun t228 => (psalterylaw14_FloorThrough.l2 k x0 x3 x6 x7 x8 t228)
def psalterylaw14_FloorThrough.l2 : Nat → List Int → List Int → Int → Int → Int → Int → Option (Bool)
  | 0, _, _, _, _, _, _ => none
  | k + 1, x0, x3, x6, x7, x8, x9 => (psalteryref14_At.f k (wrap64 (x6 + 1))).bind fun t229 => (if x9 ≤ t229 then (if 0 ≤ x9 then (if x9 < (x3.length : Int) then (if (rd x3 x9) < x7 then (some false) else (if (rd x3 x9) > x8 then (some false) else (psalterylaw14_FloorThrough.l2 k x0 x3 x6 x7 x8 (wrap64 (x9 + 1))))) else (none)) else (none)) else (psalterylaw14_FloorThrough.l1 k x0 x3 (wrap64 (x6 + 1))))
end
def psalterylaw14_FloorThrough.f (k : Nat) (l0 : List Int) : Option (Bool) := (psalteryref14_Right.f k l0).bind fun t216 => (if t216 = true then ((floor_Line.f k l0).bind fun bt218 => (if bt218.2 = 0 then (psalterylaw14_FloorThrough.j0 k l0 bt218.1 ((bt218.1.length : Int) != 16)) else (psalterylaw14_FloorThrough.j0 k l0 bt218.1 true))) else ((psalterylaw14_knows.f k).bind fun t217 => (some t217)))
theorem psalterylaw14_FloorThrough.mono_l : ∀ k, (∀ y0 y1 y2, LeO (psalterylaw14_FloorThrough.j0 k y0 y1 y2) (psalterylaw14_FloorThrough.j0 (k + 1) y0 y1 y2)) ∧ (∀ y0 y1 y2, LeO (psalterylaw14_FloorThrough.l0 k y0 y1 y2) (psalterylaw14_FloorThrough.l0 (k + 1) y0 y1 y2)) ∧ (∀ y0 y1 y2, LeO (psalterylaw14_FloorThrough.l1 k y0 y1 y2) (psalterylaw14_FloorThrough.l1 (k + 1) y0 y1 y2)) ∧ (∀ y0 y1 y2 y3 y4, LeO (psalterylaw14_FloorThrough.j3 k y0 y1 y2 y3 y4) (psalterylaw14_FloorThrough.j3 (k + 1) y0 y1 y2 y3 y4)) ∧ (∀ y0 y1 y2 y3 y4 y5, LeO (psalterylaw14_FloorThrough.l2 k y0 y1 y2 y3 y4 y5) (psalterylaw14_FloorThrough.l2 (k + 1) y0 y1 y2 y3 y4 y5))
  | 0 => ⟨fun _ _ _ r h => by simp [psalterylaw14_FloorThrough.j0] at h, fun _ _ _ r h => by simp [psalterylaw14_FloorThrough.l0] at h, fun _ _ _ r h => by simp [psalterylaw14_FloorThrough.l1] at h, fun _ _ _ _ _ r h => by simp [psalterylaw14_FloorThrough.j3] at h, fun _ _ _ _ _ _ r h => by simp [psalterylaw14_FloorThrough.l2] at h⟩
  | k + 1 => by
    obtain ⟨ih0, ih1, ih2, ih3, ih4⟩ := psalterylaw14_FloorThrough.mono_l k
    refine ⟨?_, ?_, ?_, ?_, ?_⟩
    · intro y0 y1 y2
      unfold psalterylaw14_FloorThrough.j0
      repeat' first
      | (with_reducible exact ih0 _ _ _)
      | (with_reducible exact ih1 _ _ _)
      | (with_reducible exact ih2 _ _ _)
      | (with_reducible exact ih3 _ _ _ _ _)
      | (with_reducible exact ih4 _ _ _ _ _ _)
      | (with_reducible exact floor_Line.mono _ _)
      | (with_reducible exact psalterylaw14_knows.mono _)
      | (with_reducible exact psalteryref14_At.mono _ _)
      | (with_reducible exact psalteryref14_Right.mono _ _)
      | (with_reducible exact LeO.refl _)
      | (with_reducible exact LeO.none _)
      | (with_reducible refine LeO.ite ?_ ?_)
      | (with_reducible refine LeO.bind ?_ (fun _ => ?_))
      | exact ih0 _ _ _
      | exact ih1 _ _ _
      | exact ih2 _ _ _
      | exact ih3 _ _ _ _ _
      | exact ih4 _ _ _ _ _ _
      | exact floor_Line.mono _ _
      | exact psalterylaw14_knows.mono _
      | exact psalteryref14_At.mono _ _
      | exact psalteryref14_Right.mono _ _
      | exact LeO.none _
      | refine LeO.ite ?_ ?_
      | refine LeO.bind ?_ (fun _ => ?_)
    · intro y0 y1 y2
      unfold psalterylaw14_FloorThrough.l0
      repeat' first
      | (with_reducible exact ih0 _ _ _)
      | (with_reducible exact ih1 _ _ _)
      | (with_reducible exact ih2 _ _ _)
      | (with_reducible exact ih3 _ _ _ _ _)
      | (with_reducible exact ih4 _ _ _ _ _ _)
      | (with_reducible exact floor_Line.mono _ _)
      | (with_reducible exact psalterylaw14_knows.mono _)
      | (with_reducible exact psalteryref14_At.mono _ _)
      | (with_reducible exact psalteryref14_Right.mono _ _)
      | (with_reducible exact LeO.refl _)
      | (with_reducible exact LeO.none _)
      | (with_reducible refine LeO.ite ?_ ?_)
      | (with_reducible refine LeO.bind ?_ (fun _ => ?_))
      | exact ih0 _ _ _
      | exact ih1 _ _ _
      | exact ih2 _ _ _
      | exact ih3 _ _ _ _ _
      | exact ih4 _ _ _ _ _ _
      | exact floor_Line.mono _ _
      | exact psalterylaw14_knows.mono _
      | exact psalteryref14_At.mono _ _
      | exact psalteryref14_Right.mono _ _
      | exact LeO.none _
      | refine LeO.ite ?_ ?_
      | refine LeO.bind ?_ (fun _ => ?_)
    · intro y0 y1 y2
      unfold psalterylaw14_FloorThrough.l1
      repeat' first
      | (with_reducible exact ih0 _ _ _)
      | (with_reducible exact ih1 _ _ _)
      | (with_reducible exact ih2 _ _ _)
      | (with_reducible exact ih3 _ _ _ _ _)
      | (with_reducible exact ih4 _ _ _ _ _ _)
      | (with_reducible exact floor_Line.mono _ _)
      | (with_reducible exact psalterylaw14_knows.mono _)
      | (with_reducible exact psalteryref14_At.mono _ _)
      | (with_reducible exact psalteryref14_Right.mono _ _)
      | (with_reducible exact LeO.refl _)
      | (with_reducible exact LeO.none _)
      | (with_reducible refine LeO.ite ?_ ?_)
      | (with_reducible refine LeO.bind ?_ (fun _ => ?_))
      | exact ih0 _ _ _
      | exact ih1 _ _ _
      | exact ih2 _ _ _
      | exact ih3 _ _ _ _ _
      | exact ih4 _ _ _ _ _ _
      | exact floor_Line.mono _ _
      | exact psalterylaw14_knows.mono _
      | exact psalteryref14_At.mono _ _
      | exact psalteryref14_Right.mono _ _
      | exact LeO.none _
      | refine LeO.ite ?_ ?_
      | refine LeO.bind ?_ (fun _ => ?_)
    · intro y0 y1 y2 y3 y4
      unfold psalterylaw14_FloorThrough.j3
      repeat' first
      | (with_reducible exact ih0 _ _ _)
      | (with_reducible exact ih1 _ _ _)
      | (with_reducible exact ih2 _ _ _)
      | (with_reducible exact ih3 _ _ _ _ _)
      | (with_reducible exact ih4 _ _ _ _ _ _)
      | (with_reducible exact floor_Line.mono _ _)
      | (with_reducible exact psalterylaw14_knows.mono _)
      | (with_reducible exact psalteryref14_At.mono _ _)
      | (with_reducible exact psalteryref14_Right.mono _ _)
      | (with_reducible exact LeO.refl _)
      | (with_reducible exact LeO.none _)
      | (with_reducible refine LeO.ite ?_ ?_)
      | (with_reducible refine LeO.bind ?_ (fun _ => ?_))
      | exact ih0 _ _ _
      | exact ih1 _ _ _
      | exact ih2 _ _ _
      | exact ih3 _ _ _ _ _
      | exact ih4 _ _ _ _ _ _
      | exact floor_Line.mono _ _
      | exact psalterylaw14_knows.mono _
      | exact psalteryref14_At.mono _ _
      | exact psalteryref14_Right.mono _ _
      | exact LeO.none _
      | refine LeO.ite ?_ ?_
      | refine LeO.bind ?_ (fun _ => ?_)
    · intro y0 y1 y2 y3 y4 y5
      unfold psalterylaw14_FloorThrough.l2
      repeat' first
      | (with_reducible exact ih0 _ _ _)
      | (with_reducible exact ih1 _ _ _)
      | (with_reducible exact ih2 _ _ _)
      | (with_reducible exact ih3 _ _ _ _ _)
      | (with_reducible exact ih4 _ _ _ _ _ _)
      | (with_reducible exact floor_Line.mono _ _)
      | (with_reducible exact psalterylaw14_knows.mono _)
      | (with_reducible exact psalteryref14_At.mono _ _)
      | (with_reducible exact psalteryref14_Right.mono _ _)
      | (with_reducible exact LeO.refl _)
      | (with_reducible exact LeO.none _)
      | (with_reducible refine LeO.ite ?_ ?_)
      | (with_reducible refine LeO.bind ?_ (fun _ => ?_))
      | exact ih0 _ _ _
      | exact ih1 _ _ _
      | exact ih2 _ _ _
      | exact ih3 _ _ _ _ _
      | exact ih4 _ _ _ _ _ _
      | exact floor_Line.mono _ _
      | exact psalterylaw14_knows.mono _
      | exact psalteryref14_At.mono _ _
      | exact psalteryref14_Right.mono _ _
      | exact LeO.none _
      | refine LeO.ite ?_ ?_
      | refine LeO.bind ?_ (fun _ => ?_)
theorem psalterylaw14_FloorThrough.mono : ∀ a0 k, LeO (psalterylaw14_FloorThrough.f k a0) (psalterylaw14_FloorThrough.f (k + 1) a0) := by
  intro a0 k
  obtain ⟨ih0, ih1, ih2, ih3, ih4⟩ := psalterylaw14_FloorThrough.mono_l k
  unfold psalterylaw14_FloorThrough.f
  repeat' first
      | (with_reducible exact ih0 _ _ _)
      | (with_reducible exact ih1 _ _ _)
      | (with_reducible exact ih2 _ _ _)
      | (with_reducible exact ih3 _ _ _ _ _)
      | (with_reducible exact ih4 _ _ _ _ _ _)
      | (with_reducible exact floor_Line.mono _ _)
      | (with_reducible exact psalterylaw14_knows.mono _)
      | (with_reducible exact psalteryref14_At.mono _ _)
      | (with_reducible exact psalteryref14_Right.mono _ _)
      | (with_reducible exact LeO.refl _)
      | (with_reducible exact LeO.none _)
      | (with_reducible refine LeO.ite ?_ ?_)
      | (with_reducible refine LeO.bind ?_ (fun _ => ?_))
      | exact ih0 _ _ _
      | exact ih1 _ _ _
      | exact ih2 _ _ _
      | exact ih3 _ _ _ _ _
      | exact ih4 _ _ _ _ _ _
      | exact floor_Line.mono _ _
      | exact psalterylaw14_knows.mono _
      | exact psalteryref14_At.mono _ _
      | exact psalteryref14_Right.mono _ _
      | exact LeO.none _
      | refine LeO.ite ?_ ?_
      | refine LeO.bind ?_ (fun _ => ?_)
set_option maxHeartbeats 8000000 in
set_option maxRecDepth 100000 in
theorem psalterylaw14_FloorThrough.calls (k : Nat) (A0 : Option Addr) (c0 : Nat) (l0 : List Int) (r : Bool) (w : World) (hr0 : Kd.C (Kd.int .i64) w A0 l0.length l0) (hc0 : l0.length ≤ c0) (h : psalterylaw14_FloorThrough.f k l0 = some r) (hT : r = true) :
    Calls Try.prog 6 #[.slice A0 l0.length c0] w fun e w' => e = .returned (.bool r) ∧ Below w.heap.size w w' := by
  have HR0 := Aside0.mk hr0
  have HC0 := Aside0.mk hc0
  clear hr0 hc0
  have HB := Aside0.mk (Below.refl w.heap.size w)
  have H : ((psalteryref14_Right.f k l0).bind fun t216 => (if t216 = true then ((floor_Line.f k l0).bind fun bt218 => (if bt218.2 = 0 then (psalterylaw14_FloorThrough.j0 k l0 bt218.1 ((bt218.1.length : Int) != 16)) else (psalterylaw14_FloorThrough.j0 k l0 bt218.1 true))) else ((psalterylaw14_knows.f k).bind fun t217 => (some t217)))) = some r := h
  clear h
  have HT := Aside0.mk hT
  clear hT
  replace H := Option.bind_eq_some_iff.mp H
  obtain ⟨t216, A20, H⟩ := H
  replace H : (if t216 = true then ((floor_Line.f k l0).bind fun bt218 => (if bt218.2 = 0 then (psalterylaw14_FloorThrough.j0 k l0 bt218.1 ((bt218.1.length : Int) != 16)) else (psalterylaw14_FloorThrough.j0 k l0 bt218.1 true))) else ((psalterylaw14_knows.f k).bind fun t217 => (some t217))) = some r := H
  have A2 := Aside0.mk A20
  clear A20
  by_cases c3 : t216 = true
  · subst c3
    have H1 : ((floor_Line.f k l0).bind fun bt218 => (if bt218.2 = 0 then (psalterylaw14_FloorThrough.j0 k l0 bt218.1 ((bt218.1.length : Int) != 16)) else (psalterylaw14_FloorThrough.j0 k l0 bt218.1 true))) = some r := by rw [if_pos rfl] at H; exact H
    clear H
    have H := H1
    clear H1
    replace H := Option.bind_eq_some_iff.mp H
    obtain ⟨⟨t218, t219⟩, A40, H⟩ := H
    replace H : (if t219 = 0 then (psalterylaw14_FloorThrough.j0 k l0 t218 ((t218.length : Int) != 16)) else (psalterylaw14_FloorThrough.j0 k l0 t218 true)) = some r := H
    have A4 := Aside0.mk A40
    clear A40
    have HC5 := Aside0.mk H
    clear H
    go_enter Try.func6, Try.ntmps6
    go_upto_region 4 with (first | (go_at_call 19; (with_reducible refine (psalteryref14_Right.calls k _ _ l0 true _ ?side1 ?side2 A2.out).mono ?_); (case side1 => repeat (first | exact HR0.out | (with_reducible refine Kd.C_alloc ?_ _) | (with_reducible refine Kd.C_drewN ?_ _) | (with_reducible refine Kd.C_drew ?_))); (case side2 => exact HC0.out); rintro e w' ⟨rfl, ⟨nd, rfl⟩⟩; (try first | exact ⟨rfl, _, World.drewN_drewN _ _ _⟩ | exact ⟨rfl, _, Eq.trans (World.drewN_drewN _ _ _) (congrArg (World.drewN _) (Nat.add_assoc _ _ _))⟩)) | (go_at_call 20; (with_reducible refine (floor_Line.calls k _ _ l0 t218 t219 _ ?side1 ?side2 A4.out).mono ?_); (case side1 => repeat (first | exact HR0.out | (with_reducible refine Kd.C_alloc ?_ _) | (with_reducible refine Kd.C_drewN ?_ _) | (with_reducible refine Kd.C_drew ?_))); (case side2 => exact HC0.out); rintro e w6 ⟨v220, rfl, ho0, hb⟩; have n0_ := Aside0.mk (Kd.R_lower ho0 (below_size (by repeat (first | (with_reducible first | exact HB.out | apply below_alloc | apply pw_below_drewN | apply below_drew1) | exact HB.out)))); have n1_ := Aside0.mk (below_step (by repeat (first | (with_reducible first | exact HB.out | apply below_alloc | apply pw_below_drewN | apply below_drew1) | exact HB.out)) hb); clear HB; have HO221 := n0_; have HB := n1_; clear n0_ n1_; (try clear hb); (try clear hb2); (try clear hk); (try clear hi); (try clear ho0)))
    repeat (go_quiet (first | (go_at_call 19; (with_reducible refine (psalteryref14_Right.calls k _ _ l0 true _ ?side1 ?side2 A2.out).mono ?_); (case side1 => repeat (first | exact HR0.out | (with_reducible refine Kd.C_alloc ?_ _) | (with_reducible refine Kd.C_drewN ?_ _) | (with_reducible refine Kd.C_drew ?_))); (case side2 => exact HC0.out); rintro e w' ⟨rfl, ⟨nd, rfl⟩⟩; (try first | exact ⟨rfl, _, World.drewN_drewN _ _ _⟩ | exact ⟨rfl, _, Eq.trans (World.drewN_drewN _ _ _) (congrArg (World.drewN _) (Nat.add_assoc _ _ _))⟩)) | (go_at_call 20; (with_reducible refine (floor_Line.calls k _ _ l0 t218 t219 _ ?side1 ?side2 A4.out).mono ?_); (case side1 => repeat (first | exact HR0.out | (with_reducible refine Kd.C_alloc ?_ _) | (with_reducible refine Kd.C_drewN ?_ _) | (with_reducible refine Kd.C_drew ?_))); (case side2 => exact HC0.out); rintro e w6 ⟨v220, rfl, ho0, hb⟩; have n0_ := Aside0.mk (Kd.R_lower ho0 (below_size (by repeat (first | (with_reducible first | exact HB.out | apply below_alloc | apply pw_below_drewN | apply below_drew1) | exact HB.out)))); have n1_ := Aside0.mk (below_step (by repeat (first | (with_reducible first | exact HB.out | apply below_alloc | apply pw_below_drewN | apply below_drew1) | exact HB.out)) hb); clear HB; have HO221 := n0_; have HB := n1_; clear n0_ n1_; (try clear hb); (try clear hb2); (try clear hk); (try clear hi); (try clear ho0))); go_upto_region 4 with (first | (go_at_call 19; (with_reducible refine (psalteryref14_Right.calls k _ _ l0 true _ ?side1 ?side2 A2.out).mono ?_); (case side1 => repeat (first | exact HR0.out | (with_reducible refine Kd.C_alloc ?_ _) | (with_reducible refine Kd.C_drewN ?_ _) | (with_reducible refine Kd.C_drew ?_))); (case side2 => exact HC0.out); rintro e w' ⟨rfl, ⟨nd, rfl⟩⟩; (try first | exact ⟨rfl, _, World.drewN_drewN _ _ _⟩ | exact ⟨rfl, _, Eq.trans (World.drewN_drewN _ _ _) (congrArg (World.drewN _) (Nat.add_assoc _ _ _))⟩)) | (go_at_call 20; (with_reducible refine (floor_Line.calls k _ _ l0 t218 t219 _ ?side1 ?side2 A4.out).mono ?_); (case side1 => repeat (first | exact HR0.out | (with_reducible refine Kd.C_alloc ?_ _) | (with_reducible refine Kd.C_drewN ?_ _) | (with_reducible refine Kd.C_drew ?_))); (case side2 => exact HC0.out); rintro e w6 ⟨v220, rfl, ho0, hb⟩; have n0_ := Aside0.mk (Kd.R_lower ho0 (below_size (by repeat (first | (with_reducible first | exact HB.out | apply below_alloc | apply pw_below_drewN | apply below_drew1) | exact HB.out)))); have n1_ := Aside0.mk (below_step (by repeat (first | (with_reducible first | exact HB.out | apply below_alloc | apply pw_below_drewN | apply below_drew1) | exact HB.out)) hb); clear HB; have HO221 := n0_; have HB := n1_; clear n0_ n1_; (try clear hb); (try clear hb2); (try clear hk); (try clear hi); (try clear ho0))))
    (try simp only [Act.put, List.setIfInBounds_toArray, List.set_cons_zero, List.set_cons_succ])
    go_cut [25] (fun v25 wc => ∃ (kq : Nat) (x25_4 : Bool), v25 = .bool x25_4 ∧ Aside0 (psalterylaw14_FloorThrough.j0 kq l0 t218 x25_4 = some r) ∧ Aside0 (kq ≤ k) ∧ Aside0 (Kd.R (Kd.int .i64) 3 wc w.heap.size (fun _ => True) v220 t218) ∧ Aside0 (Below w.heap.size w wc))
    case first =>
      have H := HC5.out
      clear HC5
      by_cases c7 : t219 = 0
      · rw [if_pos c7] at H
        have c7b0 : (t219 == 0) = true := beq_iff_eq.mpr c7
        have c7b1 : (t219 != 0) = false := bne_eq_false_iff_eq.mpr c7
        clear c7
        (first | rw [c7b0] | (simp only [i64_w, i32_w]; rw [c7b0]) | skip)
        have H' := Aside0.mk H
        clear H
        obtain ⟨Ao8, co8, eo8⟩ := Kd.R_slice HO221.out
        subst eo8
        go_wp2
        repeat (go_quiet (fail); try go_wp2)
        go_meet
        case rel => exact ⟨_, (((t218.length : Int) != 16)), (by first | rfl | (simp; done) | (simp [*]; done)), H', ⟨by first | omega | exact Nat.le_refl _⟩, ⟨by (with_reducible repeat (first | apply Kd.R_alloc | apply Kd.R_drewN | apply Kd.R_drew)); exact HO221.out⟩, ⟨by repeat (first | (with_reducible first | exact HB.out | apply below_alloc | apply pw_below_drewN | apply below_drew1) | exact HB.out)⟩⟩
      · rw [if_neg c7] at H
        have c7b0 : (t219 == 0) = false := beq_eq_false_iff_ne.mpr c7
        have c7b1 : (t219 != 0) = true := bne_iff_ne.mpr c7
        (first | rw [c7b0] | (simp only [i64_w, i32_w]; rw [c7b0]) | skip)
        have H' := Aside0.mk H
        clear H
        go_wp2
        repeat (go_quiet (fail); try go_wp2)
        go_meet
        case rel => exact ⟨_, (true), (by first | rfl | (simp; done) | (simp [*]; done)), H', ⟨by first | omega | exact Nat.le_refl _⟩, ⟨by (with_reducible repeat (first | apply Kd.R_alloc | apply Kd.R_drewN | apply Kd.R_drew)); exact HO221.out⟩, ⟨by repeat (first | (with_reducible first | exact HB.out | apply below_alloc | apply pw_below_drewN | apply below_drew1) | exact HB.out)⟩⟩
    case rest =>
      clear HC5
      try clear p2
      try clear c3
      try clear c6
      try clear c7
      try clear c7b0
      try clear c7b1
      obtain ⟨kq, x25_4, rfl, HA, HJ4, HO_3, HB⟩ := hcut
      cases kq with
      | zero => exact absurd HA.out (by simp [psalterylaw14_FloorThrough.j0])
      | succ kj4 =>
        have H := HA.out
        clear HA
        simp only [psalterylaw14_FloorThrough.j0] at H
        by_cases c9 : x25_4 = true
        · subst c9
          have H1 : (some false) = some r := by rw [if_pos rfl] at H; exact H
          clear H
          have H := H1
          clear H1
          exact absurd ((Option.some.inj H).trans HT.out) (by decide)
        · replace c9 := Bool.eq_false_iff.mpr c9
          subst c9
          have H1 : (psalterylaw14_FloorThrough.l0 kj4 l0 t218 0) = some r := by rw [if_neg (show ¬ (false = true) by decide)] at H; exact H
          clear H
          have H := H1
          clear H1
          have H' := Aside0.mk H
          clear H
          go_wp2
          repeat (go_quiet (fail); try go_wp2)
          go_loopg [5] kj4 (fun kq v5 w' => ∃ (x5_2 : Int), v5 = .int .i64 x5_2 ∧ Aside0 (psalterylaw14_FloorThrough.l0 kq l0 t218 x5_2 = some r) ∧ Aside0 (kq ≤ kj4) ∧ Aside0 (Kd.R (Kd.int .i64) 3 w' w.heap.size (fun _ => True) v220 t218) ∧ Aside0 (Below w.heap.size w w'))
          case atStart => exact ⟨(0), (by first | rfl | (simp; done) | (simp [*]; done)), H', ⟨Nat.le_refl _⟩, ⟨by (with_reducible repeat (first | apply Kd.R_alloc | apply Kd.R_drewN | apply Kd.R_drew)); exact HO_3.out⟩, ⟨by repeat (first | (with_reducible first | exact HB.out | apply below_alloc | apply pw_below_drewN | apply below_drew1) | exact HB.out)⟩⟩
          case round =>
            clear H'
            try clear p2
            try clear c3
            try clear c6
            try clear c7
            try clear c7b0
            try clear c7b1
            try clear c9
            try clear p2
            obtain ⟨x5_2, rfl, HA, HK2, HO_3, HB⟩ := hrel
            cases gk with
            | zero => exact absurd HA.out (by simp [psalterylaw14_FloorThrough.l0])
            | succ k2 =>
              have H := HA.out
              clear HA
              simp only [psalterylaw14_FloorThrough.l0] at H
              by_cases c10 : x5_2 < 6
              · rw [if_pos c10] at H
                have c10b0 : decide (x5_2 < 6) = true := decide_eq_true c10
                clear c10
                replace H := Option.bind_eq_some_iff.mp H
                obtain ⟨t222, A110, H⟩ := H
                replace H : (if 0 ≤ t222 then (if t222 < (t218.length : Int) then (if 0 ≤ x5_2 then (if x5_2 < (l0.length : Int) then (if (rd t218 t222) = (rd l0 x5_2) then (psalterylaw14_FloorThrough.l0 k2 l0 t218 (wrap64 (x5_2 + 1))) else (some false)) else (none)) else (none)) else (none)) else (none)) = some r := H
                have A11 := Aside0.mk A110
                clear A110
                by_cases c12 : 0 ≤ t222
                · rw [if_pos c12] at H
                  have c12b0 : decide (0 ≤ t222) = true := decide_eq_true c12
                  clear c12
                  by_cases c13 : t222 < (t218.length : Int)
                  · rw [if_pos c13] at H
                    have c13b0 : decide (t222 < (t218.length : Int)) = true := decide_eq_true c13
                    clear c13
                    by_cases c14 : 0 ≤ x5_2
                    · rw [if_pos c14] at H
                      have c14b0 : decide (0 ≤ x5_2) = true := decide_eq_true c14
                      clear c14
                      by_cases c15 : x5_2 < (l0.length : Int)
                      · rw [if_pos c15] at H
                        have c15b0 : decide (x5_2 < (l0.length : Int)) = true := decide_eq_true c15
                        clear c15
                        by_cases c16 : (rd t218 t222) = (rd l0 x5_2)
                        · rw [if_pos c16] at H
                          have c16b0 : ((rd t218 t222) == (rd l0 x5_2)) = true := beq_iff_eq.mpr c16
                          have c16b1 : ((rd t218 t222) != (rd l0 x5_2)) = false := bne_eq_false_iff_eq.mpr c16
                          clear c16
                          have H' := Aside0.mk H
                          clear H
                          go_wp2_with (first | (go_at_call 17; (with_reducible refine (psalteryref14_At.calls k2 x5_2 t222 _ A11.out).mono ?_); rintro e w' ⟨rfl, ⟨nd, rfl⟩⟩; (try first | exact ⟨rfl, _, World.drewN_drewN _ _ _⟩ | exact ⟨rfl, _, Eq.trans (World.drewN_drewN _ _ _) (congrArg (World.drewN _) (Nat.add_assoc _ _ _))⟩); obtain ⟨Ao17, co17, eo17⟩ := Kd.R_slice HO_3.out; subst eo17; have p223 : 0 ≤ (t222 : Int) := of_decide_eq_true (by first | (with_reducible assumption) | assumption); have q223 : t222 < (t218.length : Int) := of_decide_eq_true (by first | (with_reducible assumption) | assumption); obtain ⟨ad223, e223, hx223_0⟩ := Kd.at_int (Kd.R_reads' HO_3.out).2.2 t222 p223 q223; cases e223; replace p223 := eq_true p223; replace q223 := eq_true q223; have p224 : 0 ≤ (x5_2 : Int) := of_decide_eq_true (by first | (with_reducible assumption) | assumption); have q224 : x5_2 < (l0.length : Int) := of_decide_eq_true (by first | (with_reducible assumption) | assumption); obtain ⟨ad224, e224, hx224_0⟩ := Kd.at_int HR0.out x5_2 p224 q224; cases e224; replace hx224_0 := (HB.out.cell (World.block_lt_of_cell? w _ hx224_0)).trans hx224_0; replace p224 := eq_true p224; replace q224 := eq_true q224))
                          repeat (go_quiet (first | (go_at_call 17; (with_reducible refine (psalteryref14_At.calls k2 x5_2 t222 _ A11.out).mono ?_); rintro e w' ⟨rfl, ⟨nd, rfl⟩⟩; (try first | exact ⟨rfl, _, World.drewN_drewN _ _ _⟩ | exact ⟨rfl, _, Eq.trans (World.drewN_drewN _ _ _) (congrArg (World.drewN _) (Nat.add_assoc _ _ _))⟩); obtain ⟨Ao17, co17, eo17⟩ := Kd.R_slice HO_3.out; subst eo17; have p223 : 0 ≤ (t222 : Int) := of_decide_eq_true (by first | (with_reducible assumption) | assumption); have q223 : t222 < (t218.length : Int) := of_decide_eq_true (by first | (with_reducible assumption) | assumption); obtain ⟨ad223, e223, hx223_0⟩ := Kd.at_int (Kd.R_reads' HO_3.out).2.2 t222 p223 q223; cases e223; replace p223 := eq_true p223; replace q223 := eq_true q223; have p224 : 0 ≤ (x5_2 : Int) := of_decide_eq_true (by first | (with_reducible assumption) | assumption); have q224 : x5_2 < (l0.length : Int) := of_decide_eq_true (by first | (with_reducible assumption) | assumption); obtain ⟨ad224, e224, hx224_0⟩ := Kd.at_int HR0.out x5_2 p224 q224; cases e224; replace hx224_0 := (HB.out.cell (World.block_lt_of_cell? w _ hx224_0)).trans hx224_0; replace p224 := eq_true p224; replace q224 := eq_true q224)); try go_wp2_with (first | (go_at_call 17; (with_reducible refine (psalteryref14_At.calls k2 x5_2 t222 _ A11.out).mono ?_); rintro e w' ⟨rfl, ⟨nd, rfl⟩⟩; (try first | exact ⟨rfl, _, World.drewN_drewN _ _ _⟩ | exact ⟨rfl, _, Eq.trans (World.drewN_drewN _ _ _) (congrArg (World.drewN _) (Nat.add_assoc _ _ _))⟩); obtain ⟨Ao17, co17, eo17⟩ := Kd.R_slice HO_3.out; subst eo17; have p223 : 0 ≤ (t222 : Int) := of_decide_eq_true (by first | (with_reducible assumption) | assumption); have q223 : t222 < (t218.length : Int) := of_decide_eq_true (by first | (with_reducible assumption) | assumption); obtain ⟨ad223, e223, hx223_0⟩ := Kd.at_int (Kd.R_reads' HO_3.out).2.2 t222 p223 q223; cases e223; replace p223 := eq_true p223; replace q223 := eq_true q223; have p224 : 0 ≤ (x5_2 : Int) := of_decide_eq_true (by first | (with_reducible assumption) | assumption); have q224 : x5_2 < (l0.length : Int) := of_decide_eq_true (by first | (with_reducible assumption) | assumption); obtain ⟨ad224, e224, hx224_0⟩ := Kd.at_int HR0.out x5_2 p224 q224; cases e224; replace hx224_0 := (HB.out.cell (World.block_lt_of_cell? w _ hx224_0)).trans hx224_0; replace p224 := eq_true p224; replace q224 := eq_true q224)))
                          go_roundg k2
                          case measure => have := HJ4.out; have := HK2.out; omega
                          case rel => exact ⟨(wrap64 (x5_2 + 1)), (by first | rfl | (simp; done) | (simp [*]; done)), H', ⟨by have := HJ4.out; have := HK2.out; omega⟩, ⟨by (with_reducible repeat (first | apply Kd.R_alloc | apply Kd.R_drewN | apply Kd.R_drew)); exact HO_3.out⟩, ⟨by repeat (first | (with_reducible first | exact HB.out | apply below_alloc | apply pw_below_drewN | apply below_drew1) | exact HB.out)⟩⟩
                        · rw [if_neg c16] at H
                          have c16b0 : ((rd t218 t222) == (rd l0 x5_2)) = false := beq_eq_false_iff_ne.mpr c16
                          have c16b1 : ((rd t218 t222) != (rd l0 x5_2)) = true := bne_iff_ne.mpr c16
                          exact absurd ((Option.some.inj H).trans HT.out) (by decide)
                      · rw [if_neg c15] at H
                        exact absurd H (by simp)
                    · rw [if_neg c14] at H
                      exact absurd H (by simp)
                  · rw [if_neg c13] at H
                    exact absurd H (by simp)
                · rw [if_neg c12] at H
                  exact absurd H (by simp)
              · rw [if_neg c10] at H
                have c10b0 : decide (x5_2 < 6) = false := decide_eq_false c10
                clear c10
                have H' := Aside0.mk H
                clear H
                go_wp2
                repeat (go_quiet (fail); try go_wp2)
                go_loopg [6] k2 (fun kq v6 w' => ∃ (x6_3 : Int), v6 = .int .i64 x6_3 ∧ Aside0 (psalterylaw14_FloorThrough.l1 kq l0 t218 x6_3 = some r) ∧ Aside0 (kq ≤ k2) ∧ Aside0 (Kd.R (Kd.int .i64) 3 w' w.heap.size (fun _ => True) v220 t218) ∧ Aside0 (Below w.heap.size w w'))
                case atStart => exact ⟨(0), (by first | rfl | (simp; done) | (simp [*]; done)), H', ⟨Nat.le_refl _⟩, ⟨by (with_reducible repeat (first | apply Kd.R_alloc | apply Kd.R_drewN | apply Kd.R_drew)); exact HO_3.out⟩, ⟨by repeat (first | (with_reducible first | exact HB.out | apply below_alloc | apply pw_below_drewN | apply below_drew1) | exact HB.out)⟩⟩
                case round =>
                  clear H'
                  try clear c1
                  try clear p2
                  try clear q2
                  try clear hx2
                  try clear c3
                  try clear c6
                  try clear p6
                  try clear c7
                  try clear c7b0
                  try clear c7b1
                  try clear c9
                  try clear c10
                  try clear c10b0
                  try clear c12
                  try clear c12b0
                  try clear c13
                  try clear c13b0
                  try clear c14
                  try clear c14b0
                  try clear c15
                  try clear c15b0
                  try clear c16
                  try clear c16b0
                  try clear c16b1
                  try clear hx223_0
                  try clear hx224_0
                  try clear p2
                  try clear p223
                  try clear p224
                  try clear q223
                  try clear q224
                  obtain ⟨x6_3, rfl, HA, HK3, HO_3, HB⟩ := hrel
                  cases gk with
                  | zero => exact absurd HA.out (by simp [psalterylaw14_FloorThrough.l1])
                  | succ k3 =>
                    have H := HA.out
                    clear HA
                    simp only [psalterylaw14_FloorThrough.l1] at H
                    by_cases c18 : x6_3 < 5
                    · rw [if_pos c18] at H
                      have c18b0 : decide (x6_3 < 5) = true := decide_eq_true c18
                      clear c18
                      by_cases c19 : 0 ≤ x6_3
                      · rw [if_pos c19] at H
                        have c19b0 : decide (0 ≤ x6_3) = true := decide_eq_true c19
                        clear c19
                        by_cases c20 : x6_3 < (l0.length : Int)
                        · rw [if_pos c20] at H
                          have c20b0 : decide (x6_3 < (l0.length : Int)) = true := decide_eq_true c20
                          clear c20
                          obtain ⟨ji21, hji21⟩ : ∃ j_ : Int, (wrap64 (x6_3 + 1)) = j_ := ⟨_, rfl⟩
                          replace H : (if 0 ≤ (ji21) then (if (ji21) < (l0.length : Int) then (if (rd l0 x6_3) > (rd l0 (ji21)) then (psalterylaw14_FloorThrough.j3 k3 l0 t218 x6_3 (rd l0 (ji21)) (rd l0 x6_3)) else (psalterylaw14_FloorThrough.j3 k3 l0 t218 x6_3 (rd l0 x6_3) (rd l0 (ji21)))) else (none)) else (none)) = some r := by first | (rw [hji21] at H; exact H) | (simp only [hji21] at H ⊢; exact H)
                          have hji21w : (IntKind.i64.wrap (x6_3 + 1)) = ji21 := (i64_w _).trans hji21
                          by_cases c22 : 0 ≤ (ji21)
                          · rw [if_pos c22] at H
                            have c22b0 : decide (0 ≤ (ji21)) = true := decide_eq_true c22
                            clear c22
                            by_cases c23 : (ji21) < (l0.length : Int)
                            · rw [if_pos c23] at H
                              have c23b0 : decide ((ji21) < (l0.length : Int)) = true := decide_eq_true c23
                              clear c23
                              have HC24 := Aside0.mk H
                              clear H
                              have p226 : 0 ≤ (x6_3 : Int) := of_decide_eq_true (by first | (with_reducible assumption) | assumption)
                              have q226 : x6_3 < (l0.length : Int) := of_decide_eq_true (by first | (with_reducible assumption) | assumption)
                              obtain ⟨ad226, e226, hx226_0⟩ := Kd.at_int HR0.out x6_3 p226 q226
                              cases e226
                              replace hx226_0 := (HB.out.cell (World.block_lt_of_cell? w _ hx226_0)).trans hx226_0
                              replace p226 := eq_true p226
                              replace q226 := eq_true q226
                              have p227 : 0 ≤ ((ji21) : Int) := of_decide_eq_true (by first | (with_reducible assumption) | assumption)
                              have q227 : (ji21) < (l0.length : Int) := of_decide_eq_true (by first | (with_reducible assumption) | assumption)
                              obtain ⟨ad227, e227, hx227_0⟩ := Kd.at_int HR0.out (ji21) p227 q227
                              obtain rfl : ad226 = ad227 := (by injection e227)
                              replace hx227_0 := (HB.out.cell (World.block_lt_of_cell? w _ hx227_0)).trans hx227_0
                              replace p227 := eq_true p227
                              replace q227 := eq_true q227
                              go_upto_if 55 with (fail)
                              repeat (go_quiet (fail); go_upto_if 55 with (fail))
                              go_cut [7, 8] (fun v7 v8 wc => ∃ (kq : Nat) (x7_23 : Int) (x8_23 : Int), v7 = .int .i64 x7_23 ∧ v8 = .int .i64 x8_23 ∧ Aside0 (psalterylaw14_FloorThrough.j3 kq l0 t218 x6_3 x7_23 x8_23 = some r) ∧ Aside0 (kq ≤ k3) ∧ Aside0 (Kd.R (Kd.int .i64) 3 wc w.heap.size (fun _ => True) v220 t218) ∧ Aside0 (Below w.heap.size w wc))
                              case first =>
                                have H := HC24.out
                                clear HC24
                                by_cases c25 : (rd l0 x6_3) > (rd l0 (ji21))
                                · rw [if_pos c25] at H
                                  have c25b0 : decide ((rd l0 (ji21)) < (rd l0 x6_3)) = true := decide_eq_true c25
                                  clear c25
                                  (first | rw [c25b0] | (simp only [i64_w, i32_w]; rw [c25b0]) | skip)
                                  have H' := Aside0.mk H
                                  clear H
                                  go_wp2
                                  repeat (go_quiet (fail); try go_wp2)
                                  go_meet
                                  case rel => exact ⟨_, (rd l0 (ji21)), (rd l0 x6_3), (by first | rfl | (simp; done) | (simp only [← hji21] <;> (first | rfl | simp)) | (simp [*]; done)), (by first | rfl | (simp; done) | (simp [*]; done)), H', ⟨by have := HJ4.out; have := HK2.out; have := HK3.out; first | omega | exact Nat.le_refl _⟩, ⟨by (with_reducible repeat (first | apply Kd.R_alloc | apply Kd.R_drewN | apply Kd.R_drew)); exact HO_3.out⟩, ⟨by repeat (first | (with_reducible first | exact HB.out | apply below_alloc | apply pw_below_drewN | apply below_drew1) | exact HB.out)⟩⟩
                                · rw [if_neg c25] at H
                                  have c25b0 : decide ((rd l0 (ji21)) < (rd l0 x6_3)) = false := decide_eq_false c25
                                  clear c25
                                  (first | rw [c25b0] | (simp only [i64_w, i32_w]; rw [c25b0]) | skip)
                                  have H' := Aside0.mk H
                                  clear H
                                  go_wp2
                                  repeat (go_quiet (fail); try go_wp2)
                                  go_meet
                                  case rel => exact ⟨_, (rd l0 x6_3), (rd l0 (ji21)), (by first | rfl | (simp; done) | (simp [*]; done)), (by first | rfl | (simp; done) | (simp only [← hji21] <;> (first | rfl | simp)) | (simp [*]; done)), H', ⟨by have := HJ4.out; have := HK2.out; have := HK3.out; first | omega | exact Nat.le_refl _⟩, ⟨by (with_reducible repeat (first | apply Kd.R_alloc | apply Kd.R_drewN | apply Kd.R_drew)); exact HO_3.out⟩, ⟨by repeat (first | (with_reducible first | exact HB.out | apply below_alloc | apply pw_below_drewN | apply below_drew1) | exact HB.out)⟩⟩
                              case rest =>
                                clear HC24
                                try clear c1
                                try clear c2
                                try clear p2
                                try clear q2
                                try clear hx2
                                try clear c3
                                try clear c6
                                try clear p6
                                try clear c7
                                try clear c7b0
                                try clear c7b1
                                try clear c9
                                try clear c10
                                try clear c10b0
                                try clear c12
                                try clear c12b0
                                try clear c13
                                try clear c13b0
                                try clear c14
                                try clear c14b0
                                try clear c15
                                try clear c15b0
                                try clear c16
                                try clear c16b0
                                try clear c16b1
                                try clear c18
                                try clear c18b0
                                try clear c19
                                try clear c19b0
                                try clear c20
                                try clear c20b0
                                try clear c22
                                try clear c22b0
                                try clear p22
                                try clear q22
                                try clear hx22
                                try clear c23
                                try clear c23b0
                                try clear c25
                                try clear c25b0
                                try clear hx223_0
                                try clear hx224_0
                                try clear hx226_0
                                try clear hx227_0
                                try clear p2
                                try clear p223
                                try clear p224
                                try clear p226
                                try clear p227
                                try clear p6
                                try clear q2
                                try clear q223
                                try clear q224
                                try clear q226
                                try clear q227
                                obtain ⟨kq, x7_23, x8_23, rfl, rfl, HA, HJ23, HO_3, HB⟩ := hcut
                                cases kq with
                                | zero => exact absurd HA.out (by simp [psalterylaw14_FloorThrough.j3])
                                | succ kj23 =>
                                  have H := HA.out
                                  clear HA
                                  simp only [psalterylaw14_FloorThrough.j3] at H
                                  replace H := Option.bind_eq_some_iff.mp H
                                  obtain ⟨t228, A260, H⟩ := H
                                  replace H : (psalterylaw14_FloorThrough.l2 kj23 l0 t218 x6_3 x7_23 x8_23 t228) = some r := H
                                  have A26 := Aside0.mk A260
                                  clear A260
                                  have H' := Aside0.mk H
                                  clear H
                                  (try subst hji21)
                                  go_wp2_with (first | (go_at_call 17; (with_reducible refine (psalteryref14_At.calls kj23 x6_3 t228 _ A26.out).mono ?_); rintro e w' ⟨rfl, ⟨nd, rfl⟩⟩; (try first | exact ⟨rfl, _, World.drewN_drewN _ _ _⟩ | exact ⟨rfl, _, Eq.trans (World.drewN_drewN _ _ _) (congrArg (World.drewN _) (Nat.add_assoc _ _ _))⟩)))
                                  (try subst hji21)
                                  repeat (go_quiet (first | (go_at_call 17; (with_reducible refine (psalteryref14_At.calls kj23 x6_3 t228 _ A26.out).mono ?_); rintro e w' ⟨rfl, ⟨nd, rfl⟩⟩; (try first | exact ⟨rfl, _, World.drewN_drewN _ _ _⟩ | exact ⟨rfl, _, Eq.trans (World.drewN_drewN _ _ _) (congrArg (World.drewN _) (Nat.add_assoc _ _ _))⟩))); try go_wp2_with (first | (go_at_call 17; (with_reducible refine (psalteryref14_At.calls kj23 x6_3 t228 _ A26.out).mono ?_); rintro e w' ⟨rfl, ⟨nd, rfl⟩⟩; (try first | exact ⟨rfl, _, World.drewN_drewN _ _ _⟩ | exact ⟨rfl, _, Eq.trans (World.drewN_drewN _ _ _) (congrArg (World.drewN _) (Nat.add_assoc _ _ _))⟩))))
                                  go_loopg [9] kj23 (fun kq v9 w' => ∃ (x9_5 : Int), v9 = .int .i64 x9_5 ∧ Aside0 (psalterylaw14_FloorThrough.l2 kq l0 t218 x6_3 x7_23 x8_23 x9_5 = some r) ∧ Aside0 (kq ≤ kj23) ∧ Aside0 (Kd.R (Kd.int .i64) 3 w' w.heap.size (fun _ => True) v220 t218) ∧ Aside0 (Below w.heap.size w w'))
                                  case atStart => exact ⟨(t228), (by first | rfl | (simp; done) | (simp [*]; done)), H', ⟨Nat.le_refl _⟩, ⟨by (with_reducible repeat (first | apply Kd.R_alloc | apply Kd.R_drewN | apply Kd.R_drew)); exact HO_3.out⟩, ⟨by repeat (first | (with_reducible first | exact HB.out | apply below_alloc | apply pw_below_drewN | apply below_drew1) | exact HB.out)⟩⟩
                                  case round =>
                                    clear H'
                                    try clear c1
                                    try clear c2
                                    try clear p2
                                    try clear q2
                                    try clear hx2
                                    try clear c3
                                    try clear c6
                                    try clear p6
                                    try clear c7
                                    try clear c7b0
                                    try clear c7b1
                                    try clear c9
                                    try clear c10
                                    try clear c10b0
                                    try clear c12
                                    try clear c12b0
                                    try clear c13
                                    try clear c13b0
                                    try clear c14
                                    try clear c14b0
                                    try clear c15
                                    try clear c15b0
                                    try clear c16
                                    try clear c16b0
                                    try clear c16b1
                                    try clear c18
                                    try clear c18b0
                                    try clear c19
                                    try clear c19b0
                                    try clear c20
                                    try clear c20b0
                                    try clear c22
                                    try clear c22b0
                                    try clear p22
                                    try clear q22
                                    try clear hx22
                                    try clear c23
                                    try clear c23b0
                                    try clear c25
                                    try clear c25b0
                                    try clear hx223_0
                                    try clear hx224_0
                                    try clear hx226_0
                                    try clear hx227_0
                                    try clear p2
                                    try clear p22
                                    try clear p223
                                    try clear p224
                                    try clear p226
                                    try clear p227
                                    try clear p6
                                    try clear q2
                                    try clear q22
                                    try clear q223
                                    try clear q224
                                    try clear q226
                                    try clear q227
                                    obtain ⟨x9_5, rfl, HA, HK5, HO_3, HB⟩ := hrel
                                    cases gk with
                                    | zero => exact absurd HA.out (by simp [psalterylaw14_FloorThrough.l2])
                                    | succ k5 =>
                                      have H := HA.out
                                      clear HA
                                      simp only [psalterylaw14_FloorThrough.l2] at H
                                      replace H := Option.bind_eq_some_iff.mp H
                                      obtain ⟨t229, A270, H⟩ := H
                                      replace H : (if x9_5 ≤ t229 then (if 0 ≤ x9_5 then (if x9_5 < (t218.length : Int) then (if (rd t218 x9_5) < x7_23 then (some false) else (if (rd t218 x9_5) > x8_23 then (some false) else (psalterylaw14_FloorThrough.l2 k5 l0 t218 x6_3 x7_23 x8_23 (wrap64 (x9_5 + 1))))) else (none)) else (none)) else (psalterylaw14_FloorThrough.l1 k5 l0 t218 (wrap64 (x6_3 + 1)))) = some r := H
                                      have A27 := Aside0.mk A270
                                      clear A270
                                      by_cases c28 : x9_5 ≤ t229
                                      · rw [if_pos c28] at H
                                        have c28b0 : decide (x9_5 ≤ t229) = true := decide_eq_true c28
                                        clear c28
                                        by_cases c29 : 0 ≤ x9_5
                                        · rw [if_pos c29] at H
                                          have c29b0 : decide (0 ≤ x9_5) = true := decide_eq_true c29
                                          clear c29
                                          by_cases c30 : x9_5 < (t218.length : Int)
                                          · rw [if_pos c30] at H
                                            have c30b0 : decide (x9_5 < (t218.length : Int)) = true := decide_eq_true c30
                                            clear c30
                                            by_cases c31 : (rd t218 x9_5) < x7_23
                                            · rw [if_pos c31] at H
                                              have c31b0 : decide ((rd t218 x9_5) < x7_23) = true := decide_eq_true c31
                                              clear c31
                                              exact absurd ((Option.some.inj H).trans HT.out) (by decide)
                                            · rw [if_neg c31] at H
                                              have c31b0 : decide ((rd t218 x9_5) < x7_23) = false := decide_eq_false c31
                                              clear c31
                                              by_cases c32 : (rd t218 x9_5) > x8_23
                                              · rw [if_pos c32] at H
                                                have c32b0 : decide (x8_23 < (rd t218 x9_5)) = true := decide_eq_true c32
                                                clear c32
                                                exact absurd ((Option.some.inj H).trans HT.out) (by decide)
                                              · rw [if_neg c32] at H
                                                have c32b0 : decide (x8_23 < (rd t218 x9_5)) = false := decide_eq_false c32
                                                clear c32
                                                have H' := Aside0.mk H
                                                clear H
                                                (try subst hji21)
                                                go_wp2_with (first | (go_at_call 17; (with_reducible refine (psalteryref14_At.calls k5 (wrap64 (x6_3 + 1)) t229 _ A27.out).mono ?_); rintro e w' ⟨rfl, ⟨nd, rfl⟩⟩; (try first | exact ⟨rfl, _, World.drewN_drewN _ _ _⟩ | exact ⟨rfl, _, Eq.trans (World.drewN_drewN _ _ _) (congrArg (World.drewN _) (Nat.add_assoc _ _ _))⟩); obtain ⟨Ao33, co33, eo33⟩ := Kd.R_slice HO_3.out; subst eo33; have p230 : 0 ≤ (x9_5 : Int) := of_decide_eq_true (by first | (with_reducible assumption) | assumption); have q230 : x9_5 < (t218.length : Int) := of_decide_eq_true (by first | (with_reducible assumption) | assumption); obtain ⟨ad230, e230, hx230_0⟩ := Kd.at_int (Kd.R_reads' HO_3.out).2.2 x9_5 p230 q230; cases e230; replace p230 := eq_true p230; replace q230 := eq_true q230; have p231 : 0 ≤ (x9_5 : Int) := of_decide_eq_true (by first | (with_reducible assumption) | assumption); have q231 : x9_5 < (t218.length : Int) := of_decide_eq_true (by first | (with_reducible assumption) | assumption); obtain ⟨ad231, e231, hx231_0⟩ := Kd.at_int (Kd.R_reads' HO_3.out).2.2 x9_5 p231 q231; obtain rfl : ad230 = ad231 := (by injection e231); replace p231 := eq_true p231; replace q231 := eq_true q231))
                                                (try subst hji21)
                                                repeat (go_quiet (first | (go_at_call 17; (with_reducible refine (psalteryref14_At.calls k5 (wrap64 (x6_3 + 1)) t229 _ A27.out).mono ?_); rintro e w' ⟨rfl, ⟨nd, rfl⟩⟩; (try first | exact ⟨rfl, _, World.drewN_drewN _ _ _⟩ | exact ⟨rfl, _, Eq.trans (World.drewN_drewN _ _ _) (congrArg (World.drewN _) (Nat.add_assoc _ _ _))⟩); obtain ⟨Ao33, co33, eo33⟩ := Kd.R_slice HO_3.out; subst eo33; have p230 : 0 ≤ (x9_5 : Int) := of_decide_eq_true (by first | (with_reducible assumption) | assumption); have q230 : x9_5 < (t218.length : Int) := of_decide_eq_true (by first | (with_reducible assumption) | assumption); obtain ⟨ad230, e230, hx230_0⟩ := Kd.at_int (Kd.R_reads' HO_3.out).2.2 x9_5 p230 q230; cases e230; replace p230 := eq_true p230; replace q230 := eq_true q230; have p231 : 0 ≤ (x9_5 : Int) := of_decide_eq_true (by first | (with_reducible assumption) | assumption); have q231 : x9_5 < (t218.length : Int) := of_decide_eq_true (by first | (with_reducible assumption) | assumption); obtain ⟨ad231, e231, hx231_0⟩ := Kd.at_int (Kd.R_reads' HO_3.out).2.2 x9_5 p231 q231; obtain rfl : ad230 = ad231 := (by injection e231); replace p231 := eq_true p231; replace q231 := eq_true q231)); try go_wp2_with (first | (go_at_call 17; (with_reducible refine (psalteryref14_At.calls k5 (wrap64 (x6_3 + 1)) t229 _ A27.out).mono ?_); rintro e w' ⟨rfl, ⟨nd, rfl⟩⟩; (try first | exact ⟨rfl, _, World.drewN_drewN _ _ _⟩ | exact ⟨rfl, _, Eq.trans (World.drewN_drewN _ _ _) (congrArg (World.drewN _) (Nat.add_assoc _ _ _))⟩); obtain ⟨Ao33, co33, eo33⟩ := Kd.R_slice HO_3.out; subst eo33; have p230 : 0 ≤ (x9_5 : Int) := of_decide_eq_true (by first | (with_reducible assumption) | assumption); have q230 : x9_5 < (t218.length : Int) := of_decide_eq_true (by first | (with_reducible assumption) | assumption); obtain ⟨ad230, e230, hx230_0⟩ := Kd.at_int (Kd.R_reads' HO_3.out).2.2 x9_5 p230 q230; cases e230; replace p230 := eq_true p230; replace q230 := eq_true q230; have p231 : 0 ≤ (x9_5 : Int) := of_decide_eq_true (by first | (with_reducible assumption) | assumption); have q231 : x9_5 < (t218.length : Int) := of_decide_eq_true (by first | (with_reducible assumption) | assumption); obtain ⟨ad231, e231, hx231_0⟩ := Kd.at_int (Kd.R_reads' HO_3.out).2.2 x9_5 p231 q231; obtain rfl : ad230 = ad231 := (by injection e231); replace p231 := eq_true p231; replace q231 := eq_true q231)))
                                                first | go_roundg k5 | (subst hji21; go_roundg k5)
                                                case measure => have := HJ4.out; have := HK2.out; have := HK3.out; have := HJ23.out; have := HK5.out; omega
                                                case rel => exact ⟨(wrap64 (x9_5 + 1)), (by first | rfl | (simp; done) | (simp [*]; done)), H', ⟨by have := HJ4.out; have := HK2.out; have := HK3.out; have := HJ23.out; have := HK5.out; omega⟩, ⟨by (with_reducible repeat (first | apply Kd.R_alloc | apply Kd.R_drewN | apply Kd.R_drew)); exact HO_3.out⟩, ⟨by repeat (first | (with_reducible first | exact HB.out | apply below_alloc | apply pw_below_drewN | apply below_drew1) | exact HB.out)⟩⟩
                                          · rw [if_neg c30] at H
                                            exact absurd H (by simp)
                                        · rw [if_neg c29] at H
                                          exact absurd H (by simp)
                                      · rw [if_neg c28] at H
                                        have c28b0 : decide (x9_5 ≤ t229) = false := decide_eq_false c28
                                        clear c28
                                        have H' := Aside0.mk H
                                        clear H
                                        (try subst hji21)
                                        go_wp2_with (first | (go_at_call 17; (with_reducible refine (psalteryref14_At.calls k5 (wrap64 (x6_3 + 1)) t229 _ A27.out).mono ?_); rintro e w' ⟨rfl, ⟨nd, rfl⟩⟩; (try first | exact ⟨rfl, _, World.drewN_drewN _ _ _⟩ | exact ⟨rfl, _, Eq.trans (World.drewN_drewN _ _ _) (congrArg (World.drewN _) (Nat.add_assoc _ _ _))⟩)))
                                        (try subst hji21)
                                        repeat (go_quiet (first | (go_at_call 17; (with_reducible refine (psalteryref14_At.calls k5 (wrap64 (x6_3 + 1)) t229 _ A27.out).mono ?_); rintro e w' ⟨rfl, ⟨nd, rfl⟩⟩; (try first | exact ⟨rfl, _, World.drewN_drewN _ _ _⟩ | exact ⟨rfl, _, Eq.trans (World.drewN_drewN _ _ _) (congrArg (World.drewN _) (Nat.add_assoc _ _ _))⟩))); try go_wp2_with (first | (go_at_call 17; (with_reducible refine (psalteryref14_At.calls k5 (wrap64 (x6_3 + 1)) t229 _ A27.out).mono ?_); rintro e w' ⟨rfl, ⟨nd, rfl⟩⟩; (try first | exact ⟨rfl, _, World.drewN_drewN _ _ _⟩ | exact ⟨rfl, _, Eq.trans (World.drewN_drewN _ _ _) (congrArg (World.drewN _) (Nat.add_assoc _ _ _))⟩))))
                                        first | go_roundg k5 | (subst hji21; go_roundg k5)
                                        case measure => have := HJ4.out; have := HK2.out; have := HK3.out; have := HJ23.out; have := HK5.out; omega
                                        case rel => exact ⟨(wrap64 (x6_3 + 1)), (by first | rfl | (simp; done) | (simp [*]; done)), H', ⟨by have := HJ4.out; have := HK2.out; have := HK3.out; have := HJ23.out; have := HK5.out; omega⟩, ⟨by (with_reducible repeat (first | apply Kd.R_alloc | apply Kd.R_drewN | apply Kd.R_drew)); exact HO_3.out⟩, ⟨by repeat (first | (with_reducible first | exact HB.out | apply below_alloc | apply pw_below_drewN | apply below_drew1) | exact HB.out)⟩⟩
                            · rw [if_neg c23] at H
                              exact absurd H (by simp)
                          · rw [if_neg c22] at H
                            exact absurd H (by simp)
                        · rw [if_neg c20] at H
                          exact absurd H (by simp)
                      · rw [if_neg c19] at H
                        exact absurd H (by simp)
                    · rw [if_neg c18] at H
                      have c18b0 : decide (x6_3 < 5) = false := decide_eq_false c18
                      clear c18
                      replace H := Option.bind_eq_some_iff.mp H
                      obtain ⟨t225, A340, H⟩ := H
                      replace H : (some t225) = some r := H
                      have A34 := Aside0.mk A340
                      clear A340
                      obtain rfl := Option.some.inj H
                      go_wp2_with (first | (go_at_call 15; (with_reducible refine (psalterylaw14_knows.calls k3  t225 _ A34.out).mono ?_); rintro e w35 ⟨rfl, hb⟩; have n0_ := Aside0.mk (Kd.R_below (by (with_reducible repeat (first | apply Kd.R_alloc | apply Kd.R_drewN | apply Kd.R_drew)); exact HO_3.out) hb); have n1_ := Aside0.mk (below_step (by repeat (first | (with_reducible first | exact HB.out | apply below_alloc | apply pw_below_drewN | apply below_drew1) | exact HB.out)) hb); clear HO_3; clear HB; have HO_3 := n0_; have HB := n1_; clear n0_ n1_; (try clear hb); (try clear hb2); (try clear hk); (try clear hi)))
                      repeat (go_quiet (first | (go_at_call 15; (with_reducible refine (psalterylaw14_knows.calls k3  t225 _ A34.out).mono ?_); rintro e w35 ⟨rfl, hb⟩; have n0_ := Aside0.mk (Kd.R_below (by (with_reducible repeat (first | apply Kd.R_alloc | apply Kd.R_drewN | apply Kd.R_drew)); exact HO_3.out) hb); have n1_ := Aside0.mk (below_step (by repeat (first | (with_reducible first | exact HB.out | apply below_alloc | apply pw_below_drewN | apply below_drew1) | exact HB.out)) hb); clear HO_3; clear HB; have HO_3 := n0_; have HB := n1_; clear n0_ n1_; (try clear hb); (try clear hb2); (try clear hk); (try clear hi))); try go_wp2_with (first | (go_at_call 15; (with_reducible refine (psalterylaw14_knows.calls k3  t225 _ A34.out).mono ?_); rintro e w35 ⟨rfl, hb⟩; have n0_ := Aside0.mk (Kd.R_below (by (with_reducible repeat (first | apply Kd.R_alloc | apply Kd.R_drewN | apply Kd.R_drew)); exact HO_3.out) hb); have n1_ := Aside0.mk (below_step (by repeat (first | (with_reducible first | exact HB.out | apply below_alloc | apply pw_below_drewN | apply below_drew1) | exact HB.out)) hb); clear HO_3; clear HB; have HO_3 := n0_; have HB := n1_; clear n0_ n1_; (try clear hb); (try clear hb2); (try clear hk); (try clear hi))))
                      go_ret
                      exact ⟨by first | rfl | (simp [errW_none, errW_some] <;> rfl) | (simp [*, errW_none, errW_some] <;> rfl), by repeat (first | (with_reducible first | exact HB.out | apply below_alloc | apply pw_below_drewN | apply below_drew1) | exact HB.out)⟩
  · replace c3 := Bool.eq_false_iff.mpr c3
    subst c3
    have H1 : ((psalterylaw14_knows.f k).bind fun t217 => (some t217)) = some r := by rw [if_neg (show ¬ (false = true) by decide)] at H; exact H
    clear H
    have H := H1
    clear H1
    replace H := Option.bind_eq_some_iff.mp H
    obtain ⟨t217, A360, H⟩ := H
    replace H : (some t217) = some r := H
    have A36 := Aside0.mk A360
    clear A360
    obtain rfl := Option.some.inj H
    go_enter Try.func6, Try.ntmps6
    go_wp2_with (first | (go_at_call 19; (with_reducible refine (psalteryref14_Right.calls k _ _ l0 false _ ?side1 ?side2 A2.out).mono ?_); (case side1 => repeat (first | exact HR0.out | (with_reducible refine Kd.C_alloc ?_ _) | (with_reducible refine Kd.C_drewN ?_ _) | (with_reducible refine Kd.C_drew ?_))); (case side2 => exact HC0.out); rintro e w' ⟨rfl, ⟨nd, rfl⟩⟩; (try first | exact ⟨rfl, _, World.drewN_drewN _ _ _⟩ | exact ⟨rfl, _, Eq.trans (World.drewN_drewN _ _ _) (congrArg (World.drewN _) (Nat.add_assoc _ _ _))⟩)) | (go_at_call 15; (with_reducible refine (psalterylaw14_knows.calls k  t217 _ A36.out).mono ?_); rintro e w37 ⟨rfl, hb⟩; have n0_ := Aside0.mk (below_step (by repeat (first | (with_reducible first | exact HB.out | apply below_alloc | apply pw_below_drewN | apply below_drew1) | exact HB.out)) hb); clear HB; have HB := n0_; clear n0_; (try clear hb); (try clear hb2); (try clear hk); (try clear hi)))
    repeat (go_quiet (first | (go_at_call 19; (with_reducible refine (psalteryref14_Right.calls k _ _ l0 false _ ?side1 ?side2 A2.out).mono ?_); (case side1 => repeat (first | exact HR0.out | (with_reducible refine Kd.C_alloc ?_ _) | (with_reducible refine Kd.C_drewN ?_ _) | (with_reducible refine Kd.C_drew ?_))); (case side2 => exact HC0.out); rintro e w' ⟨rfl, ⟨nd, rfl⟩⟩; (try first | exact ⟨rfl, _, World.drewN_drewN _ _ _⟩ | exact ⟨rfl, _, Eq.trans (World.drewN_drewN _ _ _) (congrArg (World.drewN _) (Nat.add_assoc _ _ _))⟩)) | (go_at_call 15; (with_reducible refine (psalterylaw14_knows.calls k  t217 _ A36.out).mono ?_); rintro e w37 ⟨rfl, hb⟩; have n0_ := Aside0.mk (below_step (by repeat (first | (with_reducible first | exact HB.out | apply below_alloc | apply pw_below_drewN | apply below_drew1) | exact HB.out)) hb); clear HB; have HB := n0_; clear n0_; (try clear hb); (try clear hb2); (try clear hk); (try clear hi))); try go_wp2_with (first | (go_at_call 19; (with_reducible refine (psalteryref14_Right.calls k _ _ l0 false _ ?side1 ?side2 A2.out).mono ?_); (case side1 => repeat (first | exact HR0.out | (with_reducible refine Kd.C_alloc ?_ _) | (with_reducible refine Kd.C_drewN ?_ _) | (with_reducible refine Kd.C_drew ?_))); (case side2 => exact HC0.out); rintro e w' ⟨rfl, ⟨nd, rfl⟩⟩; (try first | exact ⟨rfl, _, World.drewN_drewN _ _ _⟩ | exact ⟨rfl, _, Eq.trans (World.drewN_drewN _ _ _) (congrArg (World.drewN _) (Nat.add_assoc _ _ _))⟩)) | (go_at_call 15; (with_reducible refine (psalterylaw14_knows.calls k  t217 _ A36.out).mono ?_); rintro e w37 ⟨rfl, hb⟩; have n0_ := Aside0.mk (below_step (by repeat (first | (with_reducible first | exact HB.out | apply below_alloc | apply pw_below_drewN | apply below_drew1) | exact HB.out)) hb); clear HB; have HB := n0_; clear n0_; (try clear hb); (try clear hb2); (try clear hk); (try clear hi))))
    go_ret
    exact ⟨by first | rfl | (simp [errW_none, errW_some] <;> rfl) | (simp [*, errW_none, errW_some] <;> rfl), by repeat (first | (with_reducible first | exact HB.out | apply below_alloc | apply pw_below_drewN | apply below_drew1) | exact HB.out)⟩

/-- THE ONE PURE STATEMENT of psalterylaw14_FloorThrough: yours. -/
def psalterylaw14_FloorThrough.Pure : Prop := ∀ (l0 : List Int), l0.length ≤ maxLen → l0.length * 8 ≤ 140737488351232 → (∀ x ∈ l0, (Lit.int .i64 x).wf = true) → ∃ k, psalterylaw14_FloorThrough.f k l0 = some true
theorem psalterylaw14_FloorThrough.walk (P : psalterylaw14_FloorThrough.Pure) (a0 : Option Addr) (len0 cap0 : Nat) (z0 : List Int) (w : World) (w0 : (a0 = none ∧ len0 = 0 ∧ cap0 = 0 ∧ z0 = []) ∨ ∃ x, a0 = some x ∧ len0 ≤ cap0 ∧ cap0 ≤ maxLen ∧ z0.length = cap0 ∧ (∀ i, i < z0.length → w.cell? (x.add i) = some (.int .i64 (z0.getD i 0))) ∧ ∀ n ∈ z0, (Lit.int .i64 n).wf = true) (y0 : len0 * 8 ≤ 140737488351232) :
    Calls Try.prog 6 #[.slice a0 len0 cap0] w fun e w' => e = .returned (.bool true) ∧ Below w.heap.size w w' := by
  obtain ⟨l0, rfl, hr0, hm0, hw0, hc0⟩ := ReadsInt.ofRowC w0
  obtain ⟨k, h⟩ := P l0 hm0 y0 hw0
  refine (psalterylaw14_FloorThrough.calls k _ _ l0 true w (Kd.C_of_reads (d := (0 : Int)) (h1 := fun _ => rfl) hr0) hc0 h rfl).mono ?_
  rintro e w' ⟨rfl, hd⟩
  exact ⟨rfl, hd⟩

end Go.Proofs.Ytoghpjggcfnoeaa.P
