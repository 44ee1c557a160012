-- PRINTED by print.py (a twelfth state) out of the translation. Not trusted: Lean checks it.
import Derived.Test.YtfipeildlleoeaaPx0
import Derived.Test.YtfipeildlleoeaaPx1
import Derived.Test.YtfipeildlleoeaaPx8
import Derived.Test.YtfipeildlleoeaaPx11
import Derived.Test.YtfipeildlleoeaaPx13
namespace Go.Proofs.Ytfipeildlleoeaa.P
open Go.RowKit Go.Proofs.YtfipeildlleoeaaW.PrintWords Go.Proofs.YtfipeildlleoeaaW.PrintLast Go.Proofs.YtfipeildlleoeaaW.PrintMore
attribute [local go_sem] max2_int min2_int max_two min_two max_three min_three max_four min_four   -- for this text's walks alone
set_option linter.unusedVariables false
set_option linter.unusedSimpArgs false

/-! ### psalterylaw21_RemapNear: function 5 -/
mutual
def psalterylaw21_RemapNear.j0 : Nat → List Int → List Int → List Int → List Int → Bool → Option (Bool)
  | 0, _, _, _, _, _ => none
  | k + 1, x0, x1, x5, x7, x46 => if x46 = true then (some false) else (psalterylaw21_RemapNear.l0 k x0 x1 x5 x7 0)
def psalterylaw21_RemapNear.l0 : Nat → List Int → List Int → List Int → List Int → Int → Option (Bool)
  | 0, _, _, _, _, _ => none
  | k + 1, x0, x1, x5, x7, x9 => if x9 < 16 then (if 0 ≤ x9 then (if x9 < (x7.length : Int) then (if x9 < (x0.length : Int) then (if (wrap64 ((rd x7 x9) - (rd x0 x9))) < 0 then (psalterylaw21_RemapNear.j2 k x0 x1 x5 x7 x9 (wrap64 (-(wrap64 ((rd x7 x9) - (rd x0 x9)))))) else (psalterylaw21_RemapNear.j2 k x0 x1 x5 x7 x9 (wrap64 ((rd x7 x9) - (rd x0 x9))))) else (none)) else (none)) else (none)) else ((psalterylaw21_knows.f k).bind fun t211 => (some t211))
def psalterylaw21_RemapNear.j2 : Nat → List Int → List Int → List Int → List Int → Int → Int → Option (Bool)
  | 0, _, _, _, _, _, _ => none
  | k + 1, x0, x1, x5, x7, x9, x10 => if 0 ≤ x9 then (if x9 < (x1.length : Int) then (if (wrap64 (2 * x10)) > (rd x1 x9) then (psalterylaw21_RemapNear.j3 k x0 x1 x5 x7 x9 true) else (if x9 < (x7.length : Int) then (if (rd x7 x9) > 0 then (if x9 < (x0.length : Int) then (if (rd x0 x9) < 0 then (psalterylaw21_RemapNear.j3 k x0 x1 x5 x7 x9 true) else (if (rd x7 x9) < 0 then (if (rd x0 x9) > 0 then (psalterylaw21_RemapNear.j3 k x0 x1 x5 x7 x9 true) else (if x9 < (x5.length : Int) then (if (rd x5 x9) > 0 then (if (rd x0 x9) ≤ 0 then (psalterylaw21_RemapNear.j3 k x0 x1 x5 x7 x9 true) else (if (rd x5 x9) < 0 then (psalterylaw21_RemapNear.j3 k x0 x1 x5 x7 x9 (decide ((rd x0 x9) ≥ 0))) else (psalterylaw21_RemapNear.j3 k x0 x1 x5 x7 x9 false))) else (if (rd x5 x9) < 0 then (psalterylaw21_RemapNear.j3 k x0 x1 x5 x7 x9 (decide ((rd x0 x9) ≥ 0))) else (psalterylaw21_RemapNear.j3 k x0 x1 x5 x7 x9 false))) else (none))) else (if x9 < (x5.length : Int) then (if (rd x5 x9) > 0 then (if (rd x0 x9) ≤ 0 then (psalterylaw21_RemapNear.j3 k x0 x1 x5 x7 x9 true) else (if (rd x5 x9) < 0 then (psalterylaw21_RemapNear.j3 k x0 x1 x5 x7 x9 (decide ((rd x0 x9) ≥ 0))) else (psalterylaw21_RemapNear.j3 k x0 x1 x5 x7 x9 false))) else (if (rd x5 x9) < 0 then (psalterylaw21_RemapNear.j3 k x0 x1 x5 x7 x9 (decide ((rd x0 x9) ≥ 0))) else (psalterylaw21_RemapNear.j3 k x0 x1 x5 x7 x9 false))) else (none)))) else (none)) else (if (rd x7 x9) < 0 then (if x9 < (x0.length : Int) then (if (rd x0 x9) > 0 then (psalterylaw21_RemapNear.j3 k x0 x1 x5 x7 x9 true) else (if x9 < (x5.length : Int) then (if (rd x5 x9) > 0 then (if (rd x0 x9) ≤ 0 then (psalterylaw21_RemapNear.j3 k x0 x1 x5 x7 x9 true) else (if (rd x5 x9) < 0 then (psalterylaw21_RemapNear.j3 k x0 x1 x5 x7 x9 (decide ((rd x0 x9) ≥ 0))) else (psalterylaw21_RemapNear.j3 k x0 x1 x5 x7 x9 false))) else (if (rd x5 x9) < 0 then (psalterylaw21_RemapNear.j3 k x0 x1 x5 x7 x9 (decide ((rd x0 x9) ≥ 0))) else (psalterylaw21_RemapNear.j3 k x0 x1 x5 x7 x9 false))) else (none))) else (none)) else (if x9 < (x5.length : Int) then (if (rd x5 x9) > 0 then (if x9 < (x0.length : Int) then (if (rd x0 x9) ≤ 0 then (psalterylaw21_RemapNear.j3 k x0 x1 x5 x7 x9 true) else (if (rd x5 x9) < 0 then (psalterylaw21_RemapNear.j3 k x0 x1 x5 x7 x9 (decide ((rd x0 x9) ≥ 0))) else (psalterylaw21_RemapNear.j3 k x0 x1 x5 x7 x9 false))) else (none)) else (if (rd x5 x9) < 0 then (if x9 < (x0.length : Int) then (psalterylaw21_RemapNear.j3 k x0 x1 x5 x7 x9 (decide ((rd x0 x9) ≥ 0))) else (none)) else (psalterylaw21_RemapNear.j3 k x0 x1 x5 x7 x9 false))) else (none)))) else (none))) else (none)) else (none)
def psalterylaw21_RemapNear.j3 : Nat → List Int → List Int → List Int → List Int → Int → Bool → Option (Bool)
  | 0, _, _, _, _, _, _ => none
  | k + 1, x0, x1, x5, x7, x9, x126 => if x126 = true then (some false) else (psalterylaw21_RemapNear.l0 k x0 x1 x5 x7 (wrap64 (x9 + 1)))
end
def psalterylaw21_RemapNear.f (k : Nat) (l0 : List Int) (l1 : List Int) : Option (Bool) := (psalterylaw21_great.f l0 l1).bind fun t200 => (if t200 = true then ((psalterylaw21_knows.f k).bind fun t201 => (some t201)) else ((remap_Quantize.f k l0 l1).bind fun bt202 => (if bt202.2 = 0 then ((remap_Restore.f k bt202.1 l1).bind fun bt207 => (if bt207.2 = 0 then (if (bt207.1.length : Int) = 16 then (psalterylaw21_RemapNear.j0 k l0 l1 bt202.1 bt207.1 ((bt202.1.length : Int) != 16)) else (psalterylaw21_RemapNear.j0 k l0 l1 bt202.1 bt207.1 true)) else (psalterylaw21_RemapNear.j0 k l0 l1 bt202.1 bt207.1 true))) else (if (bt202.1.length : Int) = 0 then ((psalterylaw21_knows.f k).bind fun t206 => (some t206)) else (some false)))))
theorem psalterylaw21_RemapNear.mono_l : ∀ k, (∀ y0 y1 y2 y3 y4, LeO (psalterylaw21_RemapNear.j0 k y0 y1 y2 y3 y4) (psalterylaw21_RemapNear.j0 (k + 1) y0 y1 y2 y3 y4)) ∧ (∀ y0 y1 y2 y3 y4, LeO (psalterylaw21_RemapNear.l0 k y0 y1 y2 y3 y4) (psalterylaw21_RemapNear.l0 (k + 1) y0 y1 y2 y3 y4)) ∧ (∀ y0 y1 y2 y3 y4 y5, LeO (psalterylaw21_RemapNear.j2 k y0 y1 y2 y3 y4 y5) (psalterylaw21_RemapNear.j2 (k + 1) y0 y1 y2 y3 y4 y5)) ∧ (∀ y0 y1 y2 y3 y4 y5, LeO (psalterylaw21_RemapNear.j3 k y0 y1 y2 y3 y4 y5) (psalterylaw21_RemapNear.j3 (k + 1) y0 y1 y2 y3 y4 y5))
  | 0 => ⟨fun _ _ _ _ _ r h => by simp [psalterylaw21_RemapNear.j0] at h, fun _ _ _ _ _ r h => by simp [psalterylaw21_RemapNear.l0] at h, fun _ _ _ _ _ _ r h => by simp [psalterylaw21_RemapNear.j2] at h, fun _ _ _ _ _ _ r h => by simp [psalterylaw21_RemapNear.j3] at h⟩
  | k + 1 => by
    obtain ⟨ih0, ih1, ih2, ih3⟩ := psalterylaw21_RemapNear.mono_l k
    refine ⟨?_, ?_, ?_, ?_⟩
    · intro y0 y1 y2 y3 y4
      unfold psalterylaw21_RemapNear.j0
      repeat' first
      | (with_reducible exact ih0 _ _ _ _ _)
      | (with_reducible exact ih1 _ _ _ _ _)
      | (with_reducible exact ih2 _ _ _ _ _ _)
      | (with_reducible exact ih3 _ _ _ _ _ _)
      | (with_reducible exact psalterylaw21_knows.mono _)
      | (with_reducible exact remap_Quantize.mono _ _ _)
      | (with_reducible exact remap_Restore.mono _ _ _)
      | (with_reducible exact LeO.refl _)
      | (with_reducible exact LeO.none _)
      | (with_reducible refine LeO.ite ?_ ?_)
      | (with_reducible refine LeO.bind ?_ (fun _ => ?_))
      | exact ih0 _ _ _ _ _
      | exact ih1 _ _ _ _ _
      | exact ih2 _ _ _ _ _ _
      | exact ih3 _ _ _ _ _ _
      | exact psalterylaw21_knows.mono _
      | exact remap_Quantize.mono _ _ _
      | exact remap_Restore.mono _ _ _
      | exact LeO.none _
      | refine LeO.ite ?_ ?_
      | refine LeO.bind ?_ (fun _ => ?_)
    · intro y0 y1 y2 y3 y4
      unfold psalterylaw21_RemapNear.l0
      repeat' first
      | (with_reducible exact ih0 _ _ _ _ _)
      | (with_reducible exact ih1 _ _ _ _ _)
      | (with_reducible exact ih2 _ _ _ _ _ _)
      | (with_reducible exact ih3 _ _ _ _ _ _)
      | (with_reducible exact psalterylaw21_knows.mono _)
      | (with_reducible exact remap_Quantize.mono _ _ _)
      | (with_reducible exact remap_Restore.mono _ _ _)
      | (with_reducible exact LeO.refl _)
      | (with_reducible exact LeO.none _)
      | (with_reducible refine LeO.ite ?_ ?_)
      | (with_reducible refine LeO.bind ?_ (fun _ => ?_))
      | exact ih0 _ _ _ _ _
      | exact ih1 _ _ _ _ _
      | exact ih2 _ _ _ _ _ _
      | exact ih3 _ _ _ _ _ _
      | exact psalterylaw21_knows.mono _
      | exact remap_Quantize.mono _ _ _
      | exact remap_Restore.mono _ _ _
      | exact LeO.none _
      | refine LeO.ite ?_ ?_
      | refine LeO.bind ?_ (fun _ => ?_)
    · intro y0 y1 y2 y3 y4 y5
      unfold psalterylaw21_RemapNear.j2
      repeat' first
      | (with_reducible exact ih0 _ _ _ _ _)
      | (with_reducible exact ih1 _ _ _ _ _)
      | (with_reducible exact ih2 _ _ _ _ _ _)
      | (with_reducible exact ih3 _ _ _ _ _ _)
      | (with_reducible exact psalterylaw21_knows.mono _)
      | (with_reducible exact remap_Quantize.mono _ _ _)
      | (with_reducible exact remap_Restore.mono _ _ _)
      | (with_reducible exact LeO.refl _)
      | (with_reducible exact LeO.none _)
      | (with_reducible refine LeO.ite ?_ ?_)
      | (with_reducible refine LeO.bind ?_ (fun _ => ?_))
      | exact ih0 _ _ _ _ _
      | exact ih1 _ _ _ _ _
      | exact ih2 _ _ _ _ _ _
      | exact ih3 _ _ _ _ _ _
      | exact psalterylaw21_knows.mono _
      | exact remap_Quantize.mono _ _ _
      | exact remap_Restore.mono _ _ _
      | exact LeO.none _
      | refine LeO.ite ?_ ?_
      | refine LeO.bind ?_ (fun _ => ?_)
    · intro y0 y1 y2 y3 y4 y5
      unfold psalterylaw21_RemapNear.j3
      repeat' first
      | (with_reducible exact ih0 _ _ _ _ _)
      | (with_reducible exact ih1 _ _ _ _ _)
      | (with_reducible exact ih2 _ _ _ _ _ _)
      | (with_reducible exact ih3 _ _ _ _ _ _)
      | (with_reducible exact psalterylaw21_knows.mono _)
      | (with_reducible exact remap_Quantize.mono _ _ _)
      | (with_reducible exact remap_Restore.mono _ _ _)
      | (with_reducible exact LeO.refl _)
      | (with_reducible exact LeO.none _)
      | (with_reducible refine LeO.ite ?_ ?_)
      | (with_reducible refine LeO.bind ?_ (fun _ => ?_))
      | exact ih0 _ _ _ _ _
      | exact ih1 _ _ _ _ _
      | exact ih2 _ _ _ _ _ _
      | exact ih3 _ _ _ _ _ _
      | exact psalterylaw21_knows.mono _
      | exact remap_Quantize.mono _ _ _
      | exact remap_Restore.mono _ _ _
      | exact LeO.none _
      | refine LeO.ite ?_ ?_
      | refine LeO.bind ?_ (fun _ => ?_)
theorem psalterylaw21_RemapNear.mono : ∀ a0 a1 k, LeO (psalterylaw21_RemapNear.f k a0 a1) (psalterylaw21_RemapNear.f (k + 1) a0 a1) := by
  intro a0 a1 k
  obtain ⟨ih0, ih1, ih2, ih3⟩ := psalterylaw21_RemapNear.mono_l k
  unfold psalterylaw21_RemapNear.f
  repeat' first
      | (with_reducible exact ih0 _ _ _ _ _)
      | (with_reducible exact ih1 _ _ _ _ _)
      | (with_reducible exact ih2 _ _ _ _ _ _)
      | (with_reducible exact ih3 _ _ _ _ _ _)
      | (with_reducible exact psalterylaw21_knows.mono _)
      | (with_reducible exact remap_Quantize.mono _ _ _)
      | (with_reducible exact remap_Restore.mono _ _ _)
      | (with_reducible exact LeO.refl _)
      | (with_reducible exact LeO.none _)
      | (with_reducible refine LeO.ite ?_ ?_)
      | (with_reducible refine LeO.bind ?_ (fun _ => ?_))
      | exact ih0 _ _ _ _ _
      | exact ih1 _ _ _ _ _
      | exact ih2 _ _ _ _ _ _
      | exact ih3 _ _ _ _ _ _
      | exact psalterylaw21_knows.mono _
      | exact remap_Quantize.mono _ _ _
      | exact remap_Restore.mono _ _ _
      | exact LeO.none _
      | refine LeO.ite ?_ ?_
      | refine LeO.bind ?_ (fun _ => ?_)
set_option maxHeartbeats 8000000 in
set_option maxRecDepth 100000 in
theorem psalterylaw21_RemapNear.calls (k : Nat) (A0 : Option Addr) (c0 : Nat) (l0 : List Int) (A1 : Option Addr) (c1 : Nat) (l1 : List Int) (r : Bool) (w : World) (hr0 : Kd.C (Kd.int .i64) w A0 l0.length l0) (hc0 : l0.length ≤ c0) (hr1 : Kd.C (Kd.int .i64) w A1 l1.length l1) (hc1 : l1.length ≤ c1) (h : psalterylaw21_RemapNear.f k l0 l1 = some r) (hT : r = true) :
    Calls Try.prog 5 #[.slice A0 l0.length c0, .slice A1 l1.length c1] w fun e w' => e = .returned (.bool r) ∧ Below w.heap.size w w' := by
  have HR0 := Aside0.mk hr0
  have HC0 := Aside0.mk hc0
  clear hr0 hc0
  have HR1 := Aside0.mk hr1
  have HC1 := Aside0.mk hc1
  clear hr1 hc1
  have HB := Aside0.mk (Below.refl w.heap.size w)
  have H : ((psalterylaw21_great.f l0 l1).bind fun t200 => (if t200 = true then ((psalterylaw21_knows.f k).bind fun t201 => (some t201)) else ((remap_Quantize.f k l0 l1).bind fun bt202 => (if bt202.2 = 0 then ((remap_Restore.f k bt202.1 l1).bind fun bt207 => (if bt207.2 = 0 then (if (bt207.1.length : Int) = 16 then (psalterylaw21_RemapNear.j0 k l0 l1 bt202.1 bt207.1 ((bt202.1.length : Int) != 16)) else (psalterylaw21_RemapNear.j0 k l0 l1 bt202.1 bt207.1 true)) else (psalterylaw21_RemapNear.j0 k l0 l1 bt202.1 bt207.1 true))) else (if (bt202.1.length : Int) = 0 then ((psalterylaw21_knows.f k).bind fun t206 => (some t206)) else (some false)))))) = some r := h
  clear h
  have HT := Aside0.mk hT
  clear hT
  replace H := Option.bind_eq_some_iff.mp H
  obtain ⟨t200, A30, H⟩ := H
  replace H : (if t200 = true then ((psalterylaw21_knows.f k).bind fun t201 => (some t201)) else ((remap_Quantize.f k l0 l1).bind fun bt202 => (if bt202.2 = 0 then ((remap_Restore.f k bt202.1 l1).bind fun bt207 => (if bt207.2 = 0 then (if (bt207.1.length : Int) = 16 then (psalterylaw21_RemapNear.j0 k l0 l1 bt202.1 bt207.1 ((bt202.1.length : Int) != 16)) else (psalterylaw21_RemapNear.j0 k l0 l1 bt202.1 bt207.1 true)) else (psalterylaw21_RemapNear.j0 k l0 l1 bt202.1 bt207.1 true))) else (if (bt202.1.length : Int) = 0 then ((psalterylaw21_knows.f k).bind fun t206 => (some t206)) else (some false))))) = some r := H
  have A3 := Aside0.mk A30
  clear A30
  by_cases c4 : t200 = true
  · subst c4
    have H1 : ((psalterylaw21_knows.f k).bind fun t201 => (some t201)) = some r := by rw [if_pos rfl] at H; exact H
    clear H
    have H := H1
    clear H1
    replace H := Option.bind_eq_some_iff.mp H
    obtain ⟨t201, A50, H⟩ := H
    replace H : (some t201) = some r := H
    have A5 := Aside0.mk A50
    clear A50
    obtain rfl := Option.some.inj H
    go_enter Try.func5, Try.ntmps5
    go_wp2_with (first | (go_at_call 15; (with_reducible refine (psalterylaw21_great.calls _ _ l0 _ _ l1 true _ ?side1 ?side2 ?side3 ?side4 A3.out).mono ?_); (case side1 => repeat (first | exact HR0.out | (with_reducible refine Kd.C_alloc ?_ _) | (with_reducible refine Kd.C_drewN ?_ _) | (with_reducible refine Kd.C_drew ?_))); (case side2 => exact HC0.out); (case side3 => repeat (first | exact HR1.out | (with_reducible refine Kd.C_alloc ?_ _) | (with_reducible refine Kd.C_drewN ?_ _) | (with_reducible refine Kd.C_drew ?_))); (case side4 => exact HC1.out); rintro e w' ⟨rfl, ⟨nd, rfl⟩⟩; (try first | exact ⟨rfl, _, World.drewN_drewN _ _ _⟩ | exact ⟨rfl, _, Eq.trans (World.drewN_drewN _ _ _) (congrArg (World.drewN _) (Nat.add_assoc _ _ _))⟩)) | (go_at_call 16; (with_reducible refine (psalterylaw21_knows.calls k  t201 _ A5.out).mono ?_); rintro e w6 ⟨rfl, hb⟩; have n0_ := Aside0.mk (below_step (by repeat (first | (with_reducible first | exact HB.out | apply below_alloc | apply pw_below_drewN | apply below_drew1) | exact HB.out)) hb); clear HB; have HB := n0_; clear n0_; (try clear hb); (try clear hb2); (try clear hk); (try clear hi)))
    repeat (go_quiet (first | (go_at_call 15; (with_reducible refine (psalterylaw21_great.calls _ _ l0 _ _ l1 true _ ?side1 ?side2 ?side3 ?side4 A3.out).mono ?_); (case side1 => repeat (first | exact HR0.out | (with_reducible refine Kd.C_alloc ?_ _) | (with_reducible refine Kd.C_drewN ?_ _) | (with_reducible refine Kd.C_drew ?_))); (case side2 => exact HC0.out); (case side3 => repeat (first | exact HR1.out | (with_reducible refine Kd.C_alloc ?_ _) | (with_reducible refine Kd.C_drewN ?_ _) | (with_reducible refine Kd.C_drew ?_))); (case side4 => exact HC1.out); rintro e w' ⟨rfl, ⟨nd, rfl⟩⟩; (try first | exact ⟨rfl, _, World.drewN_drewN _ _ _⟩ | exact ⟨rfl, _, Eq.trans (World.drewN_drewN _ _ _) (congrArg (World.drewN _) (Nat.add_assoc _ _ _))⟩)) | (go_at_call 16; (with_reducible refine (psalterylaw21_knows.calls k  t201 _ A5.out).mono ?_); rintro e w6 ⟨rfl, hb⟩; have n0_ := Aside0.mk (below_step (by repeat (first | (with_reducible first | exact HB.out | apply below_alloc | apply pw_below_drewN | apply below_drew1) | exact HB.out)) hb); clear HB; have HB := n0_; clear n0_; (try clear hb); (try clear hb2); (try clear hk); (try clear hi))); try go_wp2_with (first | (go_at_call 15; (with_reducible refine (psalterylaw21_great.calls _ _ l0 _ _ l1 true _ ?side1 ?side2 ?side3 ?side4 A3.out).mono ?_); (case side1 => repeat (first | exact HR0.out | (with_reducible refine Kd.C_alloc ?_ _) | (with_reducible refine Kd.C_drewN ?_ _) | (with_reducible refine Kd.C_drew ?_))); (case side2 => exact HC0.out); (case side3 => repeat (first | exact HR1.out | (with_reducible refine Kd.C_alloc ?_ _) | (with_reducible refine Kd.C_drewN ?_ _) | (with_reducible refine Kd.C_drew ?_))); (case side4 => exact HC1.out); rintro e w' ⟨rfl, ⟨nd, rfl⟩⟩; (try first | exact ⟨rfl, _, World.drewN_drewN _ _ _⟩ | exact ⟨rfl, _, Eq.trans (World.drewN_drewN _ _ _) (congrArg (World.drewN _) (Nat.add_assoc _ _ _))⟩)) | (go_at_call 16; (with_reducible refine (psalterylaw21_knows.calls k  t201 _ A5.out).mono ?_); rintro e w6 ⟨rfl, hb⟩; have n0_ := Aside0.mk (below_step (by repeat (first | (with_reducible first | exact HB.out | apply below_alloc | apply pw_below_drewN | apply below_drew1) | exact HB.out)) hb); clear HB; have HB := n0_; clear n0_; (try clear hb); (try clear hb2); (try clear hk); (try clear hi))))
    go_ret
    exact ⟨by first | rfl | (simp [errW_none, errW_some] <;> rfl) | (simp [*, errW_none, errW_some] <;> rfl), by repeat (first | (with_reducible first | exact HB.out | apply below_alloc | apply pw_below_drewN | apply below_drew1) | exact HB.out)⟩
  · replace c4 := Bool.eq_false_iff.mpr c4
    subst c4
    have H1 : ((remap_Quantize.f k l0 l1).bind fun bt202 => (if bt202.2 = 0 then ((remap_Restore.f k bt202.1 l1).bind fun bt207 => (if bt207.2 = 0 then (if (bt207.1.length : Int) = 16 then (psalterylaw21_RemapNear.j0 k l0 l1 bt202.1 bt207.1 ((bt202.1.length : Int) != 16)) else (psalterylaw21_RemapNear.j0 k l0 l1 bt202.1 bt207.1 true)) else (psalterylaw21_RemapNear.j0 k l0 l1 bt202.1 bt207.1 true))) else (if (bt202.1.length : Int) = 0 then ((psalterylaw21_knows.f k).bind fun t206 => (some t206)) else (some false)))) = some r := by rw [if_neg (show ¬ (false = true) by decide)] at H; exact H
    clear H
    have H := H1
    clear H1
    replace H := Option.bind_eq_some_iff.mp H
    obtain ⟨⟨t202, t203⟩, A70, H⟩ := H
    replace H : (if t203 = 0 then ((remap_Restore.f k t202 l1).bind fun bt207 => (if bt207.2 = 0 then (if (bt207.1.length : Int) = 16 then (psalterylaw21_RemapNear.j0 k l0 l1 t202 bt207.1 ((t202.length : Int) != 16)) else (psalterylaw21_RemapNear.j0 k l0 l1 t202 bt207.1 true)) else (psalterylaw21_RemapNear.j0 k l0 l1 t202 bt207.1 true))) else (if (t202.length : Int) = 0 then ((psalterylaw21_knows.f k).bind fun t206 => (some t206)) else (some false))) = some r := H
    have A7 := Aside0.mk A70
    clear A70
    by_cases c8 : t203 = 0
    · rw [if_pos c8] at H
      have c8b0 : (t203 == 0) = true := beq_iff_eq.mpr c8
      have c8b1 : (t203 != 0) = false := bne_eq_false_iff_eq.mpr c8
      clear c8
      replace H := Option.bind_eq_some_iff.mp H
      obtain ⟨⟨t207, t208⟩, A90, H⟩ := H
      replace H : (if t208 = 0 then (if (t207.length : Int) = 16 then (psalterylaw21_RemapNear.j0 k l0 l1 t202 t207 ((t202.length : Int) != 16)) else (psalterylaw21_RemapNear.j0 k l0 l1 t202 t207 true)) else (psalterylaw21_RemapNear.j0 k l0 l1 t202 t207 true)) = some r := H
      have A9 := Aside0.mk A90
      clear A90
      have HC10 := Aside0.mk H
      clear H
      go_enter Try.func5, Try.ntmps5
      go_upto_region 7 with (first | (go_at_call 15; (with_reducible refine (psalterylaw21_great.calls _ _ l0 _ _ l1 false _ ?side1 ?side2 ?side3 ?side4 A3.out).mono ?_); (case side1 => repeat (first | exact HR0.out | (with_reducible refine Kd.C_alloc ?_ _) | (with_reducible refine Kd.C_drewN ?_ _) | (with_reducible refine Kd.C_drew ?_))); (case side2 => exact HC0.out); (case side3 => repeat (first | exact HR1.out | (with_reducible refine Kd.C_alloc ?_ _) | (with_reducible refine Kd.C_drewN ?_ _) | (with_reducible refine Kd.C_drew ?_))); (case side4 => exact HC1.out); rintro e w' ⟨rfl, ⟨nd, rfl⟩⟩; (try first | exact ⟨rfl, _, World.drewN_drewN _ _ _⟩ | exact ⟨rfl, _, Eq.trans (World.drewN_drewN _ _ _) (congrArg (World.drewN _) (Nat.add_assoc _ _ _))⟩)) | (go_at_call 17; (with_reducible refine (remap_Quantize.calls k _ _ l0 _ _ l1 t202 t203 _ ?side1 ?side2 ?side3 ?side4 A7.out).mono ?_); (case side1 => repeat (first | exact HR0.out | (with_reducible refine Kd.C_alloc ?_ _) | (with_reducible refine Kd.C_drewN ?_ _) | (with_reducible refine Kd.C_drew ?_))); (case side2 => exact HC0.out); (case side3 => repeat (first | exact HR1.out | (with_reducible refine Kd.C_alloc ?_ _) | (with_reducible refine Kd.C_drewN ?_ _) | (with_reducible refine Kd.C_drew ?_))); (case side4 => exact HC1.out); rintro e w11 ⟨v204, rfl, ho0, hb⟩; have n0_ := Aside0.mk (Kd.R_lower ho0 (below_size (by repeat (first | (with_reducible first | exact HB.out | apply below_alloc | apply pw_below_drewN | apply below_drew1) | exact HB.out)))); have n1_ := Aside0.mk (below_step (by repeat (first | (with_reducible first | exact HB.out | apply below_alloc | apply pw_below_drewN | apply below_drew1) | exact HB.out)) hb); clear HB; have HO205 := n0_; have HB := n1_; clear n0_ n1_; (try clear hb); (try clear hb2); (try clear hk); (try clear hi); (try clear ho0); obtain ⟨Ao12, co12, eo12⟩ := Kd.R_slice HO205.out; subst eo12) | (go_at_call 21; (with_reducible refine (remap_Restore.calls k _ _ t202 _ _ l1 t207 t208 _ ?side1 ?side2 ?side3 ?side4 A9.out).mono ?_); (case side1 => repeat (first | exact (Kd.R_reads' HO205.out).2.2 | (with_reducible refine Kd.C_alloc ?_ _) | (with_reducible refine Kd.C_drewN ?_ _) | (with_reducible refine Kd.C_drew ?_))); (case side2 => exact (Kd.R_reads' HO205.out).2.1); (case side3 => repeat (first | exact (Kd.C_below HR1.out HB.out) | (with_reducible refine Kd.C_alloc ?_ _) | (with_reducible refine Kd.C_drewN ?_ _) | (with_reducible refine Kd.C_drew ?_))); (case side4 => exact HC1.out); rintro e w13 ⟨v209, rfl, ho0, hb⟩; have n0_ := Aside0.mk (Kd.R_elder' (by (with_reducible repeat (first | apply Kd.R_alloc | apply Kd.R_drewN | apply Kd.R_drew)); exact HO205.out) (Kd.R_base ho0) hb); have n1_ := Aside0.mk (Kd.R_lower (Kd.R_new' ho0 (Kd.R_lt (by (with_reducible repeat (first | apply Kd.R_alloc | apply Kd.R_drewN | apply Kd.R_drew)); exact HO205.out))) (below_size (by repeat (first | (with_reducible first | exact HB.out | apply below_alloc | apply pw_below_drewN | apply below_drew1) | exact HB.out)))); have n2_ := Aside0.mk (below_step (by repeat (first | (with_reducible first | exact HB.out | apply below_alloc | apply pw_below_drewN | apply below_drew1) | exact HB.out)) hb); clear HO205; clear HB; have HO205 := n0_; have HO210 := n1_; have HB := n2_; clear n0_ n1_ n2_; (try clear hb); (try clear hb2); (try clear hk); (try clear hi); (try clear ho0)))
      repeat (go_quiet (first | (go_at_call 15; (with_reducible refine (psalterylaw21_great.calls _ _ l0 _ _ l1 false _ ?side1 ?side2 ?side3 ?side4 A3.out).mono ?_); (case side1 => repeat (first | exact HR0.out | (with_reducible refine Kd.C_alloc ?_ _) | (with_reducible refine Kd.C_drewN ?_ _) | (with_reducible refine Kd.C_drew ?_))); (case side2 => exact HC0.out); (case side3 => repeat (first | exact HR1.out | (with_reducible refine Kd.C_alloc ?_ _) | (with_reducible refine Kd.C_drewN ?_ _) | (with_reducible refine Kd.C_drew ?_))); (case side4 => exact HC1.out); rintro e w' ⟨rfl, ⟨nd, rfl⟩⟩; (try first | exact ⟨rfl, _, World.drewN_drewN _ _ _⟩ | exact ⟨rfl, _, Eq.trans (World.drewN_drewN _ _ _) (congrArg (World.drewN _) (Nat.add_assoc _ _ _))⟩)) | (go_at_call 17; (with_reducible refine (remap_Quantize.calls k _ _ l0 _ _ l1 t202 t203 _ ?side1 ?side2 ?side3 ?side4 A7.out).mono ?_); (case side1 => repeat (first | exact HR0.out | (with_reducible refine Kd.C_alloc ?_ _) | (with_reducible refine Kd.C_drewN ?_ _) | (with_reducible refine Kd.C_drew ?_))); (case side2 => exact HC0.out); (case side3 => repeat (first | exact HR1.out | (with_reducible refine Kd.C_alloc ?_ _) | (with_reducible refine Kd.C_drewN ?_ _) | (with_reducible refine Kd.C_drew ?_))); (case side4 => exact HC1.out); rintro e w11 ⟨v204, rfl, ho0, hb⟩; have n0_ := Aside0.mk (Kd.R_lower ho0 (below_size (by repeat (first | (with_reducible first | exact HB.out | apply below_alloc | apply pw_below_drewN | apply below_drew1) | exact HB.out)))); have n1_ := Aside0.mk (below_step (by repeat (first | (with_reducible first | exact HB.out | apply below_alloc | apply pw_below_drewN | apply below_drew1) | exact HB.out)) hb); clear HB; have HO205 := n0_; have HB := n1_; clear n0_ n1_; (try clear hb); (try clear hb2); (try clear hk); (try clear hi); (try clear ho0); obtain ⟨Ao12, co12, eo12⟩ := Kd.R_slice HO205.out; subst eo12) | (go_at_call 21; (with_reducible refine (remap_Restore.calls k _ _ t202 _ _ l1 t207 t208 _ ?side1 ?side2 ?side3 ?side4 A9.out).mono ?_); (case side1 => repeat (first | exact (Kd.R_reads' HO205.out).2.2 | (with_reducible refine Kd.C_alloc ?_ _) | (with_reducible refine Kd.C_drewN ?_ _) | (with_reducible refine Kd.C_drew ?_))); (case side2 => exact (Kd.R_reads' HO205.out).2.1); (case side3 => repeat (first | exact (Kd.C_below HR1.out HB.out) | (with_reducible refine Kd.C_alloc ?_ _) | (with_reducible refine Kd.C_drewN ?_ _) | (with_reducible refine Kd.C_drew ?_))); (case side4 => exact HC1.out); rintro e w13 ⟨v209, rfl, ho0, hb⟩; have n0_ := Aside0.mk (Kd.R_elder' (by (with_reducible repeat (first | apply Kd.R_alloc | apply Kd.R_drewN | apply Kd.R_drew)); exact HO205.out) (Kd.R_base ho0) hb); have n1_ := Aside0.mk (Kd.R_lower (Kd.R_new' ho0 (Kd.R_lt (by (with_reducible repeat (first | apply Kd.R_alloc | apply Kd.R_drewN | apply Kd.R_drew)); exact HO205.out))) (below_size (by repeat (first | (with_reducible first | exact HB.out | apply below_alloc | apply pw_below_drewN | apply below_drew1) | exact HB.out)))); have n2_ := Aside0.mk (below_step (by repeat (first | (with_reducible first | exact HB.out | apply below_alloc | apply pw_below_drewN | apply below_drew1) | exact HB.out)) hb); clear HO205; clear HB; have HO205 := n0_; have HO210 := n1_; have HB := n2_; clear n0_ n1_ n2_; (try clear hb); (try clear hb2); (try clear hk); (try clear hi); (try clear ho0))); go_upto_region 7 with (first | (go_at_call 15; (with_reducible refine (psalterylaw21_great.calls _ _ l0 _ _ l1 false _ ?side1 ?side2 ?side3 ?side4 A3.out).mono ?_); (case side1 => repeat (first | exact HR0.out | (with_reducible refine Kd.C_alloc ?_ _) | (with_reducible refine Kd.C_drewN ?_ _) | (with_reducible refine Kd.C_drew ?_))); (case side2 => exact HC0.out); (case side3 => repeat (first | exact HR1.out | (with_reducible refine Kd.C_alloc ?_ _) | (with_reducible refine Kd.C_drewN ?_ _) | (with_reducible refine Kd.C_drew ?_))); (case side4 => exact HC1.out); rintro e w' ⟨rfl, ⟨nd, rfl⟩⟩; (try first | exact ⟨rfl, _, World.drewN_drewN _ _ _⟩ | exact ⟨rfl, _, Eq.trans (World.drewN_drewN _ _ _) (congrArg (World.drewN _) (Nat.add_assoc _ _ _))⟩)) | (go_at_call 17; (with_reducible refine (remap_Quantize.calls k _ _ l0 _ _ l1 t202 t203 _ ?side1 ?side2 ?side3 ?side4 A7.out).mono ?_); (case side1 => repeat (first | exact HR0.out | (with_reducible refine Kd.C_alloc ?_ _) | (with_reducible refine Kd.C_drewN ?_ _) | (with_reducible refine Kd.C_drew ?_))); (case side2 => exact HC0.out); (case side3 => repeat (first | exact HR1.out | (with_reducible refine Kd.C_alloc ?_ _) | (with_reducible refine Kd.C_drewN ?_ _) | (with_reducible refine Kd.C_drew ?_))); (case side4 => exact HC1.out); rintro e w11 ⟨v204, rfl, ho0, hb⟩; have n0_ := Aside0.mk (Kd.R_lower ho0 (below_size (by repeat (first | (with_reducible first | exact HB.out | apply below_alloc | apply pw_below_drewN | apply below_drew1) | exact HB.out)))); have n1_ := Aside0.mk (below_step (by repeat (first | (with_reducible first | exact HB.out | apply below_alloc | apply pw_below_drewN | apply below_drew1) | exact HB.out)) hb); clear HB; have HO205 := n0_; have HB := n1_; clear n0_ n1_; (try clear hb); (try clear hb2); (try clear hk); (try clear hi); (try clear ho0); obtain ⟨Ao12, co12, eo12⟩ := Kd.R_slice HO205.out; subst eo12) | (go_at_call 21; (with_reducible refine (remap_Restore.calls k _ _ t202 _ _ l1 t207 t208 _ ?side1 ?side2 ?side3 ?side4 A9.out).mono ?_); (case side1 => repeat (first | exact (Kd.R_reads' HO205.out).2.2 | (with_reducible refine Kd.C_alloc ?_ _) | (with_reducible refine Kd.C_drewN ?_ _) | (with_reducible refine Kd.C_drew ?_))); (case side2 => exact (Kd.R_reads' HO205.out).2.1); (case side3 => repeat (first | exact (Kd.C_below HR1.out HB.out) | (with_reducible refine Kd.C_alloc ?_ _) | (with_reducible refine Kd.C_drewN ?_ _) | (with_reducible refine Kd.C_drew ?_))); (case side4 => exact HC1.out); rintro e w13 ⟨v209, rfl, ho0, hb⟩; have n0_ := Aside0.mk (Kd.R_elder' (by (with_reducible repeat (first | apply Kd.R_alloc | apply Kd.R_drewN | apply Kd.R_drew)); exact HO205.out) (Kd.R_base ho0) hb); have n1_ := Aside0.mk (Kd.R_lower (Kd.R_new' ho0 (Kd.R_lt (by (with_reducible repeat (first | apply Kd.R_alloc | apply Kd.R_drewN | apply Kd.R_drew)); exact HO205.out))) (below_size (by repeat (first | (with_reducible first | exact HB.out | apply below_alloc | apply pw_below_drewN | apply below_drew1) | exact HB.out)))); have n2_ := Aside0.mk (below_step (by repeat (first | (with_reducible first | exact HB.out | apply below_alloc | apply pw_below_drewN | apply below_drew1) | exact HB.out)) hb); clear HO205; clear HB; have HO205 := n0_; have HO210 := n1_; have HB := n2_; clear n0_ n1_ n2_; (try clear hb); (try clear hb2); (try clear hk); (try clear hi); (try clear ho0))))
      (try simp only [Act.put, List.setIfInBounds_toArray, List.set_cons_zero, List.set_cons_succ])
      go_cut [46] (fun v46 wc => ∃ (kq : Nat) (x46_9 : Bool), v46 = .bool x46_9 ∧ Aside0 (psalterylaw21_RemapNear.j0 kq l0 l1 t202 t207 x46_9 = some r) ∧ Aside0 (kq ≤ k) ∧ Aside0 (Kd.R (Kd.int .i64) 2 wc w.heap.size (fun k_ => some k_ ≠ (v209 : Value).ownBlock) (.slice Ao12 t202.length co12) t202) ∧ Aside0 (Kd.R (Kd.int .i64) 2 wc w.heap.size (fun k_ => some k_ ≠ ((.slice Ao12 t202.length co12) : Value).ownBlock) v209 t207) ∧ Aside0 (Below w.heap.size w wc))
      case first =>
        have H := HC10.out
        clear HC10
        by_cases c14 : t208 = 0
        · rw [if_pos c14] at H
          have c14b0 : (t208 == 0) = true := beq_iff_eq.mpr c14
          have c14b1 : (t208 != 0) = false := bne_eq_false_iff_eq.mpr c14
          clear c14
          (first | rw [c14b0] | (simp only [i64_w, i32_w]; rw [c14b0]) | skip)
          by_cases c15 : (t207.length : Int) = 16
          · rw [if_pos c15] at H
            have c15b0 : ((t207.length : Int) == 16) = true := beq_iff_eq.mpr c15
            have c15b1 : ((t207.length : Int) != 16) = false := bne_eq_false_iff_eq.mpr c15
            clear c15
            have H' := Aside0.mk H
            clear H
            obtain ⟨Ao16, co16, eo16⟩ := Kd.R_slice HO210.out
            subst eo16
            go_wp2
            repeat (go_quiet (fail); try go_wp2)
            go_meet
            case rel => exact ⟨_, (((t202.length : Int) != 16)), (by first | rfl | (simp; done) | (simp [*]; done)), H', ⟨by first | omega | exact Nat.le_refl _⟩, ⟨by (with_reducible repeat (first | apply Kd.R_alloc | apply Kd.R_drewN | apply Kd.R_drew)); exact Kd.R_mono HO205.out (fun _ hk => hk.2)⟩, ⟨by (with_reducible repeat (first | apply Kd.R_alloc | apply Kd.R_drewN | apply Kd.R_drew)); exact Kd.R_mono HO210.out (fun _ hk => hk.2)⟩, ⟨by repeat (first | (with_reducible first | exact HB.out | apply below_alloc | apply pw_below_drewN | apply below_drew1) | exact HB.out)⟩⟩
          · rw [if_neg c15] at H
            have c15b0 : ((t207.length : Int) == 16) = false := beq_eq_false_iff_ne.mpr c15
            have c15b1 : ((t207.length : Int) != 16) = true := bne_iff_ne.mpr c15
            have H' := Aside0.mk H
            clear H
            obtain ⟨Ao17, co17, eo17⟩ := Kd.R_slice HO210.out
            subst eo17
            go_wp2
            repeat (go_quiet (fail); try go_wp2)
            go_meet
            case rel => exact ⟨_, (true), (by first | rfl | (simp; done) | (simp [*]; done)), H', ⟨by first | omega | exact Nat.le_refl _⟩, ⟨by (with_reducible repeat (first | apply Kd.R_alloc | apply Kd.R_drewN | apply Kd.R_drew)); exact Kd.R_mono HO205.out (fun _ hk => hk.2)⟩, ⟨by (with_reducible repeat (first | apply Kd.R_alloc | apply Kd.R_drewN | apply Kd.R_drew)); exact Kd.R_mono HO210.out (fun _ hk => hk.2)⟩, ⟨by repeat (first | (with_reducible first | exact HB.out | apply below_alloc | apply pw_below_drewN | apply below_drew1) | exact HB.out)⟩⟩
        · rw [if_neg c14] at H
          have c14b0 : (t208 == 0) = false := beq_eq_false_iff_ne.mpr c14
          have c14b1 : (t208 != 0) = true := bne_iff_ne.mpr c14
          (first | rw [c14b0] | (simp only [i64_w, i32_w]; rw [c14b0]) | skip)
          have H' := Aside0.mk H
          clear H
          go_wp2
          repeat (go_quiet (fail); try go_wp2)
          go_meet
          case rel => exact ⟨_, (true), (by first | rfl | (simp; done) | (simp [*]; done)), H', ⟨by first | omega | exact Nat.le_refl _⟩, ⟨by (with_reducible repeat (first | apply Kd.R_alloc | apply Kd.R_drewN | apply Kd.R_drew)); exact Kd.R_mono HO205.out (fun _ hk => hk.2)⟩, ⟨by (with_reducible repeat (first | apply Kd.R_alloc | apply Kd.R_drewN | apply Kd.R_drew)); exact Kd.R_mono HO210.out (fun _ hk => hk.2)⟩, ⟨by repeat (first | (with_reducible first | exact HB.out | apply below_alloc | apply pw_below_drewN | apply below_drew1) | exact HB.out)⟩⟩
      case rest =>
        clear HC10
        try clear c1
        try clear p2
        try clear c4
        try clear c5
        try clear c8
        try clear c8b0
        try clear c8b1
        try clear c14
        try clear c14b0
        try clear c14b1
        try clear c15
        try clear c15b0
        try clear c15b1
        obtain ⟨kq, x46_9, rfl, HA, HJ9, HO_5, HO_7, HB⟩ := hcut
        cases kq with
        | zero => exact absurd HA.out (by simp [psalterylaw21_RemapNear.j0])
        | succ kj9 =>
          have H := HA.out
          clear HA
          simp only [psalterylaw21_RemapNear.j0] at H
          by_cases c18 : x46_9 = true
          · subst c18
            have H1 : (some false) = some r := by rw [if_pos rfl] at H; exact H
            clear H
            have H := H1
            clear H1
            exact absurd ((Option.some.inj H).trans HT.out) (by decide)
          · replace c18 := Bool.eq_false_iff.mpr c18
            subst c18
            have H1 : (psalterylaw21_RemapNear.l0 kj9 l0 l1 t202 t207 0) = some r := by rw [if_neg (show ¬ (false = true) by decide)] at H; exact H
            clear H
            have H := H1
            clear H1
            have H' := Aside0.mk H
            clear H
            go_wp2
            repeat (go_quiet (fail); try go_wp2)
            go_loopg [9] kj9 (fun kq v9 w' => ∃ (x9_2 : Int), v9 = .int .i64 x9_2 ∧ Aside0 (psalterylaw21_RemapNear.l0 kq l0 l1 t202 t207 x9_2 = some r) ∧ Aside0 (kq ≤ kj9) ∧ Aside0 (Kd.R (Kd.int .i64) 2 w' w.heap.size (fun k_ => some k_ ≠ (v209 : Value).ownBlock) (.slice Ao12 t202.length co12) t202) ∧ Aside0 (Kd.R (Kd.int .i64) 2 w' w.heap.size (fun k_ => some k_ ≠ ((.slice Ao12 t202.length co12) : Value).ownBlock) v209 t207) ∧ Aside0 (Below w.heap.size w w'))
            case atStart => exact ⟨(0), (by first | rfl | (simp; done) | (simp [*]; done)), H', ⟨Nat.le_refl _⟩, ⟨by (with_reducible repeat (first | apply Kd.R_alloc | apply Kd.R_drewN | apply Kd.R_drew)); exact HO_5.out⟩, ⟨by (with_reducible repeat (first | apply Kd.R_alloc | apply Kd.R_drewN | apply Kd.R_drew)); exact HO_7.out⟩, ⟨by repeat (first | (with_reducible first | exact HB.out | apply below_alloc | apply pw_below_drewN | apply below_drew1) | exact HB.out)⟩⟩
            case round =>
              clear H'
              try clear c1
              try clear p2
              try clear c4
              try clear c5
              try clear c8
              try clear c8b0
              try clear c8b1
              try clear c14
              try clear c14b0
              try clear c14b1
              try clear c15
              try clear c15b0
              try clear c15b1
              try clear c18
              try clear p2
              obtain ⟨x9_2, rfl, HA, HK2, HO_5, HO_7, HB⟩ := hrel
              cases gk with
              | zero => exact absurd HA.out (by simp [psalterylaw21_RemapNear.l0])
              | succ k2 =>
                have H := HA.out
                clear HA
                simp only [psalterylaw21_RemapNear.l0] at H
                by_cases c19 : x9_2 < 16
                · rw [if_pos c19] at H
                  have c19b0 : decide (x9_2 < 16) = true := decide_eq_true c19
                  clear c19
                  by_cases c20 : 0 ≤ x9_2
                  · rw [if_pos c20] at H
                    have c20b0 : decide (0 ≤ x9_2) = true := decide_eq_true c20
                    clear c20
                    by_cases c21 : x9_2 < (t207.length : Int)
                    · rw [if_pos c21] at H
                      have c21b0 : decide (x9_2 < (t207.length : Int)) = true := decide_eq_true c21
                      clear c21
                      by_cases c22 : x9_2 < (l0.length : Int)
                      · rw [if_pos c22] at H
                        have c22b0 : decide (x9_2 < (l0.length : Int)) = true := decide_eq_true c22
                        clear c22
                        have HC23 := Aside0.mk H
                        clear H
                        obtain ⟨Ao24, co24, eo24⟩ := Kd.R_slice HO_7.out
                        subst eo24
                        have p212 : 0 ≤ (x9_2 : Int) := of_decide_eq_true (by first | (with_reducible assumption) | assumption)
                        have q212 : x9_2 < (t207.length : Int) := of_decide_eq_true (by first | (with_reducible assumption) | assumption)
                        obtain ⟨ad212, e212, hx212_0⟩ := Kd.at_int (Kd.R_reads' HO_7.out).2.2 x9_2 p212 q212
                        cases e212
                        replace p212 := eq_true p212
                        replace q212 := eq_true q212
                        have p213 : 0 ≤ (x9_2 : Int) := of_decide_eq_true (by first | (with_reducible assumption) | assumption)
                        have q213 : x9_2 < (l0.length : Int) := of_decide_eq_true (by first | (with_reducible assumption) | assumption)
                        obtain ⟨ad213, e213, hx213_0⟩ := Kd.at_int HR0.out x9_2 p213 q213
                        cases e213
                        replace hx213_0 := (HB.out.cell (World.block_lt_of_cell? w _ hx213_0)).trans hx213_0
                        replace p213 := eq_true p213
                        replace q213 := eq_true q213
                        go_upto_if 61 with (fail)
                        repeat (go_quiet (fail); go_upto_if 61 with (fail))
                        go_cut [10] (fun v10 wc => ∃ (kq : Nat) (x10_22 : Int), v10 = .int .i64 x10_22 ∧ Aside0 (psalterylaw21_RemapNear.j2 kq l0 l1 t202 t207 x9_2 x10_22 = some r) ∧ Aside0 (kq ≤ k2) ∧ Aside0 (Kd.R (Kd.int .i64) 2 wc w.heap.size (fun k_ => some k_ ≠ ((.slice (some ad212) t207.length co24) : Value).ownBlock) (.slice Ao12 t202.length co12) t202) ∧ Aside0 (Kd.R (Kd.int .i64) 2 wc w.heap.size (fun k_ => some k_ ≠ ((.slice Ao12 t202.length co12) : Value).ownBlock) (.slice (some ad212) t207.length co24) t207) ∧ Aside0 (Below w.heap.size w wc))
                        case first =>
                          have H := HC23.out
                          clear HC23
                          by_cases c25 : (wrap64 ((rd t207 x9_2) - (rd l0 x9_2))) < 0
                          · rw [if_pos c25] at H
                            have c25b0 : decide ((wrap64 ((rd t207 x9_2) - (rd l0 x9_2))) < 0) = true := decide_eq_true c25
                            clear c25
                            (first | rw [c25b0] | (simp only [i64_w, i32_w]; rw [c25b0]) | skip)
                            have H' := Aside0.mk H
                            clear H
                            go_wp2
                            repeat (go_quiet (fail); try go_wp2)
                            go_meet
                            case rel => exact ⟨_, (wrap64 (-(wrap64 ((rd t207 x9_2) - (rd l0 x9_2))))), (by first | rfl | (simp; done) | (simp [*]; done)), H', ⟨by have := HJ9.out; have := HK2.out; first | omega | exact Nat.le_refl _⟩, ⟨by (with_reducible repeat (first | apply Kd.R_alloc | apply Kd.R_drewN | apply Kd.R_drew)); exact HO_5.out⟩, ⟨by (with_reducible repeat (first | apply Kd.R_alloc | apply Kd.R_drewN | apply Kd.R_drew)); exact HO_7.out⟩, ⟨by repeat (first | (with_reducible first | exact HB.out | apply below_alloc | apply pw_below_drewN | apply below_drew1) | exact HB.out)⟩⟩
                          · rw [if_neg c25] at H
                            have c25b0 : decide ((wrap64 ((rd t207 x9_2) - (rd l0 x9_2))) < 0) = false := decide_eq_false c25
                            clear c25
                            (first | rw [c25b0] | (simp only [i64_w, i32_w]; rw [c25b0]) | skip)
                            have H' := Aside0.mk H
                            clear H
                            go_wp2
                            repeat (go_quiet (fail); try go_wp2)
                            go_meet
                            case rel => exact ⟨_, (wrap64 ((rd t207 x9_2) - (rd l0 x9_2))), (by first | rfl | (simp; done) | (simp [*]; done)), H', ⟨by have := HJ9.out; have := HK2.out; first | omega | exact Nat.le_refl _⟩, ⟨by (with_reducible repeat (first | apply Kd.R_alloc | apply Kd.R_drewN | apply Kd.R_drew)); exact HO_5.out⟩, ⟨by (with_reducible repeat (first | apply Kd.R_alloc | apply Kd.R_drewN | apply Kd.R_drew)); exact HO_7.out⟩, ⟨by repeat (first | (with_reducible first | exact HB.out | apply below_alloc | apply pw_below_drewN | apply below_drew1) | exact HB.out)⟩⟩
                        case rest =>
                          clear HC23
                          try clear c1
                          try clear c2
                          try clear p2
                          try clear q2
                          try clear hx2
                          try clear c4
                          try clear c5
                          try clear p6
                          try clear c8
                          try clear c8b0
                          try clear c8b1
                          try clear c14
                          try clear c14b0
                          try clear c14b1
                          try clear c15
                          try clear c15b0
                          try clear c15b1
                          try clear c18
                          try clear c19
                          try clear c19b0
                          try clear c20
                          try clear c20b0
                          try clear c21
                          try clear c21b0
                          try clear p21
                          try clear q21
                          try clear hx21
                          try clear c22
                          try clear c22b0
                          try clear c25
                          try clear c25b0
                          try clear hx212_0
                          try clear hx213_0
                          try clear p2
                          try clear p212
                          try clear p213
                          try clear q212
                          try clear q213
                          obtain ⟨kq, x10_22, rfl, HA, HJ22, HO_5, HO_7, HB⟩ := hcut
                          cases kq with
                          | zero => exact absurd HA.out (by simp [psalterylaw21_RemapNear.j2])
                          | succ kj22 =>
                            have H := HA.out
                            clear HA
                            simp only [psalterylaw21_RemapNear.j2] at H
                            have HC26 := Aside0.mk H
                            clear H
                            go_upto_region 15 with (fail)
                            repeat (go_quiet (fail); go_upto_region 15 with (fail))
                            go_cut [126] (fun v126 wc => ∃ (kq : Nat) (x126_25 : Bool), v126 = .bool x126_25 ∧ Aside0 (psalterylaw21_RemapNear.j3 kq l0 l1 t202 t207 x9_2 x126_25 = some r) ∧ Aside0 (kq ≤ kj22) ∧ Aside0 (Kd.R (Kd.int .i64) 2 wc w.heap.size (fun k_ => some k_ ≠ ((.slice (some ad212) t207.length co24) : Value).ownBlock) (.slice Ao12 t202.length co12) t202) ∧ Aside0 (Kd.R (Kd.int .i64) 2 wc w.heap.size (fun k_ => some k_ ≠ ((.slice Ao12 t202.length co12) : Value).ownBlock) (.slice (some ad212) t207.length co24) t207) ∧ Aside0 (Below w.heap.size w wc))
                            case first =>
                              have H := HC26.out
                              clear HC26
                              by_cases c27 : 0 ≤ x9_2
                              · rw [if_pos c27] at H
                                have c27b0 : decide (0 ≤ x9_2) = true := decide_eq_true c27
                                clear c27
                                (first | rw [c27b0] | (simp only [i64_w, i32_w]; rw [c27b0]) | skip)
                                by_cases c28 : x9_2 < (l1.length : Int)
                                · rw [if_pos c28] at H
                                  have c28b0 : decide (x9_2 < (l1.length : Int)) = true := decide_eq_true c28
                                  clear c28
                                  by_cases c29 : (wrap64 (2 * x10_22)) > (rd l1 x9_2)
                                  · rw [if_pos c29] at H
                                    have c29b0 : decide ((rd l1 x9_2) < (wrap64 (2 * x10_22))) = true := decide_eq_true c29
                                    clear c29
                                    have H' := Aside0.mk H
                                    clear H
                                    have p214 : 0 ≤ (x9_2 : Int) := of_decide_eq_true (by first | (with_reducible assumption) | assumption)
                                    have q214 : x9_2 < (l1.length : Int) := of_decide_eq_true (by first | (with_reducible assumption) | assumption)
                                    obtain ⟨ad214, e214, hx214_0⟩ := Kd.at_int HR1.out x9_2 p214 q214
                                    cases e214
                                    replace hx214_0 := (HB.out.cell (World.block_lt_of_cell? w _ hx214_0)).trans hx214_0
                                    replace p214 := eq_true p214
                                    replace q214 := eq_true q214
                                    go_wp2
                                    repeat (go_quiet (fail); try go_wp2)
                                    go_meet
                                    case rel => exact ⟨_, (true), (by first | rfl | (simp; done) | (simp [*]; done)), H', ⟨by have := HJ9.out; have := HK2.out; have := HJ22.out; first | omega | exact Nat.le_refl _⟩, ⟨by (with_reducible repeat (first | apply Kd.R_alloc | apply Kd.R_drewN | apply Kd.R_drew)); exact HO_5.out⟩, ⟨by (with_reducible repeat (first | apply Kd.R_alloc | apply Kd.R_drewN | apply Kd.R_drew)); exact HO_7.out⟩, ⟨by repeat (first | (with_reducible first | exact HB.out | apply below_alloc | apply pw_below_drewN | apply below_drew1) | exact HB.out)⟩⟩
                                  · rw [if_neg c29] at H
                                    have c29b0 : decide ((rd l1 x9_2) < (wrap64 (2 * x10_22))) = false := decide_eq_false c29
                                    clear c29
                                    by_cases c30 : x9_2 < (t207.length : Int)
                                    · rw [if_pos c30] at H
                                      have c30b0 : decide (x9_2 < (t207.length : Int)) = true := decide_eq_true c30
                                      clear c30
                                      by_cases c31 : (rd t207 x9_2) > 0
                                      · rw [if_pos c31] at H
                                        have c31b0 : decide (0 < (rd t207 x9_2)) = true := decide_eq_true c31
                                        clear c31
                                        by_cases c32 : x9_2 < (l0.length : Int)
                                        · rw [if_pos c32] at H
                                          have c32b0 : decide (x9_2 < (l0.length : Int)) = true := decide_eq_true c32
                                          clear c32
                                          by_cases c33 : (rd l0 x9_2) < 0
                                          · rw [if_pos c33] at H
                                            have c33b0 : decide ((rd l0 x9_2) < 0) = true := decide_eq_true c33
                                            clear c33
                                            have H' := Aside0.mk H
                                            clear H
                                            have p214 : 0 ≤ (x9_2 : Int) := of_decide_eq_true (by first | (with_reducible assumption) | assumption)
                                            have q214 : x9_2 < (l1.length : Int) := of_decide_eq_true (by first | (with_reducible assumption) | assumption)
                                            obtain ⟨ad214, e214, hx214_0⟩ := Kd.at_int HR1.out x9_2 p214 q214
                                            cases e214
                                            replace hx214_0 := (HB.out.cell (World.block_lt_of_cell? w _ hx214_0)).trans hx214_0
                                            replace p214 := eq_true p214
                                            replace q214 := eq_true q214
                                            have p215 : 0 ≤ (x9_2 : Int) := of_decide_eq_true (by first | (with_reducible assumption) | assumption)
                                            have q215 : x9_2 < (t207.length : Int) := of_decide_eq_true (by first | (with_reducible assumption) | assumption)
                                            obtain ⟨ad215, e215, hx215_0⟩ := Kd.at_int (Kd.R_reads' HO_7.out).2.2 x9_2 p215 q215
                                            obtain rfl : ad212 = ad215 := (by injection e215)
                                            replace p215 := eq_true p215
                                            replace q215 := eq_true q215
                                            have p216 : 0 ≤ (x9_2 : Int) := of_decide_eq_true (by first | (with_reducible assumption) | assumption)
                                            have q216 : x9_2 < (l0.length : Int) := of_decide_eq_true (by first | (with_reducible assumption) | assumption)
                                            obtain ⟨ad216, e216, hx216_0⟩ := Kd.at_int HR0.out x9_2 p216 q216
                                            obtain rfl : ad213 = ad216 := (by injection e216)
                                            replace hx216_0 := (HB.out.cell (World.block_lt_of_cell? w _ hx216_0)).trans hx216_0
                                            replace p216 := eq_true p216
                                            replace q216 := eq_true q216
                                            go_wp2
                                            repeat (go_quiet (fail); try go_wp2)
                                            go_meet
                                            case rel => exact ⟨_, (true), (by first | rfl | (simp; done) | (simp [*]; done)), H', ⟨by have := HJ9.out; have := HK2.out; have := HJ22.out; first | omega | exact Nat.le_refl _⟩, ⟨by (with_reducible repeat (first | apply Kd.R_alloc | apply Kd.R_drewN | apply Kd.R_drew)); exact HO_5.out⟩, ⟨by (with_reducible repeat (first | apply Kd.R_alloc | apply Kd.R_drewN | apply Kd.R_drew)); exact HO_7.out⟩, ⟨by repeat (first | (with_reducible first | exact HB.out | apply below_alloc | apply pw_below_drewN | apply below_drew1) | exact HB.out)⟩⟩
                                          · rw [if_neg c33] at H
                                            have c33b0 : decide ((rd l0 x9_2) < 0) = false := decide_eq_false c33
                                            clear c33
                                            by_cases c34 : (rd t207 x9_2) < 0
                                            · rw [if_pos c34] at H
                                              have c34b0 : decide ((rd t207 x9_2) < 0) = true := decide_eq_true c34
                                              clear c34
                                              by_cases c35 : (rd l0 x9_2) > 0
                                              · rw [if_pos c35] at H
                                                have c35b0 : decide (0 < (rd l0 x9_2)) = true := decide_eq_true c35
                                                clear c35
                                                have H' := Aside0.mk H
                                                clear H
                                                have p214 : 0 ≤ (x9_2 : Int) := of_decide_eq_true (by first | (with_reducible assumption) | assumption)
                                                have q214 : x9_2 < (l1.length : Int) := of_decide_eq_true (by first | (with_reducible assumption) | assumption)
                                                obtain ⟨ad214, e214, hx214_0⟩ := Kd.at_int HR1.out x9_2 p214 q214
                                                cases e214
                                                replace hx214_0 := (HB.out.cell (World.block_lt_of_cell? w _ hx214_0)).trans hx214_0
                                                replace p214 := eq_true p214
                                                replace q214 := eq_true q214
                                                have p215 : 0 ≤ (x9_2 : Int) := of_decide_eq_true (by first | (with_reducible assumption) | assumption)
                                                have q215 : x9_2 < (t207.length : Int) := of_decide_eq_true (by first | (with_reducible assumption) | assumption)
                                                obtain ⟨ad215, e215, hx215_0⟩ := Kd.at_int (Kd.R_reads' HO_7.out).2.2 x9_2 p215 q215
                                                obtain rfl : ad212 = ad215 := (by injection e215)
                                                replace p215 := eq_true p215
                                                replace q215 := eq_true q215
                                                have p216 : 0 ≤ (x9_2 : Int) := of_decide_eq_true (by first | (with_reducible assumption) | assumption)
                                                have q216 : x9_2 < (l0.length : Int) := of_decide_eq_true (by first | (with_reducible assumption) | assumption)
                                                obtain ⟨ad216, e216, hx216_0⟩ := Kd.at_int HR0.out x9_2 p216 q216
                                                obtain rfl : ad213 = ad216 := (by injection e216)
                                                replace hx216_0 := (HB.out.cell (World.block_lt_of_cell? w _ hx216_0)).trans hx216_0
                                                replace p216 := eq_true p216
                                                replace q216 := eq_true q216
                                                have p217 : 0 ≤ (x9_2 : Int) := of_decide_eq_true (by first | (with_reducible assumption) | assumption)
                                                have q217 : x9_2 < (t207.length : Int) := of_decide_eq_true (by first | (with_reducible assumption) | assumption)
                                                obtain ⟨ad217, e217, hx217_0⟩ := Kd.at_int (Kd.R_reads' HO_7.out).2.2 x9_2 p217 q217
                                                obtain rfl : ad212 = ad217 := (by injection e217)
                                                replace p217 := eq_true p217
                                                replace q217 := eq_true q217
                                                have p218 : 0 ≤ (x9_2 : Int) := of_decide_eq_true (by first | (with_reducible assumption) | assumption)
                                                have q218 : x9_2 < (l0.length : Int) := of_decide_eq_true (by first | (with_reducible assumption) | assumption)
                                                obtain ⟨ad218, e218, hx218_0⟩ := Kd.at_int HR0.out x9_2 p218 q218
                                                obtain rfl : ad213 = ad218 := (by injection e218)
                                                replace hx218_0 := (HB.out.cell (World.block_lt_of_cell? w _ hx218_0)).trans hx218_0
                                                replace p218 := eq_true p218
                                                replace q218 := eq_true q218
                                                go_wp2
                                                repeat (go_quiet (fail); try go_wp2)
                                                go_meet
                                                case rel => exact ⟨_, (true), (by first | rfl | (simp; done) | (simp [*]; done)), H', ⟨by have := HJ9.out; have := HK2.out; have := HJ22.out; first | omega | exact Nat.le_refl _⟩, ⟨by (with_reducible repeat (first | apply Kd.R_alloc | apply Kd.R_drewN | apply Kd.R_drew)); exact HO_5.out⟩, ⟨by (with_reducible repeat (first | apply Kd.R_alloc | apply Kd.R_drewN | apply Kd.R_drew)); exact HO_7.out⟩, ⟨by repeat (first | (with_reducible first | exact HB.out | apply below_alloc | apply pw_below_drewN | apply below_drew1) | exact HB.out)⟩⟩
                                              · rw [if_neg c35] at H
                                                have c35b0 : decide (0 < (rd l0 x9_2)) = false := decide_eq_false c35
                                                clear c35
                                                by_cases c36 : x9_2 < (t202.length : Int)
                                                · rw [if_pos c36] at H
                                                  have c36b0 : decide (x9_2 < (t202.length : Int)) = true := decide_eq_true c36
                                                  clear c36
                                                  by_cases c37 : (rd t202 x9_2) > 0
                                                  · rw [if_pos c37] at H
                                                    have c37b0 : decide (0 < (rd t202 x9_2)) = true := decide_eq_true c37
                                                    clear c37
                                                    by_cases c38 : (rd l0 x9_2) ≤ 0
                                                    · rw [if_pos c38] at H
                                                      have c38b0 : decide ((rd l0 x9_2) ≤ 0) = true := decide_eq_true c38
                                                      clear c38
                                                      have H' := Aside0.mk H
                                                      clear H
                                                      have p214 : 0 ≤ (x9_2 : Int) := of_decide_eq_true (by first | (with_reducible assumption) | assumption)
                                                      have q214 : x9_2 < (l1.length : Int) := of_decide_eq_true (by first | (with_reducible assumption) | assumption)
                                                      obtain ⟨ad214, e214, hx214_0⟩ := Kd.at_int HR1.out x9_2 p214 q214
                                                      cases e214
                                                      replace hx214_0 := (HB.out.cell (World.block_lt_of_cell? w _ hx214_0)).trans hx214_0
                                                      replace p214 := eq_true p214
                                                      replace q214 := eq_true q214
                                                      have p215 : 0 ≤ (x9_2 : Int) := of_decide_eq_true (by first | (with_reducible assumption) | assumption)
                                                      have q215 : x9_2 < (t207.length : Int) := of_decide_eq_true (by first | (with_reducible assumption) | assumption)
                                                      obtain ⟨ad215, e215, hx215_0⟩ := Kd.at_int (Kd.R_reads' HO_7.out).2.2 x9_2 p215 q215
                                                      obtain rfl : ad212 = ad215 := (by injection e215)
                                                      replace p215 := eq_true p215
                                                      replace q215 := eq_true q215
                                                      have p216 : 0 ≤ (x9_2 : Int) := of_decide_eq_true (by first | (with_reducible assumption) | assumption)
                                                      have q216 : x9_2 < (l0.length : Int) := of_decide_eq_true (by first | (with_reducible assumption) | assumption)
                                                      obtain ⟨ad216, e216, hx216_0⟩ := Kd.at_int HR0.out x9_2 p216 q216
                                                      obtain rfl : ad213 = ad216 := (by injection e216)
                                                      replace hx216_0 := (HB.out.cell (World.block_lt_of_cell? w _ hx216_0)).trans hx216_0
                                                      replace p216 := eq_true p216
                                                      replace q216 := eq_true q216
                                                      have p217 : 0 ≤ (x9_2 : Int) := of_decide_eq_true (by first | (with_reducible assumption) | assumption)
                                                      have q217 : x9_2 < (t207.length : Int) := of_decide_eq_true (by first | (with_reducible assumption) | assumption)
                                                      obtain ⟨ad217, e217, hx217_0⟩ := Kd.at_int (Kd.R_reads' HO_7.out).2.2 x9_2 p217 q217
                                                      obtain rfl : ad212 = ad217 := (by injection e217)
                                                      replace p217 := eq_true p217
                                                      replace q217 := eq_true q217
                                                      have p218 : 0 ≤ (x9_2 : Int) := of_decide_eq_true (by first | (with_reducible assumption) | assumption)
                                                      have q218 : x9_2 < (l0.length : Int) := of_decide_eq_true (by first | (with_reducible assumption) | assumption)
                                                      obtain ⟨ad218, e218, hx218_0⟩ := Kd.at_int HR0.out x9_2 p218 q218
                                                      obtain rfl : ad213 = ad218 := (by injection e218)
                                                      replace hx218_0 := (HB.out.cell (World.block_lt_of_cell? w _ hx218_0)).trans hx218_0
                                                      replace p218 := eq_true p218
                                                      replace q218 := eq_true q218
                                                      have p219 : 0 ≤ (x9_2 : Int) := of_decide_eq_true (by first | (with_reducible assumption) | assumption)
                                                      have q219 : x9_2 < (t202.length : Int) := of_decide_eq_true (by first | (with_reducible assumption) | assumption)
                                                      obtain ⟨ad219, e219, hx219_0⟩ := Kd.at_int (Kd.R_reads' HO_5.out).2.2 x9_2 p219 q219
                                                      cases e219
                                                      replace p219 := eq_true p219
                                                      replace q219 := eq_true q219
                                                      have p220 : 0 ≤ (x9_2 : Int) := of_decide_eq_true (by first | (with_reducible assumption) | assumption)
                                                      have q220 : x9_2 < (l0.length : Int) := of_decide_eq_true (by first | (with_reducible assumption) | assumption)
                                                      obtain ⟨ad220, e220, hx220_0⟩ := Kd.at_int HR0.out x9_2 p220 q220
                                                      obtain rfl : ad213 = ad220 := (by injection e220)
                                                      replace hx220_0 := (HB.out.cell (World.block_lt_of_cell? w _ hx220_0)).trans hx220_0
                                                      replace p220 := eq_true p220
                                                      replace q220 := eq_true q220
                                                      go_wp2
                                                      repeat (go_quiet (fail); try go_wp2)
                                                      go_meet
                                                      case rel => exact ⟨_, (true), (by first | rfl | (simp; done) | (simp [*]; done)), H', ⟨by have := HJ9.out; have := HK2.out; have := HJ22.out; first | omega | exact Nat.le_refl _⟩, ⟨by (with_reducible repeat (first | apply Kd.R_alloc | apply Kd.R_drewN | apply Kd.R_drew)); exact HO_5.out⟩, ⟨by (with_reducible repeat (first | apply Kd.R_alloc | apply Kd.R_drewN | apply Kd.R_drew)); exact HO_7.out⟩, ⟨by repeat (first | (with_reducible first | exact HB.out | apply below_alloc | apply pw_below_drewN | apply below_drew1) | exact HB.out)⟩⟩
                                                    · rw [if_neg c38] at H
                                                      have c38b0 : decide ((rd l0 x9_2) ≤ 0) = false := decide_eq_false c38
                                                      clear c38
                                                      by_cases c39 : (rd t202 x9_2) < 0
                                                      · rw [if_pos c39] at H
                                                        have c39b0 : decide ((rd t202 x9_2) < 0) = true := decide_eq_true c39
                                                        clear c39
                                                        have H' := Aside0.mk H
                                                        clear H
                                                        have p214 : 0 ≤ (x9_2 : Int) := of_decide_eq_true (by first | (with_reducible assumption) | assumption)
                                                        have q214 : x9_2 < (l1.length : Int) := of_decide_eq_true (by first | (with_reducible assumption) | assumption)
                                                        obtain ⟨ad214, e214, hx214_0⟩ := Kd.at_int HR1.out x9_2 p214 q214
                                                        cases e214
                                                        replace hx214_0 := (HB.out.cell (World.block_lt_of_cell? w _ hx214_0)).trans hx214_0
                                                        replace p214 := eq_true p214
                                                        replace q214 := eq_true q214
                                                        have p215 : 0 ≤ (x9_2 : Int) := of_decide_eq_true (by first | (with_reducible assumption) | assumption)
                                                        have q215 : x9_2 < (t207.length : Int) := of_decide_eq_true (by first | (with_reducible assumption) | assumption)
                                                        obtain ⟨ad215, e215, hx215_0⟩ := Kd.at_int (Kd.R_reads' HO_7.out).2.2 x9_2 p215 q215
                                                        obtain rfl : ad212 = ad215 := (by injection e215)
                                                        replace p215 := eq_true p215
                                                        replace q215 := eq_true q215
                                                        have p216 : 0 ≤ (x9_2 : Int) := of_decide_eq_true (by first | (with_reducible assumption) | assumption)
                                                        have q216 : x9_2 < (l0.length : Int) := of_decide_eq_true (by first | (with_reducible assumption) | assumption)
                                                        obtain ⟨ad216, e216, hx216_0⟩ := Kd.at_int HR0.out x9_2 p216 q216
                                                        obtain rfl : ad213 = ad216 := (by injection e216)
                                                        replace hx216_0 := (HB.out.cell (World.block_lt_of_cell? w _ hx216_0)).trans hx216_0
                                                        replace p216 := eq_true p216
                                                        replace q216 := eq_true q216
                                                        have p217 : 0 ≤ (x9_2 : Int) := of_decide_eq_true (by first | (with_reducible assumption) | assumption)
                                                        have q217 : x9_2 < (t207.length : Int) := of_decide_eq_true (by first | (with_reducible assumption) | assumption)
                                                        obtain ⟨ad217, e217, hx217_0⟩ := Kd.at_int (Kd.R_reads' HO_7.out).2.2 x9_2 p217 q217
                                                        obtain rfl : ad212 = ad217 := (by injection e217)
                                                        replace p217 := eq_true p217
                                                        replace q217 := eq_true q217
                                                        have p218 : 0 ≤ (x9_2 : Int) := of_decide_eq_true (by first | (with_reducible assumption) | assumption)
                                                        have q218 : x9_2 < (l0.length : Int) := of_decide_eq_true (by first | (with_reducible assumption) | assumption)
                                                        obtain ⟨ad218, e218, hx218_0⟩ := Kd.at_int HR0.out x9_2 p218 q218
                                                        obtain rfl : ad213 = ad218 := (by injection e218)
                                                        replace hx218_0 := (HB.out.cell (World.block_lt_of_cell? w _ hx218_0)).trans hx218_0
                                                        replace p218 := eq_true p218
                                                        replace q218 := eq_true q218
                                                        have p219 : 0 ≤ (x9_2 : Int) := of_decide_eq_true (by first | (with_reducible assumption) | assumption)
                                                        have q219 : x9_2 < (t202.length : Int) := of_decide_eq_true (by first | (with_reducible assumption) | assumption)
                                                        obtain ⟨ad219, e219, hx219_0⟩ := Kd.at_int (Kd.R_reads' HO_5.out).2.2 x9_2 p219 q219
                                                        cases e219
                                                        replace p219 := eq_true p219
                                                        replace q219 := eq_true q219
                                                        have p220 : 0 ≤ (x9_2 : Int) := of_decide_eq_true (by first | (with_reducible assumption) | assumption)
                                                        have q220 : x9_2 < (l0.length : Int) := of_decide_eq_true (by first | (with_reducible assumption) | assumption)
                                                        obtain ⟨ad220, e220, hx220_0⟩ := Kd.at_int HR0.out x9_2 p220 q220
                                                        obtain rfl : ad213 = ad220 := (by injection e220)
                                                        replace hx220_0 := (HB.out.cell (World.block_lt_of_cell? w _ hx220_0)).trans hx220_0
                                                        replace p220 := eq_true p220
                                                        replace q220 := eq_true q220
                                                        have p221 : 0 ≤ (x9_2 : Int) := of_decide_eq_true (by first | (with_reducible assumption) | assumption)
                                                        have q221 : x9_2 < (t202.length : Int) := of_decide_eq_true (by first | (with_reducible assumption) | assumption)
                                                        obtain ⟨ad221, e221, hx221_0⟩ := Kd.at_int (Kd.R_reads' HO_5.out).2.2 x9_2 p221 q221
                                                        obtain rfl : ad219 = ad221 := (by injection e221)
                                                        replace p221 := eq_true p221
                                                        replace q221 := eq_true q221
                                                        have p222 : 0 ≤ (x9_2 : Int) := of_decide_eq_true (by first | (with_reducible assumption) | assumption)
                                                        have q222 : x9_2 < (l0.length : Int) := of_decide_eq_true (by first | (with_reducible assumption) | assumption)
                                                        obtain ⟨ad222, e222, hx222_0⟩ := Kd.at_int HR0.out x9_2 p222 q222
                                                        obtain rfl : ad213 = ad222 := (by injection e222)
                                                        replace hx222_0 := (HB.out.cell (World.block_lt_of_cell? w _ hx222_0)).trans hx222_0
                                                        replace p222 := eq_true p222
                                                        replace q222 := eq_true q222
                                                        go_wp2
                                                        repeat (go_quiet (fail); try go_wp2)
                                                        go_meet
                                                        case rel => exact ⟨_, (decide ((rd l0 x9_2) ≥ 0)), (by first | rfl | (simp; done) | (simp [*]; done)), H', ⟨by have := HJ9.out; have := HK2.out; have := HJ22.out; first | omega | exact Nat.le_refl _⟩, ⟨by (with_reducible repeat (first | apply Kd.R_alloc | apply Kd.R_drewN | apply Kd.R_drew)); exact HO_5.out⟩, ⟨by (with_reducible repeat (first | apply Kd.R_alloc | apply Kd.R_drewN | apply Kd.R_drew)); exact HO_7.out⟩, ⟨by repeat (first | (with_reducible first | exact HB.out | apply below_alloc | apply pw_below_drewN | apply below_drew1) | exact HB.out)⟩⟩
                                                      · rw [if_neg c39] at H
                                                        have c39b0 : decide ((rd t202 x9_2) < 0) = false := decide_eq_false c39
                                                        clear c39
                                                        have H' := Aside0.mk H
                                                        clear H
                                                        have p214 : 0 ≤ (x9_2 : Int) := of_decide_eq_true (by first | (with_reducible assumption) | assumption)
                                                        have q214 : x9_2 < (l1.length : Int) := of_decide_eq_true (by first | (with_reducible assumption) | assumption)
                                                        obtain ⟨ad214, e214, hx214_0⟩ := Kd.at_int HR1.out x9_2 p214 q214
                                                        cases e214
                                                        replace hx214_0 := (HB.out.cell (World.block_lt_of_cell? w _ hx214_0)).trans hx214_0
                                                        replace p214 := eq_true p214
                                                        replace q214 := eq_true q214
                                                        have p215 : 0 ≤ (x9_2 : Int) := of_decide_eq_true (by first | (with_reducible assumption) | assumption)
                                                        have q215 : x9_2 < (t207.length : Int) := of_decide_eq_true (by first | (with_reducible assumption) | assumption)
                                                        obtain ⟨ad215, e215, hx215_0⟩ := Kd.at_int (Kd.R_reads' HO_7.out).2.2 x9_2 p215 q215
                                                        obtain rfl : ad212 = ad215 := (by injection e215)
                                                        replace p215 := eq_true p215
                                                        replace q215 := eq_true q215
                                                        have p216 : 0 ≤ (x9_2 : Int) := of_decide_eq_true (by first | (with_reducible assumption) | assumption)
                                                        have q216 : x9_2 < (l0.length : Int) := of_decide_eq_true (by first | (with_reducible assumption) | assumption)
                                                        obtain ⟨ad216, e216, hx216_0⟩ := Kd.at_int HR0.out x9_2 p216 q216
                                                        obtain rfl : ad213 = ad216 := (by injection e216)
                                                        replace hx216_0 := (HB.out.cell (World.block_lt_of_cell? w _ hx216_0)).trans hx216_0
                                                        replace p216 := eq_true p216
                                                        replace q216 := eq_true q216
                                                        have p217 : 0 ≤ (x9_2 : Int) := of_decide_eq_true (by first | (with_reducible assumption) | assumption)
                                                        have q217 : x9_2 < (t207.length : Int) := of_decide_eq_true (by first | (with_reducible assumption) | assumption)
                                                        obtain ⟨ad217, e217, hx217_0⟩ := Kd.at_int (Kd.R_reads' HO_7.out).2.2 x9_2 p217 q217
                                                        obtain rfl : ad212 = ad217 := (by injection e217)
                                                        replace p217 := eq_true p217
                                                        replace q217 := eq_true q217
                                                        have p218 : 0 ≤ (x9_2 : Int) := of_decide_eq_true (by first | (with_reducible assumption) | assumption)
                                                        have q218 : x9_2 < (l0.length : Int) := of_decide_eq_true (by first | (with_reducible assumption) | assumption)
                                                        obtain ⟨ad218, e218, hx218_0⟩ := Kd.at_int HR0.out x9_2 p218 q218
                                                        obtain rfl : ad213 = ad218 := (by injection e218)
                                                        replace hx218_0 := (HB.out.cell (World.block_lt_of_cell? w _ hx218_0)).trans hx218_0
                                                        replace p218 := eq_true p218
                                                        replace q218 := eq_true q218
                                                        have p219 : 0 ≤ (x9_2 : Int) := of_decide_eq_true (by first | (with_reducible assumption) | assumption)
                                                        have q219 : x9_2 < (t202.length : Int) := of_decide_eq_true (by first | (with_reducible assumption) | assumption)
                                                        obtain ⟨ad219, e219, hx219_0⟩ := Kd.at_int (Kd.R_reads' HO_5.out).2.2 x9_2 p219 q219
                                                        cases e219
                                                        replace p219 := eq_true p219
                                                        replace q219 := eq_true q219
                                                        have p220 : 0 ≤ (x9_2 : Int) := of_decide_eq_true (by first | (with_reducible assumption) | assumption)
                                                        have q220 : x9_2 < (l0.length : Int) := of_decide_eq_true (by first | (with_reducible assumption) | assumption)
                                                        obtain ⟨ad220, e220, hx220_0⟩ := Kd.at_int HR0.out x9_2 p220 q220
                                                        obtain rfl : ad213 = ad220 := (by injection e220)
                                                        replace hx220_0 := (HB.out.cell (World.block_lt_of_cell? w _ hx220_0)).trans hx220_0
                                                        replace p220 := eq_true p220
                                                        replace q220 := eq_true q220
                                                        have p221 : 0 ≤ (x9_2 : Int) := of_decide_eq_true (by first | (with_reducible assumption) | assumption)
                                                        have q221 : x9_2 < (t202.length : Int) := of_decide_eq_true (by first | (with_reducible assumption) | assumption)
                                                        obtain ⟨ad221, e221, hx221_0⟩ := Kd.at_int (Kd.R_reads' HO_5.out).2.2 x9_2 p221 q221
                                                        obtain rfl : ad219 = ad221 := (by injection e221)
                                                        replace p221 := eq_true p221
                                                        replace q221 := eq_true q221
                                                        go_wp2
                                                        repeat (go_quiet (fail); try go_wp2)
                                                        go_meet
                                                        case rel => exact ⟨_, (false), (by first | rfl | (simp; done) | (simp [*]; done)), H', ⟨by have := HJ9.out; have := HK2.out; have := HJ22.out; first | omega | exact Nat.le_refl _⟩, ⟨by (with_reducible repeat (first | apply Kd.R_alloc | apply Kd.R_drewN | apply Kd.R_drew)); exact HO_5.out⟩, ⟨by (with_reducible repeat (first | apply Kd.R_alloc | apply Kd.R_drewN | apply Kd.R_drew)); exact HO_7.out⟩, ⟨by repeat (first | (with_reducible first | exact HB.out | apply below_alloc | apply pw_below_drewN | apply below_drew1) | exact HB.out)⟩⟩
                                                  · rw [if_neg c37] at H
                                                    have c37b0 : decide (0 < (rd t202 x9_2)) = false := decide_eq_false c37
                                                    clear c37
                                                    by_cases c40 : (rd t202 x9_2) < 0
                                                    · rw [if_pos c40] at H
                                                      have c40b0 : decide ((rd t202 x9_2) < 0) = true := decide_eq_true c40
                                                      clear c40
                                                      have H' := Aside0.mk H
                                                      clear H
                                                      have p214 : 0 ≤ (x9_2 : Int) := of_decide_eq_true (by first | (with_reducible assumption) | assumption)
                                                      have q214 : x9_2 < (l1.length : Int) := of_decide_eq_true (by first | (with_reducible assumption) | assumption)
                                                      obtain ⟨ad214, e214, hx214_0⟩ := Kd.at_int HR1.out x9_2 p214 q214
                                                      cases e214
                                                      replace hx214_0 := (HB.out.cell (World.block_lt_of_cell? w _ hx214_0)).trans hx214_0
                                                      replace p214 := eq_true p214
                                                      replace q214 := eq_true q214
                                                      have p215 : 0 ≤ (x9_2 : Int) := of_decide_eq_true (by first | (with_reducible assumption) | assumption)
                                                      have q215 : x9_2 < (t207.length : Int) := of_decide_eq_true (by first | (with_reducible assumption) | assumption)
                                                      obtain ⟨ad215, e215, hx215_0⟩ := Kd.at_int (Kd.R_reads' HO_7.out).2.2 x9_2 p215 q215
                                                      obtain rfl : ad212 = ad215 := (by injection e215)
                                                      replace p215 := eq_true p215
                                                      replace q215 := eq_true q215
                                                      have p216 : 0 ≤ (x9_2 : Int) := of_decide_eq_true (by first | (with_reducible assumption) | assumption)
                                                      have q216 : x9_2 < (l0.length : Int) := of_decide_eq_true (by first | (with_reducible assumption) | assumption)
                                                      obtain ⟨ad216, e216, hx216_0⟩ := Kd.at_int HR0.out x9_2 p216 q216
                                                      obtain rfl : ad213 = ad216 := (by injection e216)
                                                      replace hx216_0 := (HB.out.cell (World.block_lt_of_cell? w _ hx216_0)).trans hx216_0
                                                      replace p216 := eq_true p216
                                                      replace q216 := eq_true q216
                                                      have p217 : 0 ≤ (x9_2 : Int) := of_decide_eq_true (by first | (with_reducible assumption) | assumption)
                                                      have q217 : x9_2 < (t207.length : Int) := of_decide_eq_true (by first | (with_reducible assumption) | assumption)
                                                      obtain ⟨ad217, e217, hx217_0⟩ := Kd.at_int (Kd.R_reads' HO_7.out).2.2 x9_2 p217 q217
                                                      obtain rfl : ad212 = ad217 := (by injection e217)
                                                      replace p217 := eq_true p217
                                                      replace q217 := eq_true q217
                                                      have p218 : 0 ≤ (x9_2 : Int) := of_decide_eq_true (by first | (with_reducible assumption) | assumption)
                                                      have q218 : x9_2 < (l0.length : Int) := of_decide_eq_true (by first | (with_reducible assumption) | assumption)
                                                      obtain ⟨ad218, e218, hx218_0⟩ := Kd.at_int HR0.out x9_2 p218 q218
                                                      obtain rfl : ad213 = ad218 := (by injection e218)
                                                      replace hx218_0 := (HB.out.cell (World.block_lt_of_cell? w _ hx218_0)).trans hx218_0
                                                      replace p218 := eq_true p218
                                                      replace q218 := eq_true q218
                                                      have p219 : 0 ≤ (x9_2 : Int) := of_decide_eq_true (by first | (with_reducible assumption) | assumption)
                                                      have q219 : x9_2 < (t202.length : Int) := of_decide_eq_true (by first | (with_reducible assumption) | assumption)
                                                      obtain ⟨ad219, e219, hx219_0⟩ := Kd.at_int (Kd.R_reads' HO_5.out).2.2 x9_2 p219 q219
                                                      cases e219
                                                      replace p219 := eq_true p219
                                                      replace q219 := eq_true q219
                                                      have p223 : 0 ≤ (x9_2 : Int) := of_decide_eq_true (by first | (with_reducible assumption) | assumption)
                                                      have q223 : x9_2 < (t202.length : Int) := of_decide_eq_true (by first | (with_reducible assumption) | assumption)
                                                      obtain ⟨ad223, e223, hx223_0⟩ := Kd.at_int (Kd.R_reads' HO_5.out).2.2 x9_2 p223 q223
                                                      obtain rfl : ad219 = ad223 := (by injection e223)
                                                      replace p223 := eq_true p223
                                                      replace q223 := eq_true q223
                                                      have p224 : 0 ≤ (x9_2 : Int) := of_decide_eq_true (by first | (with_reducible assumption) | assumption)
                                                      have q224 : x9_2 < (l0.length : Int) := of_decide_eq_true (by first | (with_reducible assumption) | assumption)
                                                      obtain ⟨ad224, e224, hx224_0⟩ := Kd.at_int HR0.out x9_2 p224 q224
                                                      obtain rfl : ad213 = ad224 := (by injection e224)
                                                      replace hx224_0 := (HB.out.cell (World.block_lt_of_cell? w _ hx224_0)).trans hx224_0
                                                      replace p224 := eq_true p224
                                                      replace q224 := eq_true q224
                                                      go_wp2
                                                      repeat (go_quiet (fail); try go_wp2)
                                                      go_meet
                                                      case rel => exact ⟨_, (decide ((rd l0 x9_2) ≥ 0)), (by first | rfl | (simp; done) | (simp [*]; done)), H', ⟨by have := HJ9.out; have := HK2.out; have := HJ22.out; first | omega | exact Nat.le_refl _⟩, ⟨by (with_reducible repeat (first | apply Kd.R_alloc | apply Kd.R_drewN | apply Kd.R_drew)); exact HO_5.out⟩, ⟨by (with_reducible repeat (first | apply Kd.R_alloc | apply Kd.R_drewN | apply Kd.R_drew)); exact HO_7.out⟩, ⟨by repeat (first | (with_reducible first | exact HB.out | apply below_alloc | apply pw_below_drewN | apply below_drew1) | exact HB.out)⟩⟩
                                                    · rw [if_neg c40] at H
                                                      have c40b0 : decide ((rd t202 x9_2) < 0) = false := decide_eq_false c40
                                                      clear c40
                                                      have H' := Aside0.mk H
                                                      clear H
                                                      have p214 : 0 ≤ (x9_2 : Int) := of_decide_eq_true (by first | (with_reducible assumption) | assumption)
                                                      have q214 : x9_2 < (l1.length : Int) := of_decide_eq_true (by first | (with_reducible assumption) | assumption)
                                                      obtain ⟨ad214, e214, hx214_0⟩ := Kd.at_int HR1.out x9_2 p214 q214
                                                      cases e214
                                                      replace hx214_0 := (HB.out.cell (World.block_lt_of_cell? w _ hx214_0)).trans hx214_0
                                                      replace p214 := eq_true p214
                                                      replace q214 := eq_true q214
                                                      have p215 : 0 ≤ (x9_2 : Int) := of_decide_eq_true (by first | (with_reducible assumption) | assumption)
                                                      have q215 : x9_2 < (t207.length : Int) := of_decide_eq_true (by first | (with_reducible assumption) | assumption)
                                                      obtain ⟨ad215, e215, hx215_0⟩ := Kd.at_int (Kd.R_reads' HO_7.out).2.2 x9_2 p215 q215
                                                      obtain rfl : ad212 = ad215 := (by injection e215)
                                                      replace p215 := eq_true p215
                                                      replace q215 := eq_true q215
                                                      have p216 : 0 ≤ (x9_2 : Int) := of_decide_eq_true (by first | (with_reducible assumption) | assumption)
                                                      have q216 : x9_2 < (l0.length : Int) := of_decide_eq_true (by first | (with_reducible assumption) | assumption)
                                                      obtain ⟨ad216, e216, hx216_0⟩ := Kd.at_int HR0.out x9_2 p216 q216
                                                      obtain rfl : ad213 = ad216 := (by injection e216)
                                                      replace hx216_0 := (HB.out.cell (World.block_lt_of_cell? w _ hx216_0)).trans hx216_0
                                                      replace p216 := eq_true p216
                                                      replace q216 := eq_true q216
                                                      have p217 : 0 ≤ (x9_2 : Int) := of_decide_eq_true (by first | (with_reducible assumption) | assumption)
                                                      have q217 : x9_2 < (t207.length : Int) := of_decide_eq_true (by first | (with_reducible assumption) | assumption)
                                                      obtain ⟨ad217, e217, hx217_0⟩ := Kd.at_int (Kd.R_reads' HO_7.out).2.2 x9_2 p217 q217
                                                      obtain rfl : ad212 = ad217 := (by injection e217)
                                                      replace p217 := eq_true p217
                                                      replace q217 := eq_true q217
                                                      have p218 : 0 ≤ (x9_2 : Int) := of_decide_eq_true (by first | (with_reducible assumption) | assumption)
                                                      have q218 : x9_2 < (l0.length : Int) := of_decide_eq_true (by first | (with_reducible assumption) | assumption)
                                                      obtain ⟨ad218, e218, hx218_0⟩ := Kd.at_int HR0.out x9_2 p218 q218
                                                      obtain rfl : ad213 = ad218 := (by injection e218)
                                                      replace hx218_0 := (HB.out.cell (World.block_lt_of_cell? w _ hx218_0)).trans hx218_0
                                                      replace p218 := eq_true p218
                                                      replace q218 := eq_true q218
                                                      have p219 : 0 ≤ (x9_2 : Int) := of_decide_eq_true (by first | (with_reducible assumption) | assumption)
                                                      have q219 : x9_2 < (t202.length : Int) := of_decide_eq_true (by first | (with_reducible assumption) | assumption)
                                                      obtain ⟨ad219, e219, hx219_0⟩ := Kd.at_int (Kd.R_reads' HO_5.out).2.2 x9_2 p219 q219
                                                      cases e219
                                                      replace p219 := eq_true p219
                                                      replace q219 := eq_true q219
                                                      have p223 : 0 ≤ (x9_2 : Int) := of_decide_eq_true (by first | (with_reducible assumption) | assumption)
                                                      have q223 : x9_2 < (t202.length : Int) := of_decide_eq_true (by first | (with_reducible assumption) | assumption)
                                                      obtain ⟨ad223, e223, hx223_0⟩ := Kd.at_int (Kd.R_reads' HO_5.out).2.2 x9_2 p223 q223
                                                      obtain rfl : ad219 = ad223 := (by injection e223)
                                                      replace p223 := eq_true p223
                                                      replace q223 := eq_true q223
                                                      go_wp2
                                                      repeat (go_quiet (fail); try go_wp2)
                                                      go_meet
                                                      case rel => exact ⟨_, (false), (by first | rfl | (simp; done) | (simp [*]; done)), H', ⟨by have := HJ9.out; have := HK2.out; have := HJ22.out; first | omega | exact Nat.le_refl _⟩, ⟨by (with_reducible repeat (first | apply Kd.R_alloc | apply Kd.R_drewN | apply Kd.R_drew)); exact HO_5.out⟩, ⟨by (with_reducible repeat (first | apply Kd.R_alloc | apply Kd.R_drewN | apply Kd.R_drew)); exact HO_7.out⟩, ⟨by repeat (first | (with_reducible first | exact HB.out | apply below_alloc | apply pw_below_drewN | apply below_drew1) | exact HB.out)⟩⟩
                                                · rw [if_neg c36] at H
                                                  exact absurd H (by simp)
                                            · rw [if_neg c34] at H
                                              have c34b0 : decide ((rd t207 x9_2) < 0) = false := decide_eq_false c34
                                              clear c34
                                              by_cases c41 : x9_2 < (t202.length : Int)
                                              · rw [if_pos c41] at H
                                                have c41b0 : decide (x9_2 < (t202.length : Int)) = true := decide_eq_true c41
                                                clear c41
                                                by_cases c42 : (rd t202 x9_2) > 0
                                                · rw [if_pos c42] at H
                                                  have c42b0 : decide (0 < (rd t202 x9_2)) = true := decide_eq_true c42
                                                  clear c42
                                                  by_cases c43 : (rd l0 x9_2) ≤ 0
                                                  · rw [if_pos c43] at H
                                                    have c43b0 : decide ((rd l0 x9_2) ≤ 0) = true := decide_eq_true c43
                                                    clear c43
                                                    have H' := Aside0.mk H
                                                    clear H
                                                    have p214 : 0 ≤ (x9_2 : Int) := of_decide_eq_true (by first | (with_reducible assumption) | assumption)
                                                    have q214 : x9_2 < (l1.length : Int) := of_decide_eq_true (by first | (with_reducible assumption) | assumption)
                                                    obtain ⟨ad214, e214, hx214_0⟩ := Kd.at_int HR1.out x9_2 p214 q214
                                                    cases e214
                                                    replace hx214_0 := (HB.out.cell (World.block_lt_of_cell? w _ hx214_0)).trans hx214_0
                                                    replace p214 := eq_true p214
                                                    replace q214 := eq_true q214
                                                    have p215 : 0 ≤ (x9_2 : Int) := of_decide_eq_true (by first | (with_reducible assumption) | assumption)
                                                    have q215 : x9_2 < (t207.length : Int) := of_decide_eq_true (by first | (with_reducible assumption) | assumption)
                                                    obtain ⟨ad215, e215, hx215_0⟩ := Kd.at_int (Kd.R_reads' HO_7.out).2.2 x9_2 p215 q215
                                                    obtain rfl : ad212 = ad215 := (by injection e215)
                                                    replace p215 := eq_true p215
                                                    replace q215 := eq_true q215
                                                    have p216 : 0 ≤ (x9_2 : Int) := of_decide_eq_true (by first | (with_reducible assumption) | assumption)
                                                    have q216 : x9_2 < (l0.length : Int) := of_decide_eq_true (by first | (with_reducible assumption) | assumption)
                                                    obtain ⟨ad216, e216, hx216_0⟩ := Kd.at_int HR0.out x9_2 p216 q216
                                                    obtain rfl : ad213 = ad216 := (by injection e216)
                                                    replace hx216_0 := (HB.out.cell (World.block_lt_of_cell? w _ hx216_0)).trans hx216_0
                                                    replace p216 := eq_true p216
                                                    replace q216 := eq_true q216
                                                    have p217 : 0 ≤ (x9_2 : Int) := of_decide_eq_true (by first | (with_reducible assumption) | assumption)
                                                    have q217 : x9_2 < (t207.length : Int) := of_decide_eq_true (by first | (with_reducible assumption) | assumption)
                                                    obtain ⟨ad217, e217, hx217_0⟩ := Kd.at_int (Kd.R_reads' HO_7.out).2.2 x9_2 p217 q217
                                                    obtain rfl : ad212 = ad217 := (by injection e217)
                                                    replace p217 := eq_true p217
                                                    replace q217 := eq_true q217
                                                    have p225 : 0 ≤ (x9_2 : Int) := of_decide_eq_true (by first | (with_reducible assumption) | assumption)
                                                    have q225 : x9_2 < (t202.length : Int) := of_decide_eq_true (by first | (with_reducible assumption) | assumption)
                                                    obtain ⟨ad225, e225, hx225_0⟩ := Kd.at_int (Kd.R_reads' HO_5.out).2.2 x9_2 p225 q225
                                                    cases e225
                                                    replace p225 := eq_true p225
                                                    replace q225 := eq_true q225
                                                    have p226 : 0 ≤ (x9_2 : Int) := of_decide_eq_true (by first | (with_reducible assumption) | assumption)
                                                    have q226 : x9_2 < (l0.length : Int) := of_decide_eq_true (by first | (with_reducible assumption) | assumption)
                                                    obtain ⟨ad226, e226, hx226_0⟩ := Kd.at_int HR0.out x9_2 p226 q226
                                                    obtain rfl : ad213 = ad226 := (by injection e226)
                                                    replace hx226_0 := (HB.out.cell (World.block_lt_of_cell? w _ hx226_0)).trans hx226_0
                                                    replace p226 := eq_true p226
                                                    replace q226 := eq_true q226
                                                    go_wp2
                                                    repeat (go_quiet (fail); try go_wp2)
                                                    go_meet
                                                    case rel => exact ⟨_, (true), (by first | rfl | (simp; done) | (simp [*]; done)), H', ⟨by have := HJ9.out; have := HK2.out; have := HJ22.out; first | omega | exact Nat.le_refl _⟩, ⟨by (with_reducible repeat (first | apply Kd.R_alloc | apply Kd.R_drewN | apply Kd.R_drew)); exact HO_5.out⟩, ⟨by (with_reducible repeat (first | apply Kd.R_alloc | apply Kd.R_drewN | apply Kd.R_drew)); exact HO_7.out⟩, ⟨by repeat (first | (with_reducible first | exact HB.out | apply below_alloc | apply pw_below_drewN | apply below_drew1) | exact HB.out)⟩⟩
                                                  · rw [if_neg c43] at H
                                                    have c43b0 : decide ((rd l0 x9_2) ≤ 0) = false := decide_eq_false c43
                                                    clear c43
                                                    by_cases c44 : (rd t202 x9_2) < 0
                                                    · rw [if_pos c44] at H
                                                      have c44b0 : decide ((rd t202 x9_2) < 0) = true := decide_eq_true c44
                                                      clear c44
                                                      have H' := Aside0.mk H
                                                      clear H
                                                      have p214 : 0 ≤ (x9_2 : Int) := of_decide_eq_true (by first | (with_reducible assumption) | assumption)
                                                      have q214 : x9_2 < (l1.length : Int) := of_decide_eq_true (by first | (with_reducible assumption) | assumption)
                                                      obtain ⟨ad214, e214, hx214_0⟩ := Kd.at_int HR1.out x9_2 p214 q214
                                                      cases e214
                                                      replace hx214_0 := (HB.out.cell (World.block_lt_of_cell? w _ hx214_0)).trans hx214_0
                                                      replace p214 := eq_true p214
                                                      replace q214 := eq_true q214
                                                      have p215 : 0 ≤ (x9_2 : Int) := of_decide_eq_true (by first | (with_reducible assumption) | assumption)
                                                      have q215 : x9_2 < (t207.length : Int) := of_decide_eq_true (by first | (with_reducible assumption) | assumption)
                                                      obtain ⟨ad215, e215, hx215_0⟩ := Kd.at_int (Kd.R_reads' HO_7.out).2.2 x9_2 p215 q215
                                                      obtain rfl : ad212 = ad215 := (by injection e215)
                                                      replace p215 := eq_true p215
                                                      replace q215 := eq_true q215
                                                      have p216 : 0 ≤ (x9_2 : Int) := of_decide_eq_true (by first | (with_reducible assumption) | assumption)
                                                      have q216 : x9_2 < (l0.length : Int) := of_decide_eq_true (by first | (with_reducible assumption) | assumption)
                                                      obtain ⟨ad216, e216, hx216_0⟩ := Kd.at_int HR0.out x9_2 p216 q216
                                                      obtain rfl : ad213 = ad216 := (by injection e216)
                                                      replace hx216_0 := (HB.out.cell (World.block_lt_of_cell? w _ hx216_0)).trans hx216_0
                                                      replace p216 := eq_true p216
                                                      replace q216 := eq_true q216
                                                      have p217 : 0 ≤ (x9_2 : Int) := of_decide_eq_true (by first | (with_reducible assumption) | assumption)
                                                      have q217 : x9_2 < (t207.length : Int) := of_decide_eq_true (by first | (with_reducible assumption) | assumption)
                                                      obtain ⟨ad217, e217, hx217_0⟩ := Kd.at_int (Kd.R_reads' HO_7.out).2.2 x9_2 p217 q217
                                                      obtain rfl : ad212 = ad217 := (by injection e217)
                                                      replace p217 := eq_true p217
                                                      replace q217 := eq_true q217
                                                      have p225 : 0 ≤ (x9_2 : Int) := of_decide_eq_true (by first | (with_reducible assumption) | assumption)
                                                      have q225 : x9_2 < (t202.length : Int) := of_decide_eq_true (by first | (with_reducible assumption) | assumption)
                                                      obtain ⟨ad225, e225, hx225_0⟩ := Kd.at_int (Kd.R_reads' HO_5.out).2.2 x9_2 p225 q225
                                                      cases e225
                                                      replace p225 := eq_true p225
                                                      replace q225 := eq_true q225
                                                      have p226 : 0 ≤ (x9_2 : Int) := of_decide_eq_true (by first | (with_reducible assumption) | assumption)
                                                      have q226 : x9_2 < (l0.length : Int) := of_decide_eq_true (by first | (with_reducible assumption) | assumption)
                                                      obtain ⟨ad226, e226, hx226_0⟩ := Kd.at_int HR0.out x9_2 p226 q226
                                                      obtain rfl : ad213 = ad226 := (by injection e226)
                                                      replace hx226_0 := (HB.out.cell (World.block_lt_of_cell? w _ hx226_0)).trans hx226_0
                                                      replace p226 := eq_true p226
                                                      replace q226 := eq_true q226
                                                      have p227 : 0 ≤ (x9_2 : Int) := of_decide_eq_true (by first | (with_reducible assumption) | assumption)
                                                      have q227 : x9_2 < (t202.length : Int) := of_decide_eq_true (by first | (with_reducible assumption) | assumption)
                                                      obtain ⟨ad227, e227, hx227_0⟩ := Kd.at_int (Kd.R_reads' HO_5.out).2.2 x9_2 p227 q227
                                                      obtain rfl : ad225 = ad227 := (by injection e227)
                                                      replace p227 := eq_true p227
                                                      replace q227 := eq_true q227
                                                      have p228 : 0 ≤ (x9_2 : Int) := of_decide_eq_true (by first | (with_reducible assumption) | assumption)
                                                      have q228 : x9_2 < (l0.length : Int) := of_decide_eq_true (by first | (with_reducible assumption) | assumption)
                                                      obtain ⟨ad228, e228, hx228_0⟩ := Kd.at_int HR0.out x9_2 p228 q228
                                                      obtain rfl : ad213 = ad228 := (by injection e228)
                                                      replace hx228_0 := (HB.out.cell (World.block_lt_of_cell? w _ hx228_0)).trans hx228_0
                                                      replace p228 := eq_true p228
                                                      replace q228 := eq_true q228
                                                      go_wp2
                                                      repeat (go_quiet (fail); try go_wp2)
                                                      go_meet
                                                      case rel => exact ⟨_, (decide ((rd l0 x9_2) ≥ 0)), (by first | rfl | (simp; done) | (simp [*]; done)), H', ⟨by have := HJ9.out; have := HK2.out; have := HJ22.out; first | omega | exact Nat.le_refl _⟩, ⟨by (with_reducible repeat (first | apply Kd.R_alloc | apply Kd.R_drewN | apply Kd.R_drew)); exact HO_5.out⟩, ⟨by (with_reducible repeat (first | apply Kd.R_alloc | apply Kd.R_drewN | apply Kd.R_drew)); exact HO_7.out⟩, ⟨by repeat (first | (with_reducible first | exact HB.out | apply below_alloc | apply pw_below_drewN | apply below_drew1) | exact HB.out)⟩⟩
                                                    · rw [if_neg c44] at H
                                                      have c44b0 : decide ((rd t202 x9_2) < 0) = false := decide_eq_false c44
                                                      clear c44
                                                      have H' := Aside0.mk H
                                                      clear H
                                                      have p214 : 0 ≤ (x9_2 : Int) := of_decide_eq_true (by first | (with_reducible assumption) | assumption)
                                                      have q214 : x9_2 < (l1.length : Int) := of_decide_eq_true (by first | (with_reducible assumption) | assumption)
                                                      obtain ⟨ad214, e214, hx214_0⟩ := Kd.at_int HR1.out x9_2 p214 q214
                                                      cases e214
                                                      replace hx214_0 := (HB.out.cell (World.block_lt_of_cell? w _ hx214_0)).trans hx214_0
                                                      replace p214 := eq_true p214
                                                      replace q214 := eq_true q214
                                                      have p215 : 0 ≤ (x9_2 : Int) := of_decide_eq_true (by first | (with_reducible assumption) | assumption)
                                                      have q215 : x9_2 < (t207.length : Int) := of_decide_eq_true (by first | (with_reducible assumption) | assumption)
                                                      obtain ⟨ad215, e215, hx215_0⟩ := Kd.at_int (Kd.R_reads' HO_7.out).2.2 x9_2 p215 q215
                                                      obtain rfl : ad212 = ad215 := (by injection e215)
                                                      replace p215 := eq_true p215
                                                      replace q215 := eq_true q215
                                                      have p216 : 0 ≤ (x9_2 : Int) := of_decide_eq_true (by first | (with_reducible assumption) | assumption)
                                                      have q216 : x9_2 < (l0.length : Int) := of_decide_eq_true (by first | (with_reducible assumption) | assumption)
                                                      obtain ⟨ad216, e216, hx216_0⟩ := Kd.at_int HR0.out x9_2 p216 q216
                                                      obtain rfl : ad213 = ad216 := (by injection e216)
                                                      replace hx216_0 := (HB.out.cell (World.block_lt_of_cell? w _ hx216_0)).trans hx216_0
                                                      replace p216 := eq_true p216
                                                      replace q216 := eq_true q216
                                                      have p217 : 0 ≤ (x9_2 : Int) := of_decide_eq_true (by first | (with_reducible assumption) | assumption)
                                                      have q217 : x9_2 < (t207.length : Int) := of_decide_eq_true (by first | (with_reducible assumption) | assumption)
                                                      obtain ⟨ad217, e217, hx217_0⟩ := Kd.at_int (Kd.R_reads' HO_7.out).2.2 x9_2 p217 q217
                                                      obtain rfl : ad212 = ad217 := (by injection e217)
                                                      replace p217 := eq_true p217
                                                      replace q217 := eq_true q217
                                                      have p225 : 0 ≤ (x9_2 : Int) := of_decide_eq_true (by first | (with_reducible assumption) | assumption)
                                                      have q225 : x9_2 < (t202.length : Int) := of_decide_eq_true (by first | (with_reducible assumption) | assumption)
                                                      obtain ⟨ad225, e225, hx225_0⟩ := Kd.at_int (Kd.R_reads' HO_5.out).2.2 x9_2 p225 q225
                                                      cases e225
                                                      replace p225 := eq_true p225
                                                      replace q225 := eq_true q225
                                                      have p226 : 0 ≤ (x9_2 : Int) := of_decide_eq_true (by first | (with_reducible assumption) | assumption)
                                                      have q226 : x9_2 < (l0.length : Int) := of_decide_eq_true (by first | (with_reducible assumption) | assumption)
                                                      obtain ⟨ad226, e226, hx226_0⟩ := Kd.at_int HR0.out x9_2 p226 q226
                                                      obtain rfl : ad213 = ad226 := (by injection e226)
                                                      replace hx226_0 := (HB.out.cell (World.block_lt_of_cell? w _ hx226_0)).trans hx226_0
                                                      replace p226 := eq_true p226
                                                      replace q226 := eq_true q226
                                                      have p227 : 0 ≤ (x9_2 : Int) := of_decide_eq_true (by first | (with_reducible assumption) | assumption)
                                                      have q227 : x9_2 < (t202.length : Int) := of_decide_eq_true (by first | (with_reducible assumption) | assumption)
                                                      obtain ⟨ad227, e227, hx227_0⟩ := Kd.at_int (Kd.R_reads' HO_5.out).2.2 x9_2 p227 q227
                                                      obtain rfl : ad225 = ad227 := (by injection e227)
                                                      replace p227 := eq_true p227
                                                      replace q227 := eq_true q227
                                                      go_wp2
                                                      repeat (go_quiet (fail); try go_wp2)
                                                      go_meet
                                                      case rel => exact ⟨_, (false), (by first | rfl | (simp; done) | (simp [*]; done)), H', ⟨by have := HJ9.out; have := HK2.out; have := HJ22.out; first | omega | exact Nat.le_refl _⟩, ⟨by (with_reducible repeat (first | apply Kd.R_alloc | apply Kd.R_drewN | apply Kd.R_drew)); exact HO_5.out⟩, ⟨by (with_reducible repeat (first | apply Kd.R_alloc | apply Kd.R_drewN | apply Kd.R_drew)); exact HO_7.out⟩, ⟨by repeat (first | (with_reducible first | exact HB.out | apply below_alloc | apply pw_below_drewN | apply below_drew1) | exact HB.out)⟩⟩
                                                · rw [if_neg c42] at H
                                                  have c42b0 : decide (0 < (rd t202 x9_2)) = false := decide_eq_false c42
                                                  clear c42
                                                  by_cases c45 : (rd t202 x9_2) < 0
                                                  · rw [if_pos c45] at H
                                                    have c45b0 : decide ((rd t202 x9_2) < 0) = true := decide_eq_true c45
                                                    clear c45
                                                    have H' := Aside0.mk H
                                                    clear H
                                                    have p214 : 0 ≤ (x9_2 : Int) := of_decide_eq_true (by first | (with_reducible assumption) | assumption)
                                                    have q214 : x9_2 < (l1.length : Int) := of_decide_eq_true (by first | (with_reducible assumption) | assumption)
                                                    obtain ⟨ad214, e214, hx214_0⟩ := Kd.at_int HR1.out x9_2 p214 q214
                                                    cases e214
                                                    replace hx214_0 := (HB.out.cell (World.block_lt_of_cell? w _ hx214_0)).trans hx214_0
                                                    replace p214 := eq_true p214
                                                    replace q214 := eq_true q214
                                                    have p215 : 0 ≤ (x9_2 : Int) := of_decide_eq_true (by first | (with_reducible assumption) | assumption)
                                                    have q215 : x9_2 < (t207.length : Int) := of_decide_eq_true (by first | (with_reducible assumption) | assumption)
                                                    obtain ⟨ad215, e215, hx215_0⟩ := Kd.at_int (Kd.R_reads' HO_7.out).2.2 x9_2 p215 q215
                                                    obtain rfl : ad212 = ad215 := (by injection e215)
                                                    replace p215 := eq_true p215
                                                    replace q215 := eq_true q215
                                                    have p216 : 0 ≤ (x9_2 : Int) := of_decide_eq_true (by first | (with_reducible assumption) | assumption)
                                                    have q216 : x9_2 < (l0.length : Int) := of_decide_eq_true (by first | (with_reducible assumption) | assumption)
                                                    obtain ⟨ad216, e216, hx216_0⟩ := Kd.at_int HR0.out x9_2 p216 q216
                                                    obtain rfl : ad213 = ad216 := (by injection e216)
                                                    replace hx216_0 := (HB.out.cell (World.block_lt_of_cell? w _ hx216_0)).trans hx216_0
                                                    replace p216 := eq_true p216
                                                    replace q216 := eq_true q216
                                                    have p217 : 0 ≤ (x9_2 : Int) := of_decide_eq_true (by first | (with_reducible assumption) | assumption)
                                                    have q217 : x9_2 < (t207.length : Int) := of_decide_eq_true (by first | (with_reducible assumption) | assumption)
                                                    obtain ⟨ad217, e217, hx217_0⟩ := Kd.at_int (Kd.R_reads' HO_7.out).2.2 x9_2 p217 q217
                                                    obtain rfl : ad212 = ad217 := (by injection e217)
                                                    replace p217 := eq_true p217
                                                    replace q217 := eq_true q217
                                                    have p225 : 0 ≤ (x9_2 : Int) := of_decide_eq_true (by first | (with_reducible assumption) | assumption)
                                                    have q225 : x9_2 < (t202.length : Int) := of_decide_eq_true (by first | (with_reducible assumption) | assumption)
                                                    obtain ⟨ad225, e225, hx225_0⟩ := Kd.at_int (Kd.R_reads' HO_5.out).2.2 x9_2 p225 q225
                                                    cases e225
                                                    replace p225 := eq_true p225
                                                    replace q225 := eq_true q225
                                                    have p229 : 0 ≤ (x9_2 : Int) := of_decide_eq_true (by first | (with_reducible assumption) | assumption)
                                                    have q229 : x9_2 < (t202.length : Int) := of_decide_eq_true (by first | (with_reducible assumption) | assumption)
                                                    obtain ⟨ad229, e229, hx229_0⟩ := Kd.at_int (Kd.R_reads' HO_5.out).2.2 x9_2 p229 q229
                                                    obtain rfl : ad225 = ad229 := (by injection e229)
                                                    replace p229 := eq_true p229
                                                    replace q229 := eq_true q229
                                                    have p230 : 0 ≤ (x9_2 : Int) := of_decide_eq_true (by first | (with_reducible assumption) | assumption)
                                                    have q230 : x9_2 < (l0.length : Int) := of_decide_eq_true (by first | (with_reducible assumption) | assumption)
                                                    obtain ⟨ad230, e230, hx230_0⟩ := Kd.at_int HR0.out x9_2 p230 q230
                                                    obtain rfl : ad213 = ad230 := (by injection e230)
                                                    replace hx230_0 := (HB.out.cell (World.block_lt_of_cell? w _ hx230_0)).trans hx230_0
                                                    replace p230 := eq_true p230
                                                    replace q230 := eq_true q230
                                                    go_wp2
                                                    repeat (go_quiet (fail); try go_wp2)
                                                    go_meet
                                                    case rel => exact ⟨_, (decide ((rd l0 x9_2) ≥ 0)), (by first | rfl | (simp; done) | (simp [*]; done)), H', ⟨by have := HJ9.out; have := HK2.out; have := HJ22.out; first | omega | exact Nat.le_refl _⟩, ⟨by (with_reducible repeat (first | apply Kd.R_alloc | apply Kd.R_drewN | apply Kd.R_drew)); exact HO_5.out⟩, ⟨by (with_reducible repeat (first | apply Kd.R_alloc | apply Kd.R_drewN | apply Kd.R_drew)); exact HO_7.out⟩, ⟨by repeat (first | (with_reducible first | exact HB.out | apply below_alloc | apply pw_below_drewN | apply below_drew1) | exact HB.out)⟩⟩
                                                  · rw [if_neg c45] at H
                                                    have c45b0 : decide ((rd t202 x9_2) < 0) = false := decide_eq_false c45
                                                    clear c45
                                                    have H' := Aside0.mk H
                                                    clear H
                                                    have p214 : 0 ≤ (x9_2 : Int) := of_decide_eq_true (by first | (with_reducible assumption) | assumption)
                                                    have q214 : x9_2 < (l1.length : Int) := of_decide_eq_true (by first | (with_reducible assumption) | assumption)
                                                    obtain ⟨ad214, e214, hx214_0⟩ := Kd.at_int HR1.out x9_2 p214 q214
                                                    cases e214
                                                    replace hx214_0 := (HB.out.cell (World.block_lt_of_cell? w _ hx214_0)).trans hx214_0
                                                    replace p214 := eq_true p214
                                                    replace q214 := eq_true q214
                                                    have p215 : 0 ≤ (x9_2 : Int) := of_decide_eq_true (by first | (with_reducible assumption) | assumption)
                                                    have q215 : x9_2 < (t207.length : Int) := of_decide_eq_true (by first | (with_reducible assumption) | assumption)
                                                    obtain ⟨ad215, e215, hx215_0⟩ := Kd.at_int (Kd.R_reads' HO_7.out).2.2 x9_2 p215 q215
                                                    obtain rfl : ad212 = ad215 := (by injection e215)
                                                    replace p215 := eq_true p215
                                                    replace q215 := eq_true q215
                                                    have p216 : 0 ≤ (x9_2 : Int) := of_decide_eq_true (by first | (with_reducible assumption) | assumption)
                                                    have q216 : x9_2 < (l0.length : Int) := of_decide_eq_true (by first | (with_reducible assumption) | assumption)
                                                    obtain ⟨ad216, e216, hx216_0⟩ := Kd.at_int HR0.out x9_2 p216 q216
                                                    obtain rfl : ad213 = ad216 := (by injection e216)
                                                    replace hx216_0 := (HB.out.cell (World.block_lt_of_cell? w _ hx216_0)).trans hx216_0
                                                    replace p216 := eq_true p216
                                                    replace q216 := eq_true q216
                                                    have p217 : 0 ≤ (x9_2 : Int) := of_decide_eq_true (by first | (with_reducible assumption) | assumption)
                                                    have q217 : x9_2 < (t207.length : Int) := of_decide_eq_true (by first | (with_reducible assumption) | assumption)
                                                    obtain ⟨ad217, e217, hx217_0⟩ := Kd.at_int (Kd.R_reads' HO_7.out).2.2 x9_2 p217 q217
                                                    obtain rfl : ad212 = ad217 := (by injection e217)
                                                    replace p217 := eq_true p217
                                                    replace q217 := eq_true q217
                                                    have p225 : 0 ≤ (x9_2 : Int) := of_decide_eq_true (by first | (with_reducible assumption) | assumption)
                                                    have q225 : x9_2 < (t202.length : Int) := of_decide_eq_true (by first | (with_reducible assumption) | assumption)
                                                    obtain ⟨ad225, e225, hx225_0⟩ := Kd.at_int (Kd.R_reads' HO_5.out).2.2 x9_2 p225 q225
                                                    cases e225
                                                    replace p225 := eq_true p225
                                                    replace q225 := eq_true q225
                                                    have p229 : 0 ≤ (x9_2 : Int) := of_decide_eq_true (by first | (with_reducible assumption) | assumption)
                                                    have q229 : x9_2 < (t202.length : Int) := of_decide_eq_true (by first | (with_reducible assumption) | assumption)
                                                    obtain ⟨ad229, e229, hx229_0⟩ := Kd.at_int (Kd.R_reads' HO_5.out).2.2 x9_2 p229 q229
                                                    obtain rfl : ad225 = ad229 := (by injection e229)
                                                    replace p229 := eq_true p229
                                                    replace q229 := eq_true q229
                                                    go_wp2
                                                    repeat (go_quiet (fail); try go_wp2)
                                                    go_meet
                                                    case rel => exact ⟨_, (false), (by first | rfl | (simp; done) | (simp [*]; done)), H', ⟨by have := HJ9.out; have := HK2.out; have := HJ22.out; first | omega | exact Nat.le_refl _⟩, ⟨by (with_reducible repeat (first | apply Kd.R_alloc | apply Kd.R_drewN | apply Kd.R_drew)); exact HO_5.out⟩, ⟨by (with_reducible repeat (first | apply Kd.R_alloc | apply Kd.R_drewN | apply Kd.R_drew)); exact HO_7.out⟩, ⟨by repeat (first | (with_reducible first | exact HB.out | apply below_alloc | apply pw_below_drewN | apply below_drew1) | exact HB.out)⟩⟩
                                              · rw [if_neg c41] at H
                                                exact absurd H (by simp)
                                        · rw [if_neg c32] at H
                                          exact absurd H (by simp)
                                      · rw [if_neg c31] at H
                                        have c31b0 : decide (0 < (rd t207 x9_2)) = false := decide_eq_false c31
                                        clear c31
                                        by_cases c46 : (rd t207 x9_2) < 0
                                        · rw [if_pos c46] at H
                                          have c46b0 : decide ((rd t207 x9_2) < 0) = true := decide_eq_true c46
                                          clear c46
                                          by_cases c47 : x9_2 < (l0.length : Int)
                                          · rw [if_pos c47] at H
                                            have c47b0 : decide (x9_2 < (l0.length : Int)) = true := decide_eq_true c47
                                            clear c47
                                            by_cases c48 : (rd l0 x9_2) > 0
                                            · rw [if_pos c48] at H
                                              have c48b0 : decide (0 < (rd l0 x9_2)) = true := decide_eq_true c48
                                              clear c48
                                              have H' := Aside0.mk H
                                              clear H
                                              have p214 : 0 ≤ (x9_2 : Int) := of_decide_eq_true (by first | (with_reducible assumption) | assumption)
                                              have q214 : x9_2 < (l1.length : Int) := of_decide_eq_true (by first | (with_reducible assumption) | assumption)
                                              obtain ⟨ad214, e214, hx214_0⟩ := Kd.at_int HR1.out x9_2 p214 q214
                                              cases e214
                                              replace hx214_0 := (HB.out.cell (World.block_lt_of_cell? w _ hx214_0)).trans hx214_0
                                              replace p214 := eq_true p214
                                              replace q214 := eq_true q214
                                              have p215 : 0 ≤ (x9_2 : Int) := of_decide_eq_true (by first | (with_reducible assumption) | assumption)
                                              have q215 : x9_2 < (t207.length : Int) := of_decide_eq_true (by first | (with_reducible assumption) | assumption)
                                              obtain ⟨ad215, e215, hx215_0⟩ := Kd.at_int (Kd.R_reads' HO_7.out).2.2 x9_2 p215 q215
                                              obtain rfl : ad212 = ad215 := (by injection e215)
                                              replace p215 := eq_true p215
                                              replace q215 := eq_true q215
                                              have p231 : 0 ≤ (x9_2 : Int) := of_decide_eq_true (by first | (with_reducible assumption) | assumption)
                                              have q231 : x9_2 < (t207.length : Int) := of_decide_eq_true (by first | (with_reducible assumption) | assumption)
                                              obtain ⟨ad231, e231, hx231_0⟩ := Kd.at_int (Kd.R_reads' HO_7.out).2.2 x9_2 p231 q231
                                              obtain rfl : ad212 = ad231 := (by injection e231)
                                              replace p231 := eq_true p231
                                              replace q231 := eq_true q231
                                              have p232 : 0 ≤ (x9_2 : Int) := of_decide_eq_true (by first | (with_reducible assumption) | assumption)
                                              have q232 : x9_2 < (l0.length : Int) := of_decide_eq_true (by first | (with_reducible assumption) | assumption)
                                              obtain ⟨ad232, e232, hx232_0⟩ := Kd.at_int HR0.out x9_2 p232 q232
                                              obtain rfl : ad213 = ad232 := (by injection e232)
                                              replace hx232_0 := (HB.out.cell (World.block_lt_of_cell? w _ hx232_0)).trans hx232_0
                                              replace p232 := eq_true p232
                                              replace q232 := eq_true q232
                                              go_wp2
                                              repeat (go_quiet (fail); try go_wp2)
                                              go_meet
                                              case rel => exact ⟨_, (true), (by first | rfl | (simp; done) | (simp [*]; done)), H', ⟨by have := HJ9.out; have := HK2.out; have := HJ22.out; first | omega | exact Nat.le_refl _⟩, ⟨by (with_reducible repeat (first | apply Kd.R_alloc | apply Kd.R_drewN | apply Kd.R_drew)); exact HO_5.out⟩, ⟨by (with_reducible repeat (first | apply Kd.R_alloc | apply Kd.R_drewN | apply Kd.R_drew)); exact HO_7.out⟩, ⟨by repeat (first | (with_reducible first | exact HB.out | apply below_alloc | apply pw_below_drewN | apply below_drew1) | exact HB.out)⟩⟩
                                            · rw [if_neg c48] at H
                                              have c48b0 : decide (0 < (rd l0 x9_2)) = false := decide_eq_false c48
                                              clear c48
                                              by_cases c49 : x9_2 < (t202.length : Int)
                                              · rw [if_pos c49] at H
                                                have c49b0 : decide (x9_2 < (t202.length : Int)) = true := decide_eq_true c49
                                                clear c49
                                                by_cases c50 : (rd t202 x9_2) > 0
                                                · rw [if_pos c50] at H
                                                  have c50b0 : decide (0 < (rd t202 x9_2)) = true := decide_eq_true c50
                                                  clear c50
                                                  by_cases c51 : (rd l0 x9_2) ≤ 0
                                                  · rw [if_pos c51] at H
                                                    have c51b0 : decide ((rd l0 x9_2) ≤ 0) = true := decide_eq_true c51
                                                    clear c51
                                                    have H' := Aside0.mk H
                                                    clear H
                                                    have p214 : 0 ≤ (x9_2 : Int) := of_decide_eq_true (by first | (with_reducible assumption) | assumption)
                                                    have q214 : x9_2 < (l1.length : Int) := of_decide_eq_true (by first | (with_reducible assumption) | assumption)
                                                    obtain ⟨ad214, e214, hx214_0⟩ := Kd.at_int HR1.out x9_2 p214 q214
                                                    cases e214
                                                    replace hx214_0 := (HB.out.cell (World.block_lt_of_cell? w _ hx214_0)).trans hx214_0
                                                    replace p214 := eq_true p214
                                                    replace q214 := eq_true q214
                                                    have p215 : 0 ≤ (x9_2 : Int) := of_decide_eq_true (by first | (with_reducible assumption) | assumption)
                                                    have q215 : x9_2 < (t207.length : Int) := of_decide_eq_true (by first | (with_reducible assumption) | assumption)
                                                    obtain ⟨ad215, e215, hx215_0⟩ := Kd.at_int (Kd.R_reads' HO_7.out).2.2 x9_2 p215 q215
                                                    obtain rfl : ad212 = ad215 := (by injection e215)
                                                    replace p215 := eq_true p215
                                                    replace q215 := eq_true q215
                                                    have p231 : 0 ≤ (x9_2 : Int) := of_decide_eq_true (by first | (with_reducible assumption) | assumption)
                                                    have q231 : x9_2 < (t207.length : Int) := of_decide_eq_true (by first | (with_reducible assumption) | assumption)
                                                    obtain ⟨ad231, e231, hx231_0⟩ := Kd.at_int (Kd.R_reads' HO_7.out).2.2 x9_2 p231 q231
                                                    obtain rfl : ad212 = ad231 := (by injection e231)
                                                    replace p231 := eq_true p231
                                                    replace q231 := eq_true q231
                                                    have p232 : 0 ≤ (x9_2 : Int) := of_decide_eq_true (by first | (with_reducible assumption) | assumption)
                                                    have q232 : x9_2 < (l0.length : Int) := of_decide_eq_true (by first | (with_reducible assumption) | assumption)
                                                    obtain ⟨ad232, e232, hx232_0⟩ := Kd.at_int HR0.out x9_2 p232 q232
                                                    obtain rfl : ad213 = ad232 := (by injection e232)
                                                    replace hx232_0 := (HB.out.cell (World.block_lt_of_cell? w _ hx232_0)).trans hx232_0
                                                    replace p232 := eq_true p232
                                                    replace q232 := eq_true q232
                                                    have p233 : 0 ≤ (x9_2 : Int) := of_decide_eq_true (by first | (with_reducible assumption) | assumption)
                                                    have q233 : x9_2 < (t202.length : Int) := of_decide_eq_true (by first | (with_reducible assumption) | assumption)
                                                    obtain ⟨ad233, e233, hx233_0⟩ := Kd.at_int (Kd.R_reads' HO_5.out).2.2 x9_2 p233 q233
                                                    cases e233
                                                    replace p233 := eq_true p233
                                                    replace q233 := eq_true q233
                                                    have p234 : 0 ≤ (x9_2 : Int) := of_decide_eq_true (by first | (with_reducible assumption) | assumption)
                                                    have q234 : x9_2 < (l0.length : Int) := of_decide_eq_true (by first | (with_reducible assumption) | assumption)
                                                    obtain ⟨ad234, e234, hx234_0⟩ := Kd.at_int HR0.out x9_2 p234 q234
                                                    obtain rfl : ad213 = ad234 := (by injection e234)
                                                    replace hx234_0 := (HB.out.cell (World.block_lt_of_cell? w _ hx234_0)).trans hx234_0
                                                    replace p234 := eq_true p234
                                                    replace q234 := eq_true q234
                                                    go_wp2
                                                    repeat (go_quiet (fail); try go_wp2)
                                                    go_meet
                                                    case rel => exact ⟨_, (true), (by first | rfl | (simp; done) | (simp [*]; done)), H', ⟨by have := HJ9.out; have := HK2.out; have := HJ22.out; first | omega | exact Nat.le_refl _⟩, ⟨by (with_reducible repeat (first | apply Kd.R_alloc | apply Kd.R_drewN | apply Kd.R_drew)); exact HO_5.out⟩, ⟨by (with_reducible repeat (first | apply Kd.R_alloc | apply Kd.R_drewN | apply Kd.R_drew)); exact HO_7.out⟩, ⟨by repeat (first | (with_reducible first | exact HB.out | apply below_alloc | apply pw_below_drewN | apply below_drew1) | exact HB.out)⟩⟩
                                                  · rw [if_neg c51] at H
                                                    have c51b0 : decide ((rd l0 x9_2) ≤ 0) = false := decide_eq_false c51
                                                    clear c51
                                                    by_cases c52 : (rd t202 x9_2) < 0
                                                    · rw [if_pos c52] at H
                                                      have c52b0 : decide ((rd t202 x9_2) < 0) = true := decide_eq_true c52
                                                      clear c52
                                                      have H' := Aside0.mk H
                                                      clear H
                                                      have p214 : 0 ≤ (x9_2 : Int) := of_decide_eq_true (by first | (with_reducible assumption) | assumption)
                                                      have q214 : x9_2 < (l1.length : Int) := of_decide_eq_true (by first | (with_reducible assumption) | assumption)
                                                      obtain ⟨ad214, e214, hx214_0⟩ := Kd.at_int HR1.out x9_2 p214 q214
                                                      cases e214
                                                      replace hx214_0 := (HB.out.cell (World.block_lt_of_cell? w _ hx214_0)).trans hx214_0
                                                      replace p214 := eq_true p214
                                                      replace q214 := eq_true q214
                                                      have p215 : 0 ≤ (x9_2 : Int) := of_decide_eq_true (by first | (with_reducible assumption) | assumption)
                                                      have q215 : x9_2 < (t207.length : Int) := of_decide_eq_true (by first | (with_reducible assumption) | assumption)
                                                      obtain ⟨ad215, e215, hx215_0⟩ := Kd.at_int (Kd.R_reads' HO_7.out).2.2 x9_2 p215 q215
                                                      obtain rfl : ad212 = ad215 := (by injection e215)
                                                      replace p215 := eq_true p215
                                                      replace q215 := eq_true q215
                                                      have p231 : 0 ≤ (x9_2 : Int) := of_decide_eq_true (by first | (with_reducible assumption) | assumption)
                                                      have q231 : x9_2 < (t207.length : Int) := of_decide_eq_true (by first | (with_reducible assumption) | assumption)
                                                      obtain ⟨ad231, e231, hx231_0⟩ := Kd.at_int (Kd.R_reads' HO_7.out).2.2 x9_2 p231 q231
                                                      obtain rfl : ad212 = ad231 := (by injection e231)
                                                      replace p231 := eq_true p231
                                                      replace q231 := eq_true q231
                                                      have p232 : 0 ≤ (x9_2 : Int) := of_decide_eq_true (by first | (with_reducible assumption) | assumption)
                                                      have q232 : x9_2 < (l0.length : Int) := of_decide_eq_true (by first | (with_reducible assumption) | assumption)
                                                      obtain ⟨ad232, e232, hx232_0⟩ := Kd.at_int HR0.out x9_2 p232 q232
                                                      obtain rfl : ad213 = ad232 := (by injection e232)
                                                      replace hx232_0 := (HB.out.cell (World.block_lt_of_cell? w _ hx232_0)).trans hx232_0
                                                      replace p232 := eq_true p232
                                                      replace q232 := eq_true q232
                                                      have p233 : 0 ≤ (x9_2 : Int) := of_decide_eq_true (by first | (with_reducible assumption) | assumption)
                                                      have q233 : x9_2 < (t202.length : Int) := of_decide_eq_true (by first | (with_reducible assumption) | assumption)
                                                      obtain ⟨ad233, e233, hx233_0⟩ := Kd.at_int (Kd.R_reads' HO_5.out).2.2 x9_2 p233 q233
                                                      cases e233
                                                      replace p233 := eq_true p233
                                                      replace q233 := eq_true q233
                                                      have p234 : 0 ≤ (x9_2 : Int) := of_decide_eq_true (by first | (with_reducible assumption) | assumption)
                                                      have q234 : x9_2 < (l0.length : Int) := of_decide_eq_true (by first | (with_reducible assumption) | assumption)
                                                      obtain ⟨ad234, e234, hx234_0⟩ := Kd.at_int HR0.out x9_2 p234 q234
                                                      obtain rfl : ad213 = ad234 := (by injection e234)
                                                      replace hx234_0 := (HB.out.cell (World.block_lt_of_cell? w _ hx234_0)).trans hx234_0
                                                      replace p234 := eq_true p234
                                                      replace q234 := eq_true q234
                                                      have p235 : 0 ≤ (x9_2 : Int) := of_decide_eq_true (by first | (with_reducible assumption) | assumption)
                                                      have q235 : x9_2 < (t202.length : Int) := of_decide_eq_true (by first | (with_reducible assumption) | assumption)
                                                      obtain ⟨ad235, e235, hx235_0⟩ := Kd.at_int (Kd.R_reads' HO_5.out).2.2 x9_2 p235 q235
                                                      obtain rfl : ad233 = ad235 := (by injection e235)
                                                      replace p235 := eq_true p235
                                                      replace q235 := eq_true q235
                                                      have p236 : 0 ≤ (x9_2 : Int) := of_decide_eq_true (by first | (with_reducible assumption) | assumption)
                                                      have q236 : x9_2 < (l0.length : Int) := of_decide_eq_true (by first | (with_reducible assumption) | assumption)
                                                      obtain ⟨ad236, e236, hx236_0⟩ := Kd.at_int HR0.out x9_2 p236 q236
                                                      obtain rfl : ad213 = ad236 := (by injection e236)
                                                      replace hx236_0 := (HB.out.cell (World.block_lt_of_cell? w _ hx236_0)).trans hx236_0
                                                      replace p236 := eq_true p236
                                                      replace q236 := eq_true q236
                                                      go_wp2
                                                      repeat (go_quiet (fail); try go_wp2)
                                                      go_meet
                                                      case rel => exact ⟨_, (decide ((rd l0 x9_2) ≥ 0)), (by first | rfl | (simp; done) | (simp [*]; done)), H', ⟨by have := HJ9.out; have := HK2.out; have := HJ22.out; first | omega | exact Nat.le_refl _⟩, ⟨by (with_reducible repeat (first | apply Kd.R_alloc | apply Kd.R_drewN | apply Kd.R_drew)); exact HO_5.out⟩, ⟨by (with_reducible repeat (first | apply Kd.R_alloc | apply Kd.R_drewN | apply Kd.R_drew)); exact HO_7.out⟩, ⟨by repeat (first | (with_reducible first | exact HB.out | apply below_alloc | apply pw_below_drewN | apply below_drew1) | exact HB.out)⟩⟩
                                                    · rw [if_neg c52] at H
                                                      have c52b0 : decide ((rd t202 x9_2) < 0) = false := decide_eq_false c52
                                                      clear c52
                                                      have H' := Aside0.mk H
                                                      clear H
                                                      have p214 : 0 ≤ (x9_2 : Int) := of_decide_eq_true (by first | (with_reducible assumption) | assumption)
                                                      have q214 : x9_2 < (l1.length : Int) := of_decide_eq_true (by first | (with_reducible assumption) | assumption)
                                                      obtain ⟨ad214, e214, hx214_0⟩ := Kd.at_int HR1.out x9_2 p214 q214
                                                      cases e214
                                                      replace hx214_0 := (HB.out.cell (World.block_lt_of_cell? w _ hx214_0)).trans hx214_0
                                                      replace p214 := eq_true p214
                                                      replace q214 := eq_true q214
                                                      have p215 : 0 ≤ (x9_2 : Int) := of_decide_eq_true (by first | (with_reducible assumption) | assumption)
                                                      have q215 : x9_2 < (t207.length : Int) := of_decide_eq_true (by first | (with_reducible assumption) | assumption)
                                                      obtain ⟨ad215, e215, hx215_0⟩ := Kd.at_int (Kd.R_reads' HO_7.out).2.2 x9_2 p215 q215
                                                      obtain rfl : ad212 = ad215 := (by injection e215)
                                                      replace p215 := eq_true p215
                                                      replace q215 := eq_true q215
                                                      have p231 : 0 ≤ (x9_2 : Int) := of_decide_eq_true (by first | (with_reducible assumption) | assumption)
                                                      have q231 : x9_2 < (t207.length : Int) := of_decide_eq_true (by first | (with_reducible assumption) | assumption)
                                                      obtain ⟨ad231, e231, hx231_0⟩ := Kd.at_int (Kd.R_reads' HO_7.out).2.2 x9_2 p231 q231
                                                      obtain rfl : ad212 = ad231 := (by injection e231)
                                                      replace p231 := eq_true p231
                                                      replace q231 := eq_true q231
                                                      have p232 : 0 ≤ (x9_2 : Int) := of_decide_eq_true (by first | (with_reducible assumption) | assumption)
                                                      have q232 : x9_2 < (l0.length : Int) := of_decide_eq_true (by first | (with_reducible assumption) | assumption)
                                                      obtain ⟨ad232, e232, hx232_0⟩ := Kd.at_int HR0.out x9_2 p232 q232
                                                      obtain rfl : ad213 = ad232 := (by injection e232)
                                                      replace hx232_0 := (HB.out.cell (World.block_lt_of_cell? w _ hx232_0)).trans hx232_0
                                                      replace p232 := eq_true p232
                                                      replace q232 := eq_true q232
                                                      have p233 : 0 ≤ (x9_2 : Int) := of_decide_eq_true (by first | (with_reducible assumption) | assumption)
                                                      have q233 : x9_2 < (t202.length : Int) := of_decide_eq_true (by first | (with_reducible assumption) | assumption)
                                                      obtain ⟨ad233, e233, hx233_0⟩ := Kd.at_int (Kd.R_reads' HO_5.out).2.2 x9_2 p233 q233
                                                      cases e233
                                                      replace p233 := eq_true p233
                                                      replace q233 := eq_true q233
                                                      have p234 : 0 ≤ (x9_2 : Int) := of_decide_eq_true (by first | (with_reducible assumption) | assumption)
                                                      have q234 : x9_2 < (l0.length : Int) := of_decide_eq_true (by first | (with_reducible assumption) | assumption)
                                                      obtain ⟨ad234, e234, hx234_0⟩ := Kd.at_int HR0.out x9_2 p234 q234
                                                      obtain rfl : ad213 = ad234 := (by injection e234)
                                                      replace hx234_0 := (HB.out.cell (World.block_lt_of_cell? w _ hx234_0)).trans hx234_0
                                                      replace p234 := eq_true p234
                                                      replace q234 := eq_true q234
                                                      have p235 : 0 ≤ (x9_2 : Int) := of_decide_eq_true (by first | (with_reducible assumption) | assumption)
                                                      have q235 : x9_2 < (t202.length : Int) := of_decide_eq_true (by first | (with_reducible assumption) | assumption)
                                                      obtain ⟨ad235, e235, hx235_0⟩ := Kd.at_int (Kd.R_reads' HO_5.out).2.2 x9_2 p235 q235
                                                      obtain rfl : ad233 = ad235 := (by injection e235)
                                                      replace p235 := eq_true p235
                                                      replace q235 := eq_true q235
                                                      go_wp2
                                                      repeat (go_quiet (fail); try go_wp2)
                                                      go_meet
                                                      case rel => exact ⟨_, (false), (by first | rfl | (simp; done) | (simp [*]; done)), H', ⟨by have := HJ9.out; have := HK2.out; have := HJ22.out; first | omega | exact Nat.le_refl _⟩, ⟨by (with_reducible repeat (first | apply Kd.R_alloc | apply Kd.R_drewN | apply Kd.R_drew)); exact HO_5.out⟩, ⟨by (with_reducible repeat (first | apply Kd.R_alloc | apply Kd.R_drewN | apply Kd.R_drew)); exact HO_7.out⟩, ⟨by repeat (first | (with_reducible first | exact HB.out | apply below_alloc | apply pw_below_drewN | apply below_drew1) | exact HB.out)⟩⟩
                                                · rw [if_neg c50] at H
                                                  have c50b0 : decide (0 < (rd t202 x9_2)) = false := decide_eq_false c50
                                                  clear c50
                                                  by_cases c53 : (rd t202 x9_2) < 0
                                                  · rw [if_pos c53] at H
                                                    have c53b0 : decide ((rd t202 x9_2) < 0) = true := decide_eq_true c53
                                                    clear c53
                                                    have H' := Aside0.mk H
                                                    clear H
                                                    have p214 : 0 ≤ (x9_2 : Int) := of_decide_eq_true (by first | (with_reducible assumption) | assumption)
                                                    have q214 : x9_2 < (l1.length : Int) := of_decide_eq_true (by first | (with_reducible assumption) | assumption)
                                                    obtain ⟨ad214, e214, hx214_0⟩ := Kd.at_int HR1.out x9_2 p214 q214
                                                    cases e214
                                                    replace hx214_0 := (HB.out.cell (World.block_lt_of_cell? w _ hx214_0)).trans hx214_0
                                                    replace p214 := eq_true p214
                                                    replace q214 := eq_true q214
                                                    have p215 : 0 ≤ (x9_2 : Int) := of_decide_eq_true (by first | (with_reducible assumption) | assumption)
                                                    have q215 : x9_2 < (t207.length : Int) := of_decide_eq_true (by first | (with_reducible assumption) | assumption)
                                                    obtain ⟨ad215, e215, hx215_0⟩ := Kd.at_int (Kd.R_reads' HO_7.out).2.2 x9_2 p215 q215
                                                    obtain rfl : ad212 = ad215 := (by injection e215)
                                                    replace p215 := eq_true p215
                                                    replace q215 := eq_true q215
                                                    have p231 : 0 ≤ (x9_2 : Int) := of_decide_eq_true (by first | (with_reducible assumption) | assumption)
                                                    have q231 : x9_2 < (t207.length : Int) := of_decide_eq_true (by first | (with_reducible assumption) | assumption)
                                                    obtain ⟨ad231, e231, hx231_0⟩ := Kd.at_int (Kd.R_reads' HO_7.out).2.2 x9_2 p231 q231
                                                    obtain rfl : ad212 = ad231 := (by injection e231)
                                                    replace p231 := eq_true p231
                                                    replace q231 := eq_true q231
                                                    have p232 : 0 ≤ (x9_2 : Int) := of_decide_eq_true (by first | (with_reducible assumption) | assumption)
                                                    have q232 : x9_2 < (l0.length : Int) := of_decide_eq_true (by first | (with_reducible assumption) | assumption)
                                                    obtain ⟨ad232, e232, hx232_0⟩ := Kd.at_int HR0.out x9_2 p232 q232
                                                    obtain rfl : ad213 = ad232 := (by injection e232)
                                                    replace hx232_0 := (HB.out.cell (World.block_lt_of_cell? w _ hx232_0)).trans hx232_0
                                                    replace p232 := eq_true p232
                                                    replace q232 := eq_true q232
                                                    have p233 : 0 ≤ (x9_2 : Int) := of_decide_eq_true (by first | (with_reducible assumption) | assumption)
                                                    have q233 : x9_2 < (t202.length : Int) := of_decide_eq_true (by first | (with_reducible assumption) | assumption)
                                                    obtain ⟨ad233, e233, hx233_0⟩ := Kd.at_int (Kd.R_reads' HO_5.out).2.2 x9_2 p233 q233
                                                    cases e233
                                                    replace p233 := eq_true p233
                                                    replace q233 := eq_true q233
                                                    have p237 : 0 ≤ (x9_2 : Int) := of_decide_eq_true (by first | (with_reducible assumption) | assumption)
                                                    have q237 : x9_2 < (t202.length : Int) := of_decide_eq_true (by first | (with_reducible assumption) | assumption)
                                                    obtain ⟨ad237, e237, hx237_0⟩ := Kd.at_int (Kd.R_reads' HO_5.out).2.2 x9_2 p237 q237
                                                    obtain rfl : ad233 = ad237 := (by injection e237)
                                                    replace p237 := eq_true p237
                                                    replace q237 := eq_true q237
                                                    have p238 : 0 ≤ (x9_2 : Int) := of_decide_eq_true (by first | (with_reducible assumption) | assumption)
                                                    have q238 : x9_2 < (l0.length : Int) := of_decide_eq_true (by first | (with_reducible assumption) | assumption)
                                                    obtain ⟨ad238, e238, hx238_0⟩ := Kd.at_int HR0.out x9_2 p238 q238
                                                    obtain rfl : ad213 = ad238 := (by injection e238)
                                                    replace hx238_0 := (HB.out.cell (World.block_lt_of_cell? w _ hx238_0)).trans hx238_0
                                                    replace p238 := eq_true p238
                                                    replace q238 := eq_true q238
                                                    go_wp2
                                                    repeat (go_quiet (fail); try go_wp2)
                                                    go_meet
                                                    case rel => exact ⟨_, (decide ((rd l0 x9_2) ≥ 0)), (by first | rfl | (simp; done) | (simp [*]; done)), H', ⟨by have := HJ9.out; have := HK2.out; have := HJ22.out; first | omega | exact Nat.le_refl _⟩, ⟨by (with_reducible repeat (first | apply Kd.R_alloc | apply Kd.R_drewN | apply Kd.R_drew)); exact HO_5.out⟩, ⟨by (with_reducible repeat (first | apply Kd.R_alloc | apply Kd.R_drewN | apply Kd.R_drew)); exact HO_7.out⟩, ⟨by repeat (first | (with_reducible first | exact HB.out | apply below_alloc | apply pw_below_drewN | apply below_drew1) | exact HB.out)⟩⟩
                                                  · rw [if_neg c53] at H
                                                    have c53b0 : decide ((rd t202 x9_2) < 0) = false := decide_eq_false c53
                                                    clear c53
                                                    have H' := Aside0.mk H
                                                    clear H
                                                    have p214 : 0 ≤ (x9_2 : Int) := of_decide_eq_true (by first | (with_reducible assumption) | assumption)
                                                    have q214 : x9_2 < (l1.length : Int) := of_decide_eq_true (by first | (with_reducible assumption) | assumption)
                                                    obtain ⟨ad214, e214, hx214_0⟩ := Kd.at_int HR1.out x9_2 p214 q214
                                                    cases e214
                                                    replace hx214_0 := (HB.out.cell (World.block_lt_of_cell? w _ hx214_0)).trans hx214_0
                                                    replace p214 := eq_true p214
                                                    replace q214 := eq_true q214
                                                    have p215 : 0 ≤ (x9_2 : Int) := of_decide_eq_true (by first | (with_reducible assumption) | assumption)
                                                    have q215 : x9_2 < (t207.length : Int) := of_decide_eq_true (by first | (with_reducible assumption) | assumption)
                                                    obtain ⟨ad215, e215, hx215_0⟩ := Kd.at_int (Kd.R_reads' HO_7.out).2.2 x9_2 p215 q215
                                                    obtain rfl : ad212 = ad215 := (by injection e215)
                                                    replace p215 := eq_true p215
                                                    replace q215 := eq_true q215
                                                    have p231 : 0 ≤ (x9_2 : Int) := of_decide_eq_true (by first | (with_reducible assumption) | assumption)
                                                    have q231 : x9_2 < (t207.length : Int) := of_decide_eq_true (by first | (with_reducible assumption) | assumption)
                                                    obtain ⟨ad231, e231, hx231_0⟩ := Kd.at_int (Kd.R_reads' HO_7.out).2.2 x9_2 p231 q231
                                                    obtain rfl : ad212 = ad231 := (by injection e231)
                                                    replace p231 := eq_true p231
                                                    replace q231 := eq_true q231
                                                    have p232 : 0 ≤ (x9_2 : Int) := of_decide_eq_true (by first | (with_reducible assumption) | assumption)
                                                    have q232 : x9_2 < (l0.length : Int) := of_decide_eq_true (by first | (with_reducible assumption) | assumption)
                                                    obtain ⟨ad232, e232, hx232_0⟩ := Kd.at_int HR0.out x9_2 p232 q232
                                                    obtain rfl : ad213 = ad232 := (by injection e232)
                                                    replace hx232_0 := (HB.out.cell (World.block_lt_of_cell? w _ hx232_0)).trans hx232_0
                                                    replace p232 := eq_true p232
                                                    replace q232 := eq_true q232
                                                    have p233 : 0 ≤ (x9_2 : Int) := of_decide_eq_true (by first | (with_reducible assumption) | assumption)
                                                    have q233 : x9_2 < (t202.length : Int) := of_decide_eq_true (by first | (with_reducible assumption) | assumption)
                                                    obtain ⟨ad233, e233, hx233_0⟩ := Kd.at_int (Kd.R_reads' HO_5.out).2.2 x9_2 p233 q233
                                                    cases e233
                                                    replace p233 := eq_true p233
                                                    replace q233 := eq_true q233
                                                    have p237 : 0 ≤ (x9_2 : Int) := of_decide_eq_true (by first | (with_reducible assumption) | assumption)
                                                    have q237 : x9_2 < (t202.length : Int) := of_decide_eq_true (by first | (with_reducible assumption) | assumption)
                                                    obtain ⟨ad237, e237, hx237_0⟩ := Kd.at_int (Kd.R_reads' HO_5.out).2.2 x9_2 p237 q237
                                                    obtain rfl : ad233 = ad237 := (by injection e237)
                                                    replace p237 := eq_true p237
                                                    replace q237 := eq_true q237
                                                    go_wp2
                                                    repeat (go_quiet (fail); try go_wp2)
                                                    go_meet
                                                    case rel => exact ⟨_, (false), (by first | rfl | (simp; done) | (simp [*]; done)), H', ⟨by have := HJ9.out; have := HK2.out; have := HJ22.out; first | omega | exact Nat.le_refl _⟩, ⟨by (with_reducible repeat (first | apply Kd.R_alloc | apply Kd.R_drewN | apply Kd.R_drew)); exact HO_5.out⟩, ⟨by (with_reducible repeat (first | apply Kd.R_alloc | apply Kd.R_drewN | apply Kd.R_drew)); exact HO_7.out⟩, ⟨by repeat (first | (with_reducible first | exact HB.out | apply below_alloc | apply pw_below_drewN | apply below_drew1) | exact HB.out)⟩⟩
                                              · rw [if_neg c49] at H
                                                exact absurd H (by simp)
                                          · rw [if_neg c47] at H
                                            exact absurd H (by simp)
                                        · rw [if_neg c46] at H
                                          have c46b0 : decide ((rd t207 x9_2) < 0) = false := decide_eq_false c46
                                          clear c46
                                          by_cases c54 : x9_2 < (t202.length : Int)
                                          · rw [if_pos c54] at H
                                            have c54b0 : decide (x9_2 < (t202.length : Int)) = true := decide_eq_true c54
                                            clear c54
                                            by_cases c55 : (rd t202 x9_2) > 0
                                            · rw [if_pos c55] at H
                                              have c55b0 : decide (0 < (rd t202 x9_2)) = true := decide_eq_true c55
                                              clear c55
                                              by_cases c56 : x9_2 < (l0.length : Int)
                                              · rw [if_pos c56] at H
                                                have c56b0 : decide (x9_2 < (l0.length : Int)) = true := decide_eq_true c56
                                                clear c56
                                                by_cases c57 : (rd l0 x9_2) ≤ 0
                                                · rw [if_pos c57] at H
                                                  have c57b0 : decide ((rd l0 x9_2) ≤ 0) = true := decide_eq_true c57
                                                  clear c57
                                                  have H' := Aside0.mk H
                                                  clear H
                                                  have p214 : 0 ≤ (x9_2 : Int) := of_decide_eq_true (by first | (with_reducible assumption) | assumption)
                                                  have q214 : x9_2 < (l1.length : Int) := of_decide_eq_true (by first | (with_reducible assumption) | assumption)
                                                  obtain ⟨ad214, e214, hx214_0⟩ := Kd.at_int HR1.out x9_2 p214 q214
                                                  cases e214
                                                  replace hx214_0 := (HB.out.cell (World.block_lt_of_cell? w _ hx214_0)).trans hx214_0
                                                  replace p214 := eq_true p214
                                                  replace q214 := eq_true q214
                                                  have p215 : 0 ≤ (x9_2 : Int) := of_decide_eq_true (by first | (with_reducible assumption) | assumption)
                                                  have q215 : x9_2 < (t207.length : Int) := of_decide_eq_true (by first | (with_reducible assumption) | assumption)
                                                  obtain ⟨ad215, e215, hx215_0⟩ := Kd.at_int (Kd.R_reads' HO_7.out).2.2 x9_2 p215 q215
                                                  obtain rfl : ad212 = ad215 := (by injection e215)
                                                  replace p215 := eq_true p215
                                                  replace q215 := eq_true q215
                                                  have p231 : 0 ≤ (x9_2 : Int) := of_decide_eq_true (by first | (with_reducible assumption) | assumption)
                                                  have q231 : x9_2 < (t207.length : Int) := of_decide_eq_true (by first | (with_reducible assumption) | assumption)
                                                  obtain ⟨ad231, e231, hx231_0⟩ := Kd.at_int (Kd.R_reads' HO_7.out).2.2 x9_2 p231 q231
                                                  obtain rfl : ad212 = ad231 := (by injection e231)
                                                  replace p231 := eq_true p231
                                                  replace q231 := eq_true q231
                                                  have p239 : 0 ≤ (x9_2 : Int) := of_decide_eq_true (by first | (with_reducible assumption) | assumption)
                                                  have q239 : x9_2 < (t202.length : Int) := of_decide_eq_true (by first | (with_reducible assumption) | assumption)
                                                  obtain ⟨ad239, e239, hx239_0⟩ := Kd.at_int (Kd.R_reads' HO_5.out).2.2 x9_2 p239 q239
                                                  cases e239
                                                  replace p239 := eq_true p239
                                                  replace q239 := eq_true q239
                                                  have p240 : 0 ≤ (x9_2 : Int) := of_decide_eq_true (by first | (with_reducible assumption) | assumption)
                                                  have q240 : x9_2 < (l0.length : Int) := of_decide_eq_true (by first | (with_reducible assumption) | assumption)
                                                  obtain ⟨ad240, e240, hx240_0⟩ := Kd.at_int HR0.out x9_2 p240 q240
                                                  obtain rfl : ad213 = ad240 := (by injection e240)
                                                  replace hx240_0 := (HB.out.cell (World.block_lt_of_cell? w _ hx240_0)).trans hx240_0
                                                  replace p240 := eq_true p240
                                                  replace q240 := eq_true q240
                                                  go_wp2
                                                  repeat (go_quiet (fail); try go_wp2)
                                                  go_meet
                                                  case rel => exact ⟨_, (true), (by first | rfl | (simp; done) | (simp [*]; done)), H', ⟨by have := HJ9.out; have := HK2.out; have := HJ22.out; first | omega | exact Nat.le_refl _⟩, ⟨by (with_reducible repeat (first | apply Kd.R_alloc | apply Kd.R_drewN | apply Kd.R_drew)); exact HO_5.out⟩, ⟨by (with_reducible repeat (first | apply Kd.R_alloc | apply Kd.R_drewN | apply Kd.R_drew)); exact HO_7.out⟩, ⟨by repeat (first | (with_reducible first | exact HB.out | apply below_alloc | apply pw_below_drewN | apply below_drew1) | exact HB.out)⟩⟩
                                                · rw [if_neg c57] at H
                                                  have c57b0 : decide ((rd l0 x9_2) ≤ 0) = false := decide_eq_false c57
                                                  clear c57
                                                  by_cases c58 : (rd t202 x9_2) < 0
                                                  · rw [if_pos c58] at H
                                                    have c58b0 : decide ((rd t202 x9_2) < 0) = true := decide_eq_true c58
                                                    clear c58
                                                    have H' := Aside0.mk H
                                                    clear H
                                                    have p214 : 0 ≤ (x9_2 : Int) := of_decide_eq_true (by first | (with_reducible assumption) | assumption)
                                                    have q214 : x9_2 < (l1.length : Int) := of_decide_eq_true (by first | (with_reducible assumption) | assumption)
                                                    obtain ⟨ad214, e214, hx214_0⟩ := Kd.at_int HR1.out x9_2 p214 q214
                                                    cases e214
                                                    replace hx214_0 := (HB.out.cell (World.block_lt_of_cell? w _ hx214_0)).trans hx214_0
                                                    replace p214 := eq_true p214
                                                    replace q214 := eq_true q214
                                                    have p215 : 0 ≤ (x9_2 : Int) := of_decide_eq_true (by first | (with_reducible assumption) | assumption)
                                                    have q215 : x9_2 < (t207.length : Int) := of_decide_eq_true (by first | (with_reducible assumption) | assumption)
                                                    obtain ⟨ad215, e215, hx215_0⟩ := Kd.at_int (Kd.R_reads' HO_7.out).2.2 x9_2 p215 q215
                                                    obtain rfl : ad212 = ad215 := (by injection e215)
                                                    replace p215 := eq_true p215
                                                    replace q215 := eq_true q215
                                                    have p231 : 0 ≤ (x9_2 : Int) := of_decide_eq_true (by first | (with_reducible assumption) | assumption)
                                                    have q231 : x9_2 < (t207.length : Int) := of_decide_eq_true (by first | (with_reducible assumption) | assumption)
                                                    obtain ⟨ad231, e231, hx231_0⟩ := Kd.at_int (Kd.R_reads' HO_7.out).2.2 x9_2 p231 q231
                                                    obtain rfl : ad212 = ad231 := (by injection e231)
                                                    replace p231 := eq_true p231
                                                    replace q231 := eq_true q231
                                                    have p239 : 0 ≤ (x9_2 : Int) := of_decide_eq_true (by first | (with_reducible assumption) | assumption)
                                                    have q239 : x9_2 < (t202.length : Int) := of_decide_eq_true (by first | (with_reducible assumption) | assumption)
                                                    obtain ⟨ad239, e239, hx239_0⟩ := Kd.at_int (Kd.R_reads' HO_5.out).2.2 x9_2 p239 q239
                                                    cases e239
                                                    replace p239 := eq_true p239
                                                    replace q239 := eq_true q239
                                                    have p240 : 0 ≤ (x9_2 : Int) := of_decide_eq_true (by first | (with_reducible assumption) | assumption)
                                                    have q240 : x9_2 < (l0.length : Int) := of_decide_eq_true (by first | (with_reducible assumption) | assumption)
                                                    obtain ⟨ad240, e240, hx240_0⟩ := Kd.at_int HR0.out x9_2 p240 q240
                                                    obtain rfl : ad213 = ad240 := (by injection e240)
                                                    replace hx240_0 := (HB.out.cell (World.block_lt_of_cell? w _ hx240_0)).trans hx240_0
                                                    replace p240 := eq_true p240
                                                    replace q240 := eq_true q240
                                                    have p241 : 0 ≤ (x9_2 : Int) := of_decide_eq_true (by first | (with_reducible assumption) | assumption)
                                                    have q241 : x9_2 < (t202.length : Int) := of_decide_eq_true (by first | (with_reducible assumption) | assumption)
                                                    obtain ⟨ad241, e241, hx241_0⟩ := Kd.at_int (Kd.R_reads' HO_5.out).2.2 x9_2 p241 q241
                                                    obtain rfl : ad239 = ad241 := (by injection e241)
                                                    replace p241 := eq_true p241
                                                    replace q241 := eq_true q241
                                                    have p242 : 0 ≤ (x9_2 : Int) := of_decide_eq_true (by first | (with_reducible assumption) | assumption)
                                                    have q242 : x9_2 < (l0.length : Int) := of_decide_eq_true (by first | (with_reducible assumption) | assumption)
                                                    obtain ⟨ad242, e242, hx242_0⟩ := Kd.at_int HR0.out x9_2 p242 q242
                                                    obtain rfl : ad213 = ad242 := (by injection e242)
                                                    replace hx242_0 := (HB.out.cell (World.block_lt_of_cell? w _ hx242_0)).trans hx242_0
                                                    replace p242 := eq_true p242
                                                    replace q242 := eq_true q242
                                                    go_wp2
                                                    repeat (go_quiet (fail); try go_wp2)
                                                    go_meet
                                                    case rel => exact ⟨_, (decide ((rd l0 x9_2) ≥ 0)), (by first | rfl | (simp; done) | (simp [*]; done)), H', ⟨by have := HJ9.out; have := HK2.out; have := HJ22.out; first | omega | exact Nat.le_refl _⟩, ⟨by (with_reducible repeat (first | apply Kd.R_alloc | apply Kd.R_drewN | apply Kd.R_drew)); exact HO_5.out⟩, ⟨by (with_reducible repeat (first | apply Kd.R_alloc | apply Kd.R_drewN | apply Kd.R_drew)); exact HO_7.out⟩, ⟨by repeat (first | (with_reducible first | exact HB.out | apply below_alloc | apply pw_below_drewN | apply below_drew1) | exact HB.out)⟩⟩
                                                  · rw [if_neg c58] at H
                                                    have c58b0 : decide ((rd t202 x9_2) < 0) = false := decide_eq_false c58
                                                    clear c58
                                                    have H' := Aside0.mk H
                                                    clear H
                                                    have p214 : 0 ≤ (x9_2 : Int) := of_decide_eq_true (by first | (with_reducible assumption) | assumption)
                                                    have q214 : x9_2 < (l1.length : Int) := of_decide_eq_true (by first | (with_reducible assumption) | assumption)
                                                    obtain ⟨ad214, e214, hx214_0⟩ := Kd.at_int HR1.out x9_2 p214 q214
                                                    cases e214
                                                    replace hx214_0 := (HB.out.cell (World.block_lt_of_cell? w _ hx214_0)).trans hx214_0
                                                    replace p214 := eq_true p214
                                                    replace q214 := eq_true q214
                                                    have p215 : 0 ≤ (x9_2 : Int) := of_decide_eq_true (by first | (with_reducible assumption) | assumption)
                                                    have q215 : x9_2 < (t207.length : Int) := of_decide_eq_true (by first | (with_reducible assumption) | assumption)
                                                    obtain ⟨ad215, e215, hx215_0⟩ := Kd.at_int (Kd.R_reads' HO_7.out).2.2 x9_2 p215 q215
                                                    obtain rfl : ad212 = ad215 := (by injection e215)
                                                    replace p215 := eq_true p215
                                                    replace q215 := eq_true q215
                                                    have p231 : 0 ≤ (x9_2 : Int) := of_decide_eq_true (by first | (with_reducible assumption) | assumption)
                                                    have q231 : x9_2 < (t207.length : Int) := of_decide_eq_true (by first | (with_reducible assumption) | assumption)
                                                    obtain ⟨ad231, e231, hx231_0⟩ := Kd.at_int (Kd.R_reads' HO_7.out).2.2 x9_2 p231 q231
                                                    obtain rfl : ad212 = ad231 := (by injection e231)
                                                    replace p231 := eq_true p231
                                                    replace q231 := eq_true q231
                                                    have p239 : 0 ≤ (x9_2 : Int) := of_decide_eq_true (by first | (with_reducible assumption) | assumption)
                                                    have q239 : x9_2 < (t202.length : Int) := of_decide_eq_true (by first | (with_reducible assumption) | assumption)
                                                    obtain ⟨ad239, e239, hx239_0⟩ := Kd.at_int (Kd.R_reads' HO_5.out).2.2 x9_2 p239 q239
                                                    cases e239
                                                    replace p239 := eq_true p239
                                                    replace q239 := eq_true q239
                                                    have p240 : 0 ≤ (x9_2 : Int) := of_decide_eq_true (by first | (with_reducible assumption) | assumption)
                                                    have q240 : x9_2 < (l0.length : Int) := of_decide_eq_true (by first | (with_reducible assumption) | assumption)
                                                    obtain ⟨ad240, e240, hx240_0⟩ := Kd.at_int HR0.out x9_2 p240 q240
                                                    obtain rfl : ad213 = ad240 := (by injection e240)
                                                    replace hx240_0 := (HB.out.cell (World.block_lt_of_cell? w _ hx240_0)).trans hx240_0
                                                    replace p240 := eq_true p240
                                                    replace q240 := eq_true q240
                                                    have p241 : 0 ≤ (x9_2 : Int) := of_decide_eq_true (by first | (with_reducible assumption) | assumption)
                                                    have q241 : x9_2 < (t202.length : Int) := of_decide_eq_true (by first | (with_reducible assumption) | assumption)
                                                    obtain ⟨ad241, e241, hx241_0⟩ := Kd.at_int (Kd.R_reads' HO_5.out).2.2 x9_2 p241 q241
                                                    obtain rfl : ad239 = ad241 := (by injection e241)
                                                    replace p241 := eq_true p241
                                                    replace q241 := eq_true q241
                                                    go_wp2
                                                    repeat (go_quiet (fail); try go_wp2)
                                                    go_meet
                                                    case rel => exact ⟨_, (false), (by first | rfl | (simp; done) | (simp [*]; done)), H', ⟨by have := HJ9.out; have := HK2.out; have := HJ22.out; first | omega | exact Nat.le_refl _⟩, ⟨by (with_reducible repeat (first | apply Kd.R_alloc | apply Kd.R_drewN | apply Kd.R_drew)); exact HO_5.out⟩, ⟨by (with_reducible repeat (first | apply Kd.R_alloc | apply Kd.R_drewN | apply Kd.R_drew)); exact HO_7.out⟩, ⟨by repeat (first | (with_reducible first | exact HB.out | apply below_alloc | apply pw_below_drewN | apply below_drew1) | exact HB.out)⟩⟩
                                              · rw [if_neg c56] at H
                                                exact absurd H (by simp)
                                            · rw [if_neg c55] at H
                                              have c55b0 : decide (0 < (rd t202 x9_2)) = false := decide_eq_false c55
                                              clear c55
                                              by_cases c59 : (rd t202 x9_2) < 0
                                              · rw [if_pos c59] at H
                                                have c59b0 : decide ((rd t202 x9_2) < 0) = true := decide_eq_true c59
                                                clear c59
                                                by_cases c60 : x9_2 < (l0.length : Int)
                                                · rw [if_pos c60] at H
                                                  have c60b0 : decide (x9_2 < (l0.length : Int)) = true := decide_eq_true c60
                                                  clear c60
                                                  have H' := Aside0.mk H
                                                  clear H
                                                  have p214 : 0 ≤ (x9_2 : Int) := of_decide_eq_true (by first | (with_reducible assumption) | assumption)
                                                  have q214 : x9_2 < (l1.length : Int) := of_decide_eq_true (by first | (with_reducible assumption) | assumption)
                                                  obtain ⟨ad214, e214, hx214_0⟩ := Kd.at_int HR1.out x9_2 p214 q214
                                                  cases e214
                                                  replace hx214_0 := (HB.out.cell (World.block_lt_of_cell? w _ hx214_0)).trans hx214_0
                                                  replace p214 := eq_true p214
                                                  replace q214 := eq_true q214
                                                  have p215 : 0 ≤ (x9_2 : Int) := of_decide_eq_true (by first | (with_reducible assumption) | assumption)
                                                  have q215 : x9_2 < (t207.length : Int) := of_decide_eq_true (by first | (with_reducible assumption) | assumption)
                                                  obtain ⟨ad215, e215, hx215_0⟩ := Kd.at_int (Kd.R_reads' HO_7.out).2.2 x9_2 p215 q215
                                                  obtain rfl : ad212 = ad215 := (by injection e215)
                                                  replace p215 := eq_true p215
                                                  replace q215 := eq_true q215
                                                  have p231 : 0 ≤ (x9_2 : Int) := of_decide_eq_true (by first | (with_reducible assumption) | assumption)
                                                  have q231 : x9_2 < (t207.length : Int) := of_decide_eq_true (by first | (with_reducible assumption) | assumption)
                                                  obtain ⟨ad231, e231, hx231_0⟩ := Kd.at_int (Kd.R_reads' HO_7.out).2.2 x9_2 p231 q231
                                                  obtain rfl : ad212 = ad231 := (by injection e231)
                                                  replace p231 := eq_true p231
                                                  replace q231 := eq_true q231
                                                  have p239 : 0 ≤ (x9_2 : Int) := of_decide_eq_true (by first | (with_reducible assumption) | assumption)
                                                  have q239 : x9_2 < (t202.length : Int) := of_decide_eq_true (by first | (with_reducible assumption) | assumption)
                                                  obtain ⟨ad239, e239, hx239_0⟩ := Kd.at_int (Kd.R_reads' HO_5.out).2.2 x9_2 p239 q239
                                                  cases e239
                                                  replace p239 := eq_true p239
                                                  replace q239 := eq_true q239
                                                  have p243 : 0 ≤ (x9_2 : Int) := of_decide_eq_true (by first | (with_reducible assumption) | assumption)
                                                  have q243 : x9_2 < (t202.length : Int) := of_decide_eq_true (by first | (with_reducible assumption) | assumption)
                                                  obtain ⟨ad243, e243, hx243_0⟩ := Kd.at_int (Kd.R_reads' HO_5.out).2.2 x9_2 p243 q243
                                                  obtain rfl : ad239 = ad243 := (by injection e243)
                                                  replace p243 := eq_true p243
                                                  replace q243 := eq_true q243
                                                  have p244 : 0 ≤ (x9_2 : Int) := of_decide_eq_true (by first | (with_reducible assumption) | assumption)
                                                  have q244 : x9_2 < (l0.length : Int) := of_decide_eq_true (by first | (with_reducible assumption) | assumption)
                                                  obtain ⟨ad244, e244, hx244_0⟩ := Kd.at_int HR0.out x9_2 p244 q244
                                                  obtain rfl : ad213 = ad244 := (by injection e244)
                                                  replace hx244_0 := (HB.out.cell (World.block_lt_of_cell? w _ hx244_0)).trans hx244_0
                                                  replace p244 := eq_true p244
                                                  replace q244 := eq_true q244
                                                  go_wp2
                                                  repeat (go_quiet (fail); try go_wp2)
                                                  go_meet
                                                  case rel => exact ⟨_, (decide ((rd l0 x9_2) ≥ 0)), (by first | rfl | (simp; done) | (simp [*]; done)), H', ⟨by have := HJ9.out; have := HK2.out; have := HJ22.out; first | omega | exact Nat.le_refl _⟩, ⟨by (with_reducible repeat (first | apply Kd.R_alloc | apply Kd.R_drewN | apply Kd.R_drew)); exact HO_5.out⟩, ⟨by (with_reducible repeat (first | apply Kd.R_alloc | apply Kd.R_drewN | apply Kd.R_drew)); exact HO_7.out⟩, ⟨by repeat (first | (with_reducible first | exact HB.out | apply below_alloc | apply pw_below_drewN | apply below_drew1) | exact HB.out)⟩⟩
                                                · rw [if_neg c60] at H
                                                  exact absurd H (by simp)
                                              · rw [if_neg c59] at H
                                                have c59b0 : decide ((rd t202 x9_2) < 0) = false := decide_eq_false c59
                                                clear c59
                                                have H' := Aside0.mk H
                                                clear H
                                                have p214 : 0 ≤ (x9_2 : Int) := of_decide_eq_true (by first | (with_reducible assumption) | assumption)
                                                have q214 : x9_2 < (l1.length : Int) := of_decide_eq_true (by first | (with_reducible assumption) | assumption)
                                                obtain ⟨ad214, e214, hx214_0⟩ := Kd.at_int HR1.out x9_2 p214 q214
                                                cases e214
                                                replace hx214_0 := (HB.out.cell (World.block_lt_of_cell? w _ hx214_0)).trans hx214_0
                                                replace p214 := eq_true p214
                                                replace q214 := eq_true q214
                                                have p215 : 0 ≤ (x9_2 : Int) := of_decide_eq_true (by first | (with_reducible assumption) | assumption)
                                                have q215 : x9_2 < (t207.length : Int) := of_decide_eq_true (by first | (with_reducible assumption) | assumption)
                                                obtain ⟨ad215, e215, hx215_0⟩ := Kd.at_int (Kd.R_reads' HO_7.out).2.2 x9_2 p215 q215
                                                obtain rfl : ad212 = ad215 := (by injection e215)
                                                replace p215 := eq_true p215
                                                replace q215 := eq_true q215
                                                have p231 : 0 ≤ (x9_2 : Int) := of_decide_eq_true (by first | (with_reducible assumption) | assumption)
                                                have q231 : x9_2 < (t207.length : Int) := of_decide_eq_true (by first | (with_reducible assumption) | assumption)
                                                obtain ⟨ad231, e231, hx231_0⟩ := Kd.at_int (Kd.R_reads' HO_7.out).2.2 x9_2 p231 q231
                                                obtain rfl : ad212 = ad231 := (by injection e231)
                                                replace p231 := eq_true p231
                                                replace q231 := eq_true q231
                                                have p239 : 0 ≤ (x9_2 : Int) := of_decide_eq_true (by first | (with_reducible assumption) | assumption)
                                                have q239 : x9_2 < (t202.length : Int) := of_decide_eq_true (by first | (with_reducible assumption) | assumption)
                                                obtain ⟨ad239, e239, hx239_0⟩ := Kd.at_int (Kd.R_reads' HO_5.out).2.2 x9_2 p239 q239
                                                cases e239
                                                replace p239 := eq_true p239
                                                replace q239 := eq_true q239
                                                have p243 : 0 ≤ (x9_2 : Int) := of_decide_eq_true (by first | (with_reducible assumption) | assumption)
                                                have q243 : x9_2 < (t202.length : Int) := of_decide_eq_true (by first | (with_reducible assumption) | assumption)
                                                obtain ⟨ad243, e243, hx243_0⟩ := Kd.at_int (Kd.R_reads' HO_5.out).2.2 x9_2 p243 q243
                                                obtain rfl : ad239 = ad243 := (by injection e243)
                                                replace p243 := eq_true p243
                                                replace q243 := eq_true q243
                                                go_wp2
                                                repeat (go_quiet (fail); try go_wp2)
                                                go_meet
                                                case rel => exact ⟨_, (false), (by first | rfl | (simp; done) | (simp [*]; done)), H', ⟨by have := HJ9.out; have := HK2.out; have := HJ22.out; first | omega | exact Nat.le_refl _⟩, ⟨by (with_reducible repeat (first | apply Kd.R_alloc | apply Kd.R_drewN | apply Kd.R_drew)); exact HO_5.out⟩, ⟨by (with_reducible repeat (first | apply Kd.R_alloc | apply Kd.R_drewN | apply Kd.R_drew)); exact HO_7.out⟩, ⟨by repeat (first | (with_reducible first | exact HB.out | apply below_alloc | apply pw_below_drewN | apply below_drew1) | exact HB.out)⟩⟩
                                          · rw [if_neg c54] at H
                                            exact absurd H (by simp)
                                    · rw [if_neg c30] at H
                                      exact absurd H (by simp)
                                · rw [if_neg c28] at H
                                  exact absurd H (by simp)
                              · rw [if_neg c27] at H
                                exact absurd H (by simp)
                            case rest =>
                              clear HC26
                              try clear c2
                              try clear p2
                              try clear q2
                              try clear hx2
                              try clear c3
                              try clear c4
                              try clear c5
                              try clear c6
                              try clear p21
                              try clear q21
                              try clear hx21
                              try clear p23
                              try clear q23
                              try clear hx23
                              try clear p24
                              try clear q24
                              try clear hx24
                              try clear c27
                              try clear c28
                              try clear c30
                              try clear c46
                              try clear c46b0
                              try clear c47
                              try clear c47b0
                              try clear c48
                              try clear c48b0
                              try clear c49
                              try clear c49b0
                              try clear c50
                              try clear c50b0
                              try clear c51
                              try clear c51b0
                              try clear c52
                              try clear c52b0
                              try clear c53
                              try clear c53b0
                              try clear c54
                              try clear c54b0
                              try clear c55
                              try clear c55b0
                              try clear c56
                              try clear c56b0
                              try clear c57
                              try clear c57b0
                              try clear c58
                              try clear c58b0
                              try clear c59
                              try clear c59b0
                              try clear c60
                              try clear c60b0
                              try clear hx214_0
                              try clear hx215_0
                              try clear hx231_0
                              try clear hx232_0
                              try clear hx233_0
                              try clear hx234_0
                              try clear hx235_0
                              try clear hx236_0
                              try clear hx237_0
                              try clear hx238_0
                              try clear hx239_0
                              try clear hx240_0
                              try clear hx241_0
                              try clear hx242_0
                              try clear hx243_0
                              try clear hx244_0
                              try clear p214
                              try clear p215
                              try clear p231
                              try clear p232
                              try clear p233
                              try clear p234
                              try clear p235
                              try clear p236
                              try clear p237
                              try clear p238
                              try clear p239
                              try clear p240
                              try clear p241
                              try clear p242
                              try clear p243
                              try clear p244
                              try clear q214
                              try clear q215
                              try clear q231
                              try clear q232
                              try clear q233
                              try clear q234
                              try clear q235
                              try clear q236
                              try clear q237
                              try clear q238
                              try clear q239
                              try clear q240
                              try clear q241
                              try clear q242
                              try clear q243
                              try clear q244
                              obtain ⟨kq, x126_25, rfl, HA, HJ25, HO_5, HO_7, HB⟩ := hcut
                              cases kq with
                              | zero => exact absurd HA.out (by simp [psalterylaw21_RemapNear.j3])
                              | succ kj25 =>
                                have H := HA.out
                                clear HA
                                simp only [psalterylaw21_RemapNear.j3] at H
                                by_cases c61 : x126_25 = true
                                · subst c61
                                  have H1 : (some false) = some r := by rw [if_pos rfl] at H; exact H
                                  clear H
                                  have H := H1
                                  clear H1
                                  exact absurd ((Option.some.inj H).trans HT.out) (by decide)
                                · replace c61 := Bool.eq_false_iff.mpr c61
                                  subst c61
                                  have H1 : (psalterylaw21_RemapNear.l0 kj25 l0 l1 t202 t207 (wrap64 (x9_2 + 1))) = some r := by rw [if_neg (show ¬ (false = true) by decide)] at H; exact H
                                  clear H
                                  have H := H1
                                  clear H1
                                  have H' := Aside0.mk H
                                  clear H
                                  go_wp2
                                  repeat (go_quiet (fail); try go_wp2)
                                  go_roundg kj25
                                  case measure => have := HJ9.out; have := HK2.out; have := HJ22.out; have := HJ25.out; omega
                                  case rel => exact ⟨(wrap64 (x9_2 + 1)), (by first | rfl | (simp; done) | (simp [*]; done)), H', ⟨by have := HJ9.out; have := HK2.out; have := HJ22.out; have := HJ25.out; omega⟩, ⟨by (with_reducible repeat (first | apply Kd.R_alloc | apply Kd.R_drewN | apply Kd.R_drew)); exact HO_5.out⟩, ⟨by (with_reducible repeat (first | apply Kd.R_alloc | apply Kd.R_drewN | apply Kd.R_drew)); exact HO_7.out⟩, ⟨by repeat (first | (with_reducible first | exact HB.out | apply below_alloc | apply pw_below_drewN | apply below_drew1) | exact HB.out)⟩⟩
                      · rw [if_neg c22] at H
                        exact absurd H (by simp)
                    · rw [if_neg c21] at H
                      exact absurd H (by simp)
                  · rw [if_neg c20] at H
                    exact absurd H (by simp)
                · rw [if_neg c19] at H
                  have c19b0 : decide (x9_2 < 16) = false := decide_eq_false c19
                  clear c19
                  replace H := Option.bind_eq_some_iff.mp H
                  obtain ⟨t211, A620, H⟩ := H
                  replace H : (some t211) = some r := H
                  have A62 := Aside0.mk A620
                  clear A620
                  obtain rfl := Option.some.inj H
                  go_wp2_with (first | (go_at_call 16; (with_reducible refine (psalterylaw21_knows.calls k2  t211 _ A62.out).mono ?_); rintro e w63 ⟨rfl, hb⟩; have n0_ := Aside0.mk (Kd.R_below (by (with_reducible repeat (first | apply Kd.R_alloc | apply Kd.R_drewN | apply Kd.R_drew)); exact HO_5.out) hb); have n1_ := Aside0.mk (Kd.R_below (by (with_reducible repeat (first | apply Kd.R_alloc | apply Kd.R_drewN | apply Kd.R_drew)); exact HO_7.out) hb); have n2_ := Aside0.mk (below_step (by repeat (first | (with_reducible first | exact HB.out | apply below_alloc | apply pw_below_drewN | apply below_drew1) | exact HB.out)) hb); clear HO_5; clear HO_7; clear HB; have HO_5 := n0_; have HO_7 := n1_; have HB := n2_; clear n0_ n1_ n2_; (try clear hb); (try clear hb2); (try clear hk); (try clear hi)))
                  repeat (go_quiet (first | (go_at_call 16; (with_reducible refine (psalterylaw21_knows.calls k2  t211 _ A62.out).mono ?_); rintro e w63 ⟨rfl, hb⟩; have n0_ := Aside0.mk (Kd.R_below (by (with_reducible repeat (first | apply Kd.R_alloc | apply Kd.R_drewN | apply Kd.R_drew)); exact HO_5.out) hb); have n1_ := Aside0.mk (Kd.R_below (by (with_reducible repeat (first | apply Kd.R_alloc | apply Kd.R_drewN | apply Kd.R_drew)); exact HO_7.out) hb); have n2_ := Aside0.mk (below_step (by repeat (first | (with_reducible first | exact HB.out | apply below_alloc | apply pw_below_drewN | apply below_drew1) | exact HB.out)) hb); clear HO_5; clear HO_7; clear HB; have HO_5 := n0_; have HO_7 := n1_; have HB := n2_; clear n0_ n1_ n2_; (try clear hb); (try clear hb2); (try clear hk); (try clear hi))); try go_wp2_with (first | (go_at_call 16; (with_reducible refine (psalterylaw21_knows.calls k2  t211 _ A62.out).mono ?_); rintro e w63 ⟨rfl, hb⟩; have n0_ := Aside0.mk (Kd.R_below (by (with_reducible repeat (first | apply Kd.R_alloc | apply Kd.R_drewN | apply Kd.R_drew)); exact HO_5.out) hb); have n1_ := Aside0.mk (Kd.R_below (by (with_reducible repeat (first | apply Kd.R_alloc | apply Kd.R_drewN | apply Kd.R_drew)); exact HO_7.out) hb); have n2_ := Aside0.mk (below_step (by repeat (first | (with_reducible first | exact HB.out | apply below_alloc | apply pw_below_drewN | apply below_drew1) | exact HB.out)) hb); clear HO_5; clear HO_7; clear HB; have HO_5 := n0_; have HO_7 := n1_; have HB := n2_; clear n0_ n1_ n2_; (try clear hb); (try clear hb2); (try clear hk); (try clear hi))))
                  go_ret
                  exact ⟨by first | rfl | (simp [errW_none, errW_some] <;> rfl) | (simp [*, errW_none, errW_some] <;> rfl), by repeat (first | (with_reducible first | exact HB.out | apply below_alloc | apply pw_below_drewN | apply below_drew1) | exact HB.out)⟩
    · rw [if_neg c8] at H
      have c8b0 : (t203 == 0) = false := beq_eq_false_iff_ne.mpr c8
      have c8b1 : (t203 != 0) = true := bne_iff_ne.mpr c8
      by_cases c64 : (t202.length : Int) = 0
      · rw [if_pos c64] at H
        have c64b0 : ((t202.length : Int) == 0) = true := beq_iff_eq.mpr c64
        have c64b1 : ((t202.length : Int) != 0) = false := bne_eq_false_iff_eq.mpr c64
        clear c64
        replace H := Option.bind_eq_some_iff.mp H
        obtain ⟨t206, A650, H⟩ := H
        replace H : (some t206) = some r := H
        have A65 := Aside0.mk A650
        clear A650
        obtain rfl := Option.some.inj H
        go_enter Try.func5, Try.ntmps5
        go_wp2_with (first | (go_at_call 15; (with_reducible refine (psalterylaw21_great.calls _ _ l0 _ _ l1 false _ ?side1 ?side2 ?side3 ?side4 A3.out).mono ?_); (case side1 => repeat (first | exact HR0.out | (with_reducible refine Kd.C_alloc ?_ _) | (with_reducible refine Kd.C_drewN ?_ _) | (with_reducible refine Kd.C_drew ?_))); (case side2 => exact HC0.out); (case side3 => repeat (first | exact HR1.out | (with_reducible refine Kd.C_alloc ?_ _) | (with_reducible refine Kd.C_drewN ?_ _) | (with_reducible refine Kd.C_drew ?_))); (case side4 => exact HC1.out); rintro e w' ⟨rfl, ⟨nd, rfl⟩⟩; (try first | exact ⟨rfl, _, World.drewN_drewN _ _ _⟩ | exact ⟨rfl, _, Eq.trans (World.drewN_drewN _ _ _) (congrArg (World.drewN _) (Nat.add_assoc _ _ _))⟩)) | (go_at_call 17; (with_reducible refine (remap_Quantize.calls k _ _ l0 _ _ l1 t202 t203 _ ?side1 ?side2 ?side3 ?side4 A7.out).mono ?_); (case side1 => repeat (first | exact HR0.out | (with_reducible refine Kd.C_alloc ?_ _) | (with_reducible refine Kd.C_drewN ?_ _) | (with_reducible refine Kd.C_drew ?_))); (case side2 => exact HC0.out); (case side3 => repeat (first | exact HR1.out | (with_reducible refine Kd.C_alloc ?_ _) | (with_reducible refine Kd.C_drewN ?_ _) | (with_reducible refine Kd.C_drew ?_))); (case side4 => exact HC1.out); rintro e w66 ⟨v204, rfl, ho0, hb⟩; have n0_ := Aside0.mk (Kd.R_lower ho0 (below_size (by repeat (first | (with_reducible first | exact HB.out | apply below_alloc | apply pw_below_drewN | apply below_drew1) | exact HB.out)))); have n1_ := Aside0.mk (below_step (by repeat (first | (with_reducible first | exact HB.out | apply below_alloc | apply pw_below_drewN | apply below_drew1) | exact HB.out)) hb); clear HB; have HO205 := n0_; have HB := n1_; clear n0_ n1_; (try clear hb); (try clear hb2); (try clear hk); (try clear hi); (try clear ho0); obtain ⟨Ao67, co67, eo67⟩ := Kd.R_slice HO205.out; subst eo67) | (go_at_call 16; (with_reducible refine (psalterylaw21_knows.calls k  t206 _ A65.out).mono ?_); rintro e w68 ⟨rfl, hb⟩; have n0_ := Aside0.mk (Kd.R_below (by (with_reducible repeat (first | apply Kd.R_alloc | apply Kd.R_drewN | apply Kd.R_drew)); exact HO205.out) hb); have n1_ := Aside0.mk (below_step (by repeat (first | (with_reducible first | exact HB.out | apply below_alloc | apply pw_below_drewN | apply below_drew1) | exact HB.out)) hb); clear HO205; clear HB; have HO205 := n0_; have HB := n1_; clear n0_ n1_; (try clear hb); (try clear hb2); (try clear hk); (try clear hi)))
        repeat (go_quiet (first | (go_at_call 15; (with_reducible refine (psalterylaw21_great.calls _ _ l0 _ _ l1 false _ ?side1 ?side2 ?side3 ?side4 A3.out).mono ?_); (case side1 => repeat (first | exact HR0.out | (with_reducible refine Kd.C_alloc ?_ _) | (with_reducible refine Kd.C_drewN ?_ _) | (with_reducible refine Kd.C_drew ?_))); (case side2 => exact HC0.out); (case side3 => repeat (first | exact HR1.out | (with_reducible refine Kd.C_alloc ?_ _) | (with_reducible refine Kd.C_drewN ?_ _) | (with_reducible refine Kd.C_drew ?_))); (case side4 => exact HC1.out); rintro e w' ⟨rfl, ⟨nd, rfl⟩⟩; (try first | exact ⟨rfl, _, World.drewN_drewN _ _ _⟩ | exact ⟨rfl, _, Eq.trans (World.drewN_drewN _ _ _) (congrArg (World.drewN _) (Nat.add_assoc _ _ _))⟩)) | (go_at_call 17; (with_reducible refine (remap_Quantize.calls k _ _ l0 _ _ l1 t202 t203 _ ?side1 ?side2 ?side3 ?side4 A7.out).mono ?_); (case side1 => repeat (first | exact HR0.out | (with_reducible refine Kd.C_alloc ?_ _) | (with_reducible refine Kd.C_drewN ?_ _) | (with_reducible refine Kd.C_drew ?_))); (case side2 => exact HC0.out); (case side3 => repeat (first | exact HR1.out | (with_reducible refine Kd.C_alloc ?_ _) | (with_reducible refine Kd.C_drewN ?_ _) | (with_reducible refine Kd.C_drew ?_))); (case side4 => exact HC1.out); rintro e w66 ⟨v204, rfl, ho0, hb⟩; have n0_ := Aside0.mk (Kd.R_lower ho0 (below_size (by repeat (first | (with_reducible first | exact HB.out | apply below_alloc | apply pw_below_drewN | apply below_drew1) | exact HB.out)))); have n1_ := Aside0.mk (below_step (by repeat (first | (with_reducible first | exact HB.out | apply below_alloc | apply pw_below_drewN | apply below_drew1) | exact HB.out)) hb); clear HB; have HO205 := n0_; have HB := n1_; clear n0_ n1_; (try clear hb); (try clear hb2); (try clear hk); (try clear hi); (try clear ho0); obtain ⟨Ao67, co67, eo67⟩ := Kd.R_slice HO205.out; subst eo67) | (go_at_call 16; (with_reducible refine (psalterylaw21_knows.calls k  t206 _ A65.out).mono ?_); rintro e w68 ⟨rfl, hb⟩; have n0_ := Aside0.mk (Kd.R_below (by (with_reducible repeat (first | apply Kd.R_alloc | apply Kd.R_drewN | apply Kd.R_drew)); exact HO205.out) hb); have n1_ := Aside0.mk (below_step (by repeat (first | (with_reducible first | exact HB.out | apply below_alloc | apply pw_below_drewN | apply below_drew1) | exact HB.out)) hb); clear HO205; clear HB; have HO205 := n0_; have HB := n1_; clear n0_ n1_; (try clear hb); (try clear hb2); (try clear hk); (try clear hi))); try go_wp2_with (first | (go_at_call 15; (with_reducible refine (psalterylaw21_great.calls _ _ l0 _ _ l1 false _ ?side1 ?side2 ?side3 ?side4 A3.out).mono ?_); (case side1 => repeat (first | exact HR0.out | (with_reducible refine Kd.C_alloc ?_ _) | (with_reducible refine Kd.C_drewN ?_ _) | (with_reducible refine Kd.C_drew ?_))); (case side2 => exact HC0.out); (case side3 => repeat (first | exact HR1.out | (with_reducible refine Kd.C_alloc ?_ _) | (with_reducible refine Kd.C_drewN ?_ _) | (with_reducible refine Kd.C_drew ?_))); (case side4 => exact HC1.out); rintro e w' ⟨rfl, ⟨nd, rfl⟩⟩; (try first | exact ⟨rfl, _, World.drewN_drewN _ _ _⟩ | exact ⟨rfl, _, Eq.trans (World.drewN_drewN _ _ _) (congrArg (World.drewN _) (Nat.add_assoc _ _ _))⟩)) | (go_at_call 17; (with_reducible refine (remap_Quantize.calls k _ _ l0 _ _ l1 t202 t203 _ ?side1 ?side2 ?side3 ?side4 A7.out).mono ?_); (case side1 => repeat (first | exact HR0.out | (with_reducible refine Kd.C_alloc ?_ _) | (with_reducible refine Kd.C_drewN ?_ _) | (with_reducible refine Kd.C_drew ?_))); (case side2 => exact HC0.out); (case side3 => repeat (first | exact HR1.out | (with_reducible refine Kd.C_alloc ?_ _) | (with_reducible refine Kd.C_drewN ?_ _) | (with_reducible refine Kd.C_drew ?_))); (case side4 => exact HC1.out); rintro e w66 ⟨v204, rfl, ho0, hb⟩; have n0_ := Aside0.mk (Kd.R_lower ho0 (below_size (by repeat (first | (with_reducible first | exact HB.out | apply below_alloc | apply pw_below_drewN | apply below_drew1) | exact HB.out)))); have n1_ := Aside0.mk (below_step (by repeat (first | (with_reducible first | exact HB.out | apply below_alloc | apply pw_below_drewN | apply below_drew1) | exact HB.out)) hb); clear HB; have HO205 := n0_; have HB := n1_; clear n0_ n1_; (try clear hb); (try clear hb2); (try clear hk); (try clear hi); (try clear ho0); obtain ⟨Ao67, co67, eo67⟩ := Kd.R_slice HO205.out; subst eo67) | (go_at_call 16; (with_reducible refine (psalterylaw21_knows.calls k  t206 _ A65.out).mono ?_); rintro e w68 ⟨rfl, hb⟩; have n0_ := Aside0.mk (Kd.R_below (by (with_reducible repeat (first | apply Kd.R_alloc | apply Kd.R_drewN | apply Kd.R_drew)); exact HO205.out) hb); have n1_ := Aside0.mk (below_step (by repeat (first | (with_reducible first | exact HB.out | apply below_alloc | apply pw_below_drewN | apply below_drew1) | exact HB.out)) hb); clear HO205; clear HB; have HO205 := n0_; have HB := n1_; clear n0_ n1_; (try clear hb); (try clear hb2); (try clear hk); (try clear hi))))
        go_ret
        exact ⟨by first | rfl | (simp [errW_none, errW_some] <;> rfl) | (simp [*, errW_none, errW_some] <;> rfl), by repeat (first | (with_reducible first | exact HB.out | apply below_alloc | apply pw_below_drewN | apply below_drew1) | exact HB.out)⟩
      · rw [if_neg c64] at H
        have c64b0 : ((t202.length : Int) == 0) = false := beq_eq_false_iff_ne.mpr c64
        have c64b1 : ((t202.length : Int) != 0) = true := bne_iff_ne.mpr c64
        have c64b2 : ¬ (t202 = []) := fun h_ => c64 (by rw [h_]; rfl)
        exact absurd ((Option.some.inj H).trans HT.out) (by decide)

/-- THE ONE PURE STATEMENT of psalterylaw21_RemapNear: yours. -/
def psalterylaw21_RemapNear.Pure : Prop := ∀ (l0 : List Int) (l1 : List Int), l0.length ≤ maxLen → l0.length * 8 ≤ 140737488351232 → (∀ x ∈ l0, (Lit.int .i64 x).wf = true) → l1.length ≤ maxLen → l1.length * 8 ≤ 140737488351232 → (∀ x ∈ l1, (Lit.int .i64 x).wf = true) → ∃ k, psalterylaw21_RemapNear.f k l0 l1 = some true
theorem psalterylaw21_RemapNear.walk (P : psalterylaw21_RemapNear.Pure) (a0 : Option Addr) (len0 cap0 : Nat) (z0 : List Int) (a1 : Option Addr) (len1 cap1 : Nat) (z1 : List Int) (w : World) (w0 : (a0 = none ∧ len0 = 0 ∧ cap0 = 0 ∧ z0 = []) ∨ ∃ x, a0 = some x ∧ len0 ≤ cap0 ∧ cap0 ≤ maxLen ∧ z0.length = cap0 ∧ (∀ i, i < z0.length → w.cell? (x.add i) = some (.int .i64 (z0.getD i 0))) ∧ ∀ n ∈ z0, (Lit.int .i64 n).wf = true) (y0 : len0 * 8 ≤ 140737488351232) (w1 : (a1 = none ∧ len1 = 0 ∧ cap1 = 0 ∧ z1 = []) ∨ ∃ x, a1 = some x ∧ len1 ≤ cap1 ∧ cap1 ≤ maxLen ∧ z1.length = cap1 ∧ (∀ i, i < z1.length → w.cell? (x.add i) = some (.int .i64 (z1.getD i 0))) ∧ ∀ n ∈ z1, (Lit.int .i64 n).wf = true) (y1 : len1 * 8 ≤ 140737488351232) :
    Calls Try.prog 5 #[.slice a0 len0 cap0, .slice a1 len1 cap1] w fun e w' => e = .returned (.bool true) ∧ Below w.heap.size w w' := by
  obtain ⟨l0, rfl, hr0, hm0, hw0, hc0⟩ := ReadsInt.ofRowC w0
  obtain ⟨l1, rfl, hr1, hm1, hw1, hc1⟩ := ReadsInt.ofRowC w1
  obtain ⟨k, h⟩ := P l0 l1 hm0 y0 hw0 hm1 y1 hw1
  refine (psalterylaw21_RemapNear.calls k _ _ l0 _ _ l1 true w (Kd.C_of_reads (d := (0 : Int)) (h1 := fun _ => rfl) hr0) hc0 (Kd.C_of_reads (d := (0 : Int)) (h1 := fun _ => rfl) hr1) hc1 h rfl).mono ?_
  rintro e w' ⟨rfl, hd⟩
  exact ⟨rfl, hd⟩

end Go.Proofs.Ytfipeildlleoeaa.P
