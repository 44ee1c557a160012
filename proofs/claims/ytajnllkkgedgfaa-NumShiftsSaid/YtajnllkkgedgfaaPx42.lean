-- PRINTED by print.py (a twelfth state) out of the translation. Not trusted: Lean checks it.
import Derived.Test.YtajnllkkgedgfaaPx0
import Derived.Test.YtajnllkkgedgfaaPx29
import Derived.Test.YtajnllkkgedgfaaPx30
import Derived.Test.YtajnllkkgedgfaaPx31
import Derived.Test.YtajnllkkgedgfaaPx40
import Derived.Test.YtajnllkkgedgfaaPx41
namespace Go.Proofs.Ytajnllkkgedgfaa.P
open Go.RowKit Go.Proofs.YtajnllkkgedgfaaW.PrintWords Go.Proofs.YtajnllkkgedgfaaW.PrintLast Go.Proofs.YtajnllkkgedgfaaW.PrintMore
attribute [local go_sem] max2_int min2_int max_two min_two max_three min_three max_four min_four   -- for this text's walks alone
set_option linter.unusedVariables false
set_option linter.unusedSimpArgs false

/-! ### psalterylaw03_NumShifts: function 14 -/
def psalterylaw03_NumShifts.j0 : Nat → Int → Int → Int → Int → Bool → Option (Bool)
  | 0, _, _, _, _, _ => none
  | k + 1, x0, x1, x9, x10, x31 => if x31 = true then (if x9 = 0 then (if x10 = 1 then ((psalterylaw03_knows.f k).bind fun t359 => (some t359)) else (some false)) else (some false)) else ((psalteryref03_Shift.f k x0 x1).bind fun t360 => (if x9 = t360 then (if x10 = 0 then ((psalterylaw03_knows.f k).bind fun t361 => (some t361)) else (some false)) else (some false)))
def psalterylaw03_NumShifts.f (k : Nat) (a0 : Int) (a1 : Int) (a2 : Int) (a3 : Int) : Option (Bool) := (num_Clamp.f a0 a2 a3).bind fun t355 => ((psalteryref03_Clamp.f a0 a2 a3).bind fun t356 => (if t355 = t356 then ((num_Shift.f a0 a1).bind fun bt357 => (if a1 < 0 then (psalterylaw03_NumShifts.j0 k a0 a1 bt357.1 bt357.2 true) else (psalterylaw03_NumShifts.j0 k a0 a1 bt357.1 bt357.2 (decide (a1 > 62))))) else (some false)))
theorem psalterylaw03_NumShifts.mono_l : ∀ k, (∀ y0 y1 y2 y3 y4, LeO (psalterylaw03_NumShifts.j0 k y0 y1 y2 y3 y4) (psalterylaw03_NumShifts.j0 (k + 1) y0 y1 y2 y3 y4))
  | 0 => fun _ _ _ _ _ r h => by simp [psalterylaw03_NumShifts.j0] at h
  | k + 1 => by
    have ih0 := psalterylaw03_NumShifts.mono_l k
    · intro y0 y1 y2 y3 y4
      unfold psalterylaw03_NumShifts.j0
      repeat' first
      | (with_reducible exact ih0 _ _ _ _ _)
      | (with_reducible exact psalterylaw03_knows.mono _)
      | (with_reducible exact psalteryref03_Shift.mono _ _ _)
      | (with_reducible exact LeO.refl _)
      | (with_reducible exact LeO.none _)
      | (with_reducible refine LeO.ite ?_ ?_)
      | (with_reducible refine LeO.bind ?_ (fun _ => ?_))
      | exact ih0 _ _ _ _ _
      | exact psalterylaw03_knows.mono _
      | exact psalteryref03_Shift.mono _ _ _
      | exact LeO.none _
      | refine LeO.ite ?_ ?_
      | refine LeO.bind ?_ (fun _ => ?_)
theorem psalterylaw03_NumShifts.mono : ∀ a0 a1 a2 a3 k, LeO (psalterylaw03_NumShifts.f k a0 a1 a2 a3) (psalterylaw03_NumShifts.f (k + 1) a0 a1 a2 a3) := by
  intro a0 a1 a2 a3 k
  have ih0 := psalterylaw03_NumShifts.mono_l k
  unfold psalterylaw03_NumShifts.f
  repeat' first
      | (with_reducible exact ih0 _ _ _ _ _)
      | (with_reducible exact psalterylaw03_knows.mono _)
      | (with_reducible exact psalteryref03_Shift.mono _ _ _)
      | (with_reducible exact LeO.refl _)
      | (with_reducible exact LeO.none _)
      | (with_reducible refine LeO.ite ?_ ?_)
      | (with_reducible refine LeO.bind ?_ (fun _ => ?_))
      | exact ih0 _ _ _ _ _
      | exact psalterylaw03_knows.mono _
      | exact psalteryref03_Shift.mono _ _ _
      | exact LeO.none _
      | refine LeO.ite ?_ ?_
      | refine LeO.bind ?_ (fun _ => ?_)
set_option maxHeartbeats 8000000 in
set_option maxRecDepth 100000 in
theorem psalterylaw03_NumShifts.calls (k : Nat) (a0 : Int) (a1 : Int) (a2 : Int) (a3 : Int) (r : Bool) (w : World) (h : psalterylaw03_NumShifts.f k a0 a1 a2 a3 = some r) (hT : r = true) :
    Calls Try.prog 14 #[.int .i64 a0, .int .i64 a1, .int .i64 a2, .int .i64 a3] w fun e w' => e = .returned (.bool r) ∧ Below w.heap.size w w' := by
  have HB := Aside0.mk (Below.refl w.heap.size w)
  have H : ((num_Clamp.f a0 a2 a3).bind fun t355 => ((psalteryref03_Clamp.f a0 a2 a3).bind fun t356 => (if t355 = t356 then ((num_Shift.f a0 a1).bind fun bt357 => (if a1 < 0 then (psalterylaw03_NumShifts.j0 k a0 a1 bt357.1 bt357.2 true) else (psalterylaw03_NumShifts.j0 k a0 a1 bt357.1 bt357.2 (decide (a1 > 62))))) else (some false)))) = some r := h
  clear h
  have HT := Aside0.mk hT
  clear hT
  replace H := Option.bind_eq_some_iff.mp H
  obtain ⟨t355, A50, H⟩ := H
  replace H : ((psalteryref03_Clamp.f a0 a2 a3).bind fun t356 => (if t355 = t356 then ((num_Shift.f a0 a1).bind fun bt357 => (if a1 < 0 then (psalterylaw03_NumShifts.j0 k a0 a1 bt357.1 bt357.2 true) else (psalterylaw03_NumShifts.j0 k a0 a1 bt357.1 bt357.2 (decide (a1 > 62))))) else (some false))) = some r := H
  have A5 := Aside0.mk A50
  clear A50
  replace H := Option.bind_eq_some_iff.mp H
  obtain ⟨t356, A60, H⟩ := H
  replace H : (if t355 = t356 then ((num_Shift.f a0 a1).bind fun bt357 => (if a1 < 0 then (psalterylaw03_NumShifts.j0 k a0 a1 bt357.1 bt357.2 true) else (psalterylaw03_NumShifts.j0 k a0 a1 bt357.1 bt357.2 (decide (a1 > 62))))) else (some false)) = some r := H
  have A6 := Aside0.mk A60
  clear A60
  by_cases c7 : t355 = t356
  · rw [if_pos c7] at H
    have c7b0 : (t355 == t356) = true := beq_iff_eq.mpr c7
    have c7b1 : (t355 != t356) = false := bne_eq_false_iff_eq.mpr c7
    clear c7
    replace H := Option.bind_eq_some_iff.mp H
    obtain ⟨⟨t357, t358⟩, A80, H⟩ := H
    replace H : (if a1 < 0 then (psalterylaw03_NumShifts.j0 k a0 a1 t357 t358 true) else (psalterylaw03_NumShifts.j0 k a0 a1 t357 t358 (decide (a1 > 62)))) = some r := H
    have A8 := Aside0.mk A80
    clear A80
    have HC9 := Aside0.mk H
    clear H
    go_enter Try.func14, Try.ntmps14
    go_upto_region 4 with (first | ((with_reducible refine gate_callee (f := 37) rfl ?_); refine goesL_ (some 14) rfl rfl Try.func37 (by kernel_rfl) rfl #[.int .i64 a0, .int .i64 a2, .int .i64 a3] rfl (by (try simp only [List.map_toArray, List.map_cons, List.map_nil]); first | done | rfl | (simp only [List.length_drop, List.length_take]; rfl)) ?_; (with_reducible refine (num_Clamp.calls a0 a2 a3 t355 _ A5.out).mono ?_); rintro e w' ⟨rfl, ⟨nd, rfl⟩⟩; refine ⟨_, rfl, ?_⟩) | ((with_reducible refine gate_callee (f := 38) rfl ?_); refine goesL_ (some 18) rfl rfl Try.func38 (by kernel_rfl) rfl #[.int .i64 a0, .int .i64 a2, .int .i64 a3] rfl (by (try simp only [List.map_toArray, List.map_cons, List.map_nil]); first | done | rfl | (simp only [List.length_drop, List.length_take]; rfl)) ?_; (with_reducible refine (psalteryref03_Clamp.calls a0 a2 a3 t356 _ A6.out).mono ?_); rintro e w' ⟨rfl, ⟨nd, rfl⟩⟩; refine ⟨_, rfl, ?_⟩) | ((with_reducible refine gate_callee (f := 39) rfl ?_); refine goesL_ (some 23) rfl rfl Try.func39 (by kernel_rfl) rfl #[.int .i64 a0, .int .i64 a1] rfl (by (try simp only [List.map_toArray, List.map_cons, List.map_nil]); first | done | rfl | (simp only [List.length_drop, List.length_take]; rfl)) ?_; (with_reducible refine (num_Shift.calls a0 a1 t357 t358 _ A8.out).mono ?_); rintro e w' ⟨rfl, ⟨nd, rfl⟩⟩; refine ⟨_, rfl, ?_⟩))
    (try simp only [Act.put, List.setIfInBounds_toArray, List.set_cons_zero, List.set_cons_succ])
    go_cut [31] (fun v31 wc => ∃ (kq : Nat) (x31_8 : Bool), v31 = .bool x31_8 ∧ Aside0 (psalterylaw03_NumShifts.j0 kq a0 a1 t357 t358 x31_8 = some r) ∧ Aside0 (kq ≤ k) ∧ Aside0 (Below w.heap.size w wc))
    case first =>
      have H := HC9.out
      clear HC9
      by_cases c10 : a1 < 0
      · rw [if_pos c10] at H
        have c10b0 : decide (a1 < 0) = true := decide_eq_true c10
        clear c10
        (first | rw [c10b0] | (simp only [i64_w, i32_w]; rw [c10b0]) | skip)
        have H' := Aside0.mk H
        clear H
        go_wp2
        go_meet
        case rel => exact ⟨_, (true), (by first | rfl | (simp; done) | (simp [*]; done)), H', ⟨by first | omega | exact Nat.le_refl _⟩, ⟨by repeat (first | (with_reducible first | exact HB.out | apply below_alloc | apply pw_below_drewN | apply below_drew1) | exact HB.out)⟩⟩
      · rw [if_neg c10] at H
        have c10b0 : decide (a1 < 0) = false := decide_eq_false c10
        clear c10
        (first | rw [c10b0] | (simp only [i64_w, i32_w]; rw [c10b0]) | skip)
        have H' := Aside0.mk H
        clear H
        go_wp2
        go_meet
        case rel => exact ⟨_, (decide (a1 > 62)), (by first | rfl | (simp; done) | (simp [*]; done)), H', ⟨by first | omega | exact Nat.le_refl _⟩, ⟨by repeat (first | (with_reducible first | exact HB.out | apply below_alloc | apply pw_below_drewN | apply below_drew1) | exact HB.out)⟩⟩
    case rest =>
      clear HC9
      try clear c1
      try clear p2
      try clear c3
      try clear c7
      try clear c7b0
      try clear c7b1
      try clear c10
      try clear c10b0
      obtain ⟨kq, x31_8, rfl, HA, HJ8, HB⟩ := hcut
      cases kq with
      | zero => exact absurd HA.out (by simp [psalterylaw03_NumShifts.j0])
      | succ kj8 =>
        have H := HA.out
        clear HA
        simp only [psalterylaw03_NumShifts.j0] at H
        by_cases c11 : x31_8 = true
        · subst c11
          have H1 : (if t357 = 0 then (if t358 = 1 then ((psalterylaw03_knows.f kj8).bind fun t359 => (some t359)) else (some false)) else (some false)) = some r := by rw [if_pos rfl] at H; exact H
          clear H
          have H := H1
          clear H1
          by_cases c12 : t357 = 0
          · rw [if_pos c12] at H
            have c12b0 : (t357 == 0) = true := beq_iff_eq.mpr c12
            have c12b1 : (t357 != 0) = false := bne_eq_false_iff_eq.mpr c12
            clear c12
            by_cases c13 : t358 = 1
            · rw [if_pos c13] at H
              have c13b0 : (t358 == 1) = true := beq_iff_eq.mpr c13
              have c13b1 : (t358 != 1) = false := bne_eq_false_iff_eq.mpr c13
              clear c13
              replace H := Option.bind_eq_some_iff.mp H
              obtain ⟨t359, A140, H⟩ := H
              replace H : (some t359) = some r := H
              have A14 := Aside0.mk A140
              clear A140
              obtain rfl := Option.some.inj H
              go_wp2_with (first | (go_at_call 30; (with_reducible refine (psalterylaw03_knows.calls kj8  t359 _ A14.out).mono ?_); rintro e w15 ⟨rfl, hb⟩; have n0_ := Aside0.mk (below_step (by repeat (first | (with_reducible first | exact HB.out | apply below_alloc | apply pw_below_drewN | apply below_drew1) | exact HB.out)) hb); clear HB; have HB := n0_; clear n0_; (try clear hb); (try clear hb2); (try clear hk); (try clear hi)))
              go_ret
              exact ⟨by first | rfl | (simp [errW_none, errW_some] <;> rfl) | (simp [*, errW_none, errW_some] <;> rfl), by repeat (first | (with_reducible first | exact HB.out | apply below_alloc | apply pw_below_drewN | apply below_drew1) | exact HB.out)⟩
            · rw [if_neg c13] at H
              have c13b0 : (t358 == 1) = false := beq_eq_false_iff_ne.mpr c13
              have c13b1 : (t358 != 1) = true := bne_iff_ne.mpr c13
              exact absurd ((Option.some.inj H).trans HT.out) (by decide)
          · rw [if_neg c12] at H
            have c12b0 : (t357 == 0) = false := beq_eq_false_iff_ne.mpr c12
            have c12b1 : (t357 != 0) = true := bne_iff_ne.mpr c12
            exact absurd ((Option.some.inj H).trans HT.out) (by decide)
        · replace c11 := Bool.eq_false_iff.mpr c11
          subst c11
          have H1 : ((psalteryref03_Shift.f kj8 a0 a1).bind fun t360 => (if t357 = t360 then (if t358 = 0 then ((psalterylaw03_knows.f kj8).bind fun t361 => (some t361)) else (some false)) else (some false))) = some r := by rw [if_neg (show ¬ (false = true) by decide)] at H; exact H
          clear H
          have H := H1
          clear H1
          replace H := Option.bind_eq_some_iff.mp H
          obtain ⟨t360, A160, H⟩ := H
          replace H : (if t357 = t360 then (if t358 = 0 then ((psalterylaw03_knows.f kj8).bind fun t361 => (some t361)) else (some false)) else (some false)) = some r := H
          have A16 := Aside0.mk A160
          clear A160
          by_cases c17 : t357 = t360
          · rw [if_pos c17] at H
            have c17b0 : (t357 == t360) = true := beq_iff_eq.mpr c17
            have c17b1 : (t357 != t360) = false := bne_eq_false_iff_eq.mpr c17
            clear c17
            by_cases c18 : t358 = 0
            · rw [if_pos c18] at H
              have c18b0 : (t358 == 0) = true := beq_iff_eq.mpr c18
              have c18b1 : (t358 != 0) = false := bne_eq_false_iff_eq.mpr c18
              clear c18
              replace H := Option.bind_eq_some_iff.mp H
              obtain ⟨t361, A190, H⟩ := H
              replace H : (some t361) = some r := H
              have A19 := Aside0.mk A190
              clear A190
              obtain rfl := Option.some.inj H
              go_wp2_with (first | ((with_reducible refine gate_callee (f := 40) rfl ?_); refine goesL_ (some 44) rfl rfl Try.func40 (by kernel_rfl) rfl #[.int .i64 a0, .int .i64 a1] rfl (by (try simp only [List.map_toArray, List.map_cons, List.map_nil]); first | done | rfl | (simp only [List.length_drop, List.length_take]; rfl)) ?_; (with_reducible refine (psalteryref03_Shift.calls kj8 a0 a1 t360 _ A16.out).mono ?_); rintro e w' ⟨rfl, ⟨nd, rfl⟩⟩; refine ⟨_, rfl, ?_⟩) | (go_at_call 30; (with_reducible refine (psalterylaw03_knows.calls kj8  t361 _ A19.out).mono ?_); rintro e w20 ⟨rfl, hb⟩; have n0_ := Aside0.mk (below_step (by repeat (first | (with_reducible first | exact HB.out | apply below_alloc | apply pw_below_drewN | apply below_drew1) | exact HB.out)) hb); clear HB; have HB := n0_; clear n0_; (try clear hb); (try clear hb2); (try clear hk); (try clear hi)))
              go_ret
              exact ⟨by first | rfl | (simp [errW_none, errW_some] <;> rfl) | (simp [*, errW_none, errW_some] <;> rfl), by repeat (first | (with_reducible first | exact HB.out | apply below_alloc | apply pw_below_drewN | apply below_drew1) | exact HB.out)⟩
            · rw [if_neg c18] at H
              have c18b0 : (t358 == 0) = false := beq_eq_false_iff_ne.mpr c18
              have c18b1 : (t358 != 0) = true := bne_iff_ne.mpr c18
              exact absurd ((Option.some.inj H).trans HT.out) (by decide)
          · rw [if_neg c17] at H
            have c17b0 : (t357 == t360) = false := beq_eq_false_iff_ne.mpr c17
            have c17b1 : (t357 != t360) = true := bne_iff_ne.mpr c17
            exact absurd ((Option.some.inj H).trans HT.out) (by decide)
  · rw [if_neg c7] at H
    have c7b0 : (t355 == t356) = false := beq_eq_false_iff_ne.mpr c7
    have c7b1 : (t355 != t356) = true := bne_iff_ne.mpr c7
    exact absurd ((Option.some.inj H).trans HT.out) (by decide)

/-- THE ONE PURE STATEMENT of psalterylaw03_NumShifts: yours. -/
def psalterylaw03_NumShifts.Pure : Prop := ∀ (a0 : Int) (a1 : Int) (a2 : Int) (a3 : Int), (Lit.int .i64 a0).wf = true → (Lit.int .i64 a1).wf = true → (Lit.int .i64 a2).wf = true → (Lit.int .i64 a3).wf = true → ∃ k, psalterylaw03_NumShifts.f k a0 a1 a2 a3 = some true
theorem psalterylaw03_NumShifts.walk (P : psalterylaw03_NumShifts.Pure) (a0 : Int) (a1 : Int) (a2 : Int) (a3 : Int) (w : World) (w0 : (Lit.int .i64 a0).wf = true) (w1 : (Lit.int .i64 a1).wf = true) (w2 : (Lit.int .i64 a2).wf = true) (w3 : (Lit.int .i64 a3).wf = true) :
    Calls Try.prog 14 #[.int .i64 a0, .int .i64 a1, .int .i64 a2, .int .i64 a3] w fun e w' => e = .returned (.bool true) ∧ Below w.heap.size w w' := by
  obtain ⟨k, h⟩ := P a0 a1 a2 a3 w0 w1 w2 w3
  refine (psalterylaw03_NumShifts.calls k a0 a1 a2 a3 true w h rfl).mono ?_
  rintro e w' ⟨rfl, hd⟩
  exact ⟨rfl, hd⟩

end Go.Proofs.Ytajnllkkgedgfaa.P
