-- PRINTED by print.py (a twelfth state) out of the translation. Not trusted: Lean checks it.
import Derived.Test.YtfipeildlleoeaaPx0
import Derived.Test.YtfipeildlleoeaaPx30
import Derived.Test.YtfipeildlleoeaaPx34
import Derived.Test.YtfipeildlleoeaaPx41
namespace Go.Proofs.Ytfipeildlleoeaa.P
open Go.RowKit Go.Proofs.YtfipeildlleoeaaW.PrintWords Go.Proofs.YtfipeildlleoeaaW.PrintLast Go.Proofs.YtfipeildlleoeaaW.PrintMore
attribute [local go_sem] max2_int min2_int max_two min_two max_three min_three max_four min_four   -- for this text's walks alone
set_option linter.unusedVariables false
set_option linter.unusedSimpArgs false

/-! ### psalterylaw15_CoupleBack: function 11 -/
def psalterylaw15_CoupleBack.f (k : Nat) (a0 : Int) (a1 : Int) : Option (Bool) := (couple_Couple.f k a0 a1).bind fun bt474 => (if bt474.2.2 = 0 then ((couple_Part.f k bt474.1 bt474.2.1).bind fun bt477 => (if bt477.1 = a0 then (if bt477.2.1 = a1 then (if bt477.2.2 = 0 then ((psalterylaw15_knows.f k).bind fun t480 => (some t480)) else (some false)) else (some false)) else (some false))) else (if bt474.1 = 0 then (if bt474.2.1 = 0 then ((psalterylaw15_knows.f k).bind fun t481 => (some t481)) else (some false)) else (some false)))
theorem psalterylaw15_CoupleBack.mono : ∀ a0 a1 k, LeO (psalterylaw15_CoupleBack.f k a0 a1) (psalterylaw15_CoupleBack.f (k + 1) a0 a1) := by
  intro a0 a1 k
  unfold psalterylaw15_CoupleBack.f
  repeat' first
      | (with_reducible exact couple_Couple.mono _ _ _)
      | (with_reducible exact couple_Part.mono _ _ _)
      | (with_reducible exact psalterylaw15_knows.mono _)
      | (with_reducible exact LeO.refl _)
      | (with_reducible exact LeO.none _)
      | (with_reducible refine LeO.ite ?_ ?_)
      | (with_reducible refine LeO.bind ?_ (fun _ => ?_))
      | exact couple_Couple.mono _ _ _
      | exact couple_Part.mono _ _ _
      | exact psalterylaw15_knows.mono _
      | exact LeO.none _
      | refine LeO.ite ?_ ?_
      | refine LeO.bind ?_ (fun _ => ?_)
set_option maxHeartbeats 8000000 in
set_option maxRecDepth 100000 in
theorem psalterylaw15_CoupleBack.calls (k : Nat) (a0 : Int) (a1 : Int) (r : Bool) (w : World) (h : psalterylaw15_CoupleBack.f k a0 a1 = some r) (hT : r = true) :
    Calls Try.prog 11 #[.int .i64 a0, .int .i64 a1] w fun e w' => e = .returned (.bool r) ∧ Below w.heap.size w w' := by
  have HB := Aside0.mk (Below.refl w.heap.size w)
  have H : ((couple_Couple.f k a0 a1).bind fun bt474 => (if bt474.2.2 = 0 then ((couple_Part.f k bt474.1 bt474.2.1).bind fun bt477 => (if bt477.1 = a0 then (if bt477.2.1 = a1 then (if bt477.2.2 = 0 then ((psalterylaw15_knows.f k).bind fun t480 => (some t480)) else (some false)) else (some false)) else (some false))) else (if bt474.1 = 0 then (if bt474.2.1 = 0 then ((psalterylaw15_knows.f k).bind fun t481 => (some t481)) else (some false)) else (some false)))) = some r := h
  clear h
  have HT := Aside0.mk hT
  clear hT
  replace H := Option.bind_eq_some_iff.mp H
  obtain ⟨⟨t474, t475, t476⟩, A30, H⟩ := H
  replace H : (if t476 = 0 then ((couple_Part.f k t474 t475).bind fun bt477 => (if bt477.1 = a0 then (if bt477.2.1 = a1 then (if bt477.2.2 = 0 then ((psalterylaw15_knows.f k).bind fun t480 => (some t480)) else (some false)) else (some false)) else (some false))) else (if t474 = 0 then (if t475 = 0 then ((psalterylaw15_knows.f k).bind fun t481 => (some t481)) else (some false)) else (some false))) = some r := H
  have A3 := Aside0.mk A30
  clear A30
  by_cases c4 : t476 = 0
  · rw [if_pos c4] at H
    have c4b0 : (t476 == 0) = true := beq_iff_eq.mpr c4
    have c4b1 : (t476 != 0) = false := bne_eq_false_iff_eq.mpr c4
    clear c4
    replace H := Option.bind_eq_some_iff.mp H
    obtain ⟨⟨t477, t478, t479⟩, A50, H⟩ := H
    replace H : (if t477 = a0 then (if t478 = a1 then (if t479 = 0 then ((psalterylaw15_knows.f k).bind fun t480 => (some t480)) else (some false)) else (some false)) else (some false)) = some r := H
    have A5 := Aside0.mk A50
    clear A50
    by_cases c6 : t477 = a0
    · rw [if_pos c6] at H
      have c6b0 : (t477 == a0) = true := beq_iff_eq.mpr c6
      have c6b1 : (t477 != a0) = false := bne_eq_false_iff_eq.mpr c6
      clear c6
      by_cases c7 : t478 = a1
      · rw [if_pos c7] at H
        have c7b0 : (t478 == a1) = true := beq_iff_eq.mpr c7
        have c7b1 : (t478 != a1) = false := bne_eq_false_iff_eq.mpr c7
        clear c7
        by_cases c8 : t479 = 0
        · rw [if_pos c8] at H
          have c8b0 : (t479 == 0) = true := beq_iff_eq.mpr c8
          have c8b1 : (t479 != 0) = false := bne_eq_false_iff_eq.mpr c8
          clear c8
          replace H := Option.bind_eq_some_iff.mp H
          obtain ⟨t480, A90, H⟩ := H
          replace H : (some t480) = some r := H
          have A9 := Aside0.mk A90
          clear A90
          obtain rfl := Option.some.inj H
          go_enter Try.func11, Try.ntmps11
          go_wp2_with (first | ((with_reducible refine gate_callee (f := 24) rfl ?_); refine goesL_ (some 14) rfl rfl Try.func24 (by kernel_rfl) rfl #[.int .i64 a0, .int .i64 a1] rfl (by (try simp only [List.map_toArray, List.map_cons, List.map_nil]); first | done | rfl | (simp only [List.length_drop, List.length_take]; rfl)) ?_; (with_reducible refine (couple_Couple.calls k a0 a1 t474 t475 t476 _ A3.out).mono ?_); rintro e w10 ⟨rfl, hb⟩; refine ⟨_, rfl, ?_⟩; have n0_ := Aside0.mk (below_step (by repeat (first | (with_reducible first | exact HB.out | apply below_alloc | apply pw_below_drewN | apply below_drew1) | exact HB.out)) hb); clear HB; have HB := n0_; clear n0_; (try clear hb); (try clear hb2); (try clear hk); (try clear hi)) | ((with_reducible refine gate_callee (f := 25) rfl ?_); refine goesL_ (some 32) rfl rfl Try.func25 (by kernel_rfl) rfl #[.int .i64 t474, .int .i64 t475] rfl (by (try simp only [List.map_toArray, List.map_cons, List.map_nil]); first | done | rfl | (simp only [List.length_drop, List.length_take]; rfl)) ?_; (with_reducible refine (couple_Part.calls k t474 t475 t477 t478 t479 _ A5.out).mono ?_); rintro e w11 ⟨rfl, hb⟩; refine ⟨_, rfl, ?_⟩; have n0_ := Aside0.mk (below_step (by repeat (first | (with_reducible first | exact HB.out | apply below_alloc | apply pw_below_drewN | apply below_drew1) | exact HB.out)) hb); clear HB; have HB := n0_; clear n0_; (try clear hb); (try clear hb2); (try clear hk); (try clear hi)) | (go_at_call 28; (with_reducible refine (psalterylaw15_knows.calls k  t480 _ A9.out).mono ?_); rintro e w12 ⟨rfl, hb⟩; have n0_ := Aside0.mk (below_step (by repeat (first | (with_reducible first | exact HB.out | apply below_alloc | apply pw_below_drewN | apply below_drew1) | exact HB.out)) hb); clear HB; have HB := n0_; clear n0_; (try clear hb); (try clear hb2); (try clear hk); (try clear hi)))
          go_ret
          exact ⟨by first | rfl | (simp [errW_none, errW_some] <;> rfl) | (simp [*, errW_none, errW_some] <;> rfl), by repeat (first | (with_reducible first | exact HB.out | apply below_alloc | apply pw_below_drewN | apply below_drew1) | exact HB.out)⟩
        · rw [if_neg c8] at H
          have c8b0 : (t479 == 0) = false := beq_eq_false_iff_ne.mpr c8
          have c8b1 : (t479 != 0) = true := bne_iff_ne.mpr c8
          exact absurd ((Option.some.inj H).trans HT.out) (by decide)
      · rw [if_neg c7] at H
        have c7b0 : (t478 == a1) = false := beq_eq_false_iff_ne.mpr c7
        have c7b1 : (t478 != a1) = true := bne_iff_ne.mpr c7
        exact absurd ((Option.some.inj H).trans HT.out) (by decide)
    · rw [if_neg c6] at H
      have c6b0 : (t477 == a0) = false := beq_eq_false_iff_ne.mpr c6
      have c6b1 : (t477 != a0) = true := bne_iff_ne.mpr c6
      exact absurd ((Option.some.inj H).trans HT.out) (by decide)
  · rw [if_neg c4] at H
    have c4b0 : (t476 == 0) = false := beq_eq_false_iff_ne.mpr c4
    have c4b1 : (t476 != 0) = true := bne_iff_ne.mpr c4
    by_cases c13 : t474 = 0
    · rw [if_pos c13] at H
      have c13b0 : (t474 == 0) = true := beq_iff_eq.mpr c13
      have c13b1 : (t474 != 0) = false := bne_eq_false_iff_eq.mpr c13
      clear c13
      by_cases c14 : t475 = 0
      · rw [if_pos c14] at H
        have c14b0 : (t475 == 0) = true := beq_iff_eq.mpr c14
        have c14b1 : (t475 != 0) = false := bne_eq_false_iff_eq.mpr c14
        clear c14
        replace H := Option.bind_eq_some_iff.mp H
        obtain ⟨t481, A150, H⟩ := H
        replace H : (some t481) = some r := H
        have A15 := Aside0.mk A150
        clear A150
        obtain rfl := Option.some.inj H
        go_enter Try.func11, Try.ntmps11
        go_wp2_with (first | ((with_reducible refine gate_callee (f := 24) rfl ?_); refine goesL_ (some 14) rfl rfl Try.func24 (by kernel_rfl) rfl #[.int .i64 a0, .int .i64 a1] rfl (by (try simp only [List.map_toArray, List.map_cons, List.map_nil]); first | done | rfl | (simp only [List.length_drop, List.length_take]; rfl)) ?_; (with_reducible refine (couple_Couple.calls k a0 a1 t474 t475 t476 _ A3.out).mono ?_); rintro e w16 ⟨rfl, hb⟩; refine ⟨_, rfl, ?_⟩; have n0_ := Aside0.mk (below_step (by repeat (first | (with_reducible first | exact HB.out | apply below_alloc | apply pw_below_drewN | apply below_drew1) | exact HB.out)) hb); clear HB; have HB := n0_; clear n0_; (try clear hb); (try clear hb2); (try clear hk); (try clear hi)) | (go_at_call 28; (with_reducible refine (psalterylaw15_knows.calls k  t481 _ A15.out).mono ?_); rintro e w17 ⟨rfl, hb⟩; have n0_ := Aside0.mk (below_step (by repeat (first | (with_reducible first | exact HB.out | apply below_alloc | apply pw_below_drewN | apply below_drew1) | exact HB.out)) hb); clear HB; have HB := n0_; clear n0_; (try clear hb); (try clear hb2); (try clear hk); (try clear hi)))
        go_ret
        exact ⟨by first | rfl | (simp [errW_none, errW_some] <;> rfl) | (simp [*, errW_none, errW_some] <;> rfl), by repeat (first | (with_reducible first | exact HB.out | apply below_alloc | apply pw_below_drewN | apply below_drew1) | exact HB.out)⟩
      · rw [if_neg c14] at H
        have c14b0 : (t475 == 0) = false := beq_eq_false_iff_ne.mpr c14
        have c14b1 : (t475 != 0) = true := bne_iff_ne.mpr c14
        exact absurd ((Option.some.inj H).trans HT.out) (by decide)
    · rw [if_neg c13] at H
      have c13b0 : (t474 == 0) = false := beq_eq_false_iff_ne.mpr c13
      have c13b1 : (t474 != 0) = true := bne_iff_ne.mpr c13
      exact absurd ((Option.some.inj H).trans HT.out) (by decide)

/-- THE ONE PURE STATEMENT of psalterylaw15_CoupleBack: yours. -/
def psalterylaw15_CoupleBack.Pure : Prop := ∀ (a0 : Int) (a1 : Int), (Lit.int .i64 a0).wf = true → (Lit.int .i64 a1).wf = true → ∃ k, psalterylaw15_CoupleBack.f k a0 a1 = some true
theorem psalterylaw15_CoupleBack.walk (P : psalterylaw15_CoupleBack.Pure) (a0 : Int) (a1 : Int) (w : World) (w0 : (Lit.int .i64 a0).wf = true) (w1 : (Lit.int .i64 a1).wf = true) :
    Calls Try.prog 11 #[.int .i64 a0, .int .i64 a1] w fun e w' => e = .returned (.bool true) ∧ Below w.heap.size w w' := by
  obtain ⟨k, h⟩ := P a0 a1 w0 w1
  refine (psalterylaw15_CoupleBack.calls k a0 a1 true w h rfl).mono ?_
  rintro e w' ⟨rfl, hd⟩
  exact ⟨rfl, hd⟩

end Go.Proofs.Ytfipeildlleoeaa.P
