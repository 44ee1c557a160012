-- PRINTED by print.py (a twelfth state) out of the translation. Not trusted: Lean checks it.
import Derived.Test.YtfipeildlleoeaaPx0
import Derived.Test.YtfipeildlleoeaaPx30
import Derived.Test.YtfipeildlleoeaaPx41
namespace Go.Proofs.Ytfipeildlleoeaa.P
open Go.RowKit Go.Proofs.YtfipeildlleoeaaW.PrintWords Go.Proofs.YtfipeildlleoeaaW.PrintLast Go.Proofs.YtfipeildlleoeaaW.PrintMore
attribute [local go_sem] max2_int min2_int max_two min_two max_three min_three max_four min_four   -- for this text's walks alone
set_option linter.unusedVariables false
set_option linter.unusedSimpArgs false

/-! ### psalterylaw15_CoupleSizes: function 12 -/
def psalterylaw15_CoupleSizes.j0 : Nat → Int → Int → Int → Int → Int → Int → Int → Option (Bool)
  | 0, _, _, _, _, _, _, _ => none
  | k + 1, x0, x1, x5, x6, x8, x9, x10 => if x9 < 0 then (if x10 < 0 then (if x5 = x0 then (if (wrap64 (-x10)) ≥ x8 then (if (wrap64 (-x10)) ≥ (wrap64 (-x9)) then (if x6 ≤ (wrap64 (x8 + (wrap64 (-x9)))) then (if x6 ≥ (wrap64 ((wrap64 (-x8)) - (wrap64 (-x9)))) then (if x0 = x1 then (if x6 = 0 then ((psalterylaw15_knows.f k).bind fun t486 => (some t486)) else (some false)) else ((psalterylaw15_knows.f k).bind fun t487 => (some t487))) else (some false)) else (some false)) else (some false)) else (some false)) else (if x5 = x1 then (if (wrap64 (-x10)) ≥ x8 then (if (wrap64 (-x10)) ≥ (wrap64 (-x9)) then (if x6 ≤ (wrap64 (x8 + (wrap64 (-x9)))) then (if x6 ≥ (wrap64 ((wrap64 (-x8)) - (wrap64 (-x9)))) then (if x0 = x1 then (if x6 = 0 then ((psalterylaw15_knows.f k).bind fun t488 => (some t488)) else (some false)) else ((psalterylaw15_knows.f k).bind fun t489 => (some t489))) else (some false)) else (some false)) else (some false)) else (some false)) else (some false))) else (if x5 = x0 then (if x10 ≥ x8 then (if x10 ≥ (wrap64 (-x9)) then (if x6 ≤ (wrap64 (x8 + (wrap64 (-x9)))) then (if x6 ≥ (wrap64 ((wrap64 (-x8)) - (wrap64 (-x9)))) then (if x0 = x1 then (if x6 = 0 then ((psalterylaw15_knows.f k).bind fun t490 => (some t490)) else (some false)) else ((psalterylaw15_knows.f k).bind fun t491 => (some t491))) else (some false)) else (some false)) else (some false)) else (some false)) else (if x5 = x1 then (if x10 ≥ x8 then (if x10 ≥ (wrap64 (-x9)) then (if x6 ≤ (wrap64 (x8 + (wrap64 (-x9)))) then (if x6 ≥ (wrap64 ((wrap64 (-x8)) - (wrap64 (-x9)))) then (if x0 = x1 then (if x6 = 0 then ((psalterylaw15_knows.f k).bind fun t492 => (some t492)) else (some false)) else ((psalterylaw15_knows.f k).bind fun t493 => (some t493))) else (some false)) else (some false)) else (some false)) else (some false)) else (some false)))) else (if x10 < 0 then (if x5 = x0 then (if (wrap64 (-x10)) ≥ x8 then (if (wrap64 (-x10)) ≥ x9 then (if x6 ≤ (wrap64 (x8 + x9)) then (if x6 ≥ (wrap64 ((wrap64 (-x8)) - x9)) then (if x0 = x1 then (if x6 = 0 then ((psalterylaw15_knows.f k).bind fun t494 => (some t494)) else (some false)) else ((psalterylaw15_knows.f k).bind fun t495 => (some t495))) else (some false)) else (some false)) else (some false)) else (some false)) else (if x5 = x1 then (if (wrap64 (-x10)) ≥ x8 then (if (wrap64 (-x10)) ≥ x9 then (if x6 ≤ (wrap64 (x8 + x9)) then (if x6 ≥ (wrap64 ((wrap64 (-x8)) - x9)) then (if x0 = x1 then (if x6 = 0 then ((psalterylaw15_knows.f k).bind fun t496 => (some t496)) else (some false)) else ((psalterylaw15_knows.f k).bind fun t497 => (some t497))) else (some false)) else (some false)) else (some false)) else (some false)) else (some false))) else (if x5 = x0 then (if x10 ≥ x8 then (if x10 ≥ x9 then (if x6 ≤ (wrap64 (x8 + x9)) then (if x6 ≥ (wrap64 ((wrap64 (-x8)) - x9)) then (if x0 = x1 then (if x6 = 0 then ((psalterylaw15_knows.f k).bind fun t498 => (some t498)) else (some false)) else ((psalterylaw15_knows.f k).bind fun t499 => (some t499))) else (some false)) else (some false)) else (some false)) else (some false)) else (if x5 = x1 then (if x10 ≥ x8 then (if x10 ≥ x9 then (if x6 ≤ (wrap64 (x8 + x9)) then (if x6 ≥ (wrap64 ((wrap64 (-x8)) - x9)) then (if x0 = x1 then (if x6 = 0 then ((psalterylaw15_knows.f k).bind fun t500 => (some t500)) else (some false)) else ((psalterylaw15_knows.f k).bind fun t501 => (some t501))) else (some false)) else (some false)) else (some false)) else (some false)) else (some false))))
def psalterylaw15_CoupleSizes.f (k : Nat) (a0 : Int) (a1 : Int) : Option (Bool) := (couple_Couple.f k a0 a1).bind fun bt482 => (if bt482.2.2 = 0 then (if a0 < 0 then (psalterylaw15_CoupleSizes.j0 k a0 a1 bt482.1 bt482.2.1 (wrap64 (-a0)) a1 bt482.1) else (psalterylaw15_CoupleSizes.j0 k a0 a1 bt482.1 bt482.2.1 a0 a1 bt482.1)) else ((psalterylaw15_knows.f k).bind fun t485 => (some t485)))
theorem psalterylaw15_CoupleSizes.mono_l : ∀ k, (∀ y0 y1 y2 y3 y4 y5 y6, LeO (psalterylaw15_CoupleSizes.j0 k y0 y1 y2 y3 y4 y5 y6) (psalterylaw15_CoupleSizes.j0 (k + 1) y0 y1 y2 y3 y4 y5 y6))
  | 0 => fun _ _ _ _ _ _ _ r h => by simp [psalterylaw15_CoupleSizes.j0] at h
  | k + 1 => by
    have ih0 := psalterylaw15_CoupleSizes.mono_l k
    · intro y0 y1 y2 y3 y4 y5 y6
      unfold psalterylaw15_CoupleSizes.j0
      repeat' first
      | (with_reducible exact ih0 _ _ _ _ _ _ _)
      | (with_reducible exact couple_Couple.mono _ _ _)
      | (with_reducible exact psalterylaw15_knows.mono _)
      | (with_reducible exact LeO.refl _)
      | (with_reducible exact LeO.none _)
      | (with_reducible refine LeO.ite ?_ ?_)
      | (with_reducible refine LeO.bind ?_ (fun _ => ?_))
      | exact ih0 _ _ _ _ _ _ _
      | exact couple_Couple.mono _ _ _
      | exact psalterylaw15_knows.mono _
      | exact LeO.none _
      | refine LeO.ite ?_ ?_
      | refine LeO.bind ?_ (fun _ => ?_)
theorem psalterylaw15_CoupleSizes.mono : ∀ a0 a1 k, LeO (psalterylaw15_CoupleSizes.f k a0 a1) (psalterylaw15_CoupleSizes.f (k + 1) a0 a1) := by
  intro a0 a1 k
  have ih0 := psalterylaw15_CoupleSizes.mono_l k
  unfold psalterylaw15_CoupleSizes.f
  repeat' first
      | (with_reducible exact ih0 _ _ _ _ _ _ _)
      | (with_reducible exact couple_Couple.mono _ _ _)
      | (with_reducible exact psalterylaw15_knows.mono _)
      | (with_reducible exact LeO.refl _)
      | (with_reducible exact LeO.none _)
      | (with_reducible refine LeO.ite ?_ ?_)
      | (with_reducible refine LeO.bind ?_ (fun _ => ?_))
      | exact ih0 _ _ _ _ _ _ _
      | exact couple_Couple.mono _ _ _
      | exact psalterylaw15_knows.mono _
      | exact LeO.none _
      | refine LeO.ite ?_ ?_
      | refine LeO.bind ?_ (fun _ => ?_)
set_option maxHeartbeats 8000000 in
set_option maxRecDepth 100000 in
theorem psalterylaw15_CoupleSizes.calls (k : Nat) (a0 : Int) (a1 : Int) (r : Bool) (w : World) (h : psalterylaw15_CoupleSizes.f k a0 a1 = some r) (hT : r = true) :
    Calls Try.prog 12 #[.int .i64 a0, .int .i64 a1] w fun e w' => e = .returned (.bool r) ∧ Below w.heap.size w w' := by
  have HB := Aside0.mk (Below.refl w.heap.size w)
  have H : ((couple_Couple.f k a0 a1).bind fun bt482 => (if bt482.2.2 = 0 then (if a0 < 0 then (psalterylaw15_CoupleSizes.j0 k a0 a1 bt482.1 bt482.2.1 (wrap64 (-a0)) a1 bt482.1) else (psalterylaw15_CoupleSizes.j0 k a0 a1 bt482.1 bt482.2.1 a0 a1 bt482.1)) else ((psalterylaw15_knows.f k).bind fun t485 => (some t485)))) = some r := h
  clear h
  have HT := Aside0.mk hT
  clear hT
  replace H := Option.bind_eq_some_iff.mp H
  obtain ⟨⟨t482, t483, t484⟩, A30, H⟩ := H
  replace H : (if t484 = 0 then (if a0 < 0 then (psalterylaw15_CoupleSizes.j0 k a0 a1 t482 t483 (wrap64 (-a0)) a1 t482) else (psalterylaw15_CoupleSizes.j0 k a0 a1 t482 t483 a0 a1 t482)) else ((psalterylaw15_knows.f k).bind fun t485 => (some t485))) = some r := H
  have A3 := Aside0.mk A30
  clear A30
  by_cases c4 : t484 = 0
  · rw [if_pos c4] at H
    have c4b0 : (t484 == 0) = true := beq_iff_eq.mpr c4
    have c4b1 : (t484 != 0) = false := bne_eq_false_iff_eq.mpr c4
    clear c4
    have HC5 := Aside0.mk H
    clear H
    go_enter Try.func12, Try.ntmps12
    go_upto_if 25 with (first | ((with_reducible refine gate_callee (f := 24) rfl ?_); refine goesL_ (some 14) rfl rfl Try.func24 (by kernel_rfl) rfl #[.int .i64 a0, .int .i64 a1] rfl (by (try simp only [List.map_toArray, List.map_cons, List.map_nil]); first | done | rfl | (simp only [List.length_drop, List.length_take]; rfl)) ?_; (with_reducible refine (couple_Couple.calls k a0 a1 t482 t483 t484 _ A3.out).mono ?_); rintro e w6 ⟨rfl, hb⟩; refine ⟨_, rfl, ?_⟩; have n0_ := Aside0.mk (below_step (by repeat (first | (with_reducible first | exact HB.out | apply below_alloc | apply pw_below_drewN | apply below_drew1) | exact HB.out)) hb); clear HB; have HB := n0_; clear n0_; (try clear hb); (try clear hb2); (try clear hk); (try clear hi)))
    (try simp only [Act.put, List.setIfInBounds_toArray, List.set_cons_zero, List.set_cons_succ])
    go_cut [8] (fun v8 wc => ∃ (kq : Nat) (x8_4 : Int), v8 = .int .i64 x8_4 ∧ Aside0 (psalterylaw15_CoupleSizes.j0 kq a0 a1 t482 t483 x8_4 a1 t482 = some r) ∧ Aside0 (kq ≤ k) ∧ Aside0 (Below w.heap.size w wc))
    case first =>
      have H := HC5.out
      clear HC5
      by_cases c7 : a0 < 0
      · rw [if_pos c7] at H
        have c7b0 : decide (a0 < 0) = true := decide_eq_true c7
        clear c7
        (first | rw [c7b0] | (simp only [i64_w, i32_w]; rw [c7b0]) | skip)
        have H' := Aside0.mk H
        clear H
        go_wp2
        go_meet
        case rel => exact ⟨_, (wrap64 (-a0)), (by first | rfl | (simp; done) | (simp [*]; done)), H', ⟨by first | omega | exact Nat.le_refl _⟩, ⟨by repeat (first | (with_reducible first | exact HB.out | apply below_alloc | apply pw_below_drewN | apply below_drew1) | exact HB.out)⟩⟩
      · rw [if_neg c7] at H
        have c7b0 : decide (a0 < 0) = false := decide_eq_false c7
        clear c7
        (first | rw [c7b0] | (simp only [i64_w, i32_w]; rw [c7b0]) | skip)
        have H' := Aside0.mk H
        clear H
        go_wp2
        go_meet
        case rel => exact ⟨_, (a0), (by first | rfl | (simp; done) | (simp [*]; done)), H', ⟨by first | omega | exact Nat.le_refl _⟩, ⟨by repeat (first | (with_reducible first | exact HB.out | apply below_alloc | apply pw_below_drewN | apply below_drew1) | exact HB.out)⟩⟩
    case rest =>
      clear HC5
      try clear c1
      try clear c2
      try clear p2
      try clear c4
      try clear c4b0
      try clear c4b1
      try clear p6
      try clear c7
      try clear c7b0
      obtain ⟨kq, x8_4, rfl, HA, HJ4, HB⟩ := hcut
      cases kq with
      | zero => exact absurd HA.out (by simp [psalterylaw15_CoupleSizes.j0])
      | succ kj4 =>
        have H := HA.out
        clear HA
        simp only [psalterylaw15_CoupleSizes.j0] at H
        by_cases c8 : a1 < 0
        · rw [if_pos c8] at H
          have c8b0 : decide (a1 < 0) = true := decide_eq_true c8
          clear c8
          by_cases c9 : t482 < 0
          · rw [if_pos c9] at H
            have c9b0 : decide (t482 < 0) = true := decide_eq_true c9
            clear c9
            by_cases c10 : t482 = a0
            · rw [if_pos c10] at H
              have c10b0 : (t482 == a0) = true := beq_iff_eq.mpr c10
              have c10b1 : (t482 != a0) = false := bne_eq_false_iff_eq.mpr c10
              clear c10
              by_cases c11 : (wrap64 (-t482)) ≥ x8_4
              · rw [if_pos c11] at H
                have c11b0 : decide (x8_4 ≤ (wrap64 (-t482))) = true := decide_eq_true c11
                clear c11
                by_cases c12 : (wrap64 (-t482)) ≥ (wrap64 (-a1))
                · rw [if_pos c12] at H
                  have c12b0 : decide ((wrap64 (-a1)) ≤ (wrap64 (-t482))) = true := decide_eq_true c12
                  clear c12
                  by_cases c13 : t483 ≤ (wrap64 (x8_4 + (wrap64 (-a1))))
                  · rw [if_pos c13] at H
                    have c13b0 : decide (t483 ≤ (wrap64 (x8_4 + (wrap64 (-a1))))) = true := decide_eq_true c13
                    clear c13
                    by_cases c14 : t483 ≥ (wrap64 ((wrap64 (-x8_4)) - (wrap64 (-a1))))
                    · rw [if_pos c14] at H
                      have c14b0 : decide ((wrap64 ((wrap64 (-x8_4)) - (wrap64 (-a1)))) ≤ t483) = true := decide_eq_true c14
                      clear c14
                      by_cases c15 : a0 = a1
                      · rw [if_pos c15] at H
                        have c15b0 : (a0 == a1) = true := beq_iff_eq.mpr c15
                        have c15b1 : (a0 != a1) = false := bne_eq_false_iff_eq.mpr c15
                        clear c15
                        by_cases c16 : t483 = 0
                        · rw [if_pos c16] at H
                          have c16b0 : (t483 == 0) = true := beq_iff_eq.mpr c16
                          have c16b1 : (t483 != 0) = false := bne_eq_false_iff_eq.mpr c16
                          clear c16
                          replace H := Option.bind_eq_some_iff.mp H
                          obtain ⟨t486, A170, H⟩ := H
                          replace H : (some t486) = some r := H
                          have A17 := Aside0.mk A170
                          clear A170
                          obtain rfl := Option.some.inj H
                          go_wp2_with (first | (go_at_call 28; (with_reducible refine (psalterylaw15_knows.calls kj4  t486 _ A17.out).mono ?_); rintro e w18 ⟨rfl, hb⟩; have n0_ := Aside0.mk (below_step (by repeat (first | (with_reducible first | exact HB.out | apply below_alloc | apply pw_below_drewN | apply below_drew1) | exact HB.out)) hb); clear HB; have HB := n0_; clear n0_; (try clear hb); (try clear hb2); (try clear hk); (try clear hi)))
                          go_ret
                          exact ⟨by first | rfl | (simp [errW_none, errW_some] <;> rfl) | (simp [*, errW_none, errW_some] <;> rfl), by repeat (first | (with_reducible first | exact HB.out | apply below_alloc | apply pw_below_drewN | apply below_drew1) | exact HB.out)⟩
                        · rw [if_neg c16] at H
                          have c16b0 : (t483 == 0) = false := beq_eq_false_iff_ne.mpr c16
                          have c16b1 : (t483 != 0) = true := bne_iff_ne.mpr c16
                          exact absurd ((Option.some.inj H).trans HT.out) (by decide)
                      · rw [if_neg c15] at H
                        have c15b0 : (a0 == a1) = false := beq_eq_false_iff_ne.mpr c15
                        have c15b1 : (a0 != a1) = true := bne_iff_ne.mpr c15
                        replace H := Option.bind_eq_some_iff.mp H
                        obtain ⟨t487, A190, H⟩ := H
                        replace H : (some t487) = some r := H
                        have A19 := Aside0.mk A190
                        clear A190
                        obtain rfl := Option.some.inj H
                        go_wp2_with (first | (go_at_call 28; (with_reducible refine (psalterylaw15_knows.calls kj4  t487 _ A19.out).mono ?_); rintro e w20 ⟨rfl, hb⟩; have n0_ := Aside0.mk (below_step (by repeat (first | (with_reducible first | exact HB.out | apply below_alloc | apply pw_below_drewN | apply below_drew1) | exact HB.out)) hb); clear HB; have HB := n0_; clear n0_; (try clear hb); (try clear hb2); (try clear hk); (try clear hi)))
                        go_ret
                        exact ⟨by first | rfl | (simp [errW_none, errW_some] <;> rfl) | (simp [*, errW_none, errW_some] <;> rfl), by repeat (first | (with_reducible first | exact HB.out | apply below_alloc | apply pw_below_drewN | apply below_drew1) | exact HB.out)⟩
                    · rw [if_neg c14] at H
                      have c14b0 : decide ((wrap64 ((wrap64 (-x8_4)) - (wrap64 (-a1)))) ≤ t483) = false := decide_eq_false c14
                      clear c14
                      exact absurd ((Option.some.inj H).trans HT.out) (by decide)
                  · rw [if_neg c13] at H
                    have c13b0 : decide (t483 ≤ (wrap64 (x8_4 + (wrap64 (-a1))))) = false := decide_eq_false c13
                    clear c13
                    exact absurd ((Option.some.inj H).trans HT.out) (by decide)
                · rw [if_neg c12] at H
                  have c12b0 : decide ((wrap64 (-a1)) ≤ (wrap64 (-t482))) = false := decide_eq_false c12
                  clear c12
                  exact absurd ((Option.some.inj H).trans HT.out) (by decide)
              · rw [if_neg c11] at H
                have c11b0 : decide (x8_4 ≤ (wrap64 (-t482))) = false := decide_eq_false c11
                clear c11
                exact absurd ((Option.some.inj H).trans HT.out) (by decide)
            · rw [if_neg c10] at H
              have c10b0 : (t482 == a0) = false := beq_eq_false_iff_ne.mpr c10
              have c10b1 : (t482 != a0) = true := bne_iff_ne.mpr c10
              by_cases c21 : t482 = a1
              · rw [if_pos c21] at H
                have c21b0 : (t482 == a1) = true := beq_iff_eq.mpr c21
                have c21b1 : (t482 != a1) = false := bne_eq_false_iff_eq.mpr c21
                clear c21
                by_cases c22 : (wrap64 (-t482)) ≥ x8_4
                · rw [if_pos c22] at H
                  have c22b0 : decide (x8_4 ≤ (wrap64 (-t482))) = true := decide_eq_true c22
                  clear c22
                  by_cases c23 : (wrap64 (-t482)) ≥ (wrap64 (-a1))
                  · rw [if_pos c23] at H
                    have c23b0 : decide ((wrap64 (-a1)) ≤ (wrap64 (-t482))) = true := decide_eq_true c23
                    clear c23
                    by_cases c24 : t483 ≤ (wrap64 (x8_4 + (wrap64 (-a1))))
                    · rw [if_pos c24] at H
                      have c24b0 : decide (t483 ≤ (wrap64 (x8_4 + (wrap64 (-a1))))) = true := decide_eq_true c24
                      clear c24
                      by_cases c25 : t483 ≥ (wrap64 ((wrap64 (-x8_4)) - (wrap64 (-a1))))
                      · rw [if_pos c25] at H
                        have c25b0 : decide ((wrap64 ((wrap64 (-x8_4)) - (wrap64 (-a1)))) ≤ t483) = true := decide_eq_true c25
                        clear c25
                        by_cases c26 : a0 = a1
                        · rw [if_pos c26] at H
                          have c26b0 : (a0 == a1) = true := beq_iff_eq.mpr c26
                          have c26b1 : (a0 != a1) = false := bne_eq_false_iff_eq.mpr c26
                          clear c26
                          by_cases c27 : t483 = 0
                          · rw [if_pos c27] at H
                            have c27b0 : (t483 == 0) = true := beq_iff_eq.mpr c27
                            have c27b1 : (t483 != 0) = false := bne_eq_false_iff_eq.mpr c27
                            clear c27
                            replace H := Option.bind_eq_some_iff.mp H
                            obtain ⟨t488, A280, H⟩ := H
                            replace H : (some t488) = some r := H
                            have A28 := Aside0.mk A280
                            clear A280
                            obtain rfl := Option.some.inj H
                            go_wp2_with (first | (go_at_call 28; (with_reducible refine (psalterylaw15_knows.calls kj4  t488 _ A28.out).mono ?_); rintro e w29 ⟨rfl, hb⟩; have n0_ := Aside0.mk (below_step (by repeat (first | (with_reducible first | exact HB.out | apply below_alloc | apply pw_below_drewN | apply below_drew1) | exact HB.out)) hb); clear HB; have HB := n0_; clear n0_; (try clear hb); (try clear hb2); (try clear hk); (try clear hi)))
                            go_ret
                            exact ⟨by first | rfl | (simp [errW_none, errW_some] <;> rfl) | (simp [*, errW_none, errW_some] <;> rfl), by repeat (first | (with_reducible first | exact HB.out | apply below_alloc | apply pw_below_drewN | apply below_drew1) | exact HB.out)⟩
                          · rw [if_neg c27] at H
                            have c27b0 : (t483 == 0) = false := beq_eq_false_iff_ne.mpr c27
                            have c27b1 : (t483 != 0) = true := bne_iff_ne.mpr c27
                            exact absurd ((Option.some.inj H).trans HT.out) (by decide)
                        · rw [if_neg c26] at H
                          have c26b0 : (a0 == a1) = false := beq_eq_false_iff_ne.mpr c26
                          have c26b1 : (a0 != a1) = true := bne_iff_ne.mpr c26
                          replace H := Option.bind_eq_some_iff.mp H
                          obtain ⟨t489, A300, H⟩ := H
                          replace H : (some t489) = some r := H
                          have A30 := Aside0.mk A300
                          clear A300
                          obtain rfl := Option.some.inj H
                          go_wp2_with (first | (go_at_call 28; (with_reducible refine (psalterylaw15_knows.calls kj4  t489 _ A30.out).mono ?_); rintro e w31 ⟨rfl, hb⟩; have n0_ := Aside0.mk (below_step (by repeat (first | (with_reducible first | exact HB.out | apply below_alloc | apply pw_below_drewN | apply below_drew1) | exact HB.out)) hb); clear HB; have HB := n0_; clear n0_; (try clear hb); (try clear hb2); (try clear hk); (try clear hi)))
                          go_ret
                          exact ⟨by first | rfl | (simp [errW_none, errW_some] <;> rfl) | (simp [*, errW_none, errW_some] <;> rfl), by repeat (first | (with_reducible first | exact HB.out | apply below_alloc | apply pw_below_drewN | apply below_drew1) | exact HB.out)⟩
                      · rw [if_neg c25] at H
                        have c25b0 : decide ((wrap64 ((wrap64 (-x8_4)) - (wrap64 (-a1)))) ≤ t483) = false := decide_eq_false c25
                        clear c25
                        exact absurd ((Option.some.inj H).trans HT.out) (by decide)
                    · rw [if_neg c24] at H
                      have c24b0 : decide (t483 ≤ (wrap64 (x8_4 + (wrap64 (-a1))))) = false := decide_eq_false c24
                      clear c24
                      exact absurd ((Option.some.inj H).trans HT.out) (by decide)
                  · rw [if_neg c23] at H
                    have c23b0 : decide ((wrap64 (-a1)) ≤ (wrap64 (-t482))) = false := decide_eq_false c23
                    clear c23
                    exact absurd ((Option.some.inj H).trans HT.out) (by decide)
                · rw [if_neg c22] at H
                  have c22b0 : decide (x8_4 ≤ (wrap64 (-t482))) = false := decide_eq_false c22
                  clear c22
                  exact absurd ((Option.some.inj H).trans HT.out) (by decide)
              · rw [if_neg c21] at H
                have c21b0 : (t482 == a1) = false := beq_eq_false_iff_ne.mpr c21
                have c21b1 : (t482 != a1) = true := bne_iff_ne.mpr c21
                exact absurd ((Option.some.inj H).trans HT.out) (by decide)
          · rw [if_neg c9] at H
            have c9b0 : decide (t482 < 0) = false := decide_eq_false c9
            clear c9
            by_cases c32 : t482 = a0
            · rw [if_pos c32] at H
              have c32b0 : (t482 == a0) = true := beq_iff_eq.mpr c32
              have c32b1 : (t482 != a0) = false := bne_eq_false_iff_eq.mpr c32
              clear c32
              by_cases c33 : t482 ≥ x8_4
              · rw [if_pos c33] at H
                have c33b0 : decide (x8_4 ≤ t482) = true := decide_eq_true c33
                clear c33
                by_cases c34 : t482 ≥ (wrap64 (-a1))
                · rw [if_pos c34] at H
                  have c34b0 : decide ((wrap64 (-a1)) ≤ t482) = true := decide_eq_true c34
                  clear c34
                  by_cases c35 : t483 ≤ (wrap64 (x8_4 + (wrap64 (-a1))))
                  · rw [if_pos c35] at H
                    have c35b0 : decide (t483 ≤ (wrap64 (x8_4 + (wrap64 (-a1))))) = true := decide_eq_true c35
                    clear c35
                    by_cases c36 : t483 ≥ (wrap64 ((wrap64 (-x8_4)) - (wrap64 (-a1))))
                    · rw [if_pos c36] at H
                      have c36b0 : decide ((wrap64 ((wrap64 (-x8_4)) - (wrap64 (-a1)))) ≤ t483) = true := decide_eq_true c36
                      clear c36
                      by_cases c37 : a0 = a1
                      · rw [if_pos c37] at H
                        have c37b0 : (a0 == a1) = true := beq_iff_eq.mpr c37
                        have c37b1 : (a0 != a1) = false := bne_eq_false_iff_eq.mpr c37
                        clear c37
                        by_cases c38 : t483 = 0
                        · rw [if_pos c38] at H
                          have c38b0 : (t483 == 0) = true := beq_iff_eq.mpr c38
                          have c38b1 : (t483 != 0) = false := bne_eq_false_iff_eq.mpr c38
                          clear c38
                          replace H := Option.bind_eq_some_iff.mp H
                          obtain ⟨t490, A390, H⟩ := H
                          replace H : (some t490) = some r := H
                          have A39 := Aside0.mk A390
                          clear A390
                          obtain rfl := Option.some.inj H
                          go_wp2_with (first | (go_at_call 28; (with_reducible refine (psalterylaw15_knows.calls kj4  t490 _ A39.out).mono ?_); rintro e w40 ⟨rfl, hb⟩; have n0_ := Aside0.mk (below_step (by repeat (first | (with_reducible first | exact HB.out | apply below_alloc | apply pw_below_drewN | apply below_drew1) | exact HB.out)) hb); clear HB; have HB := n0_; clear n0_; (try clear hb); (try clear hb2); (try clear hk); (try clear hi)))
                          go_ret
                          exact ⟨by first | rfl | (simp [errW_none, errW_some] <;> rfl) | (simp [*, errW_none, errW_some] <;> rfl), by repeat (first | (with_reducible first | exact HB.out | apply below_alloc | apply pw_below_drewN | apply below_drew1) | exact HB.out)⟩
                        · rw [if_neg c38] at H
                          have c38b0 : (t483 == 0) = false := beq_eq_false_iff_ne.mpr c38
                          have c38b1 : (t483 != 0) = true := bne_iff_ne.mpr c38
                          exact absurd ((Option.some.inj H).trans HT.out) (by decide)
                      · rw [if_neg c37] at H
                        have c37b0 : (a0 == a1) = false := beq_eq_false_iff_ne.mpr c37
                        have c37b1 : (a0 != a1) = true := bne_iff_ne.mpr c37
                        replace H := Option.bind_eq_some_iff.mp H
                        obtain ⟨t491, A410, H⟩ := H
                        replace H : (some t491) = some r := H
                        have A41 := Aside0.mk A410
                        clear A410
                        obtain rfl := Option.some.inj H
                        go_wp2_with (first | (go_at_call 28; (with_reducible refine (psalterylaw15_knows.calls kj4  t491 _ A41.out).mono ?_); rintro e w42 ⟨rfl, hb⟩; have n0_ := Aside0.mk (below_step (by repeat (first | (with_reducible first | exact HB.out | apply below_alloc | apply pw_below_drewN | apply below_drew1) | exact HB.out)) hb); clear HB; have HB := n0_; clear n0_; (try clear hb); (try clear hb2); (try clear hk); (try clear hi)))
                        go_ret
                        exact ⟨by first | rfl | (simp [errW_none, errW_some] <;> rfl) | (simp [*, errW_none, errW_some] <;> rfl), by repeat (first | (with_reducible first | exact HB.out | apply below_alloc | apply pw_below_drewN | apply below_drew1) | exact HB.out)⟩
                    · rw [if_neg c36] at H
                      have c36b0 : decide ((wrap64 ((wrap64 (-x8_4)) - (wrap64 (-a1)))) ≤ t483) = false := decide_eq_false c36
                      clear c36
                      exact absurd ((Option.some.inj H).trans HT.out) (by decide)
                  · rw [if_neg c35] at H
                    have c35b0 : decide (t483 ≤ (wrap64 (x8_4 + (wrap64 (-a1))))) = false := decide_eq_false c35
                    clear c35
                    exact absurd ((Option.some.inj H).trans HT.out) (by decide)
                · rw [if_neg c34] at H
                  have c34b0 : decide ((wrap64 (-a1)) ≤ t482) = false := decide_eq_false c34
                  clear c34
                  exact absurd ((Option.some.inj H).trans HT.out) (by decide)
              · rw [if_neg c33] at H
                have c33b0 : decide (x8_4 ≤ t482) = false := decide_eq_false c33
                clear c33
                exact absurd ((Option.some.inj H).trans HT.out) (by decide)
            · rw [if_neg c32] at H
              have c32b0 : (t482 == a0) = false := beq_eq_false_iff_ne.mpr c32
              have c32b1 : (t482 != a0) = true := bne_iff_ne.mpr c32
              by_cases c43 : t482 = a1
              · rw [if_pos c43] at H
                have c43b0 : (t482 == a1) = true := beq_iff_eq.mpr c43
                have c43b1 : (t482 != a1) = false := bne_eq_false_iff_eq.mpr c43
                clear c43
                by_cases c44 : t482 ≥ x8_4
                · rw [if_pos c44] at H
                  have c44b0 : decide (x8_4 ≤ t482) = true := decide_eq_true c44
                  clear c44
                  by_cases c45 : t482 ≥ (wrap64 (-a1))
                  · rw [if_pos c45] at H
                    have c45b0 : decide ((wrap64 (-a1)) ≤ t482) = true := decide_eq_true c45
                    clear c45
                    by_cases c46 : t483 ≤ (wrap64 (x8_4 + (wrap64 (-a1))))
                    · rw [if_pos c46] at H
                      have c46b0 : decide (t483 ≤ (wrap64 (x8_4 + (wrap64 (-a1))))) = true := decide_eq_true c46
                      clear c46
                      by_cases c47 : t483 ≥ (wrap64 ((wrap64 (-x8_4)) - (wrap64 (-a1))))
                      · rw [if_pos c47] at H
                        have c47b0 : decide ((wrap64 ((wrap64 (-x8_4)) - (wrap64 (-a1)))) ≤ t483) = true := decide_eq_true c47
                        clear c47
                        by_cases c48 : a0 = a1
                        · rw [if_pos c48] at H
                          have c48b0 : (a0 == a1) = true := beq_iff_eq.mpr c48
                          have c48b1 : (a0 != a1) = false := bne_eq_false_iff_eq.mpr c48
                          clear c48
                          by_cases c49 : t483 = 0
                          · rw [if_pos c49] at H
                            have c49b0 : (t483 == 0) = true := beq_iff_eq.mpr c49
                            have c49b1 : (t483 != 0) = false := bne_eq_false_iff_eq.mpr c49
                            clear c49
                            replace H := Option.bind_eq_some_iff.mp H
                            obtain ⟨t492, A500, H⟩ := H
                            replace H : (some t492) = some r := H
                            have A50 := Aside0.mk A500
                            clear A500
                            obtain rfl := Option.some.inj H
                            go_wp2_with (first | (go_at_call 28; (with_reducible refine (psalterylaw15_knows.calls kj4  t492 _ A50.out).mono ?_); rintro e w51 ⟨rfl, hb⟩; have n0_ := Aside0.mk (below_step (by repeat (first | (with_reducible first | exact HB.out | apply below_alloc | apply pw_below_drewN | apply below_drew1) | exact HB.out)) hb); clear HB; have HB := n0_; clear n0_; (try clear hb); (try clear hb2); (try clear hk); (try clear hi)))
                            go_ret
                            exact ⟨by first | rfl | (simp [errW_none, errW_some] <;> rfl) | (simp [*, errW_none, errW_some] <;> rfl), by repeat (first | (with_reducible first | exact HB.out | apply below_alloc | apply pw_below_drewN | apply below_drew1) | exact HB.out)⟩
                          · rw [if_neg c49] at H
                            have c49b0 : (t483 == 0) = false := beq_eq_false_iff_ne.mpr c49
                            have c49b1 : (t483 != 0) = true := bne_iff_ne.mpr c49
                            exact absurd ((Option.some.inj H).trans HT.out) (by decide)
                        · rw [if_neg c48] at H
                          have c48b0 : (a0 == a1) = false := beq_eq_false_iff_ne.mpr c48
                          have c48b1 : (a0 != a1) = true := bne_iff_ne.mpr c48
                          replace H := Option.bind_eq_some_iff.mp H
                          obtain ⟨t493, A520, H⟩ := H
                          replace H : (some t493) = some r := H
                          have A52 := Aside0.mk A520
                          clear A520
                          obtain rfl := Option.some.inj H
                          go_wp2_with (first | (go_at_call 28; (with_reducible refine (psalterylaw15_knows.calls kj4  t493 _ A52.out).mono ?_); rintro e w53 ⟨rfl, hb⟩; have n0_ := Aside0.mk (below_step (by repeat (first | (with_reducible first | exact HB.out | apply below_alloc | apply pw_below_drewN | apply below_drew1) | exact HB.out)) hb); clear HB; have HB := n0_; clear n0_; (try clear hb); (try clear hb2); (try clear hk); (try clear hi)))
                          go_ret
                          exact ⟨by first | rfl | (simp [errW_none, errW_some] <;> rfl) | (simp [*, errW_none, errW_some] <;> rfl), by repeat (first | (with_reducible first | exact HB.out | apply below_alloc | apply pw_below_drewN | apply below_drew1) | exact HB.out)⟩
                      · rw [if_neg c47] at H
                        have c47b0 : decide ((wrap64 ((wrap64 (-x8_4)) - (wrap64 (-a1)))) ≤ t483) = false := decide_eq_false c47
                        clear c47
                        exact absurd ((Option.some.inj H).trans HT.out) (by decide)
                    · rw [if_neg c46] at H
                      have c46b0 : decide (t483 ≤ (wrap64 (x8_4 + (wrap64 (-a1))))) = false := decide_eq_false c46
                      clear c46
                      exact absurd ((Option.some.inj H).trans HT.out) (by decide)
                  · rw [if_neg c45] at H
                    have c45b0 : decide ((wrap64 (-a1)) ≤ t482) = false := decide_eq_false c45
                    clear c45
                    exact absurd ((Option.some.inj H).trans HT.out) (by decide)
                · rw [if_neg c44] at H
                  have c44b0 : decide (x8_4 ≤ t482) = false := decide_eq_false c44
                  clear c44
                  exact absurd ((Option.some.inj H).trans HT.out) (by decide)
              · rw [if_neg c43] at H
                have c43b0 : (t482 == a1) = false := beq_eq_false_iff_ne.mpr c43
                have c43b1 : (t482 != a1) = true := bne_iff_ne.mpr c43
                exact absurd ((Option.some.inj H).trans HT.out) (by decide)
        · rw [if_neg c8] at H
          have c8b0 : decide (a1 < 0) = false := decide_eq_false c8
          clear c8
          by_cases c54 : t482 < 0
          · rw [if_pos c54] at H
            have c54b0 : decide (t482 < 0) = true := decide_eq_true c54
            clear c54
            by_cases c55 : t482 = a0
            · rw [if_pos c55] at H
              have c55b0 : (t482 == a0) = true := beq_iff_eq.mpr c55
              have c55b1 : (t482 != a0) = false := bne_eq_false_iff_eq.mpr c55
              clear c55
              by_cases c56 : (wrap64 (-t482)) ≥ x8_4
              · rw [if_pos c56] at H
                have c56b0 : decide (x8_4 ≤ (wrap64 (-t482))) = true := decide_eq_true c56
                clear c56
                by_cases c57 : (wrap64 (-t482)) ≥ a1
                · rw [if_pos c57] at H
                  have c57b0 : decide (a1 ≤ (wrap64 (-t482))) = true := decide_eq_true c57
                  clear c57
                  by_cases c58 : t483 ≤ (wrap64 (x8_4 + a1))
                  · rw [if_pos c58] at H
                    have c58b0 : decide (t483 ≤ (wrap64 (x8_4 + a1))) = true := decide_eq_true c58
                    clear c58
                    by_cases c59 : t483 ≥ (wrap64 ((wrap64 (-x8_4)) - a1))
                    · rw [if_pos c59] at H
                      have c59b0 : decide ((wrap64 ((wrap64 (-x8_4)) - a1)) ≤ t483) = true := decide_eq_true c59
                      clear c59
                      by_cases c60 : a0 = a1
                      · rw [if_pos c60] at H
                        have c60b0 : (a0 == a1) = true := beq_iff_eq.mpr c60
                        have c60b1 : (a0 != a1) = false := bne_eq_false_iff_eq.mpr c60
                        clear c60
                        by_cases c61 : t483 = 0
                        · rw [if_pos c61] at H
                          have c61b0 : (t483 == 0) = true := beq_iff_eq.mpr c61
                          have c61b1 : (t483 != 0) = false := bne_eq_false_iff_eq.mpr c61
                          clear c61
                          replace H := Option.bind_eq_some_iff.mp H
                          obtain ⟨t494, A620, H⟩ := H
                          replace H : (some t494) = some r := H
                          have A62 := Aside0.mk A620
                          clear A620
                          obtain rfl := Option.some.inj H
                          go_wp2_with (first | (go_at_call 28; (with_reducible refine (psalterylaw15_knows.calls kj4  t494 _ A62.out).mono ?_); rintro e w63 ⟨rfl, hb⟩; have n0_ := Aside0.mk (below_step (by repeat (first | (with_reducible first | exact HB.out | apply below_alloc | apply pw_below_drewN | apply below_drew1) | exact HB.out)) hb); clear HB; have HB := n0_; clear n0_; (try clear hb); (try clear hb2); (try clear hk); (try clear hi)))
                          go_ret
                          exact ⟨by first | rfl | (simp [errW_none, errW_some] <;> rfl) | (simp [*, errW_none, errW_some] <;> rfl), by repeat (first | (with_reducible first | exact HB.out | apply below_alloc | apply pw_below_drewN | apply below_drew1) | exact HB.out)⟩
                        · rw [if_neg c61] at H
                          have c61b0 : (t483 == 0) = false := beq_eq_false_iff_ne.mpr c61
                          have c61b1 : (t483 != 0) = true := bne_iff_ne.mpr c61
                          exact absurd ((Option.some.inj H).trans HT.out) (by decide)
                      · rw [if_neg c60] at H
                        have c60b0 : (a0 == a1) = false := beq_eq_false_iff_ne.mpr c60
                        have c60b1 : (a0 != a1) = true := bne_iff_ne.mpr c60
                        replace H := Option.bind_eq_some_iff.mp H
                        obtain ⟨t495, A640, H⟩ := H
                        replace H : (some t495) = some r := H
                        have A64 := Aside0.mk A640
                        clear A640
                        obtain rfl := Option.some.inj H
                        go_wp2_with (first | (go_at_call 28; (with_reducible refine (psalterylaw15_knows.calls kj4  t495 _ A64.out).mono ?_); rintro e w65 ⟨rfl, hb⟩; have n0_ := Aside0.mk (below_step (by repeat (first | (with_reducible first | exact HB.out | apply below_alloc | apply pw_below_drewN | apply below_drew1) | exact HB.out)) hb); clear HB; have HB := n0_; clear n0_; (try clear hb); (try clear hb2); (try clear hk); (try clear hi)))
                        go_ret
                        exact ⟨by first | rfl | (simp [errW_none, errW_some] <;> rfl) | (simp [*, errW_none, errW_some] <;> rfl), by repeat (first | (with_reducible first | exact HB.out | apply below_alloc | apply pw_below_drewN | apply below_drew1) | exact HB.out)⟩
                    · rw [if_neg c59] at H
                      have c59b0 : decide ((wrap64 ((wrap64 (-x8_4)) - a1)) ≤ t483) = false := decide_eq_false c59
                      clear c59
                      exact absurd ((Option.some.inj H).trans HT.out) (by decide)
                  · rw [if_neg c58] at H
                    have c58b0 : decide (t483 ≤ (wrap64 (x8_4 + a1))) = false := decide_eq_false c58
                    clear c58
                    exact absurd ((Option.some.inj H).trans HT.out) (by decide)
                · rw [if_neg c57] at H
                  have c57b0 : decide (a1 ≤ (wrap64 (-t482))) = false := decide_eq_false c57
                  clear c57
                  exact absurd ((Option.some.inj H).trans HT.out) (by decide)
              · rw [if_neg c56] at H
                have c56b0 : decide (x8_4 ≤ (wrap64 (-t482))) = false := decide_eq_false c56
                clear c56
                exact absurd ((Option.some.inj H).trans HT.out) (by decide)
            · rw [if_neg c55] at H
              have c55b0 : (t482 == a0) = false := beq_eq_false_iff_ne.mpr c55
              have c55b1 : (t482 != a0) = true := bne_iff_ne.mpr c55
              by_cases c66 : t482 = a1
              · rw [if_pos c66] at H
                have c66b0 : (t482 == a1) = true := beq_iff_eq.mpr c66
                have c66b1 : (t482 != a1) = false := bne_eq_false_iff_eq.mpr c66
                clear c66
                by_cases c67 : (wrap64 (-t482)) ≥ x8_4
                · rw [if_pos c67] at H
                  have c67b0 : decide (x8_4 ≤ (wrap64 (-t482))) = true := decide_eq_true c67
                  clear c67
                  by_cases c68 : (wrap64 (-t482)) ≥ a1
                  · rw [if_pos c68] at H
                    have c68b0 : decide (a1 ≤ (wrap64 (-t482))) = true := decide_eq_true c68
                    clear c68
                    by_cases c69 : t483 ≤ (wrap64 (x8_4 + a1))
                    · rw [if_pos c69] at H
                      have c69b0 : decide (t483 ≤ (wrap64 (x8_4 + a1))) = true := decide_eq_true c69
                      clear c69
                      by_cases c70 : t483 ≥ (wrap64 ((wrap64 (-x8_4)) - a1))
                      · rw [if_pos c70] at H
                        have c70b0 : decide ((wrap64 ((wrap64 (-x8_4)) - a1)) ≤ t483) = true := decide_eq_true c70
                        clear c70
                        by_cases c71 : a0 = a1
                        · rw [if_pos c71] at H
                          have c71b0 : (a0 == a1) = true := beq_iff_eq.mpr c71
                          have c71b1 : (a0 != a1) = false := bne_eq_false_iff_eq.mpr c71
                          clear c71
                          by_cases c72 : t483 = 0
                          · rw [if_pos c72] at H
                            have c72b0 : (t483 == 0) = true := beq_iff_eq.mpr c72
                            have c72b1 : (t483 != 0) = false := bne_eq_false_iff_eq.mpr c72
                            clear c72
                            replace H := Option.bind_eq_some_iff.mp H
                            obtain ⟨t496, A730, H⟩ := H
                            replace H : (some t496) = some r := H
                            have A73 := Aside0.mk A730
                            clear A730
                            obtain rfl := Option.some.inj H
                            go_wp2_with (first | (go_at_call 28; (with_reducible refine (psalterylaw15_knows.calls kj4  t496 _ A73.out).mono ?_); rintro e w74 ⟨rfl, hb⟩; have n0_ := Aside0.mk (below_step (by repeat (first | (with_reducible first | exact HB.out | apply below_alloc | apply pw_below_drewN | apply below_drew1) | exact HB.out)) hb); clear HB; have HB := n0_; clear n0_; (try clear hb); (try clear hb2); (try clear hk); (try clear hi)))
                            go_ret
                            exact ⟨by first | rfl | (simp [errW_none, errW_some] <;> rfl) | (simp [*, errW_none, errW_some] <;> rfl), by repeat (first | (with_reducible first | exact HB.out | apply below_alloc | apply pw_below_drewN | apply below_drew1) | exact HB.out)⟩
                          · rw [if_neg c72] at H
                            have c72b0 : (t483 == 0) = false := beq_eq_false_iff_ne.mpr c72
                            have c72b1 : (t483 != 0) = true := bne_iff_ne.mpr c72
                            exact absurd ((Option.some.inj H).trans HT.out) (by decide)
                        · rw [if_neg c71] at H
                          have c71b0 : (a0 == a1) = false := beq_eq_false_iff_ne.mpr c71
                          have c71b1 : (a0 != a1) = true := bne_iff_ne.mpr c71
                          replace H := Option.bind_eq_some_iff.mp H
                          obtain ⟨t497, A750, H⟩ := H
                          replace H : (some t497) = some r := H
                          have A75 := Aside0.mk A750
                          clear A750
                          obtain rfl := Option.some.inj H
                          go_wp2_with (first | (go_at_call 28; (with_reducible refine (psalterylaw15_knows.calls kj4  t497 _ A75.out).mono ?_); rintro e w76 ⟨rfl, hb⟩; have n0_ := Aside0.mk (below_step (by repeat (first | (with_reducible first | exact HB.out | apply below_alloc | apply pw_below_drewN | apply below_drew1) | exact HB.out)) hb); clear HB; have HB := n0_; clear n0_; (try clear hb); (try clear hb2); (try clear hk); (try clear hi)))
                          go_ret
                          exact ⟨by first | rfl | (simp [errW_none, errW_some] <;> rfl) | (simp [*, errW_none, errW_some] <;> rfl), by repeat (first | (with_reducible first | exact HB.out | apply below_alloc | apply pw_below_drewN | apply below_drew1) | exact HB.out)⟩
                      · rw [if_neg c70] at H
                        have c70b0 : decide ((wrap64 ((wrap64 (-x8_4)) - a1)) ≤ t483) = false := decide_eq_false c70
                        clear c70
                        exact absurd ((Option.some.inj H).trans HT.out) (by decide)
                    · rw [if_neg c69] at H
                      have c69b0 : decide (t483 ≤ (wrap64 (x8_4 + a1))) = false := decide_eq_false c69
                      clear c69
                      exact absurd ((Option.some.inj H).trans HT.out) (by decide)
                  · rw [if_neg c68] at H
                    have c68b0 : decide (a1 ≤ (wrap64 (-t482))) = false := decide_eq_false c68
                    clear c68
                    exact absurd ((Option.some.inj H).trans HT.out) (by decide)
                · rw [if_neg c67] at H
                  have c67b0 : decide (x8_4 ≤ (wrap64 (-t482))) = false := decide_eq_false c67
                  clear c67
                  exact absurd ((Option.some.inj H).trans HT.out) (by decide)
              · rw [if_neg c66] at H
                have c66b0 : (t482 == a1) = false := beq_eq_false_iff_ne.mpr c66
                have c66b1 : (t482 != a1) = true := bne_iff_ne.mpr c66
                exact absurd ((Option.some.inj H).trans HT.out) (by decide)
          · rw [if_neg c54] at H
            have c54b0 : decide (t482 < 0) = false := decide_eq_false c54
            clear c54
            by_cases c77 : t482 = a0
            · rw [if_pos c77] at H
              have c77b0 : (t482 == a0) = true := beq_iff_eq.mpr c77
              have c77b1 : (t482 != a0) = false := bne_eq_false_iff_eq.mpr c77
              clear c77
              by_cases c78 : t482 ≥ x8_4
              · rw [if_pos c78] at H
                have c78b0 : decide (x8_4 ≤ t482) = true := decide_eq_true c78
                clear c78
                by_cases c79 : t482 ≥ a1
                · rw [if_pos c79] at H
                  have c79b0 : decide (a1 ≤ t482) = true := decide_eq_true c79
                  clear c79
                  by_cases c80 : t483 ≤ (wrap64 (x8_4 + a1))
                  · rw [if_pos c80] at H
                    have c80b0 : decide (t483 ≤ (wrap64 (x8_4 + a1))) = true := decide_eq_true c80
                    clear c80
                    by_cases c81 : t483 ≥ (wrap64 ((wrap64 (-x8_4)) - a1))
                    · rw [if_pos c81] at H
                      have c81b0 : decide ((wrap64 ((wrap64 (-x8_4)) - a1)) ≤ t483) = true := decide_eq_true c81
                      clear c81
                      by_cases c82 : a0 = a1
                      · rw [if_pos c82] at H
                        have c82b0 : (a0 == a1) = true := beq_iff_eq.mpr c82
                        have c82b1 : (a0 != a1) = false := bne_eq_false_iff_eq.mpr c82
                        clear c82
                        by_cases c83 : t483 = 0
                        · rw [if_pos c83] at H
                          have c83b0 : (t483 == 0) = true := beq_iff_eq.mpr c83
                          have c83b1 : (t483 != 0) = false := bne_eq_false_iff_eq.mpr c83
                          clear c83
                          replace H := Option.bind_eq_some_iff.mp H
                          obtain ⟨t498, A840, H⟩ := H
                          replace H : (some t498) = some r := H
                          have A84 := Aside0.mk A840
                          clear A840
                          obtain rfl := Option.some.inj H
                          go_wp2_with (first | (go_at_call 28; (with_reducible refine (psalterylaw15_knows.calls kj4  t498 _ A84.out).mono ?_); rintro e w85 ⟨rfl, hb⟩; have n0_ := Aside0.mk (below_step (by repeat (first | (with_reducible first | exact HB.out | apply below_alloc | apply pw_below_drewN | apply below_drew1) | exact HB.out)) hb); clear HB; have HB := n0_; clear n0_; (try clear hb); (try clear hb2); (try clear hk); (try clear hi)))
                          go_ret
                          exact ⟨by first | rfl | (simp [errW_none, errW_some] <;> rfl) | (simp [*, errW_none, errW_some] <;> rfl), by repeat (first | (with_reducible first | exact HB.out | apply below_alloc | apply pw_below_drewN | apply below_drew1) | exact HB.out)⟩
                        · rw [if_neg c83] at H
                          have c83b0 : (t483 == 0) = false := beq_eq_false_iff_ne.mpr c83
                          have c83b1 : (t483 != 0) = true := bne_iff_ne.mpr c83
                          exact absurd ((Option.some.inj H).trans HT.out) (by decide)
                      · rw [if_neg c82] at H
                        have c82b0 : (a0 == a1) = false := beq_eq_false_iff_ne.mpr c82
                        have c82b1 : (a0 != a1) = true := bne_iff_ne.mpr c82
                        replace H := Option.bind_eq_some_iff.mp H
                        obtain ⟨t499, A860, H⟩ := H
                        replace H : (some t499) = some r := H
                        have A86 := Aside0.mk A860
                        clear A860
                        obtain rfl := Option.some.inj H
                        go_wp2_with (first | (go_at_call 28; (with_reducible refine (psalterylaw15_knows.calls kj4  t499 _ A86.out).mono ?_); rintro e w87 ⟨rfl, hb⟩; have n0_ := Aside0.mk (below_step (by repeat (first | (with_reducible first | exact HB.out | apply below_alloc | apply pw_below_drewN | apply below_drew1) | exact HB.out)) hb); clear HB; have HB := n0_; clear n0_; (try clear hb); (try clear hb2); (try clear hk); (try clear hi)))
                        go_ret
                        exact ⟨by first | rfl | (simp [errW_none, errW_some] <;> rfl) | (simp [*, errW_none, errW_some] <;> rfl), by repeat (first | (with_reducible first | exact HB.out | apply below_alloc | apply pw_below_drewN | apply below_drew1) | exact HB.out)⟩
                    · rw [if_neg c81] at H
                      have c81b0 : decide ((wrap64 ((wrap64 (-x8_4)) - a1)) ≤ t483) = false := decide_eq_false c81
                      clear c81
                      exact absurd ((Option.some.inj H).trans HT.out) (by decide)
                  · rw [if_neg c80] at H
                    have c80b0 : decide (t483 ≤ (wrap64 (x8_4 + a1))) = false := decide_eq_false c80
                    clear c80
                    exact absurd ((Option.some.inj H).trans HT.out) (by decide)
                · rw [if_neg c79] at H
                  have c79b0 : decide (a1 ≤ t482) = false := decide_eq_false c79
                  clear c79
                  exact absurd ((Option.some.inj H).trans HT.out) (by decide)
              · rw [if_neg c78] at H
                have c78b0 : decide (x8_4 ≤ t482) = false := decide_eq_false c78
                clear c78
                exact absurd ((Option.some.inj H).trans HT.out) (by decide)
            · rw [if_neg c77] at H
              have c77b0 : (t482 == a0) = false := beq_eq_false_iff_ne.mpr c77
              have c77b1 : (t482 != a0) = true := bne_iff_ne.mpr c77
              by_cases c88 : t482 = a1
              · rw [if_pos c88] at H
                have c88b0 : (t482 == a1) = true := beq_iff_eq.mpr c88
                have c88b1 : (t482 != a1) = false := bne_eq_false_iff_eq.mpr c88
                clear c88
                by_cases c89 : t482 ≥ x8_4
                · rw [if_pos c89] at H
                  have c89b0 : decide (x8_4 ≤ t482) = true := decide_eq_true c89
                  clear c89
                  by_cases c90 : t482 ≥ a1
                  · rw [if_pos c90] at H
                    have c90b0 : decide (a1 ≤ t482) = true := decide_eq_true c90
                    clear c90
                    by_cases c91 : t483 ≤ (wrap64 (x8_4 + a1))
                    · rw [if_pos c91] at H
                      have c91b0 : decide (t483 ≤ (wrap64 (x8_4 + a1))) = true := decide_eq_true c91
                      clear c91
                      by_cases c92 : t483 ≥ (wrap64 ((wrap64 (-x8_4)) - a1))
                      · rw [if_pos c92] at H
                        have c92b0 : decide ((wrap64 ((wrap64 (-x8_4)) - a1)) ≤ t483) = true := decide_eq_true c92
                        clear c92
                        by_cases c93 : a0 = a1
                        · rw [if_pos c93] at H
                          have c93b0 : (a0 == a1) = true := beq_iff_eq.mpr c93
                          have c93b1 : (a0 != a1) = false := bne_eq_false_iff_eq.mpr c93
                          clear c93
                          by_cases c94 : t483 = 0
                          · rw [if_pos c94] at H
                            have c94b0 : (t483 == 0) = true := beq_iff_eq.mpr c94
                            have c94b1 : (t483 != 0) = false := bne_eq_false_iff_eq.mpr c94
                            clear c94
                            replace H := Option.bind_eq_some_iff.mp H
                            obtain ⟨t500, A950, H⟩ := H
                            replace H : (some t500) = some r := H
                            have A95 := Aside0.mk A950
                            clear A950
                            obtain rfl := Option.some.inj H
                            go_wp2_with (first | (go_at_call 28; (with_reducible refine (psalterylaw15_knows.calls kj4  t500 _ A95.out).mono ?_); rintro e w96 ⟨rfl, hb⟩; have n0_ := Aside0.mk (below_step (by repeat (first | (with_reducible first | exact HB.out | apply below_alloc | apply pw_below_drewN | apply below_drew1) | exact HB.out)) hb); clear HB; have HB := n0_; clear n0_; (try clear hb); (try clear hb2); (try clear hk); (try clear hi)))
                            go_ret
                            exact ⟨by first | rfl | (simp [errW_none, errW_some] <;> rfl) | (simp [*, errW_none, errW_some] <;> rfl), by repeat (first | (with_reducible first | exact HB.out | apply below_alloc | apply pw_below_drewN | apply below_drew1) | exact HB.out)⟩
                          · rw [if_neg c94] at H
                            have c94b0 : (t483 == 0) = false := beq_eq_false_iff_ne.mpr c94
                            have c94b1 : (t483 != 0) = true := bne_iff_ne.mpr c94
                            exact absurd ((Option.some.inj H).trans HT.out) (by decide)
                        · rw [if_neg c93] at H
                          have c93b0 : (a0 == a1) = false := beq_eq_false_iff_ne.mpr c93
                          have c93b1 : (a0 != a1) = true := bne_iff_ne.mpr c93
                          replace H := Option.bind_eq_some_iff.mp H
                          obtain ⟨t501, A970, H⟩ := H
                          replace H : (some t501) = some r := H
                          have A97 := Aside0.mk A970
                          clear A970
                          obtain rfl := Option.some.inj H
                          go_wp2_with (first | (go_at_call 28; (with_reducible refine (psalterylaw15_knows.calls kj4  t501 _ A97.out).mono ?_); rintro e w98 ⟨rfl, hb⟩; have n0_ := Aside0.mk (below_step (by repeat (first | (with_reducible first | exact HB.out | apply below_alloc | apply pw_below_drewN | apply below_drew1) | exact HB.out)) hb); clear HB; have HB := n0_; clear n0_; (try clear hb); (try clear hb2); (try clear hk); (try clear hi)))
                          go_ret
                          exact ⟨by first | rfl | (simp [errW_none, errW_some] <;> rfl) | (simp [*, errW_none, errW_some] <;> rfl), by repeat (first | (with_reducible first | exact HB.out | apply below_alloc | apply pw_below_drewN | apply below_drew1) | exact HB.out)⟩
                      · rw [if_neg c92] at H
                        have c92b0 : decide ((wrap64 ((wrap64 (-x8_4)) - a1)) ≤ t483) = false := decide_eq_false c92
                        clear c92
                        exact absurd ((Option.some.inj H).trans HT.out) (by decide)
                    · rw [if_neg c91] at H
                      have c91b0 : decide (t483 ≤ (wrap64 (x8_4 + a1))) = false := decide_eq_false c91
                      clear c91
                      exact absurd ((Option.some.inj H).trans HT.out) (by decide)
                  · rw [if_neg c90] at H
                    have c90b0 : decide (a1 ≤ t482) = false := decide_eq_false c90
                    clear c90
                    exact absurd ((Option.some.inj H).trans HT.out) (by decide)
                · rw [if_neg c89] at H
                  have c89b0 : decide (x8_4 ≤ t482) = false := decide_eq_false c89
                  clear c89
                  exact absurd ((Option.some.inj H).trans HT.out) (by decide)
              · rw [if_neg c88] at H
                have c88b0 : (t482 == a1) = false := beq_eq_false_iff_ne.mpr c88
                have c88b1 : (t482 != a1) = true := bne_iff_ne.mpr c88
                exact absurd ((Option.some.inj H).trans HT.out) (by decide)
  · rw [if_neg c4] at H
    have c4b0 : (t484 == 0) = false := beq_eq_false_iff_ne.mpr c4
    have c4b1 : (t484 != 0) = true := bne_iff_ne.mpr c4
    replace H := Option.bind_eq_some_iff.mp H
    obtain ⟨t485, A990, H⟩ := H
    replace H : (some t485) = some r := H
    have A99 := Aside0.mk A990
    clear A990
    obtain rfl := Option.some.inj H
    go_enter Try.func12, Try.ntmps12
    go_wp2_with (first | ((with_reducible refine gate_callee (f := 24) rfl ?_); refine goesL_ (some 14) rfl rfl Try.func24 (by kernel_rfl) rfl #[.int .i64 a0, .int .i64 a1] rfl (by (try simp only [List.map_toArray, List.map_cons, List.map_nil]); first | done | rfl | (simp only [List.length_drop, List.length_take]; rfl)) ?_; (with_reducible refine (couple_Couple.calls k a0 a1 t482 t483 t484 _ A3.out).mono ?_); rintro e w100 ⟨rfl, hb⟩; refine ⟨_, rfl, ?_⟩; have n0_ := Aside0.mk (below_step (by repeat (first | (with_reducible first | exact HB.out | apply below_alloc | apply pw_below_drewN | apply below_drew1) | exact HB.out)) hb); clear HB; have HB := n0_; clear n0_; (try clear hb); (try clear hb2); (try clear hk); (try clear hi)) | ((with_reducible refine gate_callee (f := 28) rfl ?_); refine goesL_ (some 20) rfl rfl Try.func28 (by kernel_rfl) rfl #[] rfl (by (try simp only [List.map_toArray, List.map_cons, List.map_nil]); first | done | rfl | (simp only [List.length_drop, List.length_take]; rfl)) ?_; (with_reducible refine (psalterylaw15_knows.calls k  t485 _ A99.out).mono ?_); rintro e w101 ⟨rfl, hb⟩; refine ⟨_, rfl, ?_⟩; have n0_ := Aside0.mk (below_step (by repeat (first | (with_reducible first | exact HB.out | apply below_alloc | apply pw_below_drewN | apply below_drew1) | exact HB.out)) hb); clear HB; have HB := n0_; clear n0_; (try clear hb); (try clear hb2); (try clear hk); (try clear hi)))
    go_ret
    exact ⟨by first | rfl | (simp [errW_none, errW_some] <;> rfl) | (simp [*, errW_none, errW_some] <;> rfl), by repeat (first | (with_reducible first | exact HB.out | apply below_alloc | apply pw_below_drewN | apply below_drew1) | exact HB.out)⟩

/-- THE ONE PURE STATEMENT of psalterylaw15_CoupleSizes: yours. -/
def psalterylaw15_CoupleSizes.Pure : Prop := ∀ (a0 : Int) (a1 : Int), (Lit.int .i64 a0).wf = true → (Lit.int .i64 a1).wf = true → ∃ k, psalterylaw15_CoupleSizes.f k a0 a1 = some true
theorem psalterylaw15_CoupleSizes.walk (P : psalterylaw15_CoupleSizes.Pure) (a0 : Int) (a1 : Int) (w : World) (w0 : (Lit.int .i64 a0).wf = true) (w1 : (Lit.int .i64 a1).wf = true) :
    Calls Try.prog 12 #[.int .i64 a0, .int .i64 a1] w fun e w' => e = .returned (.bool true) ∧ Below w.heap.size w w' := by
  obtain ⟨k, h⟩ := P a0 a1 w0 w1
  refine (psalterylaw15_CoupleSizes.calls k a0 a1 true w h rfl).mono ?_
  rintro e w' ⟨rfl, hd⟩
  exact ⟨rfl, hd⟩

end Go.Proofs.Ytfipeildlleoeaa.P
