-- PRINTED by print.py (a twelfth state) out of the translation. Not trusted: Lean checks it.
import Derived.Test.YtajnllkkgedgfaaPx0
import Derived.Test.YtajnllkkgedgfaaPx28
import Derived.Test.YtajnllkkgedgfaaPx31
namespace Go.Proofs.Ytajnllkkgedgfaa.P
open Go.RowKit Go.Proofs.YtajnllkkgedgfaaW.PrintWords Go.Proofs.YtajnllkkgedgfaaW.PrintLast Go.Proofs.YtajnllkkgedgfaaW.PrintMore
attribute [local go_sem] max2_int min2_int max_two min_two max_three min_three max_four min_four   -- for this text's walks alone
set_option linter.unusedVariables false
set_option linter.unusedSimpArgs false

/-! ### psalterylaw03_NumNear: function 13 -/
def psalterylaw03_NumNear.j0 : Nat → Int → Int → Int → Bool → Option (Bool)
  | 0, _, _, _, _ => none
  | k + 1, x0, x1, x2, x33 => if x33 = true then ((psalterylaw03_knows.f k).bind fun t346 => (some t346)) else ((num_Div.f x0 x2).bind fun bt347 => ((num_Div.f x1 x2).bind fun bt349 => (if (wrap64 (x0 - (wrap64 (bt347.1 * x2)))) < 0 then (if bt347.2 = 0 then (if bt349.2 = 0 then (if (wrap64 (2 * (wrap64 (-(wrap64 (x0 - (wrap64 (bt347.1 * x2)))))))) ≤ x2 then (if x0 > x1 then ((psalterylaw03_knows.f k).bind fun t351 => (some t351)) else (if bt347.1 ≤ bt349.1 then ((psalterylaw03_knows.f k).bind fun t352 => (some t352)) else (some false))) else (some false)) else (some false)) else (some false)) else (if bt347.2 = 0 then (if bt349.2 = 0 then (if (wrap64 (2 * (wrap64 (x0 - (wrap64 (bt347.1 * x2)))))) ≤ x2 then (if x0 > x1 then ((psalterylaw03_knows.f k).bind fun t353 => (some t353)) else (if bt347.1 ≤ bt349.1 then ((psalterylaw03_knows.f k).bind fun t354 => (some t354)) else (some false))) else (some false)) else (some false)) else (some false)))))
def psalterylaw03_NumNear.f (k : Nat) (a0 : Int) (a1 : Int) (a2 : Int) : Option (Bool) := if a2 < 1 then (psalterylaw03_NumNear.j0 k a0 a1 a2 true) else (if a2 > 1152921504606846976 then (psalterylaw03_NumNear.j0 k a0 a1 a2 true) else (if a0 < (-1152921504606846976) then (psalterylaw03_NumNear.j0 k a0 a1 a2 true) else (if a0 > 1152921504606846976 then (psalterylaw03_NumNear.j0 k a0 a1 a2 true) else (if a1 < (-1152921504606846976) then (psalterylaw03_NumNear.j0 k a0 a1 a2 true) else (psalterylaw03_NumNear.j0 k a0 a1 a2 (decide (a1 > 1152921504606846976)))))))
theorem psalterylaw03_NumNear.mono_l : ∀ k, (∀ y0 y1 y2 y3, LeO (psalterylaw03_NumNear.j0 k y0 y1 y2 y3) (psalterylaw03_NumNear.j0 (k + 1) y0 y1 y2 y3))
  | 0 => fun _ _ _ _ r h => by simp [psalterylaw03_NumNear.j0] at h
  | k + 1 => by
    have ih0 := psalterylaw03_NumNear.mono_l k
    · intro y0 y1 y2 y3
      unfold psalterylaw03_NumNear.j0
      repeat' first
      | (with_reducible exact ih0 _ _ _ _)
      | (with_reducible exact psalterylaw03_knows.mono _)
      | (with_reducible exact LeO.refl _)
      | (with_reducible exact LeO.none _)
      | (with_reducible refine LeO.ite ?_ ?_)
      | (with_reducible refine LeO.bind ?_ (fun _ => ?_))
      | exact ih0 _ _ _ _
      | exact psalterylaw03_knows.mono _
      | exact LeO.none _
      | refine LeO.ite ?_ ?_
      | refine LeO.bind ?_ (fun _ => ?_)
theorem psalterylaw03_NumNear.mono : ∀ a0 a1 a2 k, LeO (psalterylaw03_NumNear.f k a0 a1 a2) (psalterylaw03_NumNear.f (k + 1) a0 a1 a2) := by
  intro a0 a1 a2 k
  have ih0 := psalterylaw03_NumNear.mono_l k
  unfold psalterylaw03_NumNear.f
  repeat' first
      | (with_reducible exact ih0 _ _ _ _)
      | (with_reducible exact psalterylaw03_knows.mono _)
      | (with_reducible exact LeO.refl _)
      | (with_reducible exact LeO.none _)
      | (with_reducible refine LeO.ite ?_ ?_)
      | (with_reducible refine LeO.bind ?_ (fun _ => ?_))
      | exact ih0 _ _ _ _
      | exact psalterylaw03_knows.mono _
      | exact LeO.none _
      | refine LeO.ite ?_ ?_
      | refine LeO.bind ?_ (fun _ => ?_)
set_option maxHeartbeats 8000000 in
set_option maxRecDepth 100000 in
theorem psalterylaw03_NumNear.calls (k : Nat) (a0 : Int) (a1 : Int) (a2 : Int) (r : Bool) (w : World) (h : psalterylaw03_NumNear.f k a0 a1 a2 = some r) (hT : r = true) :
    Calls Try.prog 13 #[.int .i64 a0, .int .i64 a1, .int .i64 a2] w fun e w' => e = .returned (.bool r) ∧ Below w.heap.size w w' := by
  have HB := Aside0.mk (Below.refl w.heap.size w)
  have H : (if a2 < 1 then (psalterylaw03_NumNear.j0 k a0 a1 a2 true) else (if a2 > 1152921504606846976 then (psalterylaw03_NumNear.j0 k a0 a1 a2 true) else (if a0 < (-1152921504606846976) then (psalterylaw03_NumNear.j0 k a0 a1 a2 true) else (if a0 > 1152921504606846976 then (psalterylaw03_NumNear.j0 k a0 a1 a2 true) else (if a1 < (-1152921504606846976) then (psalterylaw03_NumNear.j0 k a0 a1 a2 true) else (psalterylaw03_NumNear.j0 k a0 a1 a2 (decide (a1 > 1152921504606846976)))))))) = some r := h
  clear h
  have HT := Aside0.mk hT
  clear hT
  have HC4 := Aside0.mk H
  clear H
  go_enter Try.func13, Try.ntmps13
  go_upto_region 1 with (fail)
  go_cut [33] (fun v33 wc => ∃ (kq : Nat) (x33_3 : Bool), v33 = .bool x33_3 ∧ Aside0 (psalterylaw03_NumNear.j0 kq a0 a1 a2 x33_3 = some r) ∧ Aside0 (kq ≤ k) ∧ Aside0 (Below w.heap.size w wc))
  case first =>
    have H := HC4.out
    clear HC4
    by_cases c5 : a2 < 1
    · rw [if_pos c5] at H
      have c5b0 : decide (a2 < 1) = true := decide_eq_true c5
      clear c5
      (first | rw [c5b0] | (simp only [i64_w, i32_w]; rw [c5b0]) | skip)
      have H' := Aside0.mk H
      clear H
      go_wp2
      go_meet
      case rel => exact ⟨_, (true), (by first | rfl | (simp; done) | (simp [*]; done)), H', ⟨by first | omega | exact Nat.le_refl _⟩, ⟨by repeat (first | (with_reducible first | exact HB.out | apply below_alloc | apply pw_below_drewN | apply below_drew1) | exact HB.out)⟩⟩
    · rw [if_neg c5] at H
      have c5b0 : decide (a2 < 1) = false := decide_eq_false c5
      clear c5
      (first | rw [c5b0] | (simp only [i64_w, i32_w]; rw [c5b0]) | skip)
      by_cases c6 : a2 > 1152921504606846976
      · rw [if_pos c6] at H
        have c6b0 : decide (1152921504606846976 < a2) = true := decide_eq_true c6
        clear c6
        have H' := Aside0.mk H
        clear H
        go_wp2
        go_meet
        case rel => exact ⟨_, (true), (by first | rfl | (simp; done) | (simp [*]; done)), H', ⟨by first | omega | exact Nat.le_refl _⟩, ⟨by repeat (first | (with_reducible first | exact HB.out | apply below_alloc | apply pw_below_drewN | apply below_drew1) | exact HB.out)⟩⟩
      · rw [if_neg c6] at H
        have c6b0 : decide (1152921504606846976 < a2) = false := decide_eq_false c6
        clear c6
        by_cases c7 : a0 < (-1152921504606846976)
        · rw [if_pos c7] at H
          have c7b0 : decide (a0 < (-1152921504606846976)) = true := decide_eq_true c7
          clear c7
          have H' := Aside0.mk H
          clear H
          go_wp2
          go_meet
          case rel => exact ⟨_, (true), (by first | rfl | (simp; done) | (simp [*]; done)), H', ⟨by first | omega | exact Nat.le_refl _⟩, ⟨by repeat (first | (with_reducible first | exact HB.out | apply below_alloc | apply pw_below_drewN | apply below_drew1) | exact HB.out)⟩⟩
        · rw [if_neg c7] at H
          have c7b0 : decide (a0 < (-1152921504606846976)) = false := decide_eq_false c7
          clear c7
          by_cases c8 : a0 > 1152921504606846976
          · rw [if_pos c8] at H
            have c8b0 : decide (1152921504606846976 < a0) = true := decide_eq_true c8
            clear c8
            have H' := Aside0.mk H
            clear H
            go_wp2
            go_meet
            case rel => exact ⟨_, (true), (by first | rfl | (simp; done) | (simp [*]; done)), H', ⟨by first | omega | exact Nat.le_refl _⟩, ⟨by repeat (first | (with_reducible first | exact HB.out | apply below_alloc | apply pw_below_drewN | apply below_drew1) | exact HB.out)⟩⟩
          · rw [if_neg c8] at H
            have c8b0 : decide (1152921504606846976 < a0) = false := decide_eq_false c8
            clear c8
            by_cases c9 : a1 < (-1152921504606846976)
            · rw [if_pos c9] at H
              have c9b0 : decide (a1 < (-1152921504606846976)) = true := decide_eq_true c9
              clear c9
              have H' := Aside0.mk H
              clear H
              go_wp2
              go_meet
              case rel => exact ⟨_, (true), (by first | rfl | (simp; done) | (simp [*]; done)), H', ⟨by first | omega | exact Nat.le_refl _⟩, ⟨by repeat (first | (with_reducible first | exact HB.out | apply below_alloc | apply pw_below_drewN | apply below_drew1) | exact HB.out)⟩⟩
            · rw [if_neg c9] at H
              have c9b0 : decide (a1 < (-1152921504606846976)) = false := decide_eq_false c9
              clear c9
              have H' := Aside0.mk H
              clear H
              go_wp2
              go_meet
              case rel => exact ⟨_, (decide (a1 > 1152921504606846976)), (by first | rfl | (simp; done) | (simp [*]; done)), H', ⟨by first | omega | exact Nat.le_refl _⟩, ⟨by repeat (first | (with_reducible first | exact HB.out | apply below_alloc | apply pw_below_drewN | apply below_drew1) | exact HB.out)⟩⟩
  case rest =>
    clear HC4
    try clear c1
    try clear p2
    try clear c5
    try clear c5b0
    try clear c6
    try clear c6b0
    try clear c7
    try clear c7b0
    try clear c8
    try clear c8b0
    try clear c9
    try clear c9b0
    obtain ⟨kq, x33_3, rfl, HA, HJ3, HB⟩ := hcut
    cases kq with
    | zero => exact absurd HA.out (by simp [psalterylaw03_NumNear.j0])
    | succ kj3 =>
      have H := HA.out
      clear HA
      simp only [psalterylaw03_NumNear.j0] at H
      by_cases c10 : x33_3 = true
      · subst c10
        have H1 : ((psalterylaw03_knows.f kj3).bind fun t346 => (some t346)) = some r := by rw [if_pos rfl] at H; exact H
        clear H
        have H := H1
        clear H1
        replace H := Option.bind_eq_some_iff.mp H
        obtain ⟨t346, A110, H⟩ := H
        replace H : (some t346) = some r := H
        have A11 := Aside0.mk A110
        clear A110
        obtain rfl := Option.some.inj H
        go_wp2_with (first | ((with_reducible refine gate_callee (f := 30) rfl ?_); refine goesL_ (some 34) rfl rfl Try.func30 (by kernel_rfl) rfl #[] rfl (by (try simp only [List.map_toArray, List.map_cons, List.map_nil]); first | done | rfl | (simp only [List.length_drop, List.length_take]; rfl)) ?_; (with_reducible refine (psalterylaw03_knows.calls kj3  t346 _ A11.out).mono ?_); rintro e w12 ⟨rfl, hb⟩; refine ⟨_, rfl, ?_⟩; have n0_ := Aside0.mk (below_step (by repeat (first | (with_reducible first | exact HB.out | apply below_alloc | apply pw_below_drewN | apply below_drew1) | exact HB.out)) hb); clear HB; have HB := n0_; clear n0_; (try clear hb); (try clear hb2); (try clear hk); (try clear hi)))
        go_ret
        exact ⟨by first | rfl | (simp [errW_none, errW_some] <;> rfl) | (simp [*, errW_none, errW_some] <;> rfl), by repeat (first | (with_reducible first | exact HB.out | apply below_alloc | apply pw_below_drewN | apply below_drew1) | exact HB.out)⟩
      · replace c10 := Bool.eq_false_iff.mpr c10
        subst c10
        have H1 : ((num_Div.f a0 a2).bind fun bt347 => ((num_Div.f a1 a2).bind fun bt349 => (if (wrap64 (a0 - (wrap64 (bt347.1 * a2)))) < 0 then (if bt347.2 = 0 then (if bt349.2 = 0 then (if (wrap64 (2 * (wrap64 (-(wrap64 (a0 - (wrap64 (bt347.1 * a2)))))))) ≤ a2 then (if a0 > a1 then ((psalterylaw03_knows.f kj3).bind fun t351 => (some t351)) else (if bt347.1 ≤ bt349.1 then ((psalterylaw03_knows.f kj3).bind fun t352 => (some t352)) else (some false))) else (some false)) else (some false)) else (some false)) else (if bt347.2 = 0 then (if bt349.2 = 0 then (if (wrap64 (2 * (wrap64 (a0 - (wrap64 (bt347.1 * a2)))))) ≤ a2 then (if a0 > a1 then ((psalterylaw03_knows.f kj3).bind fun t353 => (some t353)) else (if bt347.1 ≤ bt349.1 then ((psalterylaw03_knows.f kj3).bind fun t354 => (some t354)) else (some false))) else (some false)) else (some false)) else (some false))))) = some r := by rw [if_neg (show ¬ (false = true) by decide)] at H; exact H
        clear H
        have H := H1
        clear H1
        replace H := Option.bind_eq_some_iff.mp H
        obtain ⟨⟨t347, t348⟩, A130, H⟩ := H
        replace H : ((num_Div.f a1 a2).bind fun bt349 => (if (wrap64 (a0 - (wrap64 (t347 * a2)))) < 0 then (if t348 = 0 then (if bt349.2 = 0 then (if (wrap64 (2 * (wrap64 (-(wrap64 (a0 - (wrap64 (t347 * a2)))))))) ≤ a2 then (if a0 > a1 then ((psalterylaw03_knows.f kj3).bind fun t351 => (some t351)) else (if t347 ≤ bt349.1 then ((psalterylaw03_knows.f kj3).bind fun t352 => (some t352)) else (some false))) else (some false)) else (some false)) else (some false)) else (if t348 = 0 then (if bt349.2 = 0 then (if (wrap64 (2 * (wrap64 (a0 - (wrap64 (t347 * a2)))))) ≤ a2 then (if a0 > a1 then ((psalterylaw03_knows.f kj3).bind fun t353 => (some t353)) else (if t347 ≤ bt349.1 then ((psalterylaw03_knows.f kj3).bind fun t354 => (some t354)) else (some false))) else (some false)) else (some false)) else (some false)))) = some r := H
        have A13 := Aside0.mk A130
        clear A130
        replace H := Option.bind_eq_some_iff.mp H
        obtain ⟨⟨t349, t350⟩, A140, H⟩ := H
        replace H : (if (wrap64 (a0 - (wrap64 (t347 * a2)))) < 0 then (if t348 = 0 then (if t350 = 0 then (if (wrap64 (2 * (wrap64 (-(wrap64 (a0 - (wrap64 (t347 * a2)))))))) ≤ a2 then (if a0 > a1 then ((psalterylaw03_knows.f kj3).bind fun t351 => (some t351)) else (if t347 ≤ t349 then ((psalterylaw03_knows.f kj3).bind fun t352 => (some t352)) else (some false))) else (some false)) else (some false)) else (some false)) else (if t348 = 0 then (if t350 = 0 then (if (wrap64 (2 * (wrap64 (a0 - (wrap64 (t347 * a2)))))) ≤ a2 then (if a0 > a1 then ((psalterylaw03_knows.f kj3).bind fun t353 => (some t353)) else (if t347 ≤ t349 then ((psalterylaw03_knows.f kj3).bind fun t354 => (some t354)) else (some false))) else (some false)) else (some false)) else (some false))) = some r := H
        have A14 := Aside0.mk A140
        clear A140
        by_cases c15 : (wrap64 (a0 - (wrap64 (t347 * a2)))) < 0
        · rw [if_pos c15] at H
          have c15b0 : decide ((wrap64 (a0 - (wrap64 (t347 * a2)))) < 0) = true := decide_eq_true c15
          clear c15
          by_cases c16 : t348 = 0
          · rw [if_pos c16] at H
            have c16b0 : (t348 == 0) = true := beq_iff_eq.mpr c16
            have c16b1 : (t348 != 0) = false := bne_eq_false_iff_eq.mpr c16
            clear c16
            by_cases c17 : t350 = 0
            · rw [if_pos c17] at H
              have c17b0 : (t350 == 0) = true := beq_iff_eq.mpr c17
              have c17b1 : (t350 != 0) = false := bne_eq_false_iff_eq.mpr c17
              clear c17
              by_cases c18 : (wrap64 (2 * (wrap64 (-(wrap64 (a0 - (wrap64 (t347 * a2)))))))) ≤ a2
              · rw [if_pos c18] at H
                have c18b0 : decide ((wrap64 (2 * (wrap64 (-(wrap64 (a0 - (wrap64 (t347 * a2)))))))) ≤ a2) = true := decide_eq_true c18
                clear c18
                by_cases c19 : a0 > a1
                · rw [if_pos c19] at H
                  have c19b0 : decide (a1 < a0) = true := decide_eq_true c19
                  clear c19
                  replace H := Option.bind_eq_some_iff.mp H
                  obtain ⟨t351, A200, H⟩ := H
                  replace H : (some t351) = some r := H
                  have A20 := Aside0.mk A200
                  clear A200
                  obtain rfl := Option.some.inj H
                  go_wp2_with (first | ((with_reducible refine gate_callee (f := 35) rfl ?_); refine goesL_ (some 38) rfl rfl Try.func35 (by kernel_rfl) rfl #[.int .i64 a0, .int .i64 a2] rfl (by (try simp only [List.map_toArray, List.map_cons, List.map_nil]); first | done | rfl | (simp only [List.length_drop, List.length_take]; rfl)) ?_; (with_reducible refine (num_Div.calls a0 a2 t347 t348 _ A13.out).mono ?_); rintro e w' ⟨rfl, ⟨nd, rfl⟩⟩; refine ⟨_, rfl, ?_⟩) | ((with_reducible refine gate_callee (f := 35) rfl ?_); refine goesL_ (some 44) rfl rfl Try.func35 (by kernel_rfl) rfl #[.int .i64 a1, .int .i64 a2] rfl (by (try simp only [List.map_toArray, List.map_cons, List.map_nil]); first | done | rfl | (simp only [List.length_drop, List.length_take]; rfl)) ?_; (with_reducible refine (num_Div.calls a1 a2 t349 t350 _ A14.out).mono ?_); rintro e w' ⟨rfl, ⟨nd, rfl⟩⟩; refine ⟨_, rfl, ?_⟩) | (go_at_call 30; (with_reducible refine (psalterylaw03_knows.calls kj3  t351 _ A20.out).mono ?_); rintro e w21 ⟨rfl, hb⟩; have n0_ := Aside0.mk (below_step (by repeat (first | (with_reducible first | exact HB.out | apply below_alloc | apply pw_below_drewN | apply below_drew1) | exact HB.out)) hb); clear HB; have HB := n0_; clear n0_; (try clear hb); (try clear hb2); (try clear hk); (try clear hi)))
                  go_ret
                  exact ⟨by first | rfl | (simp [errW_none, errW_some] <;> rfl) | (simp [*, errW_none, errW_some] <;> rfl), by repeat (first | (with_reducible first | exact HB.out | apply below_alloc | apply pw_below_drewN | apply below_drew1) | exact HB.out)⟩
                · rw [if_neg c19] at H
                  have c19b0 : decide (a1 < a0) = false := decide_eq_false c19
                  clear c19
                  by_cases c22 : t347 ≤ t349
                  · rw [if_pos c22] at H
                    have c22b0 : decide (t347 ≤ t349) = true := decide_eq_true c22
                    clear c22
                    replace H := Option.bind_eq_some_iff.mp H
                    obtain ⟨t352, A230, H⟩ := H
                    replace H : (some t352) = some r := H
                    have A23 := Aside0.mk A230
                    clear A230
                    obtain rfl := Option.some.inj H
                    go_wp2_with (first | ((with_reducible refine gate_callee (f := 35) rfl ?_); refine goesL_ (some 38) rfl rfl Try.func35 (by kernel_rfl) rfl #[.int .i64 a0, .int .i64 a2] rfl (by (try simp only [List.map_toArray, List.map_cons, List.map_nil]); first | done | rfl | (simp only [List.length_drop, List.length_take]; rfl)) ?_; (with_reducible refine (num_Div.calls a0 a2 t347 t348 _ A13.out).mono ?_); rintro e w' ⟨rfl, ⟨nd, rfl⟩⟩; refine ⟨_, rfl, ?_⟩) | ((with_reducible refine gate_callee (f := 35) rfl ?_); refine goesL_ (some 44) rfl rfl Try.func35 (by kernel_rfl) rfl #[.int .i64 a1, .int .i64 a2] rfl (by (try simp only [List.map_toArray, List.map_cons, List.map_nil]); first | done | rfl | (simp only [List.length_drop, List.length_take]; rfl)) ?_; (with_reducible refine (num_Div.calls a1 a2 t349 t350 _ A14.out).mono ?_); rintro e w' ⟨rfl, ⟨nd, rfl⟩⟩; refine ⟨_, rfl, ?_⟩) | (go_at_call 30; (with_reducible refine (psalterylaw03_knows.calls kj3  t352 _ A23.out).mono ?_); rintro e w24 ⟨rfl, hb⟩; have n0_ := Aside0.mk (below_step (by repeat (first | (with_reducible first | exact HB.out | apply below_alloc | apply pw_below_drewN | apply below_drew1) | exact HB.out)) hb); clear HB; have HB := n0_; clear n0_; (try clear hb); (try clear hb2); (try clear hk); (try clear hi)))
                    go_ret
                    exact ⟨by first | rfl | (simp [errW_none, errW_some] <;> rfl) | (simp [*, errW_none, errW_some] <;> rfl), by repeat (first | (with_reducible first | exact HB.out | apply below_alloc | apply pw_below_drewN | apply below_drew1) | exact HB.out)⟩
                  · rw [if_neg c22] at H
                    have c22b0 : decide (t347 ≤ t349) = false := decide_eq_false c22
                    clear c22
                    exact absurd ((Option.some.inj H).trans HT.out) (by decide)
              · rw [if_neg c18] at H
                have c18b0 : decide ((wrap64 (2 * (wrap64 (-(wrap64 (a0 - (wrap64 (t347 * a2)))))))) ≤ a2) = false := decide_eq_false c18
                clear c18
                exact absurd ((Option.some.inj H).trans HT.out) (by decide)
            · rw [if_neg c17] at H
              have c17b0 : (t350 == 0) = false := beq_eq_false_iff_ne.mpr c17
              have c17b1 : (t350 != 0) = true := bne_iff_ne.mpr c17
              exact absurd ((Option.some.inj H).trans HT.out) (by decide)
          · rw [if_neg c16] at H
            have c16b0 : (t348 == 0) = false := beq_eq_false_iff_ne.mpr c16
            have c16b1 : (t348 != 0) = true := bne_iff_ne.mpr c16
            exact absurd ((Option.some.inj H).trans HT.out) (by decide)
        · rw [if_neg c15] at H
          have c15b0 : decide ((wrap64 (a0 - (wrap64 (t347 * a2)))) < 0) = false := decide_eq_false c15
          clear c15
          by_cases c25 : t348 = 0
          · rw [if_pos c25] at H
            have c25b0 : (t348 == 0) = true := beq_iff_eq.mpr c25
            have c25b1 : (t348 != 0) = false := bne_eq_false_iff_eq.mpr c25
            clear c25
            by_cases c26 : t350 = 0
            · rw [if_pos c26] at H
              have c26b0 : (t350 == 0) = true := beq_iff_eq.mpr c26
              have c26b1 : (t350 != 0) = false := bne_eq_false_iff_eq.mpr c26
              clear c26
              by_cases c27 : (wrap64 (2 * (wrap64 (a0 - (wrap64 (t347 * a2)))))) ≤ a2
              · rw [if_pos c27] at H
                have c27b0 : decide ((wrap64 (2 * (wrap64 (a0 - (wrap64 (t347 * a2)))))) ≤ a2) = true := decide_eq_true c27
                clear c27
                by_cases c28 : a0 > a1
                · rw [if_pos c28] at H
                  have c28b0 : decide (a1 < a0) = true := decide_eq_true c28
                  clear c28
                  replace H := Option.bind_eq_some_iff.mp H
                  obtain ⟨t353, A290, H⟩ := H
                  replace H : (some t353) = some r := H
                  have A29 := Aside0.mk A290
                  clear A290
                  obtain rfl := Option.some.inj H
                  go_wp2_with (first | ((with_reducible refine gate_callee (f := 35) rfl ?_); refine goesL_ (some 38) rfl rfl Try.func35 (by kernel_rfl) rfl #[.int .i64 a0, .int .i64 a2] rfl (by (try simp only [List.map_toArray, List.map_cons, List.map_nil]); first | done | rfl | (simp only [List.length_drop, List.length_take]; rfl)) ?_; (with_reducible refine (num_Div.calls a0 a2 t347 t348 _ A13.out).mono ?_); rintro e w' ⟨rfl, ⟨nd, rfl⟩⟩; refine ⟨_, rfl, ?_⟩) | ((with_reducible refine gate_callee (f := 35) rfl ?_); refine goesL_ (some 44) rfl rfl Try.func35 (by kernel_rfl) rfl #[.int .i64 a1, .int .i64 a2] rfl (by (try simp only [List.map_toArray, List.map_cons, List.map_nil]); first | done | rfl | (simp only [List.length_drop, List.length_take]; rfl)) ?_; (with_reducible refine (num_Div.calls a1 a2 t349 t350 _ A14.out).mono ?_); rintro e w' ⟨rfl, ⟨nd, rfl⟩⟩; refine ⟨_, rfl, ?_⟩) | (go_at_call 30; (with_reducible refine (psalterylaw03_knows.calls kj3  t353 _ A29.out).mono ?_); rintro e w30 ⟨rfl, hb⟩; have n0_ := Aside0.mk (below_step (by repeat (first | (with_reducible first | exact HB.out | apply below_alloc | apply pw_below_drewN | apply below_drew1) | exact HB.out)) hb); clear HB; have HB := n0_; clear n0_; (try clear hb); (try clear hb2); (try clear hk); (try clear hi)))
                  go_ret
                  exact ⟨by first | rfl | (simp [errW_none, errW_some] <;> rfl) | (simp [*, errW_none, errW_some] <;> rfl), by repeat (first | (with_reducible first | exact HB.out | apply below_alloc | apply pw_below_drewN | apply below_drew1) | exact HB.out)⟩
                · rw [if_neg c28] at H
                  have c28b0 : decide (a1 < a0) = false := decide_eq_false c28
                  clear c28
                  by_cases c31 : t347 ≤ t349
                  · rw [if_pos c31] at H
                    have c31b0 : decide (t347 ≤ t349) = true := decide_eq_true c31
                    clear c31
                    replace H := Option.bind_eq_some_iff.mp H
                    obtain ⟨t354, A320, H⟩ := H
                    replace H : (some t354) = some r := H
                    have A32 := Aside0.mk A320
                    clear A320
                    obtain rfl := Option.some.inj H
                    go_wp2_with (first | ((with_reducible refine gate_callee (f := 35) rfl ?_); refine goesL_ (some 38) rfl rfl Try.func35 (by kernel_rfl) rfl #[.int .i64 a0, .int .i64 a2] rfl (by (try simp only [List.map_toArray, List.map_cons, List.map_nil]); first | done | rfl | (simp only [List.length_drop, List.length_take]; rfl)) ?_; (with_reducible refine (num_Div.calls a0 a2 t347 t348 _ A13.out).mono ?_); rintro e w' ⟨rfl, ⟨nd, rfl⟩⟩; refine ⟨_, rfl, ?_⟩) | ((with_reducible refine gate_callee (f := 35) rfl ?_); refine goesL_ (some 44) rfl rfl Try.func35 (by kernel_rfl) rfl #[.int .i64 a1, .int .i64 a2] rfl (by (try simp only [List.map_toArray, List.map_cons, List.map_nil]); first | done | rfl | (simp only [List.length_drop, List.length_take]; rfl)) ?_; (with_reducible refine (num_Div.calls a1 a2 t349 t350 _ A14.out).mono ?_); rintro e w' ⟨rfl, ⟨nd, rfl⟩⟩; refine ⟨_, rfl, ?_⟩) | (go_at_call 30; (with_reducible refine (psalterylaw03_knows.calls kj3  t354 _ A32.out).mono ?_); rintro e w33 ⟨rfl, hb⟩; have n0_ := Aside0.mk (below_step (by repeat (first | (with_reducible first | exact HB.out | apply below_alloc | apply pw_below_drewN | apply below_drew1) | exact HB.out)) hb); clear HB; have HB := n0_; clear n0_; (try clear hb); (try clear hb2); (try clear hk); (try clear hi)))
                    go_ret
                    exact ⟨by first | rfl | (simp [errW_none, errW_some] <;> rfl) | (simp [*, errW_none, errW_some] <;> rfl), by repeat (first | (with_reducible first | exact HB.out | apply below_alloc | apply pw_below_drewN | apply below_drew1) | exact HB.out)⟩
                  · rw [if_neg c31] at H
                    have c31b0 : decide (t347 ≤ t349) = false := decide_eq_false c31
                    clear c31
                    exact absurd ((Option.some.inj H).trans HT.out) (by decide)
              · rw [if_neg c27] at H
                have c27b0 : decide ((wrap64 (2 * (wrap64 (a0 - (wrap64 (t347 * a2)))))) ≤ a2) = false := decide_eq_false c27
                clear c27
                exact absurd ((Option.some.inj H).trans HT.out) (by decide)
            · rw [if_neg c26] at H
              have c26b0 : (t350 == 0) = false := beq_eq_false_iff_ne.mpr c26
              have c26b1 : (t350 != 0) = true := bne_iff_ne.mpr c26
              exact absurd ((Option.some.inj H).trans HT.out) (by decide)
          · rw [if_neg c25] at H
            have c25b0 : (t348 == 0) = false := beq_eq_false_iff_ne.mpr c25
            have c25b1 : (t348 != 0) = true := bne_iff_ne.mpr c25
            exact absurd ((Option.some.inj H).trans HT.out) (by decide)

/-- THE ONE PURE STATEMENT of psalterylaw03_NumNear: yours. -/
def psalterylaw03_NumNear.Pure : Prop := ∀ (a0 : Int) (a1 : Int) (a2 : Int), (Lit.int .i64 a0).wf = true → (Lit.int .i64 a1).wf = true → (Lit.int .i64 a2).wf = true → ∃ k, psalterylaw03_NumNear.f k a0 a1 a2 = some true
theorem psalterylaw03_NumNear.walk (P : psalterylaw03_NumNear.Pure) (a0 : Int) (a1 : Int) (a2 : Int) (w : World) (w0 : (Lit.int .i64 a0).wf = true) (w1 : (Lit.int .i64 a1).wf = true) (w2 : (Lit.int .i64 a2).wf = true) :
    Calls Try.prog 13 #[.int .i64 a0, .int .i64 a1, .int .i64 a2] w fun e w' => e = .returned (.bool true) ∧ Below w.heap.size w w' := by
  obtain ⟨k, h⟩ := P a0 a1 a2 w0 w1 w2
  refine (psalterylaw03_NumNear.calls k a0 a1 a2 true w h rfl).mono ?_
  rintro e w' ⟨rfl, hd⟩
  exact ⟨rfl, hd⟩

end Go.Proofs.Ytajnllkkgedgfaa.P
