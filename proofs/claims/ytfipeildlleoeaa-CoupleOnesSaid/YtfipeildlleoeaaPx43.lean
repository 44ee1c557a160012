-- PRINTED by print.py (a twelfth state) out of the translation. Not trusted: Lean checks it.
import Derived.Test.YtfipeildlleoeaaPx0
import Derived.Test.YtfipeildlleoeaaPx30
import Derived.Test.YtfipeildlleoeaaPx34
import Derived.Test.YtfipeildlleoeaaPx35
import Derived.Test.YtfipeildlleoeaaPx37
import Derived.Test.YtfipeildlleoeaaPx41
import Derived.Test.YtfipeildlleoeaaPx42
namespace Go.Proofs.Ytfipeildlleoeaa.P
open Go.RowKit Go.Proofs.YtfipeildlleoeaaW.PrintWords Go.Proofs.YtfipeildlleoeaaW.PrintLast Go.Proofs.YtfipeildlleoeaaW.PrintMore
attribute [local go_sem] max2_int min2_int max_two min_two max_three min_three max_four min_four   -- for this text's walks alone
set_option linter.unusedVariables false
set_option linter.unusedSimpArgs false

/-! ### psalterylaw15_CoupleOnes: function 9 -/
def psalterylaw15_CoupleOnes.j0 : Nat → Int → Int → Int → Int → Int → Option (Bool)
  | 0, _, _, _, _, _ => none
  | k + 1, x0, x1, x8, x9, x10 => (psalteryref15_Fair.f x0 x1 4398046511104).bind fun t444 => (if t444 = true then ((psalteryref15_Part.f k x0 x1).bind fun bt445 => (if x8 = bt445.1 then (if x9 = bt445.2 then (if x10 = 0 then ((psalterylaw15_knows.f k).bind fun t447 => (some t447)) else (some false)) else (some false)) else (some false))) else (if x8 = 0 then (if x9 = 0 then (if x10 = 1 then ((psalterylaw15_knows.f k).bind fun t448 => (some t448)) else (some false)) else (some false)) else (some false)))
def psalterylaw15_CoupleOnes.f (k : Nat) (a0 : Int) (a1 : Int) : Option (Bool) := (couple_Couple.f k a0 a1).bind fun bt435 => ((couple_Part.f k a0 a1).bind fun bt438 => ((psalteryref15_Fair.f a0 a1 1099511627776).bind fun t441 => (if t441 = true then ((psalteryref15_Couple.f a0 a1).bind fun bt442 => (if bt435.1 = bt442.1 then (if bt435.2.1 = bt442.2 then (if bt435.2.2 = 0 then (psalterylaw15_CoupleOnes.j0 k a0 a1 bt438.1 bt438.2.1 bt438.2.2) else (some false)) else (some false)) else (some false))) else (if bt435.1 = 0 then (if bt435.2.1 = 0 then (if bt435.2.2 = 1 then (psalterylaw15_CoupleOnes.j0 k a0 a1 bt438.1 bt438.2.1 bt438.2.2) else (some false)) else (some false)) else (some false)))))
theorem psalterylaw15_CoupleOnes.mono_l : ∀ k, (∀ y0 y1 y2 y3 y4, LeO (psalterylaw15_CoupleOnes.j0 k y0 y1 y2 y3 y4) (psalterylaw15_CoupleOnes.j0 (k + 1) y0 y1 y2 y3 y4))
  | 0 => fun _ _ _ _ _ r h => by simp [psalterylaw15_CoupleOnes.j0] at h
  | k + 1 => by
    have ih0 := psalterylaw15_CoupleOnes.mono_l k
    · intro y0 y1 y2 y3 y4
      unfold psalterylaw15_CoupleOnes.j0
      repeat' first
      | (with_reducible exact ih0 _ _ _ _ _)
      | (with_reducible exact couple_Couple.mono _ _ _)
      | (with_reducible exact couple_Part.mono _ _ _)
      | (with_reducible exact psalterylaw15_knows.mono _)
      | (with_reducible exact psalteryref15_Part.mono _ _ _)
      | (with_reducible exact LeO.refl _)
      | (with_reducible exact LeO.none _)
      | (with_reducible refine LeO.ite ?_ ?_)
      | (with_reducible refine LeO.bind ?_ (fun _ => ?_))
      | exact ih0 _ _ _ _ _
      | exact couple_Couple.mono _ _ _
      | exact couple_Part.mono _ _ _
      | exact psalterylaw15_knows.mono _
      | exact psalteryref15_Part.mono _ _ _
      | exact LeO.none _
      | refine LeO.ite ?_ ?_
      | refine LeO.bind ?_ (fun _ => ?_)
theorem psalterylaw15_CoupleOnes.mono : ∀ a0 a1 k, LeO (psalterylaw15_CoupleOnes.f k a0 a1) (psalterylaw15_CoupleOnes.f (k + 1) a0 a1) := by
  intro a0 a1 k
  have ih0 := psalterylaw15_CoupleOnes.mono_l k
  unfold psalterylaw15_CoupleOnes.f
  repeat' first
      | (with_reducible exact ih0 _ _ _ _ _)
      | (with_reducible exact couple_Couple.mono _ _ _)
      | (with_reducible exact couple_Part.mono _ _ _)
      | (with_reducible exact psalterylaw15_knows.mono _)
      | (with_reducible exact psalteryref15_Part.mono _ _ _)
      | (with_reducible exact LeO.refl _)
      | (with_reducible exact LeO.none _)
      | (with_reducible refine LeO.ite ?_ ?_)
      | (with_reducible refine LeO.bind ?_ (fun _ => ?_))
      | exact ih0 _ _ _ _ _
      | exact couple_Couple.mono _ _ _
      | exact couple_Part.mono _ _ _
      | exact psalterylaw15_knows.mono _
      | exact psalteryref15_Part.mono _ _ _
      | exact LeO.none _
      | refine LeO.ite ?_ ?_
      | refine LeO.bind ?_ (fun _ => ?_)
set_option maxHeartbeats 8000000 in
set_option maxRecDepth 100000 in
theorem psalterylaw15_CoupleOnes.calls (k : Nat) (a0 : Int) (a1 : Int) (r : Bool) (w : World) (h : psalterylaw15_CoupleOnes.f k a0 a1 = some r) (hT : r = true) :
    Calls Try.prog 9 #[.int .i64 a0, .int .i64 a1] w fun e w' => e = .returned (.bool r) ∧ Below w.heap.size w w' := by
  have HB := Aside0.mk (Below.refl w.heap.size w)
  have H : ((couple_Couple.f k a0 a1).bind fun bt435 => ((couple_Part.f k a0 a1).bind fun bt438 => ((psalteryref15_Fair.f a0 a1 1099511627776).bind fun t441 => (if t441 = true then ((psalteryref15_Couple.f a0 a1).bind fun bt442 => (if bt435.1 = bt442.1 then (if bt435.2.1 = bt442.2 then (if bt435.2.2 = 0 then (psalterylaw15_CoupleOnes.j0 k a0 a1 bt438.1 bt438.2.1 bt438.2.2) else (some false)) else (some false)) else (some false))) else (if bt435.1 = 0 then (if bt435.2.1 = 0 then (if bt435.2.2 = 1 then (psalterylaw15_CoupleOnes.j0 k a0 a1 bt438.1 bt438.2.1 bt438.2.2) else (some false)) else (some false)) else (some false)))))) = some r := h
  clear h
  have HT := Aside0.mk hT
  clear hT
  replace H := Option.bind_eq_some_iff.mp H
  obtain ⟨⟨t435, t436, t437⟩, A30, H⟩ := H
  replace H : ((couple_Part.f k a0 a1).bind fun bt438 => ((psalteryref15_Fair.f a0 a1 1099511627776).bind fun t441 => (if t441 = true then ((psalteryref15_Couple.f a0 a1).bind fun bt442 => (if t435 = bt442.1 then (if t436 = bt442.2 then (if t437 = 0 then (psalterylaw15_CoupleOnes.j0 k a0 a1 bt438.1 bt438.2.1 bt438.2.2) else (some false)) else (some false)) else (some false))) else (if t435 = 0 then (if t436 = 0 then (if t437 = 1 then (psalterylaw15_CoupleOnes.j0 k a0 a1 bt438.1 bt438.2.1 bt438.2.2) else (some false)) else (some false)) else (some false))))) = some r := H
  have A3 := Aside0.mk A30
  clear A30
  replace H := Option.bind_eq_some_iff.mp H
  obtain ⟨⟨t438, t439, t440⟩, A40, H⟩ := H
  replace H : ((psalteryref15_Fair.f a0 a1 1099511627776).bind fun t441 => (if t441 = true then ((psalteryref15_Couple.f a0 a1).bind fun bt442 => (if t435 = bt442.1 then (if t436 = bt442.2 then (if t437 = 0 then (psalterylaw15_CoupleOnes.j0 k a0 a1 t438 t439 t440) else (some false)) else (some false)) else (some false))) else (if t435 = 0 then (if t436 = 0 then (if t437 = 1 then (psalterylaw15_CoupleOnes.j0 k a0 a1 t438 t439 t440) else (some false)) else (some false)) else (some false)))) = some r := H
  have A4 := Aside0.mk A40
  clear A40
  replace H := Option.bind_eq_some_iff.mp H
  obtain ⟨t441, A50, H⟩ := H
  replace H : (if t441 = true then ((psalteryref15_Couple.f a0 a1).bind fun bt442 => (if t435 = bt442.1 then (if t436 = bt442.2 then (if t437 = 0 then (psalterylaw15_CoupleOnes.j0 k a0 a1 t438 t439 t440) else (some false)) else (some false)) else (some false))) else (if t435 = 0 then (if t436 = 0 then (if t437 = 1 then (psalterylaw15_CoupleOnes.j0 k a0 a1 t438 t439 t440) else (some false)) else (some false)) else (some false))) = some r := H
  have A5 := Aside0.mk A50
  clear A50
  have HC6 := Aside0.mk H
  clear H
  go_enter Try.func9, Try.ntmps9
  go_upto_if 32 with (first | ((with_reducible refine gate_callee (f := 24) rfl ?_); refine goesL_ (some 18) rfl rfl Try.func24 (by kernel_rfl) rfl #[.int .i64 a0, .int .i64 a1] rfl (by (try simp only [List.map_toArray, List.map_cons, List.map_nil]); first | done | rfl | (simp only [List.length_drop, List.length_take]; rfl)) ?_; (with_reducible refine (couple_Couple.calls k a0 a1 t435 t436 t437 _ A3.out).mono ?_); rintro e w7 ⟨rfl, hb⟩; refine ⟨_, rfl, ?_⟩; have n0_ := Aside0.mk (below_step (by repeat (first | (with_reducible first | exact HB.out | apply below_alloc | apply pw_below_drewN | apply below_drew1) | exact HB.out)) hb); clear HB; have HB := n0_; clear n0_; (try clear hb); (try clear hb2); (try clear hk); (try clear hi)) | ((with_reducible refine gate_callee (f := 25) rfl ?_); refine goesL_ (some 25) rfl rfl Try.func25 (by kernel_rfl) rfl #[.int .i64 a0, .int .i64 a1] rfl (by (try simp only [List.map_toArray, List.map_cons, List.map_nil]); first | done | rfl | (simp only [List.length_drop, List.length_take]; rfl)) ?_; (with_reducible refine (couple_Part.calls k a0 a1 t438 t439 t440 _ A4.out).mono ?_); rintro e w8 ⟨rfl, hb⟩; refine ⟨_, rfl, ?_⟩; have n0_ := Aside0.mk (below_step (by repeat (first | (with_reducible first | exact HB.out | apply below_alloc | apply pw_below_drewN | apply below_drew1) | exact HB.out)) hb); clear HB; have HB := n0_; clear n0_; (try clear hb); (try clear hb2); (try clear hk); (try clear hi)) | ((with_reducible refine gate_callee (f := 26) rfl ?_); refine goesL_ (some 31) rfl rfl Try.func26 (by kernel_rfl) rfl #[.int .i64 a0, .int .i64 a1, .int .i64 1099511627776] rfl (by (try simp only [List.map_toArray, List.map_cons, List.map_nil]); first | done | rfl | (simp only [List.length_drop, List.length_take]; rfl)) ?_; (with_reducible refine (psalteryref15_Fair.calls a0 a1 1099511627776 t441 _ A5.out).mono ?_); rintro e w' ⟨rfl, ⟨nd, rfl⟩⟩; refine ⟨_, rfl, ?_⟩))
  (try simp only [Act.put, List.setIfInBounds_toArray, List.set_cons_zero, List.set_cons_succ])
  go_cut [] (fun wc => ∃ (kq : Nat), Aside0 (psalterylaw15_CoupleOnes.j0 kq a0 a1 t438 t439 t440 = some r) ∧ Aside0 (kq ≤ k) ∧ Aside0 (Below w.heap.size w wc))
  case first =>
    have H := HC6.out
    clear HC6
    by_cases c9 : t441 = true
    · subst c9
      have H1 : ((psalteryref15_Couple.f a0 a1).bind fun bt442 => (if t435 = bt442.1 then (if t436 = bt442.2 then (if t437 = 0 then (psalterylaw15_CoupleOnes.j0 k a0 a1 t438 t439 t440) else (some false)) else (some false)) else (some false))) = some r := by rw [if_pos rfl] at H; exact H
      clear H
      have H := H1
      clear H1
      replace H := Option.bind_eq_some_iff.mp H
      obtain ⟨⟨t442, t443⟩, A100, H⟩ := H
      replace H : (if t435 = t442 then (if t436 = t443 then (if t437 = 0 then (psalterylaw15_CoupleOnes.j0 k a0 a1 t438 t439 t440) else (some false)) else (some false)) else (some false)) = some r := H
      have A10 := Aside0.mk A100
      clear A100
      by_cases c11 : t435 = t442
      · rw [if_pos c11] at H
        have c11b0 : (t435 == t442) = true := beq_iff_eq.mpr c11
        have c11b1 : (t435 != t442) = false := bne_eq_false_iff_eq.mpr c11
        clear c11
        (first | rw [c11b0] | (simp only [i64_w, i32_w]; rw [c11b0]) | skip)
        by_cases c12 : t436 = t443
        · rw [if_pos c12] at H
          have c12b0 : (t436 == t443) = true := beq_iff_eq.mpr c12
          have c12b1 : (t436 != t443) = false := bne_eq_false_iff_eq.mpr c12
          clear c12
          by_cases c13 : t437 = 0
          · rw [if_pos c13] at H
            have c13b0 : (t437 == 0) = true := beq_iff_eq.mpr c13
            have c13b1 : (t437 != 0) = false := bne_eq_false_iff_eq.mpr c13
            clear c13
            have H' := Aside0.mk H
            clear H
            go_wp2_with (first | ((with_reducible refine gate_callee (f := 27) rfl ?_); refine goesL_ (some 46) rfl rfl Try.func27 (by kernel_rfl) rfl #[.int .i64 a0, .int .i64 a1] rfl (by (try simp only [List.map_toArray, List.map_cons, List.map_nil]); first | done | rfl | (simp only [List.length_drop, List.length_take]; rfl)) ?_; (with_reducible refine (psalteryref15_Couple.calls a0 a1 t442 t443 _ A10.out).mono ?_); rintro e w' ⟨rfl, ⟨nd, rfl⟩⟩; refine ⟨_, rfl, ?_⟩))
            go_meet
            case rel => exact ⟨_, H', ⟨by first | omega | exact Nat.le_refl _⟩, ⟨by repeat (first | (with_reducible first | exact HB.out | apply below_alloc | apply pw_below_drewN | apply below_drew1) | exact HB.out)⟩⟩
          · rw [if_neg c13] at H
            have c13b0 : (t437 == 0) = false := beq_eq_false_iff_ne.mpr c13
            have c13b1 : (t437 != 0) = true := bne_iff_ne.mpr c13
            exact absurd ((Option.some.inj H).trans HT.out) (by decide)
        · rw [if_neg c12] at H
          have c12b0 : (t436 == t443) = false := beq_eq_false_iff_ne.mpr c12
          have c12b1 : (t436 != t443) = true := bne_iff_ne.mpr c12
          exact absurd ((Option.some.inj H).trans HT.out) (by decide)
      · rw [if_neg c11] at H
        have c11b0 : (t435 == t442) = false := beq_eq_false_iff_ne.mpr c11
        have c11b1 : (t435 != t442) = true := bne_iff_ne.mpr c11
        (first | rw [c11b0] | (simp only [i64_w, i32_w]; rw [c11b0]) | skip)
        exact absurd ((Option.some.inj H).trans HT.out) (by decide)
    · replace c9 := Bool.eq_false_iff.mpr c9
      subst c9
      have H1 : (if t435 = 0 then (if t436 = 0 then (if t437 = 1 then (psalterylaw15_CoupleOnes.j0 k a0 a1 t438 t439 t440) else (some false)) else (some false)) else (some false)) = some r := by rw [if_neg (show ¬ (false = true) by decide)] at H; exact H
      clear H
      have H := H1
      clear H1
      by_cases c14 : t435 = 0
      · rw [if_pos c14] at H
        have c14b0 : (t435 == 0) = true := beq_iff_eq.mpr c14
        have c14b1 : (t435 != 0) = false := bne_eq_false_iff_eq.mpr c14
        clear c14
        by_cases c15 : t436 = 0
        · rw [if_pos c15] at H
          have c15b0 : (t436 == 0) = true := beq_iff_eq.mpr c15
          have c15b1 : (t436 != 0) = false := bne_eq_false_iff_eq.mpr c15
          clear c15
          by_cases c16 : t437 = 1
          · rw [if_pos c16] at H
            have c16b0 : (t437 == 1) = true := beq_iff_eq.mpr c16
            have c16b1 : (t437 != 1) = false := bne_eq_false_iff_eq.mpr c16
            clear c16
            have H' := Aside0.mk H
            clear H
            go_wp2
            go_meet
            case rel => exact ⟨_, H', ⟨by first | omega | exact Nat.le_refl _⟩, ⟨by repeat (first | (with_reducible first | exact HB.out | apply below_alloc | apply pw_below_drewN | apply below_drew1) | exact HB.out)⟩⟩
          · rw [if_neg c16] at H
            have c16b0 : (t437 == 1) = false := beq_eq_false_iff_ne.mpr c16
            have c16b1 : (t437 != 1) = true := bne_iff_ne.mpr c16
            exact absurd ((Option.some.inj H).trans HT.out) (by decide)
        · rw [if_neg c15] at H
          have c15b0 : (t436 == 0) = false := beq_eq_false_iff_ne.mpr c15
          have c15b1 : (t436 != 0) = true := bne_iff_ne.mpr c15
          exact absurd ((Option.some.inj H).trans HT.out) (by decide)
      · rw [if_neg c14] at H
        have c14b0 : (t435 == 0) = false := beq_eq_false_iff_ne.mpr c14
        have c14b1 : (t435 != 0) = true := bne_iff_ne.mpr c14
        exact absurd ((Option.some.inj H).trans HT.out) (by decide)
  case rest =>
    clear HC6
    try clear c1
    try clear c2
    try clear p2
    try clear c9
    try clear c11
    try clear c11b0
    try clear c11b1
    try clear c12
    try clear c12b0
    try clear c12b1
    try clear c13
    try clear c13b0
    try clear c13b1
    try clear c14
    try clear c14b0
    try clear c14b1
    try clear c15
    try clear c15b0
    try clear c15b1
    try clear c16
    try clear c16b0
    try clear c16b1
    obtain ⟨kq, HA, HJ5, HB⟩ := hcut
    cases kq with
    | zero => exact absurd HA.out (by simp [psalterylaw15_CoupleOnes.j0])
    | succ kj5 =>
      have H := HA.out
      clear HA
      simp only [psalterylaw15_CoupleOnes.j0] at H
      replace H := Option.bind_eq_some_iff.mp H
      obtain ⟨t444, A170, H⟩ := H
      replace H : (if t444 = true then ((psalteryref15_Part.f kj5 a0 a1).bind fun bt445 => (if t438 = bt445.1 then (if t439 = bt445.2 then (if t440 = 0 then ((psalterylaw15_knows.f kj5).bind fun t447 => (some t447)) else (some false)) else (some false)) else (some false))) else (if t438 = 0 then (if t439 = 0 then (if t440 = 1 then ((psalterylaw15_knows.f kj5).bind fun t448 => (some t448)) else (some false)) else (some false)) else (some false))) = some r := H
      have A17 := Aside0.mk A170
      clear A170
      by_cases c18 : t444 = true
      · subst c18
        have H1 : ((psalteryref15_Part.f kj5 a0 a1).bind fun bt445 => (if t438 = bt445.1 then (if t439 = bt445.2 then (if t440 = 0 then ((psalterylaw15_knows.f kj5).bind fun t447 => (some t447)) else (some false)) else (some false)) else (some false))) = some r := by rw [if_pos rfl] at H; exact H
        clear H
        have H := H1
        clear H1
        replace H := Option.bind_eq_some_iff.mp H
        obtain ⟨⟨t445, t446⟩, A190, H⟩ := H
        replace H : (if t438 = t445 then (if t439 = t446 then (if t440 = 0 then ((psalterylaw15_knows.f kj5).bind fun t447 => (some t447)) else (some false)) else (some false)) else (some false)) = some r := H
        have A19 := Aside0.mk A190
        clear A190
        by_cases c20 : t438 = t445
        · rw [if_pos c20] at H
          have c20b0 : (t438 == t445) = true := beq_iff_eq.mpr c20
          have c20b1 : (t438 != t445) = false := bne_eq_false_iff_eq.mpr c20
          clear c20
          by_cases c21 : t439 = t446
          · rw [if_pos c21] at H
            have c21b0 : (t439 == t446) = true := beq_iff_eq.mpr c21
            have c21b1 : (t439 != t446) = false := bne_eq_false_iff_eq.mpr c21
            clear c21
            by_cases c22 : t440 = 0
            · rw [if_pos c22] at H
              have c22b0 : (t440 == 0) = true := beq_iff_eq.mpr c22
              have c22b1 : (t440 != 0) = false := bne_eq_false_iff_eq.mpr c22
              clear c22
              replace H := Option.bind_eq_some_iff.mp H
              obtain ⟨t447, A230, H⟩ := H
              replace H : (some t447) = some r := H
              have A23 := Aside0.mk A230
              clear A230
              obtain rfl := Option.some.inj H
              go_wp2_with (first | ((with_reducible refine gate_callee (f := 26) rfl ?_); refine goesL_ (some 63) rfl rfl Try.func26 (by kernel_rfl) rfl #[.int .i64 a0, .int .i64 a1, .int .i64 4398046511104] rfl (by (try simp only [List.map_toArray, List.map_cons, List.map_nil]); first | done | rfl | (simp only [List.length_drop, List.length_take]; rfl)) ?_; (with_reducible refine (psalteryref15_Fair.calls a0 a1 4398046511104 true _ A17.out).mono ?_); rintro e w' ⟨rfl, ⟨nd, rfl⟩⟩; refine ⟨_, rfl, ?_⟩) | ((with_reducible refine gate_callee (f := 29) rfl ?_); refine goesL_ (some 81) rfl rfl Try.func29 (by kernel_rfl) rfl #[.int .i64 a0, .int .i64 a1] rfl (by (try simp only [List.map_toArray, List.map_cons, List.map_nil]); first | done | rfl | (simp only [List.length_drop, List.length_take]; rfl)) ?_; (with_reducible refine (psalteryref15_Part.calls kj5 a0 a1 t445 t446 _ A19.out).mono ?_); rintro e w' ⟨rfl, ⟨nd, rfl⟩⟩; refine ⟨_, rfl, ?_⟩) | (go_at_call 28; (with_reducible refine (psalterylaw15_knows.calls kj5  t447 _ A23.out).mono ?_); rintro e w24 ⟨rfl, hb⟩; have n0_ := Aside0.mk (below_step (by repeat (first | (with_reducible first | exact HB.out | apply below_alloc | apply pw_below_drewN | apply below_drew1) | exact HB.out)) hb); clear HB; have HB := n0_; clear n0_; (try clear hb); (try clear hb2); (try clear hk); (try clear hi)))
              go_ret
              exact ⟨by first | rfl | (simp [errW_none, errW_some] <;> rfl) | (simp [*, errW_none, errW_some] <;> rfl), by repeat (first | (with_reducible first | exact HB.out | apply below_alloc | apply pw_below_drewN | apply below_drew1) | exact HB.out)⟩
            · rw [if_neg c22] at H
              have c22b0 : (t440 == 0) = false := beq_eq_false_iff_ne.mpr c22
              have c22b1 : (t440 != 0) = true := bne_iff_ne.mpr c22
              exact absurd ((Option.some.inj H).trans HT.out) (by decide)
          · rw [if_neg c21] at H
            have c21b0 : (t439 == t446) = false := beq_eq_false_iff_ne.mpr c21
            have c21b1 : (t439 != t446) = true := bne_iff_ne.mpr c21
            exact absurd ((Option.some.inj H).trans HT.out) (by decide)
        · rw [if_neg c20] at H
          have c20b0 : (t438 == t445) = false := beq_eq_false_iff_ne.mpr c20
          have c20b1 : (t438 != t445) = true := bne_iff_ne.mpr c20
          exact absurd ((Option.some.inj H).trans HT.out) (by decide)
      · replace c18 := Bool.eq_false_iff.mpr c18
        subst c18
        have H1 : (if t438 = 0 then (if t439 = 0 then (if t440 = 1 then ((psalterylaw15_knows.f kj5).bind fun t448 => (some t448)) else (some false)) else (some false)) else (some false)) = some r := by rw [if_neg (show ¬ (false = true) by decide)] at H; exact H
        clear H
        have H := H1
        clear H1
        by_cases c25 : t438 = 0
        · rw [if_pos c25] at H
          have c25b0 : (t438 == 0) = true := beq_iff_eq.mpr c25
          have c25b1 : (t438 != 0) = false := bne_eq_false_iff_eq.mpr c25
          clear c25
          by_cases c26 : t439 = 0
          · rw [if_pos c26] at H
            have c26b0 : (t439 == 0) = true := beq_iff_eq.mpr c26
            have c26b1 : (t439 != 0) = false := bne_eq_false_iff_eq.mpr c26
            clear c26
            by_cases c27 : t440 = 1
            · rw [if_pos c27] at H
              have c27b0 : (t440 == 1) = true := beq_iff_eq.mpr c27
              have c27b1 : (t440 != 1) = false := bne_eq_false_iff_eq.mpr c27
              clear c27
              replace H := Option.bind_eq_some_iff.mp H
              obtain ⟨t448, A280, H⟩ := H
              replace H : (some t448) = some r := H
              have A28 := Aside0.mk A280
              clear A280
              obtain rfl := Option.some.inj H
              go_wp2_with (first | ((with_reducible refine gate_callee (f := 26) rfl ?_); refine goesL_ (some 63) rfl rfl Try.func26 (by kernel_rfl) rfl #[.int .i64 a0, .int .i64 a1, .int .i64 4398046511104] rfl (by (try simp only [List.map_toArray, List.map_cons, List.map_nil]); first | done | rfl | (simp only [List.length_drop, List.length_take]; rfl)) ?_; (with_reducible refine (psalteryref15_Fair.calls a0 a1 4398046511104 false _ A17.out).mono ?_); rintro e w' ⟨rfl, ⟨nd, rfl⟩⟩; refine ⟨_, rfl, ?_⟩) | (go_at_call 28; (with_reducible refine (psalterylaw15_knows.calls kj5  t448 _ A28.out).mono ?_); rintro e w29 ⟨rfl, hb⟩; have n0_ := Aside0.mk (below_step (by repeat (first | (with_reducible first | exact HB.out | apply below_alloc | apply pw_below_drewN | apply below_drew1) | exact HB.out)) hb); clear HB; have HB := n0_; clear n0_; (try clear hb); (try clear hb2); (try clear hk); (try clear hi)))
              go_ret
              exact ⟨by first | rfl | (simp [errW_none, errW_some] <;> rfl) | (simp [*, errW_none, errW_some] <;> rfl), by repeat (first | (with_reducible first | exact HB.out | apply below_alloc | apply pw_below_drewN | apply below_drew1) | exact HB.out)⟩
            · rw [if_neg c27] at H
              have c27b0 : (t440 == 1) = false := beq_eq_false_iff_ne.mpr c27
              have c27b1 : (t440 != 1) = true := bne_iff_ne.mpr c27
              exact absurd ((Option.some.inj H).trans HT.out) (by decide)
          · rw [if_neg c26] at H
            have c26b0 : (t439 == 0) = false := beq_eq_false_iff_ne.mpr c26
            have c26b1 : (t439 != 0) = true := bne_iff_ne.mpr c26
            exact absurd ((Option.some.inj H).trans HT.out) (by decide)
        · rw [if_neg c25] at H
          have c25b0 : (t438 == 0) = false := beq_eq_false_iff_ne.mpr c25
          have c25b1 : (t438 != 0) = true := bne_iff_ne.mpr c25
          exact absurd ((Option.some.inj H).trans HT.out) (by decide)

/-- THE ONE PURE STATEMENT of psalterylaw15_CoupleOnes: yours. -/
def psalterylaw15_CoupleOnes.Pure : Prop := ∀ (a0 : Int) (a1 : Int), (Lit.int .i64 a0).wf = true → (Lit.int .i64 a1).wf = true → ∃ k, psalterylaw15_CoupleOnes.f k a0 a1 = some true
theorem psalterylaw15_CoupleOnes.walk (P : psalterylaw15_CoupleOnes.Pure) (a0 : Int) (a1 : Int) (w : World) (w0 : (Lit.int .i64 a0).wf = true) (w1 : (Lit.int .i64 a1).wf = true) :
    Calls Try.prog 9 #[.int .i64 a0, .int .i64 a1] w fun e w' => e = .returned (.bool true) ∧ Below w.heap.size w w' := by
  obtain ⟨k, h⟩ := P a0 a1 w0 w1
  refine (psalterylaw15_CoupleOnes.calls k a0 a1 true w h rfl).mono ?_
  rintro e w' ⟨rfl, hd⟩
  exact ⟨rfl, hd⟩

end Go.Proofs.Ytfipeildlleoeaa.P
