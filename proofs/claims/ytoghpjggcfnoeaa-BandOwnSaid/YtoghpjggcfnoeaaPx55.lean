-- PRINTED by print.py (a twelfth state) out of the translation. Not trusted: Lean checks it.
import Derived.Test.YtoghpjggcfnoeaaPx0
import Derived.Test.YtoghpjggcfnoeaaPx7
import Derived.Test.YtoghpjggcfnoeaaPx38
import Derived.Test.YtoghpjggcfnoeaaPx41
namespace Go.Proofs.Ytoghpjggcfnoeaa.P
open Go.RowKit Go.Proofs.YtoghpjggcfnoeaaW.PrintWords Go.Proofs.YtoghpjggcfnoeaaW.PrintLast Go.Proofs.YtoghpjggcfnoeaaW.PrintMore
attribute [local go_sem] max2_int min2_int max_two min_two max_three min_three max_four min_four   -- for this text's walks alone
set_option linter.unusedVariables false
set_option linter.unusedSimpArgs false

/-! ### psalterylaw10_BandOwn: function 14 -/
def psalterylaw10_BandOwn.j0 : Nat → Int → Bool → Option (Bool)
  | 0, _, _ => none
  | k + 1, x0, x10 => if x10 = true then ((psalterylaw10_knows.f k).bind fun t436 => (some t436)) else ((band_Value.f k x0).bind fun t437 => ((band_Gain.f k (([t437] : List Int))).bind fun bt441 => (if bt441.2 = 0 then (if bt441.1 = x0 then ((psalterylaw10_knows.f k).bind fun t443 => (some t443)) else (if (Int.tmod x0 2) = 0 then (if bt441.1 = (wrap64 (x0 - 1)) then ((psalterylaw10_knows.f k).bind fun t444 => (some t444)) else (some false)) else (some false))) else (some false))))
def psalterylaw10_BandOwn.f (k : Nat) (a0 : Int) : Option (Bool) := if a0 < 1 then (psalterylaw10_BandOwn.j0 k a0 true) else (psalterylaw10_BandOwn.j0 k a0 (decide (a0 > 41)))
theorem psalterylaw10_BandOwn.mono_l : ∀ k, (∀ y0 y1, LeO (psalterylaw10_BandOwn.j0 k y0 y1) (psalterylaw10_BandOwn.j0 (k + 1) y0 y1))
  | 0 => fun _ _ r h => by simp [psalterylaw10_BandOwn.j0] at h
  | k + 1 => by
    have ih0 := psalterylaw10_BandOwn.mono_l k
    · intro y0 y1
      unfold psalterylaw10_BandOwn.j0
      repeat' first
      | (with_reducible exact ih0 _ _)
      | (with_reducible exact band_Gain.mono _ _)
      | (with_reducible exact band_Value.mono _ _)
      | (with_reducible exact psalterylaw10_knows.mono _)
      | (with_reducible exact LeO.refl _)
      | (with_reducible exact LeO.none _)
      | (with_reducible refine LeO.ite ?_ ?_)
      | (with_reducible refine LeO.bind ?_ (fun _ => ?_))
      | exact ih0 _ _
      | exact band_Gain.mono _ _
      | exact band_Value.mono _ _
      | exact psalterylaw10_knows.mono _
      | exact LeO.none _
      | refine LeO.ite ?_ ?_
      | refine LeO.bind ?_ (fun _ => ?_)
theorem psalterylaw10_BandOwn.mono : ∀ a0 k, LeO (psalterylaw10_BandOwn.f k a0) (psalterylaw10_BandOwn.f (k + 1) a0) := by
  intro a0 k
  have ih0 := psalterylaw10_BandOwn.mono_l k
  unfold psalterylaw10_BandOwn.f
  repeat' first
      | (with_reducible exact ih0 _ _)
      | (with_reducible exact band_Gain.mono _ _)
      | (with_reducible exact band_Value.mono _ _)
      | (with_reducible exact psalterylaw10_knows.mono _)
      | (with_reducible exact LeO.refl _)
      | (with_reducible exact LeO.none _)
      | (with_reducible refine LeO.ite ?_ ?_)
      | (with_reducible refine LeO.bind ?_ (fun _ => ?_))
      | exact ih0 _ _
      | exact band_Gain.mono _ _
      | exact band_Value.mono _ _
      | exact psalterylaw10_knows.mono _
      | exact LeO.none _
      | refine LeO.ite ?_ ?_
      | refine LeO.bind ?_ (fun _ => ?_)
set_option maxHeartbeats 8000000 in
set_option maxRecDepth 100000 in
theorem psalterylaw10_BandOwn.calls (k : Nat) (a0 : Int) (r : Bool) (w : World) (h : psalterylaw10_BandOwn.f k a0 = some r) (hT : r = true) :
    Calls Try.prog 14 #[.int .i64 a0] w fun e w' => e = .returned (.bool r) ∧ Below w.heap.size w w' := by
  have HB := Aside0.mk (Below.refl w.heap.size w)
  have H : (if a0 < 1 then (psalterylaw10_BandOwn.j0 k a0 true) else (psalterylaw10_BandOwn.j0 k a0 (decide (a0 > 41)))) = some r := h
  clear h
  have HT := Aside0.mk hT
  clear hT
  have HC2 := Aside0.mk H
  clear H
  go_enter Try.func14, Try.ntmps14
  go_upto_region 1 with (fail)
  go_cut [10] (fun v10 wc => ∃ (kq : Nat) (x10_1 : Bool), v10 = .bool x10_1 ∧ Aside0 (psalterylaw10_BandOwn.j0 kq a0 x10_1 = some r) ∧ Aside0 (kq ≤ k) ∧ Aside0 (Below w.heap.size w wc))
  case first =>
    have H := HC2.out
    clear HC2
    by_cases c3 : a0 < 1
    · rw [if_pos c3] at H
      have c3b0 : decide (a0 < 1) = true := decide_eq_true c3
      clear c3
      (first | rw [c3b0] | (simp only [i64_w, i32_w]; rw [c3b0]) | skip)
      have H' := Aside0.mk H
      clear H
      go_wp2
      go_meet
      case rel => exact ⟨_, (true), (by first | rfl | (simp; done) | (simp [*]; done)), H', ⟨by first | omega | exact Nat.le_refl _⟩, ⟨by repeat (first | (with_reducible first | exact HB.out | apply below_alloc | apply pw_below_drewN | apply below_drew1) | exact HB.out)⟩⟩
    · rw [if_neg c3] at H
      have c3b0 : decide (a0 < 1) = false := decide_eq_false c3
      clear c3
      (first | rw [c3b0] | (simp only [i64_w, i32_w]; rw [c3b0]) | skip)
      have H' := Aside0.mk H
      clear H
      go_wp2
      go_meet
      case rel => exact ⟨_, (decide (a0 > 41)), (by first | rfl | (simp; done) | (simp [*]; done)), H', ⟨by first | omega | exact Nat.le_refl _⟩, ⟨by repeat (first | (with_reducible first | exact HB.out | apply below_alloc | apply pw_below_drewN | apply below_drew1) | exact HB.out)⟩⟩
  case rest =>
    clear HC2
    try clear c1
    try clear p2
    try clear c3
    try clear c3b0
    obtain ⟨kq, x10_1, rfl, HA, HJ1, HB⟩ := hcut
    cases kq with
    | zero => exact absurd HA.out (by simp [psalterylaw10_BandOwn.j0])
    | succ kj1 =>
      have H := HA.out
      clear HA
      simp only [psalterylaw10_BandOwn.j0] at H
      by_cases c4 : x10_1 = true
      · subst c4
        have H1 : ((psalterylaw10_knows.f kj1).bind fun t436 => (some t436)) = some r := by rw [if_pos rfl] at H; exact H
        clear H
        have H := H1
        clear H1
        replace H := Option.bind_eq_some_iff.mp H
        obtain ⟨t436, A50, H⟩ := H
        replace H : (some t436) = some r := H
        have A5 := Aside0.mk A50
        clear A50
        obtain rfl := Option.some.inj H
        go_wp2_with (first | ((with_reducible refine gate_callee (f := 33) rfl ?_); refine goesL_ (some 11) rfl rfl Try.func33 (by kernel_rfl) rfl #[] rfl (by (try simp only [List.map_toArray, List.map_cons, List.map_nil]); first | done | rfl | (simp only [List.length_drop, List.length_take]; rfl)) ?_; (with_reducible refine (psalterylaw10_knows.calls kj1  t436 _ A5.out).mono ?_); rintro e w6 ⟨rfl, hb⟩; refine ⟨_, rfl, ?_⟩; have n0_ := Aside0.mk (below_step (by repeat (first | (with_reducible first | exact HB.out | apply below_alloc | apply pw_below_drewN | apply below_drew1) | exact HB.out)) hb); clear HB; have HB := n0_; clear n0_; (try clear hb); (try clear hb2); (try clear hk); (try clear hi)))
        go_ret
        exact ⟨by first | rfl | (simp [errW_none, errW_some] <;> rfl) | (simp [*, errW_none, errW_some] <;> rfl), by repeat (first | (with_reducible first | exact HB.out | apply below_alloc | apply pw_below_drewN | apply below_drew1) | exact HB.out)⟩
      · replace c4 := Bool.eq_false_iff.mpr c4
        subst c4
        have H1 : ((band_Value.f kj1 a0).bind fun t437 => ((band_Gain.f kj1 (([t437] : List Int))).bind fun bt441 => (if bt441.2 = 0 then (if bt441.1 = a0 then ((psalterylaw10_knows.f kj1).bind fun t443 => (some t443)) else (if (Int.tmod a0 2) = 0 then (if bt441.1 = (wrap64 (a0 - 1)) then ((psalterylaw10_knows.f kj1).bind fun t444 => (some t444)) else (some false)) else (some false))) else (some false)))) = some r := by rw [if_neg (show ¬ (false = true) by decide)] at H; exact H
        clear H
        have H := H1
        clear H1
        replace H := Option.bind_eq_some_iff.mp H
        obtain ⟨t437, A70, H⟩ := H
        replace H : ((band_Gain.f kj1 (([t437] : List Int))).bind fun bt441 => (if bt441.2 = 0 then (if bt441.1 = a0 then ((psalterylaw10_knows.f kj1).bind fun t443 => (some t443)) else (if (Int.tmod a0 2) = 0 then (if bt441.1 = (wrap64 (a0 - 1)) then ((psalterylaw10_knows.f kj1).bind fun t444 => (some t444)) else (some false)) else (some false))) else (some false))) = some r := H
        have A7 := Aside0.mk A70
        clear A70
        obtain ⟨y438, hy438⟩ : ∃ y_ : List Int, y_ = (([t437] : List Int)) := ⟨_, rfl⟩
        replace H : ((band_Gain.f kj1 y438).bind fun bt441 => (if bt441.2 = 0 then (if bt441.1 = a0 then ((psalterylaw10_knows.f kj1).bind fun t443 => (some t443)) else (if (Int.tmod a0 2) = 0 then (if bt441.1 = (wrap64 (a0 - 1)) then ((psalterylaw10_knows.f kj1).bind fun t444 => (some t444)) else (some false)) else (some false))) else (some false))) = some r := by first | (rw [hy438]; with_reducible exact H) | (have H2_ := (Option.bind_some _ _).symm.trans H; rw [hy438]; with_reducible exact H2_) | (have H2_ := (Option.bind_some _ _).symm.trans H; with_reducible exact H2_) | with_reducible exact H | (rw [hy438]; exact H) | exact H
        have Ny438 := Aside0.mk hy438
        clear hy438
        replace H := Option.bind_eq_some_iff.mp H
        obtain ⟨⟨t441, t442⟩, A80, H⟩ := H
        replace H : (if t442 = 0 then (if t441 = a0 then ((psalterylaw10_knows.f kj1).bind fun t443 => (some t443)) else (if (Int.tmod a0 2) = 0 then (if t441 = (wrap64 (a0 - 1)) then ((psalterylaw10_knows.f kj1).bind fun t444 => (some t444)) else (some false)) else (some false))) else (some false)) = some r := H
        have A8 := Aside0.mk A80
        clear A80
        by_cases c9 : t442 = 0
        · rw [if_pos c9] at H
          have c9b0 : (t442 == 0) = true := beq_iff_eq.mpr c9
          have c9b1 : (t442 != 0) = false := bne_eq_false_iff_eq.mpr c9
          clear c9
          by_cases c10 : t441 = a0
          · rw [if_pos c10] at H
            have c10b0 : (t441 == a0) = true := beq_iff_eq.mpr c10
            have c10b1 : (t441 != a0) = false := bne_eq_false_iff_eq.mpr c10
            clear c10
            replace H := Option.bind_eq_some_iff.mp H
            obtain ⟨t443, A110, H⟩ := H
            replace H : (some t443) = some r := H
            have A11 := Aside0.mk A110
            clear A110
            obtain rfl := Option.some.inj H
            go_wp2_with (first | ((with_reducible refine gate_callee (f := 32) rfl ?_); refine goesL_ (some 14) rfl rfl Try.func32 (by kernel_rfl) rfl #[.int .i64 a0] rfl (by (try simp only [List.map_toArray, List.map_cons, List.map_nil]); first | done | rfl | (simp only [List.length_drop, List.length_take]; rfl)) ?_; (with_reducible refine (band_Value.calls kj1 a0 t437 _ A7.out).mono ?_); rintro e w' ⟨rfl, ⟨nd, rfl⟩⟩; refine ⟨_, rfl, ?_⟩) | ((with_reducible refine gate_dst (N := 15) rfl ?_); refine Kd.R_lit (Kd.int .i64) _ 2 ?hg (N := 15) ?hd (xs := ([t437] : List Int)) (inner := [.int .i64 t437]) (ok := fun _ => True) (okp := fun _ => True) ?hr ?hp (fun _ hk => hk) trivial (Below.refl _ _) (Nat.le_refl _) (by simp) ?_; (case hd => rfl); (case hg => rfl); (case hr => first | (go_simp; done) | (go_simp; rfl)); (case hp => exact (Reps.one (show Kd.M (Kd.int .i64) _ _ _ t437 [.int .i64 t437] from rfl) (Reps.none _ _))); intro v439 w12 ho13 hb hg_ hnew_; clear hg_ hnew_; (first | rw [← Ny438.out] at ho13 | (simp only [Int.reduceToNat] at ho13; rw [← Ny438.out] at ho13)); have n0_ := Aside0.mk (Kd.R_lower ho13 (below_size (by repeat (first | (with_reducible first | exact HB.out | apply below_alloc | apply pw_below_drewN | apply below_drew1) | exact HB.out)))); have n1_ := Aside0.mk (below_step (by repeat (first | (with_reducible first | exact HB.out | apply below_alloc | apply pw_below_drewN | apply below_drew1) | exact HB.out)) hb); clear HB; have HO440 := n0_; have HB := n1_; clear n0_ n1_; clear hb ho13; obtain ⟨Ao14, co14, eo14⟩ := Kd.R_slice HO440.out; subst eo14) | ((with_reducible refine gate_callee (f := 35) rfl ?_); refine goesL_ (some 16) rfl rfl Try.func35 (by kernel_rfl) rfl #[.slice Ao14 y438.length co14] rfl (by (try simp only [List.map_toArray, List.map_cons, List.map_nil]); first | done | rfl | (simp only [List.length_drop, List.length_take]; rfl)) ?_; (with_reducible refine (band_Gain.calls kj1 _ _ y438 t441 t442 _ ?side1 ?side2 A8.out).mono ?_); (case side1 => repeat (first | exact (Kd.R_reads' HO440.out).2.2 | (with_reducible refine Kd.C_alloc ?_ _) | (with_reducible refine Kd.C_drewN ?_ _) | (with_reducible refine Kd.C_drew ?_))); (case side2 => exact (Kd.R_reads' HO440.out).2.1); rintro e w' ⟨rfl, ⟨nd, rfl⟩⟩; refine ⟨_, rfl, ?_⟩) | (go_at_call 33; (with_reducible refine (psalterylaw10_knows.calls kj1  t443 _ A11.out).mono ?_); rintro e w15 ⟨rfl, hb⟩; have n0_ := Aside0.mk (Kd.R_below (by (with_reducible repeat (first | apply Kd.R_alloc | apply Kd.R_drewN | apply Kd.R_drew)); exact HO440.out) hb); have n1_ := Aside0.mk (below_step (by repeat (first | (with_reducible first | exact HB.out | apply below_alloc | apply pw_below_drewN | apply below_drew1) | exact HB.out)) hb); clear HO440; clear HB; have HO440 := n0_; have HB := n1_; clear n0_ n1_; (try clear hb); (try clear hb2); (try clear hk); (try clear hi)))
            go_ret
            exact ⟨by first | rfl | (simp [errW_none, errW_some] <;> rfl) | (simp [*, errW_none, errW_some] <;> rfl), by repeat (first | (with_reducible first | exact HB.out | apply below_alloc | apply pw_below_drewN | apply below_drew1) | exact HB.out)⟩
          · rw [if_neg c10] at H
            have c10b0 : (t441 == a0) = false := beq_eq_false_iff_ne.mpr c10
            have c10b1 : (t441 != a0) = true := bne_iff_ne.mpr c10
            by_cases c16 : (Int.tmod a0 2) = 0
            · rw [if_pos c16] at H
              have c16b0 : ((Int.tmod a0 2) == 0) = true := beq_iff_eq.mpr c16
              have c16b1 : ((Int.tmod a0 2) != 0) = false := bne_eq_false_iff_eq.mpr c16
              clear c16
              by_cases c17 : t441 = (wrap64 (a0 - 1))
              · rw [if_pos c17] at H
                have c17b0 : (t441 == (wrap64 (a0 - 1))) = true := beq_iff_eq.mpr c17
                have c17b1 : (t441 != (wrap64 (a0 - 1))) = false := bne_eq_false_iff_eq.mpr c17
                clear c17
                replace H := Option.bind_eq_some_iff.mp H
                obtain ⟨t444, A180, H⟩ := H
                replace H : (some t444) = some r := H
                have A18 := Aside0.mk A180
                clear A180
                obtain rfl := Option.some.inj H
                go_wp2_with (first | ((with_reducible refine gate_callee (f := 32) rfl ?_); refine goesL_ (some 14) rfl rfl Try.func32 (by kernel_rfl) rfl #[.int .i64 a0] rfl (by (try simp only [List.map_toArray, List.map_cons, List.map_nil]); first | done | rfl | (simp only [List.length_drop, List.length_take]; rfl)) ?_; (with_reducible refine (band_Value.calls kj1 a0 t437 _ A7.out).mono ?_); rintro e w' ⟨rfl, ⟨nd, rfl⟩⟩; refine ⟨_, rfl, ?_⟩) | ((with_reducible refine gate_dst (N := 15) rfl ?_); refine Kd.R_lit (Kd.int .i64) _ 2 ?hg (N := 15) ?hd (xs := ([t437] : List Int)) (inner := [.int .i64 t437]) (ok := fun _ => True) (okp := fun _ => True) ?hr ?hp (fun _ hk => hk) trivial (Below.refl _ _) (Nat.le_refl _) (by simp) ?_; (case hd => rfl); (case hg => rfl); (case hr => first | (go_simp; done) | (go_simp; rfl)); (case hp => exact (Reps.one (show Kd.M (Kd.int .i64) _ _ _ t437 [.int .i64 t437] from rfl) (Reps.none _ _))); intro v439 w19 ho20 hb hg_ hnew_; clear hg_ hnew_; (first | rw [← Ny438.out] at ho20 | (simp only [Int.reduceToNat] at ho20; rw [← Ny438.out] at ho20)); have n0_ := Aside0.mk (Kd.R_lower ho20 (below_size (by repeat (first | (with_reducible first | exact HB.out | apply below_alloc | apply pw_below_drewN | apply below_drew1) | exact HB.out)))); have n1_ := Aside0.mk (below_step (by repeat (first | (with_reducible first | exact HB.out | apply below_alloc | apply pw_below_drewN | apply below_drew1) | exact HB.out)) hb); clear HB; have HO440 := n0_; have HB := n1_; clear n0_ n1_; clear hb ho20; obtain ⟨Ao21, co21, eo21⟩ := Kd.R_slice HO440.out; subst eo21) | ((with_reducible refine gate_callee (f := 35) rfl ?_); refine goesL_ (some 16) rfl rfl Try.func35 (by kernel_rfl) rfl #[.slice Ao21 y438.length co21] rfl (by (try simp only [List.map_toArray, List.map_cons, List.map_nil]); first | done | rfl | (simp only [List.length_drop, List.length_take]; rfl)) ?_; (with_reducible refine (band_Gain.calls kj1 _ _ y438 t441 t442 _ ?side1 ?side2 A8.out).mono ?_); (case side1 => repeat (first | exact (Kd.R_reads' HO440.out).2.2 | (with_reducible refine Kd.C_alloc ?_ _) | (with_reducible refine Kd.C_drewN ?_ _) | (with_reducible refine Kd.C_drew ?_))); (case side2 => exact (Kd.R_reads' HO440.out).2.1); rintro e w' ⟨rfl, ⟨nd, rfl⟩⟩; refine ⟨_, rfl, ?_⟩) | (go_at_call 33; (with_reducible refine (psalterylaw10_knows.calls kj1  t444 _ A18.out).mono ?_); rintro e w22 ⟨rfl, hb⟩; have n0_ := Aside0.mk (Kd.R_below (by (with_reducible repeat (first | apply Kd.R_alloc | apply Kd.R_drewN | apply Kd.R_drew)); exact HO440.out) hb); have n1_ := Aside0.mk (below_step (by repeat (first | (with_reducible first | exact HB.out | apply below_alloc | apply pw_below_drewN | apply below_drew1) | exact HB.out)) hb); clear HO440; clear HB; have HO440 := n0_; have HB := n1_; clear n0_ n1_; (try clear hb); (try clear hb2); (try clear hk); (try clear hi)))
                go_ret
                exact ⟨by first | rfl | (simp [errW_none, errW_some] <;> rfl) | (simp [*, errW_none, errW_some] <;> rfl), by repeat (first | (with_reducible first | exact HB.out | apply below_alloc | apply pw_below_drewN | apply below_drew1) | exact HB.out)⟩
              · rw [if_neg c17] at H
                have c17b0 : (t441 == (wrap64 (a0 - 1))) = false := beq_eq_false_iff_ne.mpr c17
                have c17b1 : (t441 != (wrap64 (a0 - 1))) = true := bne_iff_ne.mpr c17
                exact absurd ((Option.some.inj H).trans HT.out) (by decide)
            · rw [if_neg c16] at H
              have c16b0 : ((Int.tmod a0 2) == 0) = false := beq_eq_false_iff_ne.mpr c16
              have c16b1 : ((Int.tmod a0 2) != 0) = true := bne_iff_ne.mpr c16
              exact absurd ((Option.some.inj H).trans HT.out) (by decide)
        · rw [if_neg c9] at H
          have c9b0 : (t442 == 0) = false := beq_eq_false_iff_ne.mpr c9
          have c9b1 : (t442 != 0) = true := bne_iff_ne.mpr c9
          exact absurd ((Option.some.inj H).trans HT.out) (by decide)

/-- THE ONE PURE STATEMENT of psalterylaw10_BandOwn: yours. -/
def psalterylaw10_BandOwn.Pure : Prop := ∀ (a0 : Int), (Lit.int .i64 a0).wf = true → ∃ k, psalterylaw10_BandOwn.f k a0 = some true
theorem psalterylaw10_BandOwn.walk (P : psalterylaw10_BandOwn.Pure) (a0 : Int) (w : World) (w0 : (Lit.int .i64 a0).wf = true) :
    Calls Try.prog 14 #[.int .i64 a0] w fun e w' => e = .returned (.bool true) ∧ Below w.heap.size w w' := by
  obtain ⟨k, h⟩ := P a0 w0
  refine (psalterylaw10_BandOwn.calls k a0 true w h rfl).mono ?_
  rintro e w' ⟨rfl, hd⟩
  exact ⟨rfl, hd⟩

end Go.Proofs.Ytoghpjggcfnoeaa.P
