-- PRINTED by print.py (a twelfth state) out of the translation. Not trusted: Lean checks it.
import Derived.Test.YtoghpjggcfnoeaaPx0
import Derived.Test.YtoghpjggcfnoeaaPx38
import Derived.Test.YtoghpjggcfnoeaaPx41
import Derived.Test.YtoghpjggcfnoeaaPx43
import Derived.Test.YtoghpjggcfnoeaaPx44
import Derived.Test.YtoghpjggcfnoeaaPx47
namespace Go.Proofs.Ytoghpjggcfnoeaa.P
open Go.RowKit Go.Proofs.YtoghpjggcfnoeaaW.PrintWords Go.Proofs.YtoghpjggcfnoeaaW.PrintLast Go.Proofs.YtoghpjggcfnoeaaW.PrintMore
attribute [local go_sem] max2_int min2_int max_two min_two max_three min_three max_four min_four   -- for this text's walks alone
set_option linter.unusedVariables false
set_option linter.unusedSimpArgs false

/-! ### psalterylaw10_BandGains: function 10 -/
def psalterylaw10_BandGains.j0 : Nat → List Int → Int → Int → Bool → Option (Bool)
  | 0, _, _, _, _ => none
  | k + 1, x0, x3, x4, x20 => if x20 = true then (if x3 = 0 then (if x4 = 1 then ((psalterylaw10_knows.f k).bind fun t343 => (some t343)) else (some false)) else (some false)) else ((psalteryref10_Gain.f k x0).bind fun t344 => (if x3 = t344 then (if x4 = 0 then (if x3 ≤ 44 then ((psalterylaw10_knows.f k).bind fun t345 => (some t345)) else (some false)) else (some false)) else (some false)))
def psalterylaw10_BandGains.f (k : Nat) (l0 : List Int) : Option (Bool) := (psalterylaw10_great.f l0).bind fun t338 => (if t338 = true then ((psalterylaw10_knows.f k).bind fun t339 => (some t339)) else ((band_Gain.f k l0).bind fun bt340 => ((psalteryref07_Fair.f k l0).bind fun t342 => (if t342 = true then (psalterylaw10_BandGains.j0 k l0 bt340.1 bt340.2 (decide ((l0.length : Int) > 8))) else (psalterylaw10_BandGains.j0 k l0 bt340.1 bt340.2 true)))))
theorem psalterylaw10_BandGains.mono_l : ∀ k, (∀ y0 y1 y2 y3, LeO (psalterylaw10_BandGains.j0 k y0 y1 y2 y3) (psalterylaw10_BandGains.j0 (k + 1) y0 y1 y2 y3))
  | 0 => fun _ _ _ _ r h => by simp [psalterylaw10_BandGains.j0] at h
  | k + 1 => by
    have ih0 := psalterylaw10_BandGains.mono_l k
    · intro y0 y1 y2 y3
      unfold psalterylaw10_BandGains.j0
      repeat' first
      | (with_reducible exact ih0 _ _ _ _)
      | (with_reducible exact band_Gain.mono _ _)
      | (with_reducible exact psalterylaw10_knows.mono _)
      | (with_reducible exact psalteryref07_Fair.mono _ _)
      | (with_reducible exact psalteryref10_Gain.mono _ _)
      | (with_reducible exact LeO.refl _)
      | (with_reducible exact LeO.none _)
      | (with_reducible refine LeO.ite ?_ ?_)
      | (with_reducible refine LeO.bind ?_ (fun _ => ?_))
      | exact ih0 _ _ _ _
      | exact band_Gain.mono _ _
      | exact psalterylaw10_knows.mono _
      | exact psalteryref07_Fair.mono _ _
      | exact psalteryref10_Gain.mono _ _
      | exact LeO.none _
      | refine LeO.ite ?_ ?_
      | refine LeO.bind ?_ (fun _ => ?_)
theorem psalterylaw10_BandGains.mono : ∀ a0 k, LeO (psalterylaw10_BandGains.f k a0) (psalterylaw10_BandGains.f (k + 1) a0) := by
  intro a0 k
  have ih0 := psalterylaw10_BandGains.mono_l k
  unfold psalterylaw10_BandGains.f
  repeat' first
      | (with_reducible exact ih0 _ _ _ _)
      | (with_reducible exact band_Gain.mono _ _)
      | (with_reducible exact psalterylaw10_knows.mono _)
      | (with_reducible exact psalteryref07_Fair.mono _ _)
      | (with_reducible exact psalteryref10_Gain.mono _ _)
      | (with_reducible exact LeO.refl _)
      | (with_reducible exact LeO.none _)
      | (with_reducible refine LeO.ite ?_ ?_)
      | (with_reducible refine LeO.bind ?_ (fun _ => ?_))
      | exact ih0 _ _ _ _
      | exact band_Gain.mono _ _
      | exact psalterylaw10_knows.mono _
      | exact psalteryref07_Fair.mono _ _
      | exact psalteryref10_Gain.mono _ _
      | exact LeO.none _
      | refine LeO.ite ?_ ?_
      | refine LeO.bind ?_ (fun _ => ?_)
set_option maxHeartbeats 8000000 in
set_option maxRecDepth 100000 in
theorem psalterylaw10_BandGains.calls (k : Nat) (A0 : Option Addr) (c0 : Nat) (l0 : List Int) (r : Bool) (w : World) (hr0 : Kd.C (Kd.int .i64) w A0 l0.length l0) (hc0 : l0.length ≤ c0) (h : psalterylaw10_BandGains.f k l0 = some r) (hT : r = true) :
    Calls Try.prog 10 #[.slice A0 l0.length c0] w fun e w' => e = .returned (.bool r) ∧ Below w.heap.size w w' := by
  have HR0 := Aside0.mk hr0
  have HC0 := Aside0.mk hc0
  clear hr0 hc0
  have HB := Aside0.mk (Below.refl w.heap.size w)
  have H : ((psalterylaw10_great.f l0).bind fun t338 => (if t338 = true then ((psalterylaw10_knows.f k).bind fun t339 => (some t339)) else ((band_Gain.f k l0).bind fun bt340 => ((psalteryref07_Fair.f k l0).bind fun t342 => (if t342 = true then (psalterylaw10_BandGains.j0 k l0 bt340.1 bt340.2 (decide ((l0.length : Int) > 8))) else (psalterylaw10_BandGains.j0 k l0 bt340.1 bt340.2 true)))))) = some r := h
  clear h
  have HT := Aside0.mk hT
  clear hT
  replace H := Option.bind_eq_some_iff.mp H
  obtain ⟨t338, A20, H⟩ := H
  replace H : (if t338 = true then ((psalterylaw10_knows.f k).bind fun t339 => (some t339)) else ((band_Gain.f k l0).bind fun bt340 => ((psalteryref07_Fair.f k l0).bind fun t342 => (if t342 = true then (psalterylaw10_BandGains.j0 k l0 bt340.1 bt340.2 (decide ((l0.length : Int) > 8))) else (psalterylaw10_BandGains.j0 k l0 bt340.1 bt340.2 true))))) = some r := H
  have A2 := Aside0.mk A20
  clear A20
  by_cases c3 : t338 = true
  · subst c3
    have H1 : ((psalterylaw10_knows.f k).bind fun t339 => (some t339)) = some r := by rw [if_pos rfl] at H; exact H
    clear H
    have H := H1
    clear H1
    replace H := Option.bind_eq_some_iff.mp H
    obtain ⟨t339, A40, H⟩ := H
    replace H : (some t339) = some r := H
    have A4 := Aside0.mk A40
    clear A40
    obtain rfl := Option.some.inj H
    go_enter Try.func10, Try.ntmps10
    go_wp2_with (first | ((with_reducible refine gate_callee (f := 34) rfl ?_); refine goesL_ (some 6) rfl rfl Try.func34 (by kernel_rfl) rfl #[.slice A0 l0.length c0] rfl (by (try simp only [List.map_toArray, List.map_cons, List.map_nil]); first | done | rfl | (simp only [List.length_drop, List.length_take]; rfl)) ?_; (with_reducible refine (psalterylaw10_great.calls _ _ l0 true _ ?side1 ?side2 A2.out).mono ?_); (case side1 => repeat (first | exact HR0.out | (with_reducible refine Kd.C_alloc ?_ _) | (with_reducible refine Kd.C_drewN ?_ _) | (with_reducible refine Kd.C_drew ?_))); (case side2 => exact HC0.out); rintro e w' ⟨rfl, ⟨nd, rfl⟩⟩; refine ⟨_, rfl, ?_⟩) | ((with_reducible refine gate_callee (f := 33) rfl ?_); refine goesL_ (some 7) rfl rfl Try.func33 (by kernel_rfl) rfl #[] rfl (by (try simp only [List.map_toArray, List.map_cons, List.map_nil]); first | done | rfl | (simp only [List.length_drop, List.length_take]; rfl)) ?_; (with_reducible refine (psalterylaw10_knows.calls k  t339 _ A4.out).mono ?_); rintro e w5 ⟨rfl, hb⟩; refine ⟨_, rfl, ?_⟩; have n0_ := Aside0.mk (below_step (by repeat (first | (with_reducible first | exact HB.out | apply below_alloc | apply pw_below_drewN | apply below_drew1) | exact HB.out)) hb); clear HB; have HB := n0_; clear n0_; (try clear hb); (try clear hb2); (try clear hk); (try clear hi)))
    go_ret
    exact ⟨by first | rfl | (simp [errW_none, errW_some] <;> rfl) | (simp [*, errW_none, errW_some] <;> rfl), by repeat (first | (with_reducible first | exact HB.out | apply below_alloc | apply pw_below_drewN | apply below_drew1) | exact HB.out)⟩
  · replace c3 := Bool.eq_false_iff.mpr c3
    subst c3
    have H1 : ((band_Gain.f k l0).bind fun bt340 => ((psalteryref07_Fair.f k l0).bind fun t342 => (if t342 = true then (psalterylaw10_BandGains.j0 k l0 bt340.1 bt340.2 (decide ((l0.length : Int) > 8))) else (psalterylaw10_BandGains.j0 k l0 bt340.1 bt340.2 true)))) = some r := by rw [if_neg (show ¬ (false = true) by decide)] at H; exact H
    clear H
    have H := H1
    clear H1
    replace H := Option.bind_eq_some_iff.mp H
    obtain ⟨⟨t340, t341⟩, A60, H⟩ := H
    replace H : ((psalteryref07_Fair.f k l0).bind fun t342 => (if t342 = true then (psalterylaw10_BandGains.j0 k l0 t340 t341 (decide ((l0.length : Int) > 8))) else (psalterylaw10_BandGains.j0 k l0 t340 t341 true))) = some r := H
    have A6 := Aside0.mk A60
    clear A60
    have HC7 := Aside0.mk H
    clear H
    go_enter Try.func10, Try.ntmps10
    go_upto_region 4 with (first | ((with_reducible refine gate_callee (f := 34) rfl ?_); refine goesL_ (some 6) rfl rfl Try.func34 (by kernel_rfl) rfl #[.slice A0 l0.length c0] rfl (by (try simp only [List.map_toArray, List.map_cons, List.map_nil]); first | done | rfl | (simp only [List.length_drop, List.length_take]; rfl)) ?_; (with_reducible refine (psalterylaw10_great.calls _ _ l0 false _ ?side1 ?side2 A2.out).mono ?_); (case side1 => repeat (first | exact HR0.out | (with_reducible refine Kd.C_alloc ?_ _) | (with_reducible refine Kd.C_drewN ?_ _) | (with_reducible refine Kd.C_drew ?_))); (case side2 => exact HC0.out); rintro e w' ⟨rfl, ⟨nd, rfl⟩⟩; refine ⟨_, rfl, ?_⟩) | ((with_reducible refine gate_callee (f := 35) rfl ?_); refine goesL_ (some 10) rfl rfl Try.func35 (by kernel_rfl) rfl #[.slice A0 l0.length c0] rfl (by (try simp only [List.map_toArray, List.map_cons, List.map_nil]); first | done | rfl | (simp only [List.length_drop, List.length_take]; rfl)) ?_; (with_reducible refine (band_Gain.calls k _ _ l0 t340 t341 _ ?side1 ?side2 A6.out).mono ?_); (case side1 => repeat (first | exact HR0.out | (with_reducible refine Kd.C_alloc ?_ _) | (with_reducible refine Kd.C_drewN ?_ _) | (with_reducible refine Kd.C_drew ?_))); (case side2 => exact HC0.out); rintro e w' ⟨rfl, ⟨nd, rfl⟩⟩; refine ⟨_, rfl, ?_⟩))
    (try simp only [Act.put, List.setIfInBounds_toArray, List.set_cons_zero, List.set_cons_succ])
    go_cut [20] (fun v20 wc => ∃ (kq : Nat) (x20_6 : Bool), v20 = .bool x20_6 ∧ Aside0 (psalterylaw10_BandGains.j0 kq l0 t340 t341 x20_6 = some r) ∧ Aside0 (kq ≤ k) ∧ Aside0 (Below w.heap.size w wc))
    case first =>
      have H := HC7.out
      clear HC7
      replace H := Option.bind_eq_some_iff.mp H
      obtain ⟨t342, A80, H⟩ := H
      replace H : (if t342 = true then (psalterylaw10_BandGains.j0 k l0 t340 t341 (decide ((l0.length : Int) > 8))) else (psalterylaw10_BandGains.j0 k l0 t340 t341 true)) = some r := H
      have A8 := Aside0.mk A80
      clear A80
      by_cases c9 : t342 = true
      · subst c9
        have H1 : (psalterylaw10_BandGains.j0 k l0 t340 t341 (decide ((l0.length : Int) > 8))) = some r := by rw [if_pos rfl] at H; exact H
        clear H
        have H := H1
        clear H1
        have H' := Aside0.mk H
        clear H
        go_wp2_with (first | ((with_reducible refine gate_callee (f := 36) rfl ?_); refine goesL_ (some 14) rfl rfl Try.func36 (by kernel_rfl) rfl #[.slice A0 l0.length c0] rfl (by (try simp only [List.map_toArray, List.map_cons, List.map_nil]); first | done | rfl | (simp only [List.length_drop, List.length_take]; rfl)) ?_; (with_reducible refine (psalteryref07_Fair.calls k _ _ l0 true _ ?side1 ?side2 A8.out).mono ?_); (case side1 => repeat (first | exact (Kd.C_below HR0.out HB.out) | (with_reducible refine Kd.C_alloc ?_ _) | (with_reducible refine Kd.C_drewN ?_ _) | (with_reducible refine Kd.C_drew ?_))); (case side2 => exact HC0.out); rintro e w' ⟨rfl, ⟨nd, rfl⟩⟩; refine ⟨_, rfl, ?_⟩))
        go_meet
        case rel => exact ⟨_, (decide ((l0.length : Int) > 8)), (by first | rfl | (simp; done) | (simp [*]; done)), H', ⟨by first | omega | exact Nat.le_refl _⟩, ⟨by repeat (first | (with_reducible first | exact HB.out | apply below_alloc | apply pw_below_drewN | apply below_drew1) | exact HB.out)⟩⟩
      · replace c9 := Bool.eq_false_iff.mpr c9
        subst c9
        have H1 : (psalterylaw10_BandGains.j0 k l0 t340 t341 true) = some r := by rw [if_neg (show ¬ (false = true) by decide)] at H; exact H
        clear H
        have H := H1
        clear H1
        have H' := Aside0.mk H
        clear H
        go_wp2_with (first | ((with_reducible refine gate_callee (f := 36) rfl ?_); refine goesL_ (some 14) rfl rfl Try.func36 (by kernel_rfl) rfl #[.slice A0 l0.length c0] rfl (by (try simp only [List.map_toArray, List.map_cons, List.map_nil]); first | done | rfl | (simp only [List.length_drop, List.length_take]; rfl)) ?_; (with_reducible refine (psalteryref07_Fair.calls k _ _ l0 false _ ?side1 ?side2 A8.out).mono ?_); (case side1 => repeat (first | exact (Kd.C_below HR0.out HB.out) | (with_reducible refine Kd.C_alloc ?_ _) | (with_reducible refine Kd.C_drewN ?_ _) | (with_reducible refine Kd.C_drew ?_))); (case side2 => exact HC0.out); rintro e w' ⟨rfl, ⟨nd, rfl⟩⟩; refine ⟨_, rfl, ?_⟩))
        go_meet
        case rel => exact ⟨_, (true), (by first | rfl | (simp; done) | (simp [*]; done)), H', ⟨by first | omega | exact Nat.le_refl _⟩, ⟨by repeat (first | (with_reducible first | exact HB.out | apply below_alloc | apply pw_below_drewN | apply below_drew1) | exact HB.out)⟩⟩
    case rest =>
      clear HC7
      try clear c1
      try clear p2
      try clear c3
      try clear c9
      obtain ⟨kq, x20_6, rfl, HA, HJ6, HB⟩ := hcut
      cases kq with
      | zero => exact absurd HA.out (by simp [psalterylaw10_BandGains.j0])
      | succ kj6 =>
        have H := HA.out
        clear HA
        simp only [psalterylaw10_BandGains.j0] at H
        by_cases c10 : x20_6 = true
        · subst c10
          have H1 : (if t340 = 0 then (if t341 = 1 then ((psalterylaw10_knows.f kj6).bind fun t343 => (some t343)) else (some false)) else (some false)) = some r := by rw [if_pos rfl] at H; exact H
          clear H
          have H := H1
          clear H1
          by_cases c11 : t340 = 0
          · rw [if_pos c11] at H
            have c11b0 : (t340 == 0) = true := beq_iff_eq.mpr c11
            have c11b1 : (t340 != 0) = false := bne_eq_false_iff_eq.mpr c11
            clear c11
            by_cases c12 : t341 = 1
            · rw [if_pos c12] at H
              have c12b0 : (t341 == 1) = true := beq_iff_eq.mpr c12
              have c12b1 : (t341 != 1) = false := bne_eq_false_iff_eq.mpr c12
              clear c12
              replace H := Option.bind_eq_some_iff.mp H
              obtain ⟨t343, A130, H⟩ := H
              replace H : (some t343) = some r := H
              have A13 := Aside0.mk A130
              clear A130
              obtain rfl := Option.some.inj H
              go_wp2_with (first | (go_at_call 33; (with_reducible refine (psalterylaw10_knows.calls kj6  t343 _ A13.out).mono ?_); rintro e w14 ⟨rfl, hb⟩; have n0_ := Aside0.mk (below_step (by repeat (first | (with_reducible first | exact HB.out | apply below_alloc | apply pw_below_drewN | apply below_drew1) | exact HB.out)) hb); clear HB; have HB := n0_; clear n0_; (try clear hb); (try clear hb2); (try clear hk); (try clear hi)))
              go_ret
              exact ⟨by first | rfl | (simp [errW_none, errW_some] <;> rfl) | (simp [*, errW_none, errW_some] <;> rfl), by repeat (first | (with_reducible first | exact HB.out | apply below_alloc | apply pw_below_drewN | apply below_drew1) | exact HB.out)⟩
            · rw [if_neg c12] at H
              have c12b0 : (t341 == 1) = false := beq_eq_false_iff_ne.mpr c12
              have c12b1 : (t341 != 1) = true := bne_iff_ne.mpr c12
              exact absurd ((Option.some.inj H).trans HT.out) (by decide)
          · rw [if_neg c11] at H
            have c11b0 : (t340 == 0) = false := beq_eq_false_iff_ne.mpr c11
            have c11b1 : (t340 != 0) = true := bne_iff_ne.mpr c11
            exact absurd ((Option.some.inj H).trans HT.out) (by decide)
        · replace c10 := Bool.eq_false_iff.mpr c10
          subst c10
          have H1 : ((psalteryref10_Gain.f kj6 l0).bind fun t344 => (if t340 = t344 then (if t341 = 0 then (if t340 ≤ 44 then ((psalterylaw10_knows.f kj6).bind fun t345 => (some t345)) else (some false)) else (some false)) else (some false))) = some r := by rw [if_neg (show ¬ (false = true) by decide)] at H; exact H
          clear H
          have H := H1
          clear H1
          replace H := Option.bind_eq_some_iff.mp H
          obtain ⟨t344, A150, H⟩ := H
          replace H : (if t340 = t344 then (if t341 = 0 then (if t340 ≤ 44 then ((psalterylaw10_knows.f kj6).bind fun t345 => (some t345)) else (some false)) else (some false)) else (some false)) = some r := H
          have A15 := Aside0.mk A150
          clear A150
          by_cases c16 : t340 = t344
          · rw [if_pos c16] at H
            have c16b0 : (t340 == t344) = true := beq_iff_eq.mpr c16
            have c16b1 : (t340 != t344) = false := bne_eq_false_iff_eq.mpr c16
            clear c16
            by_cases c17 : t341 = 0
            · rw [if_pos c17] at H
              have c17b0 : (t341 == 0) = true := beq_iff_eq.mpr c17
              have c17b1 : (t341 != 0) = false := bne_eq_false_iff_eq.mpr c17
              clear c17
              by_cases c18 : t340 ≤ 44
              · rw [if_pos c18] at H
                have c18b0 : decide (t340 ≤ 44) = true := decide_eq_true c18
                clear c18
                replace H := Option.bind_eq_some_iff.mp H
                obtain ⟨t345, A190, H⟩ := H
                replace H : (some t345) = some r := H
                have A19 := Aside0.mk A190
                clear A190
                obtain rfl := Option.some.inj H
                go_wp2_with (first | ((with_reducible refine gate_callee (f := 37) rfl ?_); refine goesL_ (some 32) rfl rfl Try.func37 (by kernel_rfl) rfl #[.slice A0 l0.length c0] rfl (by (try simp only [List.map_toArray, List.map_cons, List.map_nil]); first | done | rfl | (simp only [List.length_drop, List.length_take]; rfl)) ?_; (with_reducible refine (psalteryref10_Gain.calls kj6 _ _ l0 t344 _ ?side1 ?side2 A15.out).mono ?_); (case side1 => repeat (first | exact (Kd.C_below HR0.out HB.out) | (with_reducible refine Kd.C_alloc ?_ _) | (with_reducible refine Kd.C_drewN ?_ _) | (with_reducible refine Kd.C_drew ?_))); (case side2 => exact HC0.out); rintro e w' ⟨rfl, ⟨nd, rfl⟩⟩; refine ⟨_, rfl, ?_⟩) | (go_at_call 33; (with_reducible refine (psalterylaw10_knows.calls kj6  t345 _ A19.out).mono ?_); rintro e w20 ⟨rfl, hb⟩; have n0_ := Aside0.mk (below_step (by repeat (first | (with_reducible first | exact HB.out | apply below_alloc | apply pw_below_drewN | apply below_drew1) | exact HB.out)) hb); clear HB; have HB := n0_; clear n0_; (try clear hb); (try clear hb2); (try clear hk); (try clear hi)))
                go_ret
                exact ⟨by first | rfl | (simp [errW_none, errW_some] <;> rfl) | (simp [*, errW_none, errW_some] <;> rfl), by repeat (first | (with_reducible first | exact HB.out | apply below_alloc | apply pw_below_drewN | apply below_drew1) | exact HB.out)⟩
              · rw [if_neg c18] at H
                have c18b0 : decide (t340 ≤ 44) = false := decide_eq_false c18
                clear c18
                exact absurd ((Option.some.inj H).trans HT.out) (by decide)
            · rw [if_neg c17] at H
              have c17b0 : (t341 == 0) = false := beq_eq_false_iff_ne.mpr c17
              have c17b1 : (t341 != 0) = true := bne_iff_ne.mpr c17
              exact absurd ((Option.some.inj H).trans HT.out) (by decide)
          · rw [if_neg c16] at H
            have c16b0 : (t340 == t344) = false := beq_eq_false_iff_ne.mpr c16
            have c16b1 : (t340 != t344) = true := bne_iff_ne.mpr c16
            exact absurd ((Option.some.inj H).trans HT.out) (by decide)

/-- THE ONE PURE STATEMENT of psalterylaw10_BandGains: yours. -/
def psalterylaw10_BandGains.Pure : Prop := ∀ (l0 : List Int), l0.length ≤ maxLen → l0.length * 8 ≤ 140737488351232 → (∀ x ∈ l0, (Lit.int .i64 x).wf = true) → ∃ k, psalterylaw10_BandGains.f k l0 = some true
theorem psalterylaw10_BandGains.walk (P : psalterylaw10_BandGains.Pure) (a0 : Option Addr) (len0 cap0 : Nat) (z0 : List Int) (w : World) (w0 : (a0 = none ∧ len0 = 0 ∧ cap0 = 0 ∧ z0 = []) ∨ ∃ x, a0 = some x ∧ len0 ≤ cap0 ∧ cap0 ≤ maxLen ∧ z0.length = cap0 ∧ (∀ i, i < z0.length → w.cell? (x.add i) = some (.int .i64 (z0.getD i 0))) ∧ ∀ n ∈ z0, (Lit.int .i64 n).wf = true) (y0 : len0 * 8 ≤ 140737488351232) :
    Calls Try.prog 10 #[.slice a0 len0 cap0] w fun e w' => e = .returned (.bool true) ∧ Below w.heap.size w w' := by
  obtain ⟨l0, rfl, hr0, hm0, hw0, hc0⟩ := ReadsInt.ofRowC w0
  obtain ⟨k, h⟩ := P l0 hm0 y0 hw0
  refine (psalterylaw10_BandGains.calls k _ _ l0 true w (Kd.C_of_reads (d := (0 : Int)) (h1 := fun _ => rfl) hr0) hc0 h rfl).mono ?_
  rintro e w' ⟨rfl, hd⟩
  exact ⟨rfl, hd⟩

end Go.Proofs.Ytoghpjggcfnoeaa.P
