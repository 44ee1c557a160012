-- PRINTED by print.py (a twelfth state) out of the translation. Not trusted: Lean checks it.
import Derived.Test.YtoghpjggcfnoeaaPx0
import Derived.Test.YtoghpjggcfnoeaaPx7
import Derived.Test.YtoghpjggcfnoeaaPx38
import Derived.Test.YtoghpjggcfnoeaaPx41
import Derived.Test.YtoghpjggcfnoeaaPx43
import Derived.Test.YtoghpjggcfnoeaaPx46
namespace Go.Proofs.Ytoghpjggcfnoeaa.P
open Go.RowKit Go.Proofs.YtoghpjggcfnoeaaW.PrintWords Go.Proofs.YtoghpjggcfnoeaaW.PrintLast Go.Proofs.YtoghpjggcfnoeaaW.PrintMore
attribute [local go_sem] max2_int min2_int max_two min_two max_three min_three max_four min_four   -- for this text's walks alone
set_option linter.unusedVariables false
set_option linter.unusedSimpArgs false

/-! ### psalterylaw10_BandNear: function 12 -/
def psalterylaw10_BandNear.f (k : Nat) (l0 : List Int) : Option (Bool) := (psalterylaw10_great.f l0).bind fun t387 => (if t387 = true then ((psalterylaw10_knows.f k).bind fun t388 => (some t388)) else ((band_Gain.f k l0).bind fun bt389 => (if bt389.2 = 0 then ((psalteryref07_Square.f k l0).bind fun t392 => ((band_Value.f k bt389.1).bind fun t393 => (if t392 = 0 then (if bt389.1 = 0 then (if (IntKind.u64.wrap (t393)) = 0 then ((psalterylaw10_knows.f k).bind fun t394 => (some t394)) else (some false)) else (some false)) else (if (IntKind.u64.wrap ((IntKind.u64.wrap (t393)) * (IntKind.u64.wrap (t393)))) ≤ t392 then (if t392 < (IntKind.u64.wrap ((IntKind.u64.wrap (2 * (IntKind.u64.wrap ((IntKind.u64.wrap (t393)) + 1)))) * (IntKind.u64.wrap ((IntKind.u64.wrap (t393)) + 1)))) then (if bt389.1 ≥ 1 then ((psalterylaw10_knows.f k).bind fun t395 => (some t395)) else (some false)) else (some false)) else (some false))))) else (if bt389.1 = 0 then ((psalterylaw10_knows.f k).bind fun t391 => (some t391)) else (some false)))))
theorem psalterylaw10_BandNear.mono : ∀ a0 k, LeO (psalterylaw10_BandNear.f k a0) (psalterylaw10_BandNear.f (k + 1) a0) := by
  intro a0 k
  unfold psalterylaw10_BandNear.f
  repeat' first
      | (with_reducible exact band_Gain.mono _ _)
      | (with_reducible exact band_Value.mono _ _)
      | (with_reducible exact psalterylaw10_knows.mono _)
      | (with_reducible exact psalteryref07_Square.mono _ _)
      | (with_reducible exact LeO.refl _)
      | (with_reducible exact LeO.none _)
      | (with_reducible refine LeO.ite ?_ ?_)
      | (with_reducible refine LeO.bind ?_ (fun _ => ?_))
      | exact band_Gain.mono _ _
      | exact band_Value.mono _ _
      | exact psalterylaw10_knows.mono _
      | exact psalteryref07_Square.mono _ _
      | exact LeO.none _
      | refine LeO.ite ?_ ?_
      | refine LeO.bind ?_ (fun _ => ?_)
set_option maxHeartbeats 8000000 in
set_option maxRecDepth 100000 in
theorem psalterylaw10_BandNear.calls (k : Nat) (A0 : Option Addr) (c0 : Nat) (l0 : List Int) (r : Bool) (w : World) (hr0 : Kd.C (Kd.int .i64) w A0 l0.length l0) (hc0 : l0.length ≤ c0) (h : psalterylaw10_BandNear.f k l0 = some r) (hT : r = true) :
    Calls Try.prog 12 #[.slice A0 l0.length c0] w fun e w' => e = .returned (.bool r) ∧ Below w.heap.size w w' := by
  have HR0 := Aside0.mk hr0
  have HC0 := Aside0.mk hc0
  clear hr0 hc0
  have HB := Aside0.mk (Below.refl w.heap.size w)
  have H : ((psalterylaw10_great.f l0).bind fun t387 => (if t387 = true then ((psalterylaw10_knows.f k).bind fun t388 => (some t388)) else ((band_Gain.f k l0).bind fun bt389 => (if bt389.2 = 0 then ((psalteryref07_Square.f k l0).bind fun t392 => ((band_Value.f k bt389.1).bind fun t393 => (if t392 = 0 then (if bt389.1 = 0 then (if (IntKind.u64.wrap (t393)) = 0 then ((psalterylaw10_knows.f k).bind fun t394 => (some t394)) else (some false)) else (some false)) else (if (IntKind.u64.wrap ((IntKind.u64.wrap (t393)) * (IntKind.u64.wrap (t393)))) ≤ t392 then (if t392 < (IntKind.u64.wrap ((IntKind.u64.wrap (2 * (IntKind.u64.wrap ((IntKind.u64.wrap (t393)) + 1)))) * (IntKind.u64.wrap ((IntKind.u64.wrap (t393)) + 1)))) then (if bt389.1 ≥ 1 then ((psalterylaw10_knows.f k).bind fun t395 => (some t395)) else (some false)) else (some false)) else (some false))))) else (if bt389.1 = 0 then ((psalterylaw10_knows.f k).bind fun t391 => (some t391)) else (some false)))))) = some r := h
  clear h
  have HT := Aside0.mk hT
  clear hT
  replace H := Option.bind_eq_some_iff.mp H
  obtain ⟨t387, A20, H⟩ := H
  replace H : (if t387 = true then ((psalterylaw10_knows.f k).bind fun t388 => (some t388)) else ((band_Gain.f k l0).bind fun bt389 => (if bt389.2 = 0 then ((psalteryref07_Square.f k l0).bind fun t392 => ((band_Value.f k bt389.1).bind fun t393 => (if t392 = 0 then (if bt389.1 = 0 then (if (IntKind.u64.wrap (t393)) = 0 then ((psalterylaw10_knows.f k).bind fun t394 => (some t394)) else (some false)) else (some false)) else (if (IntKind.u64.wrap ((IntKind.u64.wrap (t393)) * (IntKind.u64.wrap (t393)))) ≤ t392 then (if t392 < (IntKind.u64.wrap ((IntKind.u64.wrap (2 * (IntKind.u64.wrap ((IntKind.u64.wrap (t393)) + 1)))) * (IntKind.u64.wrap ((IntKind.u64.wrap (t393)) + 1)))) then (if bt389.1 ≥ 1 then ((psalterylaw10_knows.f k).bind fun t395 => (some t395)) else (some false)) else (some false)) else (some false))))) else (if bt389.1 = 0 then ((psalterylaw10_knows.f k).bind fun t391 => (some t391)) else (some false))))) = some r := H
  have A2 := Aside0.mk A20
  clear A20
  by_cases c3 : t387 = true
  · subst c3
    have H1 : ((psalterylaw10_knows.f k).bind fun t388 => (some t388)) = some r := by rw [if_pos rfl] at H; exact H
    clear H
    have H := H1
    clear H1
    replace H := Option.bind_eq_some_iff.mp H
    obtain ⟨t388, A40, H⟩ := H
    replace H : (some t388) = some r := H
    have A4 := Aside0.mk A40
    clear A40
    obtain rfl := Option.some.inj H
    go_enter Try.func12, Try.ntmps12
    go_wp2_with (first | ((with_reducible refine gate_callee (f := 34) rfl ?_); refine goesL_ (some 8) rfl rfl Try.func34 (by kernel_rfl) rfl #[.slice A0 l0.length c0] rfl (by (try simp only [List.map_toArray, List.map_cons, List.map_nil]); first | done | rfl | (simp only [List.length_drop, List.length_take]; rfl)) ?_; (with_reducible refine (psalterylaw10_great.calls _ _ l0 true _ ?side1 ?side2 A2.out).mono ?_); (case side1 => repeat (first | exact HR0.out | (with_reducible refine Kd.C_alloc ?_ _) | (with_reducible refine Kd.C_drewN ?_ _) | (with_reducible refine Kd.C_drew ?_))); (case side2 => exact HC0.out); rintro e w' ⟨rfl, ⟨nd, rfl⟩⟩; refine ⟨_, rfl, ?_⟩) | ((with_reducible refine gate_callee (f := 33) rfl ?_); refine goesL_ (some 9) rfl rfl Try.func33 (by kernel_rfl) rfl #[] rfl (by (try simp only [List.map_toArray, List.map_cons, List.map_nil]); first | done | rfl | (simp only [List.length_drop, List.length_take]; rfl)) ?_; (with_reducible refine (psalterylaw10_knows.calls k  t388 _ A4.out).mono ?_); rintro e w5 ⟨rfl, hb⟩; refine ⟨_, rfl, ?_⟩; have n0_ := Aside0.mk (below_step (by repeat (first | (with_reducible first | exact HB.out | apply below_alloc | apply pw_below_drewN | apply below_drew1) | exact HB.out)) hb); clear HB; have HB := n0_; clear n0_; (try clear hb); (try clear hb2); (try clear hk); (try clear hi)))
    go_ret
    exact ⟨by first | rfl | (simp [errW_none, errW_some] <;> rfl) | (simp [*, errW_none, errW_some] <;> rfl), by repeat (first | (with_reducible first | exact HB.out | apply below_alloc | apply pw_below_drewN | apply below_drew1) | exact HB.out)⟩
  · replace c3 := Bool.eq_false_iff.mpr c3
    subst c3
    have H1 : ((band_Gain.f k l0).bind fun bt389 => (if bt389.2 = 0 then ((psalteryref07_Square.f k l0).bind fun t392 => ((band_Value.f k bt389.1).bind fun t393 => (if t392 = 0 then (if bt389.1 = 0 then (if (IntKind.u64.wrap (t393)) = 0 then ((psalterylaw10_knows.f k).bind fun t394 => (some t394)) else (some false)) else (some false)) else (if (IntKind.u64.wrap ((IntKind.u64.wrap (t393)) * (IntKind.u64.wrap (t393)))) ≤ t392 then (if t392 < (IntKind.u64.wrap ((IntKind.u64.wrap (2 * (IntKind.u64.wrap ((IntKind.u64.wrap (t393)) + 1)))) * (IntKind.u64.wrap ((IntKind.u64.wrap (t393)) + 1)))) then (if bt389.1 ≥ 1 then ((psalterylaw10_knows.f k).bind fun t395 => (some t395)) else (some false)) else (some false)) else (some false))))) else (if bt389.1 = 0 then ((psalterylaw10_knows.f k).bind fun t391 => (some t391)) else (some false)))) = some r := by rw [if_neg (show ¬ (false = true) by decide)] at H; exact H
    clear H
    have H := H1
    clear H1
    replace H := Option.bind_eq_some_iff.mp H
    obtain ⟨⟨t389, t390⟩, A60, H⟩ := H
    replace H : (if t390 = 0 then ((psalteryref07_Square.f k l0).bind fun t392 => ((band_Value.f k t389).bind fun t393 => (if t392 = 0 then (if t389 = 0 then (if (IntKind.u64.wrap (t393)) = 0 then ((psalterylaw10_knows.f k).bind fun t394 => (some t394)) else (some false)) else (some false)) else (if (IntKind.u64.wrap ((IntKind.u64.wrap (t393)) * (IntKind.u64.wrap (t393)))) ≤ t392 then (if t392 < (IntKind.u64.wrap ((IntKind.u64.wrap (2 * (IntKind.u64.wrap ((IntKind.u64.wrap (t393)) + 1)))) * (IntKind.u64.wrap ((IntKind.u64.wrap (t393)) + 1)))) then (if t389 ≥ 1 then ((psalterylaw10_knows.f k).bind fun t395 => (some t395)) else (some false)) else (some false)) else (some false))))) else (if t389 = 0 then ((psalterylaw10_knows.f k).bind fun t391 => (some t391)) else (some false))) = some r := H
    have A6 := Aside0.mk A60
    clear A60
    by_cases c7 : t390 = 0
    · rw [if_pos c7] at H
      have c7b0 : (t390 == 0) = true := beq_iff_eq.mpr c7
      have c7b1 : (t390 != 0) = false := bne_eq_false_iff_eq.mpr c7
      clear c7
      replace H := Option.bind_eq_some_iff.mp H
      obtain ⟨t392, A80, H⟩ := H
      replace H : ((band_Value.f k t389).bind fun t393 => (if t392 = 0 then (if t389 = 0 then (if (IntKind.u64.wrap (t393)) = 0 then ((psalterylaw10_knows.f k).bind fun t394 => (some t394)) else (some false)) else (some false)) else (if (IntKind.u64.wrap ((IntKind.u64.wrap (t393)) * (IntKind.u64.wrap (t393)))) ≤ t392 then (if t392 < (IntKind.u64.wrap ((IntKind.u64.wrap (2 * (IntKind.u64.wrap ((IntKind.u64.wrap (t393)) + 1)))) * (IntKind.u64.wrap ((IntKind.u64.wrap (t393)) + 1)))) then (if t389 ≥ 1 then ((psalterylaw10_knows.f k).bind fun t395 => (some t395)) else (some false)) else (some false)) else (some false)))) = some r := H
      have A8 := Aside0.mk A80
      clear A80
      replace H := Option.bind_eq_some_iff.mp H
      obtain ⟨t393, A90, H⟩ := H
      replace H : (if t392 = 0 then (if t389 = 0 then (if (IntKind.u64.wrap (t393)) = 0 then ((psalterylaw10_knows.f k).bind fun t394 => (some t394)) else (some false)) else (some false)) else (if (IntKind.u64.wrap ((IntKind.u64.wrap (t393)) * (IntKind.u64.wrap (t393)))) ≤ t392 then (if t392 < (IntKind.u64.wrap ((IntKind.u64.wrap (2 * (IntKind.u64.wrap ((IntKind.u64.wrap (t393)) + 1)))) * (IntKind.u64.wrap ((IntKind.u64.wrap (t393)) + 1)))) then (if t389 ≥ 1 then ((psalterylaw10_knows.f k).bind fun t395 => (some t395)) else (some false)) else (some false)) else (some false))) = some r := H
      have A9 := Aside0.mk A90
      clear A90
      by_cases c10 : t392 = 0
      · rw [if_pos c10] at H
        have c10b0 : (t392 == 0) = true := beq_iff_eq.mpr c10
        have c10b1 : (t392 != 0) = false := bne_eq_false_iff_eq.mpr c10
        clear c10
        by_cases c11 : t389 = 0
        · rw [if_pos c11] at H
          have c11b0 : (t389 == 0) = true := beq_iff_eq.mpr c11
          have c11b1 : (t389 != 0) = false := bne_eq_false_iff_eq.mpr c11
          clear c11
          by_cases c12 : (IntKind.u64.wrap (t393)) = 0
          · rw [if_pos c12] at H
            have c12b0 : ((IntKind.u64.wrap (t393)) == 0) = true := beq_iff_eq.mpr c12
            have c12b1 : ((IntKind.u64.wrap (t393)) != 0) = false := bne_eq_false_iff_eq.mpr c12
            clear c12
            replace H := Option.bind_eq_some_iff.mp H
            obtain ⟨t394, A130, H⟩ := H
            replace H : (some t394) = some r := H
            have A13 := Aside0.mk A130
            clear A130
            obtain rfl := Option.some.inj H
            go_enter Try.func12, Try.ntmps12
            go_wp2_with (first | ((with_reducible refine gate_callee (f := 34) rfl ?_); refine goesL_ (some 8) rfl rfl Try.func34 (by kernel_rfl) rfl #[.slice A0 l0.length c0] rfl (by (try simp only [List.map_toArray, List.map_cons, List.map_nil]); first | done | rfl | (simp only [List.length_drop, List.length_take]; rfl)) ?_; (with_reducible refine (psalterylaw10_great.calls _ _ l0 false _ ?side1 ?side2 A2.out).mono ?_); (case side1 => repeat (first | exact HR0.out | (with_reducible refine Kd.C_alloc ?_ _) | (with_reducible refine Kd.C_drewN ?_ _) | (with_reducible refine Kd.C_drew ?_))); (case side2 => exact HC0.out); rintro e w' ⟨rfl, ⟨nd, rfl⟩⟩; refine ⟨_, rfl, ?_⟩) | ((with_reducible refine gate_callee (f := 35) rfl ?_); refine goesL_ (some 12) rfl rfl Try.func35 (by kernel_rfl) rfl #[.slice A0 l0.length c0] rfl (by (try simp only [List.map_toArray, List.map_cons, List.map_nil]); first | done | rfl | (simp only [List.length_drop, List.length_take]; rfl)) ?_; (with_reducible refine (band_Gain.calls k _ _ l0 t389 t390 _ ?side1 ?side2 A6.out).mono ?_); (case side1 => repeat (first | exact HR0.out | (with_reducible refine Kd.C_alloc ?_ _) | (with_reducible refine Kd.C_drewN ?_ _) | (with_reducible refine Kd.C_drew ?_))); (case side2 => exact HC0.out); rintro e w' ⟨rfl, ⟨nd, rfl⟩⟩; refine ⟨_, rfl, ?_⟩) | ((with_reducible refine gate_callee (f := 45) rfl ?_); refine goesL_ (some 23) rfl rfl Try.func45 (by kernel_rfl) rfl #[.slice A0 l0.length c0] rfl (by (try simp only [List.map_toArray, List.map_cons, List.map_nil]); first | done | rfl | (simp only [List.length_drop, List.length_take]; rfl)) ?_; (with_reducible refine (psalteryref07_Square.calls k _ _ l0 t392 _ ?side1 ?side2 A8.out).mono ?_); (case side1 => repeat (first | exact HR0.out | (with_reducible refine Kd.C_alloc ?_ _) | (with_reducible refine Kd.C_drewN ?_ _) | (with_reducible refine Kd.C_drew ?_))); (case side2 => exact HC0.out); rintro e w' ⟨rfl, ⟨nd, rfl⟩⟩; refine ⟨_, rfl, ?_⟩) | ((with_reducible refine gate_callee (f := 32) rfl ?_); refine goesL_ (some 25) rfl rfl Try.func32 (by kernel_rfl) rfl #[.int .i64 t389] rfl (by (try simp only [List.map_toArray, List.map_cons, List.map_nil]); first | done | rfl | (simp only [List.length_drop, List.length_take]; rfl)) ?_; (with_reducible refine (band_Value.calls k t389 t393 _ A9.out).mono ?_); rintro e w' ⟨rfl, ⟨nd, rfl⟩⟩; refine ⟨_, rfl, ?_⟩) | (go_at_call 33; (with_reducible refine (psalterylaw10_knows.calls k  t394 _ A13.out).mono ?_); rintro e w14 ⟨rfl, hb⟩; have n0_ := Aside0.mk (below_step (by repeat (first | (with_reducible first | exact HB.out | apply below_alloc | apply pw_below_drewN | apply below_drew1) | exact HB.out)) hb); clear HB; have HB := n0_; clear n0_; (try clear hb); (try clear hb2); (try clear hk); (try clear hi)))
            go_ret
            exact ⟨by first | rfl | (simp [errW_none, errW_some] <;> rfl) | (simp [*, errW_none, errW_some] <;> rfl), by repeat (first | (with_reducible first | exact HB.out | apply below_alloc | apply pw_below_drewN | apply below_drew1) | exact HB.out)⟩
          · rw [if_neg c12] at H
            have c12b0 : ((IntKind.u64.wrap (t393)) == 0) = false := beq_eq_false_iff_ne.mpr c12
            have c12b1 : ((IntKind.u64.wrap (t393)) != 0) = true := bne_iff_ne.mpr c12
            exact absurd ((Option.some.inj H).trans HT.out) (by decide)
        · rw [if_neg c11] at H
          have c11b0 : (t389 == 0) = false := beq_eq_false_iff_ne.mpr c11
          have c11b1 : (t389 != 0) = true := bne_iff_ne.mpr c11
          exact absurd ((Option.some.inj H).trans HT.out) (by decide)
      · rw [if_neg c10] at H
        have c10b0 : (t392 == 0) = false := beq_eq_false_iff_ne.mpr c10
        have c10b1 : (t392 != 0) = true := bne_iff_ne.mpr c10
        by_cases c15 : (IntKind.u64.wrap ((IntKind.u64.wrap (t393)) * (IntKind.u64.wrap (t393)))) ≤ t392
        · rw [if_pos c15] at H
          have c15b0 : decide ((IntKind.u64.wrap ((IntKind.u64.wrap (t393)) * (IntKind.u64.wrap (t393)))) ≤ t392) = true := decide_eq_true c15
          clear c15
          by_cases c16 : t392 < (IntKind.u64.wrap ((IntKind.u64.wrap (2 * (IntKind.u64.wrap ((IntKind.u64.wrap (t393)) + 1)))) * (IntKind.u64.wrap ((IntKind.u64.wrap (t393)) + 1))))
          · rw [if_pos c16] at H
            have c16b0 : decide (t392 < (IntKind.u64.wrap ((IntKind.u64.wrap (2 * (IntKind.u64.wrap ((IntKind.u64.wrap (t393)) + 1)))) * (IntKind.u64.wrap ((IntKind.u64.wrap (t393)) + 1))))) = true := decide_eq_true c16
            clear c16
            by_cases c17 : t389 ≥ 1
            · rw [if_pos c17] at H
              have c17b0 : decide (1 ≤ t389) = true := decide_eq_true c17
              clear c17
              replace H := Option.bind_eq_some_iff.mp H
              obtain ⟨t395, A180, H⟩ := H
              replace H : (some t395) = some r := H
              have A18 := Aside0.mk A180
              clear A180
              obtain rfl := Option.some.inj H
              go_enter Try.func12, Try.ntmps12
              go_wp2_with (first | ((with_reducible refine gate_callee (f := 34) rfl ?_); refine goesL_ (some 8) rfl rfl Try.func34 (by kernel_rfl) rfl #[.slice A0 l0.length c0] rfl (by (try simp only [List.map_toArray, List.map_cons, List.map_nil]); first | done | rfl | (simp only [List.length_drop, List.length_take]; rfl)) ?_; (with_reducible refine (psalterylaw10_great.calls _ _ l0 false _ ?side1 ?side2 A2.out).mono ?_); (case side1 => repeat (first | exact HR0.out | (with_reducible refine Kd.C_alloc ?_ _) | (with_reducible refine Kd.C_drewN ?_ _) | (with_reducible refine Kd.C_drew ?_))); (case side2 => exact HC0.out); rintro e w' ⟨rfl, ⟨nd, rfl⟩⟩; refine ⟨_, rfl, ?_⟩) | ((with_reducible refine gate_callee (f := 35) rfl ?_); refine goesL_ (some 12) rfl rfl Try.func35 (by kernel_rfl) rfl #[.slice A0 l0.length c0] rfl (by (try simp only [List.map_toArray, List.map_cons, List.map_nil]); first | done | rfl | (simp only [List.length_drop, List.length_take]; rfl)) ?_; (with_reducible refine (band_Gain.calls k _ _ l0 t389 t390 _ ?side1 ?side2 A6.out).mono ?_); (case side1 => repeat (first | exact HR0.out | (with_reducible refine Kd.C_alloc ?_ _) | (with_reducible refine Kd.C_drewN ?_ _) | (with_reducible refine Kd.C_drew ?_))); (case side2 => exact HC0.out); rintro e w' ⟨rfl, ⟨nd, rfl⟩⟩; refine ⟨_, rfl, ?_⟩) | ((with_reducible refine gate_callee (f := 45) rfl ?_); refine goesL_ (some 23) rfl rfl Try.func45 (by kernel_rfl) rfl #[.slice A0 l0.length c0] rfl (by (try simp only [List.map_toArray, List.map_cons, List.map_nil]); first | done | rfl | (simp only [List.length_drop, List.length_take]; rfl)) ?_; (with_reducible refine (psalteryref07_Square.calls k _ _ l0 t392 _ ?side1 ?side2 A8.out).mono ?_); (case side1 => repeat (first | exact HR0.out | (with_reducible refine Kd.C_alloc ?_ _) | (with_reducible refine Kd.C_drewN ?_ _) | (with_reducible refine Kd.C_drew ?_))); (case side2 => exact HC0.out); rintro e w' ⟨rfl, ⟨nd, rfl⟩⟩; refine ⟨_, rfl, ?_⟩) | ((with_reducible refine gate_callee (f := 32) rfl ?_); refine goesL_ (some 25) rfl rfl Try.func32 (by kernel_rfl) rfl #[.int .i64 t389] rfl (by (try simp only [List.map_toArray, List.map_cons, List.map_nil]); first | done | rfl | (simp only [List.length_drop, List.length_take]; rfl)) ?_; (with_reducible refine (band_Value.calls k t389 t393 _ A9.out).mono ?_); rintro e w' ⟨rfl, ⟨nd, rfl⟩⟩; refine ⟨_, rfl, ?_⟩) | (go_at_call 33; (with_reducible refine (psalterylaw10_knows.calls k  t395 _ A18.out).mono ?_); rintro e w19 ⟨rfl, hb⟩; have n0_ := Aside0.mk (below_step (by repeat (first | (with_reducible first | exact HB.out | apply below_alloc | apply pw_below_drewN | apply below_drew1) | exact HB.out)) hb); clear HB; have HB := n0_; clear n0_; (try clear hb); (try clear hb2); (try clear hk); (try clear hi)))
              go_ret
              exact ⟨by first | rfl | (simp [errW_none, errW_some] <;> rfl) | (simp [*, errW_none, errW_some] <;> rfl), by repeat (first | (with_reducible first | exact HB.out | apply below_alloc | apply pw_below_drewN | apply below_drew1) | exact HB.out)⟩
            · rw [if_neg c17] at H
              have c17b0 : decide (1 ≤ t389) = false := decide_eq_false c17
              clear c17
              exact absurd ((Option.some.inj H).trans HT.out) (by decide)
          · rw [if_neg c16] at H
            have c16b0 : decide (t392 < (IntKind.u64.wrap ((IntKind.u64.wrap (2 * (IntKind.u64.wrap ((IntKind.u64.wrap (t393)) + 1)))) * (IntKind.u64.wrap ((IntKind.u64.wrap (t393)) + 1))))) = false := decide_eq_false c16
            clear c16
            exact absurd ((Option.some.inj H).trans HT.out) (by decide)
        · rw [if_neg c15] at H
          have c15b0 : decide ((IntKind.u64.wrap ((IntKind.u64.wrap (t393)) * (IntKind.u64.wrap (t393)))) ≤ t392) = false := decide_eq_false c15
          clear c15
          exact absurd ((Option.some.inj H).trans HT.out) (by decide)
    · rw [if_neg c7] at H
      have c7b0 : (t390 == 0) = false := beq_eq_false_iff_ne.mpr c7
      have c7b1 : (t390 != 0) = true := bne_iff_ne.mpr c7
      by_cases c20 : t389 = 0
      · rw [if_pos c20] at H
        have c20b0 : (t389 == 0) = true := beq_iff_eq.mpr c20
        have c20b1 : (t389 != 0) = false := bne_eq_false_iff_eq.mpr c20
        clear c20
        replace H := Option.bind_eq_some_iff.mp H
        obtain ⟨t391, A210, H⟩ := H
        replace H : (some t391) = some r := H
        have A21 := Aside0.mk A210
        clear A210
        obtain rfl := Option.some.inj H
        go_enter Try.func12, Try.ntmps12
        go_wp2_with (first | ((with_reducible refine gate_callee (f := 34) rfl ?_); refine goesL_ (some 8) rfl rfl Try.func34 (by kernel_rfl) rfl #[.slice A0 l0.length c0] rfl (by (try simp only [List.map_toArray, List.map_cons, List.map_nil]); first | done | rfl | (simp only [List.length_drop, List.length_take]; rfl)) ?_; (with_reducible refine (psalterylaw10_great.calls _ _ l0 false _ ?side1 ?side2 A2.out).mono ?_); (case side1 => repeat (first | exact HR0.out | (with_reducible refine Kd.C_alloc ?_ _) | (with_reducible refine Kd.C_drewN ?_ _) | (with_reducible refine Kd.C_drew ?_))); (case side2 => exact HC0.out); rintro e w' ⟨rfl, ⟨nd, rfl⟩⟩; refine ⟨_, rfl, ?_⟩) | ((with_reducible refine gate_callee (f := 35) rfl ?_); refine goesL_ (some 12) rfl rfl Try.func35 (by kernel_rfl) rfl #[.slice A0 l0.length c0] rfl (by (try simp only [List.map_toArray, List.map_cons, List.map_nil]); first | done | rfl | (simp only [List.length_drop, List.length_take]; rfl)) ?_; (with_reducible refine (band_Gain.calls k _ _ l0 t389 t390 _ ?side1 ?side2 A6.out).mono ?_); (case side1 => repeat (first | exact HR0.out | (with_reducible refine Kd.C_alloc ?_ _) | (with_reducible refine Kd.C_drewN ?_ _) | (with_reducible refine Kd.C_drew ?_))); (case side2 => exact HC0.out); rintro e w' ⟨rfl, ⟨nd, rfl⟩⟩; refine ⟨_, rfl, ?_⟩) | (go_at_call 33; (with_reducible refine (psalterylaw10_knows.calls k  t391 _ A21.out).mono ?_); rintro e w22 ⟨rfl, hb⟩; have n0_ := Aside0.mk (below_step (by repeat (first | (with_reducible first | exact HB.out | apply below_alloc | apply pw_below_drewN | apply below_drew1) | exact HB.out)) hb); clear HB; have HB := n0_; clear n0_; (try clear hb); (try clear hb2); (try clear hk); (try clear hi)))
        go_ret
        exact ⟨by first | rfl | (simp [errW_none, errW_some] <;> rfl) | (simp [*, errW_none, errW_some] <;> rfl), by repeat (first | (with_reducible first | exact HB.out | apply below_alloc | apply pw_below_drewN | apply below_drew1) | exact HB.out)⟩
      · rw [if_neg c20] at H
        have c20b0 : (t389 == 0) = false := beq_eq_false_iff_ne.mpr c20
        have c20b1 : (t389 != 0) = true := bne_iff_ne.mpr c20
        exact absurd ((Option.some.inj H).trans HT.out) (by decide)

/-- THE ONE PURE STATEMENT of psalterylaw10_BandNear: yours. -/
def psalterylaw10_BandNear.Pure : Prop := ∀ (l0 : List Int), l0.length ≤ maxLen → l0.length * 8 ≤ 140737488351232 → (∀ x ∈ l0, (Lit.int .i64 x).wf = true) → ∃ k, psalterylaw10_BandNear.f k l0 = some true
theorem psalterylaw10_BandNear.walk (P : psalterylaw10_BandNear.Pure) (a0 : Option Addr) (len0 cap0 : Nat) (z0 : List Int) (w : World) (w0 : (a0 = none ∧ len0 = 0 ∧ cap0 = 0 ∧ z0 = []) ∨ ∃ x, a0 = some x ∧ len0 ≤ cap0 ∧ cap0 ≤ maxLen ∧ z0.length = cap0 ∧ (∀ i, i < z0.length → w.cell? (x.add i) = some (.int .i64 (z0.getD i 0))) ∧ ∀ n ∈ z0, (Lit.int .i64 n).wf = true) (y0 : len0 * 8 ≤ 140737488351232) :
    Calls Try.prog 12 #[.slice a0 len0 cap0] w fun e w' => e = .returned (.bool true) ∧ Below w.heap.size w w' := by
  obtain ⟨l0, rfl, hr0, hm0, hw0, hc0⟩ := ReadsInt.ofRowC w0
  obtain ⟨k, h⟩ := P l0 hm0 y0 hw0
  refine (psalterylaw10_BandNear.calls k _ _ l0 true w (Kd.C_of_reads (d := (0 : Int)) (h1 := fun _ => rfl) hr0) hc0 h rfl).mono ?_
  rintro e w' ⟨rfl, hd⟩
  exact ⟨rfl, hd⟩

end Go.Proofs.Ytoghpjggcfnoeaa.P
