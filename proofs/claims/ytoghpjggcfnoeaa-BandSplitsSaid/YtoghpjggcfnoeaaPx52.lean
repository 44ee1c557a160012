-- PRINTED by print.py (a twelfth state) out of the translation. Not trusted: Lean checks it.
import Derived.Test.YtoghpjggcfnoeaaPx0
import Derived.Test.YtoghpjggcfnoeaaPx10
import Derived.Test.YtoghpjggcfnoeaaPx11
import Derived.Test.YtoghpjggcfnoeaaPx39
import Derived.Test.YtoghpjggcfnoeaaPx40
import Derived.Test.YtoghpjggcfnoeaaPx41
import Derived.Test.YtoghpjggcfnoeaaPx43
import Derived.Test.YtoghpjggcfnoeaaPx49
import Derived.Test.YtoghpjggcfnoeaaPx50
import Derived.Test.YtoghpjggcfnoeaaPx51
namespace Go.Proofs.Ytoghpjggcfnoeaa.P
open Go.RowKit Go.Proofs.YtoghpjggcfnoeaaW.PrintWords Go.Proofs.YtoghpjggcfnoeaaW.PrintLast Go.Proofs.YtoghpjggcfnoeaaW.PrintMore
attribute [local go_sem] max2_int min2_int max_two min_two max_three min_three max_four min_four   -- for this text's walks alone
set_option linter.unusedVariables false
set_option linter.unusedSimpArgs false

/-! ### psalterylaw10_BandSplits: function 11 -/
mutual
def psalterylaw10_BandSplits.j0 : Nat → List Int → List (List Int) → List Int → Bool → Option (Bool)
  | 0, _, _, _, _ => none
  | k + 1, x0, x3, x5, x54 => if x54 = true then (some false) else (psalterylaw10_BandSplits.l0 k x0 x3 x5 ([] : List Int) 0)
def psalterylaw10_BandSplits.l0 : Nat → List Int → List (List Int) → List Int → List Int → Int → Option (Bool)
  | 0, _, _, _, _, _ => none
  | k + 1, x0, x3, x5, x7, x8 => if x8 < 5 then (if 0 ≤ x8 then (if x8 < (x3.length : Int) then ((psalteryref10_Band.f k x0 x8).bind fun t373 => ((psalteryref07_Same.f k (rd_L1 x3 x8) t373).bind fun t376 => (if t376 = true then (if x7.length + (rd_L1 x3 x8).length < 17592186044416 then (psalterylaw10_BandSplits.l0 k x0 x3 x5 (x7 ++ (rd_L1 x3 x8)) (wrap64 (x8 + 1))) else (none)) else (some false)))) else (none)) else (none)) else ((psalteryref07_Same.f k x7 x0).bind fun t381 => (if t381 = true then ((psalteryref10_Gains.f k x0).bind fun t382 => ((psalteryref06_Same.f k x5 t382).bind fun t385 => (if t385 = true then ((psalterylaw10_knows.f k).bind fun t386 => (some t386)) else (some false)))) else (some false)))
end
def psalterylaw10_BandSplits.f (k : Nat) (l0 : List Int) : Option (Bool) := (psalterylaw10_great.f l0).bind fun t360 => (if t360 = true then ((psalterylaw10_knows.f k).bind fun t361 => (some t361)) else ((band_Split.f k l0).bind fun bt362 => ((band_Gains.f k l0).bind fun bt366 => ((psalteryref10_Fair.f k l0).bind fun t370 => (if t370 = true then (if bt362.2 = 0 then (if bt366.2 = 0 then (psalterylaw10_BandSplits.j0 k l0 bt362.1 bt366.1 ((bt362.1.length : Int) != 5)) else (psalterylaw10_BandSplits.j0 k l0 bt362.1 bt366.1 true)) else (psalterylaw10_BandSplits.j0 k l0 bt362.1 bt366.1 true)) else (if (bt362.1.length : Int) = 0 then (if bt362.2 = 1 then (if (bt366.1.length : Int) = 0 then (if bt366.2 = 1 then ((psalterylaw10_knows.f k).bind fun t371 => (some t371)) else (some false)) else (some false)) else (some false)) else (some false)))))))
theorem psalterylaw10_BandSplits.mono_l : ∀ k, (∀ y0 y1 y2 y3, LeO (psalterylaw10_BandSplits.j0 k y0 y1 y2 y3) (psalterylaw10_BandSplits.j0 (k + 1) y0 y1 y2 y3)) ∧ (∀ y0 y1 y2 y3 y4, LeO (psalterylaw10_BandSplits.l0 k y0 y1 y2 y3 y4) (psalterylaw10_BandSplits.l0 (k + 1) y0 y1 y2 y3 y4))
  | 0 => ⟨fun _ _ _ _ r h => by simp [psalterylaw10_BandSplits.j0] at h, fun _ _ _ _ _ r h => by simp [psalterylaw10_BandSplits.l0] at h⟩
  | k + 1 => by
    obtain ⟨ih0, ih1⟩ := psalterylaw10_BandSplits.mono_l k
    refine ⟨?_, ?_⟩
    · intro y0 y1 y2 y3
      unfold psalterylaw10_BandSplits.j0
      repeat' first
      | (with_reducible exact ih0 _ _ _ _)
      | (with_reducible exact ih1 _ _ _ _ _)
      | (with_reducible exact band_Gains.mono _ _)
      | (with_reducible exact band_Split.mono _ _)
      | (with_reducible exact psalterylaw10_knows.mono _)
      | (with_reducible exact psalteryref06_Same.mono _ _ _)
      | (with_reducible exact psalteryref07_Same.mono _ _ _)
      | (with_reducible exact psalteryref10_Band.mono _ _ _)
      | (with_reducible exact psalteryref10_Fair.mono _ _)
      | (with_reducible exact psalteryref10_Gains.mono _ _)
      | (with_reducible exact LeO.refl _)
      | (with_reducible exact LeO.none _)
      | (with_reducible refine LeO.ite ?_ ?_)
      | (with_reducible refine LeO.bind ?_ (fun _ => ?_))
      | exact ih0 _ _ _ _
      | exact ih1 _ _ _ _ _
      | exact band_Gains.mono _ _
      | exact band_Split.mono _ _
      | exact psalterylaw10_knows.mono _
      | exact psalteryref06_Same.mono _ _ _
      | exact psalteryref07_Same.mono _ _ _
      | exact psalteryref10_Band.mono _ _ _
      | exact psalteryref10_Fair.mono _ _
      | exact psalteryref10_Gains.mono _ _
      | exact LeO.none _
      | refine LeO.ite ?_ ?_
      | refine LeO.bind ?_ (fun _ => ?_)
    · intro y0 y1 y2 y3 y4
      unfold psalterylaw10_BandSplits.l0
      repeat' first
      | (with_reducible exact ih0 _ _ _ _)
      | (with_reducible exact ih1 _ _ _ _ _)
      | (with_reducible exact band_Gains.mono _ _)
      | (with_reducible exact band_Split.mono _ _)
      | (with_reducible exact psalterylaw10_knows.mono _)
      | (with_reducible exact psalteryref06_Same.mono _ _ _)
      | (with_reducible exact psalteryref07_Same.mono _ _ _)
      | (with_reducible exact psalteryref10_Band.mono _ _ _)
      | (with_reducible exact psalteryref10_Fair.mono _ _)
      | (with_reducible exact psalteryref10_Gains.mono _ _)
      | (with_reducible exact LeO.refl _)
      | (with_reducible exact LeO.none _)
      | (with_reducible refine LeO.ite ?_ ?_)
      | (with_reducible refine LeO.bind ?_ (fun _ => ?_))
      | exact ih0 _ _ _ _
      | exact ih1 _ _ _ _ _
      | exact band_Gains.mono _ _
      | exact band_Split.mono _ _
      | exact psalterylaw10_knows.mono _
      | exact psalteryref06_Same.mono _ _ _
      | exact psalteryref07_Same.mono _ _ _
      | exact psalteryref10_Band.mono _ _ _
      | exact psalteryref10_Fair.mono _ _
      | exact psalteryref10_Gains.mono _ _
      | exact LeO.none _
      | refine LeO.ite ?_ ?_
      | refine LeO.bind ?_ (fun _ => ?_)
theorem psalterylaw10_BandSplits.mono : ∀ a0 k, LeO (psalterylaw10_BandSplits.f k a0) (psalterylaw10_BandSplits.f (k + 1) a0) := by
  intro a0 k
  obtain ⟨ih0, ih1⟩ := psalterylaw10_BandSplits.mono_l k
  unfold psalterylaw10_BandSplits.f
  repeat' first
      | (with_reducible exact ih0 _ _ _ _)
      | (with_reducible exact ih1 _ _ _ _ _)
      | (with_reducible exact band_Gains.mono _ _)
      | (with_reducible exact band_Split.mono _ _)
      | (with_reducible exact psalterylaw10_knows.mono _)
      | (with_reducible exact psalteryref06_Same.mono _ _ _)
      | (with_reducible exact psalteryref07_Same.mono _ _ _)
      | (with_reducible exact psalteryref10_Band.mono _ _ _)
      | (with_reducible exact psalteryref10_Fair.mono _ _)
      | (with_reducible exact psalteryref10_Gains.mono _ _)
      | (with_reducible exact LeO.refl _)
      | (with_reducible exact LeO.none _)
      | (with_reducible refine LeO.ite ?_ ?_)
      | (with_reducible refine LeO.bind ?_ (fun _ => ?_))
      | exact ih0 _ _ _ _
      | exact ih1 _ _ _ _ _
      | exact band_Gains.mono _ _
      | exact band_Split.mono _ _
      | exact psalterylaw10_knows.mono _
      | exact psalteryref06_Same.mono _ _ _
      | exact psalteryref07_Same.mono _ _ _
      | exact psalteryref10_Band.mono _ _ _
      | exact psalteryref10_Fair.mono _ _
      | exact psalteryref10_Gains.mono _ _
      | exact LeO.none _
      | refine LeO.ite ?_ ?_
      | refine LeO.bind ?_ (fun _ => ?_)
def psalterylaw10_BandSplits.T13 : Bool × List (List Nat × List Nat) := (true, [([], []), ([], []), ([0, 1], [0, 1]), ([2], [2]), ([], []), ([], []), ([4, 5], [4, 5]), ([3, 6, 6], [3, 6]), ([7], [7])])
def psalterylaw10_BandSplits.B13 : List Nat := [0, 0, 3, 7, 0, 0, 48, 127, 255]
theorem psalterylaw10_BandSplits.tab13 : rtab .any (opsOf Try.f11 13) = psalterylaw10_BandSplits.T13 := by kernel_rfl
theorem psalterylaw10_BandSplits.bits13 : waitsOk psalterylaw10_BandSplits.T13.2 psalterylaw10_BandSplits.B13 = true := by kernel_rfl
set_option maxHeartbeats 8000000 in
set_option maxRecDepth 100000 in
theorem psalterylaw10_BandSplits.calls (k : Nat) (A0 : Option Addr) (c0 : Nat) (l0 : List Int) (r : Bool) (w : World) (hr0 : Kd.C (Kd.int .i64) w A0 l0.length l0) (hc0 : l0.length ≤ c0) (h : psalterylaw10_BandSplits.f k l0 = some r) (hT : r = true) :
    Calls Try.prog 11 #[.slice A0 l0.length c0] w fun e w' => e = .returned (.bool r) ∧ Below w.heap.size w w' := by
  have HR0 := Aside0.mk hr0
  have HC0 := Aside0.mk hc0
  clear hr0 hc0
  have HB := Aside0.mk (Below.refl w.heap.size w)
  have H : ((psalterylaw10_great.f l0).bind fun t360 => (if t360 = true then ((psalterylaw10_knows.f k).bind fun t361 => (some t361)) else ((band_Split.f k l0).bind fun bt362 => ((band_Gains.f k l0).bind fun bt366 => ((psalteryref10_Fair.f k l0).bind fun t370 => (if t370 = true then (if bt362.2 = 0 then (if bt366.2 = 0 then (psalterylaw10_BandSplits.j0 k l0 bt362.1 bt366.1 ((bt362.1.length : Int) != 5)) else (psalterylaw10_BandSplits.j0 k l0 bt362.1 bt366.1 true)) else (psalterylaw10_BandSplits.j0 k l0 bt362.1 bt366.1 true)) else (if (bt362.1.length : Int) = 0 then (if bt362.2 = 1 then (if (bt366.1.length : Int) = 0 then (if bt366.2 = 1 then ((psalterylaw10_knows.f k).bind fun t371 => (some t371)) else (some false)) else (some false)) else (some false)) else (some false)))))))) = some r := h
  clear h
  have HT := Aside0.mk hT
  clear hT
  replace H := Option.bind_eq_some_iff.mp H
  obtain ⟨t360, A20, H⟩ := H
  replace H : (if t360 = true then ((psalterylaw10_knows.f k).bind fun t361 => (some t361)) else ((band_Split.f k l0).bind fun bt362 => ((band_Gains.f k l0).bind fun bt366 => ((psalteryref10_Fair.f k l0).bind fun t370 => (if t370 = true then (if bt362.2 = 0 then (if bt366.2 = 0 then (psalterylaw10_BandSplits.j0 k l0 bt362.1 bt366.1 ((bt362.1.length : Int) != 5)) else (psalterylaw10_BandSplits.j0 k l0 bt362.1 bt366.1 true)) else (psalterylaw10_BandSplits.j0 k l0 bt362.1 bt366.1 true)) else (if (bt362.1.length : Int) = 0 then (if bt362.2 = 1 then (if (bt366.1.length : Int) = 0 then (if bt366.2 = 1 then ((psalterylaw10_knows.f k).bind fun t371 => (some t371)) else (some false)) else (some false)) else (some false)) else (some false))))))) = some r := H
  have A2 := Aside0.mk A20
  clear A20
  by_cases c3 : t360 = true
  · subst c3
    have H1 : ((psalterylaw10_knows.f k).bind fun t361 => (some t361)) = some r := by rw [if_pos rfl] at H; exact H
    clear H
    have H := H1
    clear H1
    replace H := Option.bind_eq_some_iff.mp H
    obtain ⟨t361, A40, H⟩ := H
    replace H : (some t361) = some r := H
    have A4 := Aside0.mk A40
    clear A40
    obtain rfl := Option.some.inj H
    go_enter Try.func11, Try.ntmps11
    go_wp2_with (first | ((with_reducible refine gate_callee (f := 34) rfl ?_); refine goesL_ (some 10) rfl rfl Try.func34 (by kernel_rfl) rfl #[.slice A0 l0.length c0] rfl (by (try simp only [List.map_toArray, List.map_cons, List.map_nil]); first | done | rfl | (simp only [List.length_drop, List.length_take]; rfl)) ?_; (with_reducible refine (psalterylaw10_great.calls _ _ l0 true _ ?side1 ?side2 A2.out).mono ?_); (case side1 => repeat (first | exact HR0.out | (with_reducible refine Kd.C_alloc ?_ _) | (with_reducible refine Kd.C_drewN ?_ _) | (with_reducible refine Kd.C_drew ?_))); (case side2 => exact HC0.out); rintro e w' ⟨rfl, ⟨nd, rfl⟩⟩; refine ⟨_, rfl, ?_⟩) | ((with_reducible refine gate_callee (f := 33) rfl ?_); refine goesL_ (some 11) rfl rfl Try.func33 (by kernel_rfl) rfl #[] rfl (by (try simp only [List.map_toArray, List.map_cons, List.map_nil]); first | done | rfl | (simp only [List.length_drop, List.length_take]; rfl)) ?_; (with_reducible refine (psalterylaw10_knows.calls k  t361 _ A4.out).mono ?_); rintro e w5 ⟨rfl, hb⟩; refine ⟨_, rfl, ?_⟩; have n0_ := Aside0.mk (below_step (by repeat (first | (with_reducible first | exact HB.out | apply below_alloc | apply pw_below_drewN | apply below_drew1) | exact HB.out)) hb); clear HB; have HB := n0_; clear n0_; (try clear hb); (try clear hb2); (try clear hk); (try clear hi)))
    go_ret
    exact ⟨by first | rfl | (simp [errW_none, errW_some] <;> rfl) | (simp [*, errW_none, errW_some] <;> rfl), by repeat (first | (with_reducible first | exact HB.out | apply below_alloc | apply pw_below_drewN | apply below_drew1) | exact HB.out)⟩
  · replace c3 := Bool.eq_false_iff.mpr c3
    subst c3
    have H1 : ((band_Split.f k l0).bind fun bt362 => ((band_Gains.f k l0).bind fun bt366 => ((psalteryref10_Fair.f k l0).bind fun t370 => (if t370 = true then (if bt362.2 = 0 then (if bt366.2 = 0 then (psalterylaw10_BandSplits.j0 k l0 bt362.1 bt366.1 ((bt362.1.length : Int) != 5)) else (psalterylaw10_BandSplits.j0 k l0 bt362.1 bt366.1 true)) else (psalterylaw10_BandSplits.j0 k l0 bt362.1 bt366.1 true)) else (if (bt362.1.length : Int) = 0 then (if bt362.2 = 1 then (if (bt366.1.length : Int) = 0 then (if bt366.2 = 1 then ((psalterylaw10_knows.f k).bind fun t371 => (some t371)) else (some false)) else (some false)) else (some false)) else (some false)))))) = some r := by rw [if_neg (show ¬ (false = true) by decide)] at H; exact H
    clear H
    have H := H1
    clear H1
    replace H := Option.bind_eq_some_iff.mp H
    obtain ⟨⟨t362, t365⟩, A60, H⟩ := H
    replace H : ((band_Gains.f k l0).bind fun bt366 => ((psalteryref10_Fair.f k l0).bind fun t370 => (if t370 = true then (if t365 = 0 then (if bt366.2 = 0 then (psalterylaw10_BandSplits.j0 k l0 t362 bt366.1 ((t362.length : Int) != 5)) else (psalterylaw10_BandSplits.j0 k l0 t362 bt366.1 true)) else (psalterylaw10_BandSplits.j0 k l0 t362 bt366.1 true)) else (if (t362.length : Int) = 0 then (if t365 = 1 then (if (bt366.1.length : Int) = 0 then (if bt366.2 = 1 then ((psalterylaw10_knows.f k).bind fun t371 => (some t371)) else (some false)) else (some false)) else (some false)) else (some false))))) = some r := H
    have A6 := Aside0.mk A60
    clear A60
    replace H := Option.bind_eq_some_iff.mp H
    obtain ⟨⟨t366, t367⟩, A70, H⟩ := H
    replace H : ((psalteryref10_Fair.f k l0).bind fun t370 => (if t370 = true then (if t365 = 0 then (if t367 = 0 then (psalterylaw10_BandSplits.j0 k l0 t362 t366 ((t362.length : Int) != 5)) else (psalterylaw10_BandSplits.j0 k l0 t362 t366 true)) else (psalterylaw10_BandSplits.j0 k l0 t362 t366 true)) else (if (t362.length : Int) = 0 then (if t365 = 1 then (if (t366.length : Int) = 0 then (if t367 = 1 then ((psalterylaw10_knows.f k).bind fun t371 => (some t371)) else (some false)) else (some false)) else (some false)) else (some false)))) = some r := H
    have A7 := Aside0.mk A70
    clear A70
    replace H := Option.bind_eq_some_iff.mp H
    obtain ⟨t370, A80, H⟩ := H
    replace H : (if t370 = true then (if t365 = 0 then (if t367 = 0 then (psalterylaw10_BandSplits.j0 k l0 t362 t366 ((t362.length : Int) != 5)) else (psalterylaw10_BandSplits.j0 k l0 t362 t366 true)) else (psalterylaw10_BandSplits.j0 k l0 t362 t366 true)) else (if (t362.length : Int) = 0 then (if t365 = 1 then (if (t366.length : Int) = 0 then (if t367 = 1 then ((psalterylaw10_knows.f k).bind fun t371 => (some t371)) else (some false)) else (some false)) else (some false)) else (some false))) = some r := H
    have A8 := Aside0.mk A80
    clear A80
    by_cases c9 : t370 = true
    · subst c9
      have H1 : (if t365 = 0 then (if t367 = 0 then (psalterylaw10_BandSplits.j0 k l0 t362 t366 ((t362.length : Int) != 5)) else (psalterylaw10_BandSplits.j0 k l0 t362 t366 true)) else (psalterylaw10_BandSplits.j0 k l0 t362 t366 true)) = some r := by rw [if_pos rfl] at H; exact H
      clear H
      have H := H1
      clear H1
      have HC10 := Aside0.mk H
      clear H
      go_enter Try.func11, Try.ntmps11
      go_upto_region 7 with (first | ((with_reducible refine gate_callee (f := 34) rfl ?_); refine goesL_ (some 10) rfl rfl Try.func34 (by kernel_rfl) rfl #[.slice A0 l0.length c0] rfl (by (try simp only [List.map_toArray, List.map_cons, List.map_nil]); first | done | rfl | (simp only [List.length_drop, List.length_take]; rfl)) ?_; (with_reducible refine (psalterylaw10_great.calls _ _ l0 false _ ?side1 ?side2 A2.out).mono ?_); (case side1 => repeat (first | exact HR0.out | (with_reducible refine Kd.C_alloc ?_ _) | (with_reducible refine Kd.C_drewN ?_ _) | (with_reducible refine Kd.C_drew ?_))); (case side2 => exact HC0.out); rintro e w' ⟨rfl, ⟨nd, rfl⟩⟩; refine ⟨_, rfl, ?_⟩) | ((with_reducible refine gate_callee (f := 38) rfl ?_); refine goesL_ (some 14) rfl rfl Try.func38 (by kernel_rfl) rfl #[.slice A0 l0.length c0] rfl (by (try simp only [List.map_toArray, List.map_cons, List.map_nil]); first | done | rfl | (simp only [List.length_drop, List.length_take]; rfl)) ?_; (with_reducible refine (band_Split.calls k _ _ l0 t362 t365 _ ?side1 ?side2 A6.out).mono ?_); (case side1 => repeat (first | exact HR0.out | (with_reducible refine Kd.C_alloc ?_ _) | (with_reducible refine Kd.C_drewN ?_ _) | (with_reducible refine Kd.C_drew ?_))); (case side2 => exact HC0.out); rintro e w11 ⟨v363, rfl, ho0, hb⟩; refine ⟨_, rfl, ?_⟩; have n0_ := Aside0.mk (Kd.N_lower (Kd.N_mono (ok' := fun k_ => True) ho0 (fun k_ hk_ => trivial)) (below_size (by repeat (first | (with_reducible first | exact HB.out | apply below_alloc | apply pw_below_drewN | apply below_drew1) | exact HB.out)))); have n1_ := Aside0.mk (below_step (by repeat (first | (with_reducible first | exact HB.out | apply below_alloc | apply pw_below_drewN | apply below_drew1) | exact HB.out)) hb); clear HB; have HO364 := n0_; have HB := n1_; clear n0_ n1_; (try clear hb); (try clear hb2); (try clear hk); (try clear hi); (try clear ho0)) | ((with_reducible refine gate_callee (f := 39) rfl ?_); refine goesL_ (some 19) rfl rfl Try.func39 (by kernel_rfl) rfl #[.slice A0 l0.length c0] rfl (by (try simp only [List.map_toArray, List.map_cons, List.map_nil]); first | done | rfl | (simp only [List.length_drop, List.length_take]; rfl)) ?_; (with_reducible refine (band_Gains.calls k _ _ l0 t366 t367 _ ?side1 ?side2 A7.out).mono ?_); (case side1 => repeat (first | exact (Kd.C_below HR0.out HB.out) | (with_reducible refine Kd.C_alloc ?_ _) | (with_reducible refine Kd.C_drewN ?_ _) | (with_reducible refine Kd.C_drew ?_))); (case side2 => exact HC0.out); rintro e w12 ⟨v368, rfl, ho0, hb⟩; refine ⟨_, rfl, ?_⟩; have n0_ := Aside0.mk (Kd.N_elder' (by (with_reducible repeat (first | apply Kd.N_alloc | apply Kd.N_drewN | apply Kd.N_drew)); exact HO364.out) (Kd.R_base ho0) hb); have n1_ := Aside0.mk (Kd.R_lower ho0 (below_size (by repeat (first | (with_reducible first | exact HB.out | apply below_alloc | apply pw_below_drewN | apply below_drew1) | exact HB.out)))); have n2_ := Aside0.mk (below_step (by repeat (first | (with_reducible first | exact HB.out | apply below_alloc | apply pw_below_drewN | apply below_drew1) | exact HB.out)) hb); clear HO364; clear HB; have HO364 := n0_; have HO369 := n1_; have HB := n2_; clear n0_ n1_ n2_; (try clear hb); (try clear hb2); (try clear hk); (try clear hi); (try clear ho0)) | ((with_reducible refine gate_callee (f := 40) rfl ?_); refine goesL_ (some 23) rfl rfl Try.func40 (by kernel_rfl) rfl #[.slice A0 l0.length c0] rfl (by (try simp only [List.map_toArray, List.map_cons, List.map_nil]); first | done | rfl | (simp only [List.length_drop, List.length_take]; rfl)) ?_; (with_reducible refine (psalteryref10_Fair.calls k _ _ l0 true _ ?side1 ?side2 A8.out).mono ?_); (case side1 => repeat (first | exact (Kd.C_below HR0.out HB.out) | (with_reducible refine Kd.C_alloc ?_ _) | (with_reducible refine Kd.C_drewN ?_ _) | (with_reducible refine Kd.C_drew ?_))); (case side2 => exact HC0.out); rintro e w' ⟨rfl, ⟨nd, rfl⟩⟩; refine ⟨_, rfl, ?_⟩))
      (try simp only [Act.put, List.setIfInBounds_toArray, List.set_cons_zero, List.set_cons_succ])
      go_cut [54] (fun v54 wc => ∃ (kq : Nat) (x54_9 : Bool), v54 = .bool x54_9 ∧ Aside0 (psalterylaw10_BandSplits.j0 kq l0 t362 t366 x54_9 = some r) ∧ Aside0 (kq ≤ k) ∧ Aside0 (Kd.N (Kd.slice 2 (Kd.int .i64)) 30 wc w.heap.size (fun k_ => some k_ ≠ (v368 : Value).ownBlock) v363 t362) ∧ Aside0 (Kd.R (Kd.int .i64) 3 wc w.heap.size (fun _ => True) v368 t366) ∧ Aside0 (Below w.heap.size w wc))
      case first =>
        have H := HC10.out
        clear HC10
        by_cases c13 : t365 = 0
        · rw [if_pos c13] at H
          have c13b0 : (t365 == 0) = true := beq_iff_eq.mpr c13
          have c13b1 : (t365 != 0) = false := bne_eq_false_iff_eq.mpr c13
          clear c13
          (first | rw [c13b0] | (simp only [i64_w, i32_w]; rw [c13b0]) | skip)
          by_cases c14 : t367 = 0
          · rw [if_pos c14] at H
            have c14b0 : (t367 == 0) = true := beq_iff_eq.mpr c14
            have c14b1 : (t367 != 0) = false := bne_eq_false_iff_eq.mpr c14
            clear c14
            have H' := Aside0.mk H
            clear H
            obtain ⟨Ao15, co15, eo15⟩ := Kd.N_slice HO364.out
            subst eo15
            go_wp2
            go_meet
            case rel => exact ⟨_, (((t362.length : Int) != 5)), (by first | rfl | (simp; done) | (simp [*]; done)), H', ⟨by first | omega | exact Nat.le_refl _⟩, ⟨by (with_reducible repeat (first | apply Kd.N_alloc | apply Kd.N_drewN | apply Kd.N_drew)); exact Kd.N_mono HO364.out (fun _ hk => hk.2)⟩, ⟨by (with_reducible repeat (first | apply Kd.R_alloc | apply Kd.R_drewN | apply Kd.R_drew)); exact HO369.out⟩, ⟨by repeat (first | (with_reducible first | exact HB.out | apply below_alloc | apply pw_below_drewN | apply below_drew1) | exact HB.out)⟩⟩
          · rw [if_neg c14] at H
            have c14b0 : (t367 == 0) = false := beq_eq_false_iff_ne.mpr c14
            have c14b1 : (t367 != 0) = true := bne_iff_ne.mpr c14
            have H' := Aside0.mk H
            clear H
            go_wp2
            go_meet
            case rel => exact ⟨_, (true), (by first | rfl | (simp; done) | (simp [*]; done)), H', ⟨by first | omega | exact Nat.le_refl _⟩, ⟨by (with_reducible repeat (first | apply Kd.N_alloc | apply Kd.N_drewN | apply Kd.N_drew)); exact Kd.N_mono HO364.out (fun _ hk => hk.2)⟩, ⟨by (with_reducible repeat (first | apply Kd.R_alloc | apply Kd.R_drewN | apply Kd.R_drew)); exact HO369.out⟩, ⟨by repeat (first | (with_reducible first | exact HB.out | apply below_alloc | apply pw_below_drewN | apply below_drew1) | exact HB.out)⟩⟩
        · rw [if_neg c13] at H
          have c13b0 : (t365 == 0) = false := beq_eq_false_iff_ne.mpr c13
          have c13b1 : (t365 != 0) = true := bne_iff_ne.mpr c13
          (first | rw [c13b0] | (simp only [i64_w, i32_w]; rw [c13b0]) | skip)
          have H' := Aside0.mk H
          clear H
          go_wp2
          go_meet
          case rel => exact ⟨_, (true), (by first | rfl | (simp; done) | (simp [*]; done)), H', ⟨by first | omega | exact Nat.le_refl _⟩, ⟨by (with_reducible repeat (first | apply Kd.N_alloc | apply Kd.N_drewN | apply Kd.N_drew)); exact Kd.N_mono HO364.out (fun _ hk => hk.2)⟩, ⟨by (with_reducible repeat (first | apply Kd.R_alloc | apply Kd.R_drewN | apply Kd.R_drew)); exact HO369.out⟩, ⟨by repeat (first | (with_reducible first | exact HB.out | apply below_alloc | apply pw_below_drewN | apply below_drew1) | exact HB.out)⟩⟩
      case rest =>
        clear HC10
        try clear c1
        try clear p2
        try clear c3
        try clear c4
        try clear c9
        try clear c11
        try clear c13
        try clear c13b0
        try clear c13b1
        try clear c14
        try clear c14b0
        try clear c14b1
        obtain ⟨kq, x54_9, rfl, HA, HJ9, HO_3, HO_5, HB⟩ := hcut
        cases kq with
        | zero => exact absurd HA.out (by simp [psalterylaw10_BandSplits.j0])
        | succ kj9 =>
          have H := HA.out
          clear HA
          simp only [psalterylaw10_BandSplits.j0] at H
          by_cases c16 : x54_9 = true
          · subst c16
            have H1 : (some false) = some r := by rw [if_pos rfl] at H; exact H
            clear H
            have H := H1
            clear H1
            exact absurd ((Option.some.inj H).trans HT.out) (by decide)
          · replace c16 := Bool.eq_false_iff.mpr c16
            subst c16
            have H1 : (psalterylaw10_BandSplits.l0 kj9 l0 t362 t366 ([] : List Int) 0) = some r := by rw [if_neg (show ¬ (false = true) by decide)] at H; exact H
            clear H
            have H := H1
            clear H1
            have H' := Aside0.mk H
            clear H
            go_wp2
            go_loopg [7, 8] kj9 (fun kq v7 v8 w' => ∃ (x7_2 : List Int) (x8_2 : Int), v8 = .int .i64 x8_2 ∧ Aside0 (psalterylaw10_BandSplits.l0 kq l0 t362 t366 x7_2 x8_2 = some r) ∧ Aside0 (kq ≤ kj9) ∧ Aside0 (Kd.N (Kd.slice 2 (Kd.int .i64)) 30 w' w.heap.size (fun k_ => some k_ ≠ (v368 : Value).ownBlock ∧ some k_ ≠ (v7 : Value).ownBlock) v363 t362) ∧ Aside0 (Kd.R (Kd.int .i64) 3 w' w.heap.size (fun _ => True) v368 t366) ∧ Aside0 (Kd.R (Kd.int .i64) 2 w' w.heap.size (fun _ => True) v7 x7_2) ∧ Aside0 (Below w.heap.size w w'))
            case atStart => exact ⟨(([] : List Int)), (0), (by first | rfl | (simp; done) | (simp [*]; done)), H', ⟨Nat.le_refl _⟩, ⟨by (with_reducible repeat (first | apply Kd.N_alloc | apply Kd.N_drewN | apply Kd.N_drew)); exact Kd.N_mono HO_3.out (fun _ hk => ⟨hk, (by simp [Value.ownBlock])⟩)⟩, ⟨by (with_reducible repeat (first | apply Kd.R_alloc | apply Kd.R_drewN | apply Kd.R_drew)); exact HO_5.out⟩, ⟨by first | exact Kd.R_nil _ _ _ _ _ | exact Kd.N_nil _ _ _ _ _ | exact Kd.V_nil _ _ _ _ _ | exact Kd.Q_nil _ _ _ _ _ | exact Kd.S_nil _ _ _ _ _⟩, ⟨by repeat (first | (with_reducible first | exact HB.out | apply below_alloc | apply pw_below_drewN | apply below_drew1) | exact HB.out)⟩⟩
            case round =>
              clear H'
              try clear c1
              try clear p2
              try clear c3
              try clear c4
              try clear c9
              try clear c11
              try clear c13
              try clear c13b0
              try clear c13b1
              try clear c14
              try clear c14b0
              try clear c14b1
              try clear c16
              try clear p2
              obtain ⟨x7_2, x8_2, rfl, HA, HK2, HO_3, HO_5, HO_7, HB⟩ := hrel
              cases gk with
              | zero => exact absurd HA.out (by simp [psalterylaw10_BandSplits.l0])
              | succ k2 =>
                have H := HA.out
                clear HA
                simp only [psalterylaw10_BandSplits.l0] at H
                by_cases c17 : x8_2 < 5
                · rw [if_pos c17] at H
                  have c17b0 : decide (x8_2 < 5) = true := decide_eq_true c17
                  clear c17
                  by_cases c18 : 0 ≤ x8_2
                  · rw [if_pos c18] at H
                    have c18b0 : decide (0 ≤ x8_2) = true := decide_eq_true c18
                    clear c18
                    by_cases c19 : x8_2 < (t362.length : Int)
                    · rw [if_pos c19] at H
                      have c19b0 : decide (x8_2 < (t362.length : Int)) = true := decide_eq_true c19
                      clear c19
                      replace H := Option.bind_eq_some_iff.mp H
                      obtain ⟨t373, A200, H⟩ := H
                      replace H : ((psalteryref07_Same.f k2 (rd_L1 t362 x8_2) t373).bind fun t376 => (if t376 = true then (if x7_2.length + (rd_L1 t362 x8_2).length < 17592186044416 then (psalterylaw10_BandSplits.l0 k2 l0 t362 t366 (x7_2 ++ (rd_L1 t362 x8_2)) (wrap64 (x8_2 + 1))) else (none)) else (some false))) = some r := H
                      have A20 := Aside0.mk A200
                      clear A200
                      replace H := Option.bind_eq_some_iff.mp H
                      obtain ⟨t376, A210, H⟩ := H
                      replace H : (if t376 = true then (if x7_2.length + (rd_L1 t362 x8_2).length < 17592186044416 then (psalterylaw10_BandSplits.l0 k2 l0 t362 t366 (x7_2 ++ (rd_L1 t362 x8_2)) (wrap64 (x8_2 + 1))) else (none)) else (some false)) = some r := H
                      have A21 := Aside0.mk A210
                      clear A210
                      by_cases c22 : t376 = true
                      · subst c22
                        have H1 : (if x7_2.length + (rd_L1 t362 x8_2).length < 17592186044416 then (psalterylaw10_BandSplits.l0 k2 l0 t362 t366 (x7_2 ++ (rd_L1 t362 x8_2)) (wrap64 (x8_2 + 1))) else (none)) = some r := by rw [if_pos rfl] at H; exact H
                        clear H
                        have H := H1
                        clear H1
                        by_cases c23 : x7_2.length + (rd_L1 t362 x8_2).length < 17592186044416
                        · rw [if_pos c23] at H
                          have LMc23 := Aside0.mk c23
                          clear c23
                          obtain ⟨y378, hy378⟩ : ∃ y_ : List Int, y_ = (x7_2 ++ (rd_L1 t362 x8_2)) := ⟨_, rfl⟩
                          replace H : (psalterylaw10_BandSplits.l0 k2 l0 t362 t366 y378 (wrap64 (x8_2 + 1))) = some r := by first | (rw [hy378]; with_reducible exact H) | (have H2_ := (Option.bind_some _ _).symm.trans H; rw [hy378]; with_reducible exact H2_) | (have H2_ := (Option.bind_some _ _).symm.trans H; with_reducible exact H2_) | with_reducible exact H | (rw [hy378]; exact H) | exact H
                          have Ny378 := Aside0.mk hy378
                          clear hy378
                          have H' := Aside0.mk H
                          clear H
                          try go_wp2
                          have n0_ := Aside0.mk (Kd.N_drew HO_3.out)
                          have n1_ := Aside0.mk (Kd.R_drew HO_5.out)
                          have n2_ := Aside0.mk (Kd.R_drew HO_7.out)
                          have n3_ := Aside0.mk (below_drew1 HB.out)
                          clear HO_3
                          clear HO_5
                          clear HO_7
                          clear HB
                          have HO_3 := n0_
                          have HO_5 := n1_
                          have HO_7 := n2_
                          have HB := n3_
                          clear n0_ n1_ n2_ n3_
                          obtain ⟨Ao25, co25, eo25⟩ := Kd.N_slice HO_3.out
                          (first | subst eo25 | (injection eo25 with f1_ f2_ f3_; have f4_ := f1_.symm; have f5_ := f3_.symm; clear f1_ f2_ f3_; subst f4_; subst f5_))
                          have p372 : 0 ≤ (x8_2 : Int) := of_decide_eq_true (by first | (with_reducible assumption) | assumption)
                          have q372 : x8_2 < (t362.length : Int) := of_decide_eq_true (by first | (with_reducible assumption) | assumption)
                          obtain ⟨ad372, A372_0, c372_0, e372, hx372_0, hl372_0, hi372_0⟩ := at_L1 (Kd.N_reads' HO_3.out).2.2 x8_2 p372 q372
                          cases e372
                          obtain ⟨ce372, hce372, hMe372, hcc372⟩ := Kd.N_get HO_3.out [] x8_2 p372 (by first | exact q372 | exact of_decide_eq_true (by first | (with_reducible assumption) | assumption) | (have e_ := (Kd.N_reads' HO_3.out).1; omega))
                          obtain ⟨ua372_0, uc372_0, rfl, ul372_0, ge372_0⟩ := Kd.FK_slice_open hMe372
                          have hv372_0 := hcc372 0 _ rfl
                          rw [Nat.add_zero, show ((Kd.slice 2 (Kd.int .i64))).sz = 1 from rfl, Nat.mul_one] at hv372_0
                          replace hv372_0 := Option.some.inj (hv372_0.symm.trans hx372_0)
                          injection hv372_0 with hva_ hvn_ hvc_
                          rw [hva_] at ge372_0
                          rw [hvc_] at ul372_0
                          have HL372_0 := Aside0.mk (show Kd.V (Kd.int .i64) 2 _ w.heap.size _ _ (rd_L1 t362 x8_2) from Kd.V_mk ul372_0 ge372_0)
                          clear hva_ hvn_ hvc_ ge372_0 ul372_0
                          clear hcc372 hce372
                          have HR372_0 := Aside0.mk hi372_0
                          have HC372_0 := Aside0.mk hl372_0
                          clear hi372_0 hl372_0
                          replace p372 := eq_true p372
                          replace q372 := eq_true q372
                          refine start_ (n := 9) (S := fun w' => w'.cell? (ad372.add (x8_2).toNat) = some (.slice A372_0 (rd_L1 t362 x8_2).length c372_0)) (ds := []) #[false, false, false, false, false, false, false, false, false] (by kernel_rfl) rfl rfl (hx372_0) (fun hHeld => ?_); refine with_tabW psalterylaw10_BandSplits.tab13 psalterylaw10_BandSplits.bits13 (fun HT_ HW_ => ?_)
                          generalize wr.drew = w24 at HO_3 HO_5 HO_7 HB HL372_0 HR372_0 hx372_0 hHeld ⊢
                          refine pure_ (i := 0) (N := some 59) (v := ?_) (a' := ?_) #[true, false, false, false, false, false, false, false, false] rfl rfl (any_of HT_.out (by kernel_rfl)) (fun _ _ _ h => h) (Or.inl ⟨by rfl, ?_⟩) ?_ ?_
                          rotate_left
                          · intro w'
                            go_simp
                            with_reducible rfl
                          rotate_left
                          · simp only [Act.put, List.setIfInBounds_toArray, List.set_cons_zero, List.set_cons_succ, i64_w, i32_w]
                            rfl
                          refine pure_ (i := 1) (N := some 60) (v := ?_) (a' := ?_) #[true, true, false, false, false, false, false, false, false] rfl rfl (any_of HT_.out (by kernel_rfl)) (fun _ _ _ h => h) (Or.inl ⟨by rfl, ?_⟩) ?_ ?_
                          rotate_left
                          · intro w'
                            go_simp
                            with_reducible rfl
                          rotate_left
                          · simp only [Act.put, List.setIfInBounds_toArray, List.set_cons_zero, List.set_cons_succ, i64_w, i32_w]
                            rfl
                          refine pure_ (i := 2) (N := some 61) (v := ?_) (a' := ?_) #[true, true, true, false, false, false, false, false, false] rfl rfl (any_of HT_.out (by kernel_rfl)) (fun _ _ _ h => h) (Or.inl ⟨by rfl, ?_⟩) ?_ ?_
                          rotate_left
                          · intro w'
                            go_simp
                            with_reducible rfl
                          rotate_left
                          · simp only [Act.put, List.setIfInBounds_toArray, List.set_cons_zero, List.set_cons_succ, i64_w, i32_w]
                            rfl
                          refine pure_ (i := 4) (N := some 63) (v := ?_) (a' := ?_) #[true, true, true, false, true, false, false, false, false] rfl rfl (any_of HT_.out (by kernel_rfl)) (fun _ _ _ h => h) (Or.inl ⟨by rfl, ?_⟩) ?_ ?_
                          rotate_left
                          · intro w'
                            go_simp
                            with_reducible rfl
                          rotate_left
                          · simp only [Act.put, List.setIfInBounds_toArray, List.set_cons_zero, List.set_cons_succ, i64_w, i32_w]
                            rfl
                          refine pure_ (i := 5) (N := some 64) (v := ?_) (a' := ?_) #[true, true, true, false, true, true, false, false, false] rfl rfl (any_of HT_.out (by kernel_rfl)) (fun _ _ _ h => h) (Or.inl ⟨by rfl, ?_⟩) ?_ ?_
                          rotate_left
                          · intro w'
                            go_simp
                            with_reducible rfl
                          rotate_left
                          · simp only [Act.put, List.setIfInBounds_toArray, List.set_cons_zero, List.set_cons_succ, i64_w, i32_w]
                            rfl
                          refine take_ (i := 3) (N := some 62) (v := ?_) (a' := ?_) #[true, true, true, true, true, true, false, false, false] rfl rfl (take_ofW HT_.out HW_.out (by kernel_rfl)) (fun _ _ _ h => h) (Or.inl ⟨by rfl, ?_⟩) hHeld ?_ ?_
                          rotate_left
                          · intro w' s0
                            go_simp
                            with_reducible rfl
                          rotate_left
                          · simp only [Act.put, List.setIfInBounds_toArray, List.set_cons_zero, List.set_cons_succ, i64_w, i32_w]
                            rfl
                          refine one_ (i := 6) (N := some 65) #[true, true, true, true, true, true, true, false, false] rfl rfl (one_of HT_.out (by kernel_rfl)) (by decide) (fun K hK => ?_)
                          refine goes_ Try.func42 (by kernel_rfl) rfl #[.slice A0 l0.length c0, .int .i64 x8_2] (by rfl) rfl rfl (by (try simp only [List.map_toArray, List.map_cons, List.map_nil]); first | done | rfl | (simp only [List.length_drop, List.length_take]; rfl)) ?_
                          with_reducible refine (psalteryref10_Band.calls k2 _ _ l0 x8_2 t373 _ ?side1 ?side2 A20.out).mono ?_
                          (case side1 => repeat (first | exact (Kd.C_below HR0.out HB.out) | (with_reducible refine Kd.C_alloc ?_ _) | (with_reducible refine Kd.C_drewN ?_ _) | (with_reducible refine Kd.C_drew ?_)))
                          (case side2 => exact HC0.out)
                          rintro e w26 ⟨v374, rfl, ho0, hb⟩
                          have HS0_ := (hb.cell (World.block_lt_of_cell? _ _ (hHeld))).trans (hHeld)
                          refine ⟨_, rfl, ?_⟩
                          have n0_ := Aside0.mk (Kd.N_elder' (by (with_reducible repeat (first | apply Kd.N_alloc | apply Kd.N_drewN | apply Kd.N_drew)); exact HO_3.out) (Kd.R_base ho0) hb)
                          have n1_ := Aside0.mk (Kd.R_below (by (with_reducible repeat (first | apply Kd.R_alloc | apply Kd.R_drewN | apply Kd.R_drew)); exact HO_5.out) hb)
                          have n2_ := Aside0.mk (Kd.R_elder' (by (with_reducible repeat (first | apply Kd.R_alloc | apply Kd.R_drewN | apply Kd.R_drew)); exact HO_7.out) (Kd.R_base ho0) hb)
                          have n3_ := Aside0.mk (Kd.V_elder' (by (with_reducible repeat (first | apply Kd.V_alloc | apply Kd.V_drewN | apply Kd.V_drew)); exact HL372_0.out) (Kd.R_base ho0) hb)
                          have n4_ := Aside0.mk (Kd.R_lower (Kd.R_new' ho0 (Kd.R_lt (by (with_reducible repeat (first | apply Kd.R_alloc | apply Kd.R_drewN | apply Kd.R_drew)); exact HO_7.out))) (below_size (by repeat (first | (with_reducible first | exact HB.out | apply below_alloc | apply pw_below_drewN | apply below_drew1) | exact HB.out))))
                          have n5_ := Aside0.mk (Kd.C_below (by repeat (first | (with_reducible exact HR372_0.out) | (with_reducible refine Kd.C_alloc ?_ _) | (with_reducible refine Kd.C_drewN ?_ _) | (with_reducible refine Kd.C_drew ?_) | exact HR372_0.out)) hb)
                          have n6_ := Aside0.mk (below_step (by repeat (first | (with_reducible first | exact HB.out | apply below_alloc | apply pw_below_drewN | apply below_drew1) | exact HB.out)) hb)
                          clear HO_3
                          clear HO_5
                          clear HO_7
                          clear HL372_0
                          clear HR372_0
                          clear HB
                          have HO_3 := n0_
                          have HO_5 := n1_
                          have HO_7 := n2_
                          have HL372_0 := n3_
                          have HO375 := n4_
                          have HR372_0 := n5_
                          have HB := n6_
                          clear n0_ n1_ n2_ n3_ n4_ n5_ n6_
                          (try clear hb)
                          (try clear hb2)
                          (try clear hk)
                          (try clear hi)
                          (try clear ho0)
                          obtain ⟨Ao27, co27, eo27⟩ := Kd.R_slice HO375.out
                          (first | subst eo27 | (injection eo27 with f1_ f2_ f3_; have f4_ := f1_.symm; have f5_ := f3_.symm; clear f1_ f2_ f3_; subst f4_; subst f5_))
                          refine hK.out _ _ (HS0_) (fun hHeld => ?_)
                          clear hK K
                          refine norm_ (a' := ?_) ?_ ?_
                          rotate_left
                          · show Act.put _ (some 65) _ = _
                            simp only [Act.put, List.setIfInBounds_toArray, List.set_cons_zero, List.set_cons_succ, i64_w, i32_w]
                            rfl
                          refine one_ (i := 7) (N := some 66) #[true, true, true, true, true, true, true, true, false] rfl rfl (one_of HT_.out (by kernel_rfl)) (by decide) (fun K hK => ?_)
                          refine goes_ Try.func41 (by kernel_rfl) rfl #[.slice A372_0 (rd_L1 t362 x8_2).length c372_0, .slice Ao27 t373.length co27] (by rfl) rfl rfl (by (try simp only [List.map_toArray, List.map_cons, List.map_nil]); first | done | rfl | (simp only [List.length_drop, List.length_take]; rfl)) ?_
                          with_reducible refine (psalteryref07_Same.calls k2 _ _ (rd_L1 t362 x8_2) _ _ t373 true _ ?side1 ?side2 ?side3 ?side4 A21.out).mono ?_
                          (case side1 => repeat (first | exact (by repeat (first | (with_reducible exact HR372_0.out) | (with_reducible refine Kd.C_alloc ?_ _) | (with_reducible refine Kd.C_drewN ?_ _) | (with_reducible refine Kd.C_drew ?_) | exact HR372_0.out)) | (with_reducible refine Kd.C_alloc ?_ _) | (with_reducible refine Kd.C_drewN ?_ _) | (with_reducible refine Kd.C_drew ?_)))
                          (case side2 => exact HC372_0.out)
                          (case side3 => repeat (first | exact (Kd.R_reads' HO375.out).2.2 | (with_reducible refine Kd.C_alloc ?_ _) | (with_reducible refine Kd.C_drewN ?_ _) | (with_reducible refine Kd.C_drew ?_)))
                          (case side4 => exact (Kd.R_reads' HO375.out).2.1)
                          rintro e w' ⟨rfl, ⟨nd, rfl⟩⟩
                          refine ⟨_, rfl, ?_⟩
                          refine hK.out _ _ (hHeld) (fun hHeld => ?_)
                          clear hK K
                          refine norm_ (a' := ?_) ?_ ?_
                          rotate_left
                          · show Act.put _ (some 66) _ = _
                            simp only [Act.put, List.setIfInBounds_toArray, List.set_cons_zero, List.set_cons_succ, i64_w, i32_w]
                            rfl
                          refine pure_ (i := 8) (N := some 67) (v := ?_) (a' := ?_) #[true, true, true, true, true, true, true, true, true] rfl rfl (any_of HT_.out (by kernel_rfl)) (fun _ _ _ h => h) (Or.inl ⟨by rfl, ?_⟩) ?_ ?_
                          rotate_left
                          · intro w'
                            go_simp
                            with_reducible rfl
                          rotate_left
                          · simp only [Act.put, List.setIfInBounds_toArray, List.set_cons_zero, List.set_cons_succ, i64_w, i32_w]
                            rfl
                          refine done_ (done_of HT_.out (by kernel_rfl)) ?_
                          have p377 : 0 ≤ (x8_2 : Int) := of_decide_eq_true (by first | (with_reducible assumption) | assumption)
                          have q377 : x8_2 < (t362.length : Int) := of_decide_eq_true (by first | (with_reducible assumption) | assumption)
                          obtain ⟨ad377, A377_0, c377_0, e377, hx377_0, hl377_0, hi377_0⟩ := at_L1 (Kd.N_reads' HO_3.out).2.2 x8_2 p377 q377
                          obtain rfl : ad372 = ad377 := (by injection e377)
                          obtain ⟨ce377, hce377, hMe377, hcc377⟩ := Kd.N_get HO_3.out [] x8_2 p377 (by first | exact q377 | exact of_decide_eq_true (by first | (with_reducible assumption) | assumption) | (have e_ := (Kd.N_reads' HO_3.out).1; omega))
                          obtain ⟨ua377_0, uc377_0, rfl, ul377_0, ge377_0⟩ := Kd.FK_slice_open hMe377
                          have hv377_0 := hcc377 0 _ rfl
                          rw [Nat.add_zero, show ((Kd.slice 2 (Kd.int .i64))).sz = 1 from rfl, Nat.mul_one] at hv377_0
                          replace hv377_0 := Option.some.inj (hv377_0.symm.trans hx377_0)
                          injection hv377_0 with hva_ hvn_ hvc_
                          rw [hva_] at ge377_0
                          rw [hvc_] at ul377_0
                          have HL377_0 := Aside0.mk (show Kd.V (Kd.int .i64) 2 _ w.heap.size _ _ (rd_L1 t362 x8_2) from Kd.V_mk ul377_0 ge377_0)
                          clear hva_ hvn_ hvc_ ge377_0 ul377_0
                          clear hcc377 hce377
                          have HR377_0 := Aside0.mk hi377_0
                          have HC377_0 := Aside0.mk hl377_0
                          clear hi377_0 hl377_0
                          replace p377 := eq_true p377
                          replace q377 := eq_true q377
                          (try (have hu_ := Option.some.inj (hx377_0.symm.trans HS0_); injection hu_ with hu1_ hu2_ hu3_; subst hu1_; subst hu3_))
                          try go_wp2_with (first | ((with_reducible refine gate_builtin (b := .append) (xs := #[.tmp 68, .tmp 72]) rfl ?_); (try (refine gate_guard (by rfl) ?_; dsimp only)); at_builtin; refine Kd.R_append_rows (Kd.int .i64) (w0 := w) w.heap.size rfl (.tmp 68) (.tmp 72) 30 2 (.int .i64 0) 8 rfl Try.underlying30 info2 rfl (by decide) (by omega) u7 x7_2 (rd_L1 t362 x8_2) _ _ _ (fun k_ => some k_ ≠ (.slice Ao27 t373.length co27 : Value).ownBlock) (fun _ => False) rfl rfl ?aO ?aR (fun _ _ h => h) (fun _ h => h.elim) ?aF ?aB ?aS ?aL ?_; (case aR => repeat (first | exact (by repeat (first | (with_reducible exact HR377_0.out) | (with_reducible refine Kd.C_alloc ?_ _) | (with_reducible refine Kd.C_drewN ?_ _) | (with_reducible refine Kd.C_drew ?_) | exact HR377_0.out)) | (with_reducible refine Kd.C_alloc ?_ _) | (with_reducible refine Kd.C_drewN ?_ _) | (with_reducible refine Kd.C_drew ?_))); (case aB => exact (by repeat (first | (with_reducible first | exact HB.out | apply below_alloc | apply pw_below_drewN | apply below_drew1) | exact HB.out))); (case aF => exact (fun k_ hk => Kd.fresh' (Kd.R_lt (by (with_reducible repeat (first | apply Kd.R_alloc | apply Kd.R_drewN | apply Kd.R_drew)); exact HO375.out)) k_ hk)); (case aO => exact (by (with_reducible repeat (first | apply Kd.R_alloc | apply Kd.R_drewN | apply Kd.R_drew)); exact Kd.R_mono HO_7.out (fun _ hk => hk.2))); (case aS => exact (below_size (by repeat (first | (with_reducible first | exact HB.out | apply below_alloc | apply pw_below_drewN | apply below_drew1) | exact HB.out)))); (case aL => have := LMc23.out; omega); intro v379 w28 ho hb hg hat; rw [← Ny378.out] at ho; have n0_ := Aside0.mk (Kd.N_afterv (ok := (fun k_ => some k_ ≠ (v368 : Value).ownBlock ∧ some k_ ≠ (.slice Ao27 t373.length co27 : Value).ownBlock)) (by (with_reducible repeat (first | apply Kd.N_alloc | apply Kd.N_drewN | apply Kd.N_drew)); exact Kd.N_mono HO_3.out (fun _ hk => ⟨⟨hk.1.1, hk.2⟩, hk.1.2⟩)) hg hat); have n1_ := Aside0.mk (Kd.R_over' (by (with_reducible repeat (first | apply Kd.R_alloc | apply Kd.R_drewN | apply Kd.R_drew)); exact HO_5.out) (Kd.R_typed (by (with_reducible repeat (first | apply Kd.R_alloc | apply Kd.R_drewN | apply Kd.R_drew)); exact HO_7.out)) (by decide) hg); have n2_ := Aside0.mk (Kd.V_afterv (ok := (fun k_ => some k_ ≠ (.slice (some ad372) t362.length co25 : Value).ownBlock ∧ some k_ ≠ (v368 : Value).ownBlock ∧ some k_ ≠ (.slice Ao27 t373.length co27 : Value).ownBlock)) (by (with_reducible repeat (first | apply Kd.V_alloc | apply Kd.V_drewN | apply Kd.V_drew)); exact Kd.V_mono HL372_0.out (fun _ hk => ⟨⟨hk.1.2, ⟨hk.1.1.1, hk.2⟩⟩, hk.1.1.2⟩)) hg hat); have n3_ := Aside0.mk (Kd.R_after (ok := (fun _ => True)) (by (with_reducible repeat (first | apply Kd.R_alloc | apply Kd.R_drewN | apply Kd.R_drew)); exact HO375.out) hg hat); have n4_ := Aside0.mk (Kd.V_afterv (ok := (fun k_ => some k_ ≠ (.slice (some ad372) t362.length co25 : Value).ownBlock ∧ some k_ ≠ (v368 : Value).ownBlock ∧ some k_ ≠ (.slice Ao27 t373.length co27 : Value).ownBlock)) (by (with_reducible repeat (first | apply Kd.V_alloc | apply Kd.V_drewN | apply Kd.V_drew)); exact Kd.V_mono HL377_0.out (fun _ hk => ⟨⟨hk.2, ⟨hk.1.1.1, hk.1.2⟩⟩, hk.1.1.2⟩)) hg hat); have n5_ := Aside0.mk (hb); have n6_ := Aside0.mk (ho); clear HO_3; clear HO_5; clear HL372_0; clear HO375; clear HL377_0; clear HB; clear HO_7; have HO_3 := n0_; have HO_5 := n1_; have HL372_0 := n2_; have HO375 := n3_; have HL377_0 := n4_; have HB := n5_; have HO380 := n6_; clear n0_ n1_ n2_ n3_ n4_ n5_ n6_; clear ho hb hg hat))
                          go_roundg k2
                          case measure => have := HJ9.out; have := HK2.out; omega
                          case rel => exact ⟨(y378), (wrap64 (x8_2 + 1)), (by first | rfl | (simp; done) | (simp [*]; done)), H', ⟨by have := HJ9.out; have := HK2.out; omega⟩, ⟨by (with_reducible repeat (first | apply Kd.N_alloc | apply Kd.N_drewN | apply Kd.N_drew)); exact Kd.N_mono HO_3.out (fun _ hk => ⟨hk.1.1, hk.2⟩)⟩, ⟨by (with_reducible repeat (first | apply Kd.R_alloc | apply Kd.R_drewN | apply Kd.R_drew)); exact HO_5.out⟩, ⟨by (with_reducible repeat (first | apply Kd.R_alloc | apply Kd.R_drewN | apply Kd.R_drew)); exact Kd.R_mono HO380.out (fun _ hk => trivial)⟩, ⟨by repeat (first | (with_reducible first | exact HB.out | apply below_alloc | apply pw_below_drewN | apply below_drew1) | exact HB.out)⟩⟩
                        · rw [if_neg c23] at H
                          exact absurd H (by simp)
                      · replace c22 := Bool.eq_false_iff.mpr c22
                        subst c22
                        have H1 : (some false) = some r := by rw [if_neg (show ¬ (false = true) by decide)] at H; exact H
                        clear H
                        have H := H1
                        clear H1
                        exact absurd ((Option.some.inj H).trans HT.out) (by decide)
                    · rw [if_neg c19] at H
                      exact absurd H (by simp)
                  · rw [if_neg c18] at H
                    exact absurd H (by simp)
                · rw [if_neg c17] at H
                  have c17b0 : decide (x8_2 < 5) = false := decide_eq_false c17
                  clear c17
                  replace H := Option.bind_eq_some_iff.mp H
                  obtain ⟨t381, A290, H⟩ := H
                  replace H : (if t381 = true then ((psalteryref10_Gains.f k2 l0).bind fun t382 => ((psalteryref06_Same.f k2 t366 t382).bind fun t385 => (if t385 = true then ((psalterylaw10_knows.f k2).bind fun t386 => (some t386)) else (some false)))) else (some false)) = some r := H
                  have A29 := Aside0.mk A290
                  clear A290
                  by_cases c30 : t381 = true
                  · subst c30
                    have H1 : ((psalteryref10_Gains.f k2 l0).bind fun t382 => ((psalteryref06_Same.f k2 t366 t382).bind fun t385 => (if t385 = true then ((psalterylaw10_knows.f k2).bind fun t386 => (some t386)) else (some false)))) = some r := by rw [if_pos rfl] at H; exact H
                    clear H
                    have H := H1
                    clear H1
                    replace H := Option.bind_eq_some_iff.mp H
                    obtain ⟨t382, A310, H⟩ := H
                    replace H : ((psalteryref06_Same.f k2 t366 t382).bind fun t385 => (if t385 = true then ((psalterylaw10_knows.f k2).bind fun t386 => (some t386)) else (some false))) = some r := H
                    have A31 := Aside0.mk A310
                    clear A310
                    replace H := Option.bind_eq_some_iff.mp H
                    obtain ⟨t385, A320, H⟩ := H
                    replace H : (if t385 = true then ((psalterylaw10_knows.f k2).bind fun t386 => (some t386)) else (some false)) = some r := H
                    have A32 := Aside0.mk A320
                    clear A320
                    by_cases c33 : t385 = true
                    · subst c33
                      have H1 : ((psalterylaw10_knows.f k2).bind fun t386 => (some t386)) = some r := by rw [if_pos rfl] at H; exact H
                      clear H
                      have H := H1
                      clear H1
                      replace H := Option.bind_eq_some_iff.mp H
                      obtain ⟨t386, A340, H⟩ := H
                      replace H : (some t386) = some r := H
                      have A34 := Aside0.mk A340
                      clear A340
                      obtain rfl := Option.some.inj H
                      obtain ⟨Ao35, co35, eo35⟩ := Kd.R_slice HO_7.out
                      subst eo35
                      go_wp2_with (first | ((with_reducible refine gate_callee (f := 41) rfl ?_); refine goesL_ (some 76) rfl rfl Try.func41 (by kernel_rfl) rfl #[.slice Ao35 x7_2.length co35, .slice A0 l0.length c0] rfl (by (try simp only [List.map_toArray, List.map_cons, List.map_nil]); first | done | rfl | (simp only [List.length_drop, List.length_take]; rfl)) ?_; (with_reducible refine (psalteryref07_Same.calls k2 _ _ x7_2 _ _ l0 true _ ?side1 ?side2 ?side3 ?side4 A29.out).mono ?_); (case side1 => repeat (first | exact (Kd.R_reads' HO_7.out).2.2 | (with_reducible refine Kd.C_alloc ?_ _) | (with_reducible refine Kd.C_drewN ?_ _) | (with_reducible refine Kd.C_drew ?_))); (case side2 => exact (Kd.R_reads' HO_7.out).2.1); (case side3 => repeat (first | exact (Kd.C_below HR0.out HB.out) | (with_reducible refine Kd.C_alloc ?_ _) | (with_reducible refine Kd.C_drewN ?_ _) | (with_reducible refine Kd.C_drew ?_))); (case side4 => exact HC0.out); rintro e w' ⟨rfl, ⟨nd, rfl⟩⟩; refine ⟨_, rfl, ?_⟩) | (go_at_call 44; (with_reducible refine (psalteryref10_Gains.calls k2 _ _ l0 t382 _ ?side1 ?side2 A31.out).mono ?_); (case side1 => repeat (first | exact (Kd.C_below HR0.out (by repeat (first | (with_reducible first | exact HB.out | apply below_alloc | apply pw_below_drewN | apply below_drew1) | exact HB.out))) | (with_reducible refine Kd.C_alloc ?_ _) | (with_reducible refine Kd.C_drewN ?_ _) | (with_reducible refine Kd.C_drew ?_))); (case side2 => exact HC0.out); rintro e w36 ⟨v383, rfl, ho0, hb⟩; have n0_ := Aside0.mk (Kd.N_elder' (by (with_reducible repeat (first | apply Kd.N_alloc | apply Kd.N_drewN | apply Kd.N_drew)); exact HO_3.out) (Kd.R_base ho0) hb); have n1_ := Aside0.mk (Kd.R_elder' (by (with_reducible repeat (first | apply Kd.R_alloc | apply Kd.R_drewN | apply Kd.R_drew)); exact HO_5.out) (Kd.R_base ho0) hb); have n2_ := Aside0.mk (Kd.R_below (by (with_reducible repeat (first | apply Kd.R_alloc | apply Kd.R_drewN | apply Kd.R_drew)); exact HO_7.out) hb); have n3_ := Aside0.mk (Kd.R_lower (Kd.R_new' ho0 (Kd.R_lt (by (with_reducible repeat (first | apply Kd.R_alloc | apply Kd.R_drewN | apply Kd.R_drew)); exact HO_5.out))) (below_size (by repeat (first | (with_reducible first | exact HB.out | apply below_alloc | apply pw_below_drewN | apply below_drew1) | exact HB.out)))); have n4_ := Aside0.mk (below_step (by repeat (first | (with_reducible first | exact HB.out | apply below_alloc | apply pw_below_drewN | apply below_drew1) | exact HB.out)) hb); clear HO_3; clear HO_5; clear HO_7; clear HB; have HO_3 := n0_; have HO_5 := n1_; have HO_7 := n2_; have HO384 := n3_; have HB := n4_; clear n0_ n1_ n2_ n3_ n4_; (try clear hb); (try clear hb2); (try clear hk); (try clear hi); (try clear ho0); obtain ⟨Ao37, co37, eo37⟩ := Kd.R_slice HO_5.out; subst eo37; obtain ⟨Ao38, co38, eo38⟩ := Kd.R_slice HO384.out; subst eo38) | (go_at_call 43; (with_reducible refine (psalteryref06_Same.calls k2 _ _ t366 _ _ t382 true _ ?side1 ?side2 ?side3 ?side4 A32.out).mono ?_); (case side1 => repeat (first | exact (Kd.R_reads' HO_5.out).2.2 | (with_reducible refine Kd.C_alloc ?_ _) | (with_reducible refine Kd.C_drewN ?_ _) | (with_reducible refine Kd.C_drew ?_))); (case side2 => exact (Kd.R_reads' HO_5.out).2.1); (case side3 => repeat (first | exact (Kd.R_reads' HO384.out).2.2 | (with_reducible refine Kd.C_alloc ?_ _) | (with_reducible refine Kd.C_drewN ?_ _) | (with_reducible refine Kd.C_drew ?_))); (case side4 => exact (Kd.R_reads' HO384.out).2.1); rintro e w' ⟨rfl, ⟨nd, rfl⟩⟩) | (go_at_call 33; (with_reducible refine (psalterylaw10_knows.calls k2  t386 _ A34.out).mono ?_); rintro e w39 ⟨rfl, hb⟩; have n0_ := Aside0.mk (Kd.N_below (by (with_reducible repeat (first | apply Kd.N_alloc | apply Kd.N_drewN | apply Kd.N_drew)); exact HO_3.out) hb); have n1_ := Aside0.mk (Kd.R_below (by (with_reducible repeat (first | apply Kd.R_alloc | apply Kd.R_drewN | apply Kd.R_drew)); exact HO_5.out) hb); have n2_ := Aside0.mk (Kd.R_below (by (with_reducible repeat (first | apply Kd.R_alloc | apply Kd.R_drewN | apply Kd.R_drew)); exact HO_7.out) hb); have n3_ := Aside0.mk (Kd.R_below (by (with_reducible repeat (first | apply Kd.R_alloc | apply Kd.R_drewN | apply Kd.R_drew)); exact HO384.out) hb); have n4_ := Aside0.mk (below_step (by repeat (first | (with_reducible first | exact HB.out | apply below_alloc | apply pw_below_drewN | apply below_drew1) | exact HB.out)) hb); clear HO_3; clear HO_5; clear HO_7; clear HO384; clear HB; have HO_3 := n0_; have HO_5 := n1_; have HO_7 := n2_; have HO384 := n3_; have HB := n4_; clear n0_ n1_ n2_ n3_ n4_; (try clear hb); (try clear hb2); (try clear hk); (try clear hi)))
                      go_ret
                      exact ⟨by first | rfl | (simp [errW_none, errW_some] <;> rfl) | (simp [*, errW_none, errW_some] <;> rfl), by repeat (first | (with_reducible first | exact HB.out | apply below_alloc | apply pw_below_drewN | apply below_drew1) | exact HB.out)⟩
                    · replace c33 := Bool.eq_false_iff.mpr c33
                      subst c33
                      have H1 : (some false) = some r := by rw [if_neg (show ¬ (false = true) by decide)] at H; exact H
                      clear H
                      have H := H1
                      clear H1
                      exact absurd ((Option.some.inj H).trans HT.out) (by decide)
                  · replace c30 := Bool.eq_false_iff.mpr c30
                    subst c30
                    have H1 : (some false) = some r := by rw [if_neg (show ¬ (false = true) by decide)] at H; exact H
                    clear H
                    have H := H1
                    clear H1
                    exact absurd ((Option.some.inj H).trans HT.out) (by decide)
    · replace c9 := Bool.eq_false_iff.mpr c9
      subst c9
      have H1 : (if (t362.length : Int) = 0 then (if t365 = 1 then (if (t366.length : Int) = 0 then (if t367 = 1 then ((psalterylaw10_knows.f k).bind fun t371 => (some t371)) else (some false)) else (some false)) else (some false)) else (some false)) = some r := by rw [if_neg (show ¬ (false = true) by decide)] at H; exact H
      clear H
      have H := H1
      clear H1
      by_cases c40 : (t362.length : Int) = 0
      · rw [if_pos c40] at H
        have c40b0 : ((t362.length : Int) == 0) = true := beq_iff_eq.mpr c40
        have c40b1 : ((t362.length : Int) != 0) = false := bne_eq_false_iff_eq.mpr c40
        clear c40
        by_cases c41 : t365 = 1
        · rw [if_pos c41] at H
          have c41b0 : (t365 == 1) = true := beq_iff_eq.mpr c41
          have c41b1 : (t365 != 1) = false := bne_eq_false_iff_eq.mpr c41
          clear c41
          by_cases c42 : (t366.length : Int) = 0
          · rw [if_pos c42] at H
            have c42b0 : ((t366.length : Int) == 0) = true := beq_iff_eq.mpr c42
            have c42b1 : ((t366.length : Int) != 0) = false := bne_eq_false_iff_eq.mpr c42
            clear c42
            by_cases c43 : t367 = 1
            · rw [if_pos c43] at H
              have c43b0 : (t367 == 1) = true := beq_iff_eq.mpr c43
              have c43b1 : (t367 != 1) = false := bne_eq_false_iff_eq.mpr c43
              clear c43
              replace H := Option.bind_eq_some_iff.mp H
              obtain ⟨t371, A440, H⟩ := H
              replace H : (some t371) = some r := H
              have A44 := Aside0.mk A440
              clear A440
              obtain rfl := Option.some.inj H
              go_enter Try.func11, Try.ntmps11
              go_wp2_with (first | ((with_reducible refine gate_callee (f := 34) rfl ?_); refine goesL_ (some 10) rfl rfl Try.func34 (by kernel_rfl) rfl #[.slice A0 l0.length c0] rfl (by (try simp only [List.map_toArray, List.map_cons, List.map_nil]); first | done | rfl | (simp only [List.length_drop, List.length_take]; rfl)) ?_; (with_reducible refine (psalterylaw10_great.calls _ _ l0 false _ ?side1 ?side2 A2.out).mono ?_); (case side1 => repeat (first | exact HR0.out | (with_reducible refine Kd.C_alloc ?_ _) | (with_reducible refine Kd.C_drewN ?_ _) | (with_reducible refine Kd.C_drew ?_))); (case side2 => exact HC0.out); rintro e w' ⟨rfl, ⟨nd, rfl⟩⟩; refine ⟨_, rfl, ?_⟩) | ((with_reducible refine gate_callee (f := 38) rfl ?_); refine goesL_ (some 14) rfl rfl Try.func38 (by kernel_rfl) rfl #[.slice A0 l0.length c0] rfl (by (try simp only [List.map_toArray, List.map_cons, List.map_nil]); first | done | rfl | (simp only [List.length_drop, List.length_take]; rfl)) ?_; (with_reducible refine (band_Split.calls k _ _ l0 t362 t365 _ ?side1 ?side2 A6.out).mono ?_); (case side1 => repeat (first | exact HR0.out | (with_reducible refine Kd.C_alloc ?_ _) | (with_reducible refine Kd.C_drewN ?_ _) | (with_reducible refine Kd.C_drew ?_))); (case side2 => exact HC0.out); rintro e w45 ⟨v363, rfl, ho0, hb⟩; refine ⟨_, rfl, ?_⟩; have n0_ := Aside0.mk (Kd.N_lower (Kd.N_mono (ok' := fun k_ => True) ho0 (fun k_ hk_ => trivial)) (below_size (by repeat (first | (with_reducible first | exact HB.out | apply below_alloc | apply pw_below_drewN | apply below_drew1) | exact HB.out)))); have n1_ := Aside0.mk (below_step (by repeat (first | (with_reducible first | exact HB.out | apply below_alloc | apply pw_below_drewN | apply below_drew1) | exact HB.out)) hb); clear HB; have HO364 := n0_; have HB := n1_; clear n0_ n1_; (try clear hb); (try clear hb2); (try clear hk); (try clear hi); (try clear ho0)) | ((with_reducible refine gate_callee (f := 39) rfl ?_); refine goesL_ (some 19) rfl rfl Try.func39 (by kernel_rfl) rfl #[.slice A0 l0.length c0] rfl (by (try simp only [List.map_toArray, List.map_cons, List.map_nil]); first | done | rfl | (simp only [List.length_drop, List.length_take]; rfl)) ?_; (with_reducible refine (band_Gains.calls k _ _ l0 t366 t367 _ ?side1 ?side2 A7.out).mono ?_); (case side1 => repeat (first | exact (Kd.C_below HR0.out HB.out) | (with_reducible refine Kd.C_alloc ?_ _) | (with_reducible refine Kd.C_drewN ?_ _) | (with_reducible refine Kd.C_drew ?_))); (case side2 => exact HC0.out); rintro e w46 ⟨v368, rfl, ho0, hb⟩; refine ⟨_, rfl, ?_⟩; have n0_ := Aside0.mk (Kd.N_elder' (by (with_reducible repeat (first | apply Kd.N_alloc | apply Kd.N_drewN | apply Kd.N_drew)); exact HO364.out) (Kd.R_base ho0) hb); have n1_ := Aside0.mk (Kd.R_lower ho0 (below_size (by repeat (first | (with_reducible first | exact HB.out | apply below_alloc | apply pw_below_drewN | apply below_drew1) | exact HB.out)))); have n2_ := Aside0.mk (below_step (by repeat (first | (with_reducible first | exact HB.out | apply below_alloc | apply pw_below_drewN | apply below_drew1) | exact HB.out)) hb); clear HO364; clear HB; have HO364 := n0_; have HO369 := n1_; have HB := n2_; clear n0_ n1_ n2_; (try clear hb); (try clear hb2); (try clear hk); (try clear hi); (try clear ho0)) | ((with_reducible refine gate_callee (f := 40) rfl ?_); refine goesL_ (some 23) rfl rfl Try.func40 (by kernel_rfl) rfl #[.slice A0 l0.length c0] rfl (by (try simp only [List.map_toArray, List.map_cons, List.map_nil]); first | done | rfl | (simp only [List.length_drop, List.length_take]; rfl)) ?_; (with_reducible refine (psalteryref10_Fair.calls k _ _ l0 false _ ?side1 ?side2 A8.out).mono ?_); (case side1 => repeat (first | exact (Kd.C_below HR0.out HB.out) | (with_reducible refine Kd.C_alloc ?_ _) | (with_reducible refine Kd.C_drewN ?_ _) | (with_reducible refine Kd.C_drew ?_))); (case side2 => exact HC0.out); rintro e w' ⟨rfl, ⟨nd, rfl⟩⟩; refine ⟨_, rfl, ?_⟩; obtain ⟨Ao47, co47, eo47⟩ := Kd.N_slice HO364.out; subst eo47; obtain ⟨Ao48, co48, eo48⟩ := Kd.R_slice HO369.out; subst eo48) | (go_at_call 33; (with_reducible refine (psalterylaw10_knows.calls k  t371 _ A44.out).mono ?_); rintro e w49 ⟨rfl, hb⟩; have n0_ := Aside0.mk (Kd.N_below (by (with_reducible repeat (first | apply Kd.N_alloc | apply Kd.N_drewN | apply Kd.N_drew)); exact HO364.out) hb); have n1_ := Aside0.mk (Kd.R_below (by (with_reducible repeat (first | apply Kd.R_alloc | apply Kd.R_drewN | apply Kd.R_drew)); exact HO369.out) hb); have n2_ := Aside0.mk (below_step (by repeat (first | (with_reducible first | exact HB.out | apply below_alloc | apply pw_below_drewN | apply below_drew1) | exact HB.out)) hb); clear HO364; clear HO369; clear HB; have HO364 := n0_; have HO369 := n1_; have HB := n2_; clear n0_ n1_ n2_; (try clear hb); (try clear hb2); (try clear hk); (try clear hi)))
              go_ret
              exact ⟨by first | rfl | (simp [errW_none, errW_some] <;> rfl) | (simp [*, errW_none, errW_some] <;> rfl), by repeat (first | (with_reducible first | exact HB.out | apply below_alloc | apply pw_below_drewN | apply below_drew1) | exact HB.out)⟩
            · rw [if_neg c43] at H
              have c43b0 : (t367 == 1) = false := beq_eq_false_iff_ne.mpr c43
              have c43b1 : (t367 != 1) = true := bne_iff_ne.mpr c43
              exact absurd ((Option.some.inj H).trans HT.out) (by decide)
          · rw [if_neg c42] at H
            have c42b0 : ((t366.length : Int) == 0) = false := beq_eq_false_iff_ne.mpr c42
            have c42b1 : ((t366.length : Int) != 0) = true := bne_iff_ne.mpr c42
            have c42b2 : ¬ (t366 = []) := fun h_ => c42 (by rw [h_]; rfl)
            exact absurd ((Option.some.inj H).trans HT.out) (by decide)
        · rw [if_neg c41] at H
          have c41b0 : (t365 == 1) = false := beq_eq_false_iff_ne.mpr c41
          have c41b1 : (t365 != 1) = true := bne_iff_ne.mpr c41
          exact absurd ((Option.some.inj H).trans HT.out) (by decide)
      · rw [if_neg c40] at H
        have c40b0 : ((t362.length : Int) == 0) = false := beq_eq_false_iff_ne.mpr c40
        have c40b1 : ((t362.length : Int) != 0) = true := bne_iff_ne.mpr c40
        have c40b2 : ¬ (t362 = []) := fun h_ => c40 (by rw [h_]; rfl)
        exact absurd ((Option.some.inj H).trans HT.out) (by decide)

/-- THE ONE PURE STATEMENT of psalterylaw10_BandSplits: yours. -/
def psalterylaw10_BandSplits.Pure : Prop := ∀ (l0 : List Int), l0.length ≤ maxLen → l0.length * 8 ≤ 140737488351232 → (∀ x ∈ l0, (Lit.int .i64 x).wf = true) → ∃ k, psalterylaw10_BandSplits.f k l0 = some true
theorem psalterylaw10_BandSplits.walk (P : psalterylaw10_BandSplits.Pure) (a0 : Option Addr) (len0 cap0 : Nat) (z0 : List Int) (w : World) (w0 : (a0 = none ∧ len0 = 0 ∧ cap0 = 0 ∧ z0 = []) ∨ ∃ x, a0 = some x ∧ len0 ≤ cap0 ∧ cap0 ≤ maxLen ∧ z0.length = cap0 ∧ (∀ i, i < z0.length → w.cell? (x.add i) = some (.int .i64 (z0.getD i 0))) ∧ ∀ n ∈ z0, (Lit.int .i64 n).wf = true) (y0 : len0 * 8 ≤ 140737488351232) :
    Calls Try.prog 11 #[.slice a0 len0 cap0] w fun e w' => e = .returned (.bool true) ∧ Below w.heap.size w w' := by
  obtain ⟨l0, rfl, hr0, hm0, hw0, hc0⟩ := ReadsInt.ofRowC w0
  obtain ⟨k, h⟩ := P l0 hm0 y0 hw0
  refine (psalterylaw10_BandSplits.calls k _ _ l0 true w (Kd.C_of_reads (d := (0 : Int)) (h1 := fun _ => rfl) hr0) hc0 h rfl).mono ?_
  rintro e w' ⟨rfl, hd⟩
  exact ⟨rfl, hd⟩

end Go.Proofs.Ytoghpjggcfnoeaa.P
