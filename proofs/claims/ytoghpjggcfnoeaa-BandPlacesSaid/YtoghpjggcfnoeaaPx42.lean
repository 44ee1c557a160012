-- PRINTED by print.py (a twelfth state) out of the translation. Not trusted: Lean checks it.
import Derived.Test.YtoghpjggcfnoeaaPx0
import Derived.Test.YtoghpjggcfnoeaaPx7
import Derived.Test.YtoghpjggcfnoeaaPx19
import Derived.Test.YtoghpjggcfnoeaaPx29
import Derived.Test.YtoghpjggcfnoeaaPx30
import Derived.Test.YtoghpjggcfnoeaaPx31
import Derived.Test.YtoghpjggcfnoeaaPx32
import Derived.Test.YtoghpjggcfnoeaaPx41
namespace Go.Proofs.Ytoghpjggcfnoeaa.P
open Go.RowKit Go.Proofs.YtoghpjggcfnoeaaW.PrintWords Go.Proofs.YtoghpjggcfnoeaaW.PrintLast Go.Proofs.YtoghpjggcfnoeaaW.PrintMore
attribute [local go_sem] max2_int min2_int max_two min_two max_three min_three max_four min_four   -- for this text's walks alone
set_option linter.unusedVariables false
set_option linter.unusedSimpArgs false

/-! ### psalterylaw10_BandPlaces: function 9 -/
def psalterylaw10_BandPlaces.f (k : Nat) (a0 : Int) (a1 : Int) : Option (Bool) := (band_From.f a0).bind fun t326 => ((psalteryref10_From.f a0).bind fun t327 => (if t326 = t327 then ((band_Width.f a0).bind fun t328 => ((psalteryref10_Width.f k a0).bind fun t329 => (if t328 = t329 then ((band_Value.f k a1).bind fun t330 => ((psalteryref10_Value.f k a1).bind fun t331 => (if t330 = t331 then ((psalterylaw10_knows.f k).bind fun t332 => (some t332)) else (some false)))) else (some false)))) else (some false)))
theorem psalterylaw10_BandPlaces.mono : ∀ a0 a1 k, LeO (psalterylaw10_BandPlaces.f k a0 a1) (psalterylaw10_BandPlaces.f (k + 1) a0 a1) := by
  intro a0 a1 k
  unfold psalterylaw10_BandPlaces.f
  repeat' first
      | (with_reducible exact band_Value.mono _ _)
      | (with_reducible exact psalterylaw10_knows.mono _)
      | (with_reducible exact psalteryref10_Value.mono _ _)
      | (with_reducible exact psalteryref10_Width.mono _ _)
      | (with_reducible exact LeO.refl _)
      | (with_reducible exact LeO.none _)
      | (with_reducible refine LeO.ite ?_ ?_)
      | (with_reducible refine LeO.bind ?_ (fun _ => ?_))
      | exact band_Value.mono _ _
      | exact psalterylaw10_knows.mono _
      | exact psalteryref10_Value.mono _ _
      | exact psalteryref10_Width.mono _ _
      | exact LeO.none _
      | refine LeO.ite ?_ ?_
      | refine LeO.bind ?_ (fun _ => ?_)
set_option maxHeartbeats 8000000 in
set_option maxRecDepth 100000 in
theorem psalterylaw10_BandPlaces.calls (k : Nat) (a0 : Int) (a1 : Int) (r : Bool) (w : World) (h : psalterylaw10_BandPlaces.f k a0 a1 = some r) (hT : r = true) :
    Calls Try.prog 9 #[.int .i64 a0, .int .i64 a1] w fun e w' => e = .returned (.bool r) ∧ Below w.heap.size w w' := by
  have HB := Aside0.mk (Below.refl w.heap.size w)
  have H : ((band_From.f a0).bind fun t326 => ((psalteryref10_From.f a0).bind fun t327 => (if t326 = t327 then ((band_Width.f a0).bind fun t328 => ((psalteryref10_Width.f k a0).bind fun t329 => (if t328 = t329 then ((band_Value.f k a1).bind fun t330 => ((psalteryref10_Value.f k a1).bind fun t331 => (if t330 = t331 then ((psalterylaw10_knows.f k).bind fun t332 => (some t332)) else (some false)))) else (some false)))) else (some false)))) = some r := h
  clear h
  have HT := Aside0.mk hT
  clear hT
  replace H := Option.bind_eq_some_iff.mp H
  obtain ⟨t326, A30, H⟩ := H
  replace H : ((psalteryref10_From.f a0).bind fun t327 => (if t326 = t327 then ((band_Width.f a0).bind fun t328 => ((psalteryref10_Width.f k a0).bind fun t329 => (if t328 = t329 then ((band_Value.f k a1).bind fun t330 => ((psalteryref10_Value.f k a1).bind fun t331 => (if t330 = t331 then ((psalterylaw10_knows.f k).bind fun t332 => (some t332)) else (some false)))) else (some false)))) else (some false))) = some r := H
  have A3 := Aside0.mk A30
  clear A30
  replace H := Option.bind_eq_some_iff.mp H
  obtain ⟨t327, A40, H⟩ := H
  replace H : (if t326 = t327 then ((band_Width.f a0).bind fun t328 => ((psalteryref10_Width.f k a0).bind fun t329 => (if t328 = t329 then ((band_Value.f k a1).bind fun t330 => ((psalteryref10_Value.f k a1).bind fun t331 => (if t330 = t331 then ((psalterylaw10_knows.f k).bind fun t332 => (some t332)) else (some false)))) else (some false)))) else (some false)) = some r := H
  have A4 := Aside0.mk A40
  clear A40
  by_cases c5 : t326 = t327
  · rw [if_pos c5] at H
    have c5b0 : (t326 == t327) = true := beq_iff_eq.mpr c5
    have c5b1 : (t326 != t327) = false := bne_eq_false_iff_eq.mpr c5
    clear c5
    replace H := Option.bind_eq_some_iff.mp H
    obtain ⟨t328, A60, H⟩ := H
    replace H : ((psalteryref10_Width.f k a0).bind fun t329 => (if t328 = t329 then ((band_Value.f k a1).bind fun t330 => ((psalteryref10_Value.f k a1).bind fun t331 => (if t330 = t331 then ((psalterylaw10_knows.f k).bind fun t332 => (some t332)) else (some false)))) else (some false))) = some r := H
    have A6 := Aside0.mk A60
    clear A60
    replace H := Option.bind_eq_some_iff.mp H
    obtain ⟨t329, A70, H⟩ := H
    replace H : (if t328 = t329 then ((band_Value.f k a1).bind fun t330 => ((psalteryref10_Value.f k a1).bind fun t331 => (if t330 = t331 then ((psalterylaw10_knows.f k).bind fun t332 => (some t332)) else (some false)))) else (some false)) = some r := H
    have A7 := Aside0.mk A70
    clear A70
    by_cases c8 : t328 = t329
    · rw [if_pos c8] at H
      have c8b0 : (t328 == t329) = true := beq_iff_eq.mpr c8
      have c8b1 : (t328 != t329) = false := bne_eq_false_iff_eq.mpr c8
      clear c8
      replace H := Option.bind_eq_some_iff.mp H
      obtain ⟨t330, A90, H⟩ := H
      replace H : ((psalteryref10_Value.f k a1).bind fun t331 => (if t330 = t331 then ((psalterylaw10_knows.f k).bind fun t332 => (some t332)) else (some false))) = some r := H
      have A9 := Aside0.mk A90
      clear A90
      replace H := Option.bind_eq_some_iff.mp H
      obtain ⟨t331, A100, H⟩ := H
      replace H : (if t330 = t331 then ((psalterylaw10_knows.f k).bind fun t332 => (some t332)) else (some false)) = some r := H
      have A10 := Aside0.mk A100
      clear A100
      by_cases c11 : t330 = t331
      · rw [if_pos c11] at H
        have c11b0 : (t330 == t331) = true := beq_iff_eq.mpr c11
        have c11b1 : (t330 != t331) = false := bne_eq_false_iff_eq.mpr c11
        clear c11
        replace H := Option.bind_eq_some_iff.mp H
        obtain ⟨t332, A120, H⟩ := H
        replace H : (some t332) = some r := H
        have A12 := Aside0.mk A120
        clear A120
        obtain rfl := Option.some.inj H
        go_enter Try.func9, Try.ntmps9
        go_wp2_with (first | ((with_reducible refine gate_callee (f := 28) rfl ?_); refine goesL_ (some 6) rfl rfl Try.func28 (by kernel_rfl) rfl #[.int .i64 a0] rfl (by (try simp only [List.map_toArray, List.map_cons, List.map_nil]); first | done | rfl | (simp only [List.length_drop, List.length_take]; rfl)) ?_; (with_reducible refine (band_From.calls a0 t326 _ A3.out).mono ?_); rintro e w' ⟨rfl, ⟨nd, rfl⟩⟩; refine ⟨_, rfl, ?_⟩) | ((with_reducible refine gate_callee (f := 29) rfl ?_); refine goesL_ (some 8) rfl rfl Try.func29 (by kernel_rfl) rfl #[.int .i64 a0] rfl (by (try simp only [List.map_toArray, List.map_cons, List.map_nil]); first | done | rfl | (simp only [List.length_drop, List.length_take]; rfl)) ?_; (with_reducible refine (psalteryref10_From.calls a0 t327 _ A4.out).mono ?_); rintro e w' ⟨rfl, ⟨nd, rfl⟩⟩; refine ⟨_, rfl, ?_⟩) | (go_at_call 30; (with_reducible refine (band_Width.calls a0 t328 _ A6.out).mono ?_); rintro e w13 ⟨rfl, hb⟩; have n0_ := Aside0.mk (below_step (by repeat (first | (with_reducible first | exact HB.out | apply below_alloc | apply pw_below_drewN | apply below_drew1) | exact HB.out)) hb); clear HB; have HB := n0_; clear n0_; (try clear hb); (try clear hb2); (try clear hk); (try clear hi)) | (go_at_call 31; (with_reducible refine (psalteryref10_Width.calls k a0 t329 _ A7.out).mono ?_); rintro e w' ⟨rfl, ⟨nd, rfl⟩⟩) | (go_at_call 32; (with_reducible refine (band_Value.calls k a1 t330 _ A9.out).mono ?_); rintro e w' ⟨rfl, ⟨nd, rfl⟩⟩) | (go_at_call 27; (with_reducible refine (psalteryref10_Value.calls k a1 t331 _ A10.out).mono ?_); rintro e w' ⟨rfl, ⟨nd, rfl⟩⟩) | (go_at_call 33; (with_reducible refine (psalterylaw10_knows.calls k  t332 _ A12.out).mono ?_); rintro e w14 ⟨rfl, hb⟩; have n0_ := Aside0.mk (below_step (by repeat (first | (with_reducible first | exact HB.out | apply below_alloc | apply pw_below_drewN | apply below_drew1) | exact HB.out)) hb); clear HB; have HB := n0_; clear n0_; (try clear hb); (try clear hb2); (try clear hk); (try clear hi)))
        go_ret
        exact ⟨by first | rfl | (simp [errW_none, errW_some] <;> rfl) | (simp [*, errW_none, errW_some] <;> rfl), by repeat (first | (with_reducible first | exact HB.out | apply below_alloc | apply pw_below_drewN | apply below_drew1) | exact HB.out)⟩
      · rw [if_neg c11] at H
        have c11b0 : (t330 == t331) = false := beq_eq_false_iff_ne.mpr c11
        have c11b1 : (t330 != t331) = true := bne_iff_ne.mpr c11
        exact absurd ((Option.some.inj H).trans HT.out) (by decide)
    · rw [if_neg c8] at H
      have c8b0 : (t328 == t329) = false := beq_eq_false_iff_ne.mpr c8
      have c8b1 : (t328 != t329) = true := bne_iff_ne.mpr c8
      exact absurd ((Option.some.inj H).trans HT.out) (by decide)
  · rw [if_neg c5] at H
    have c5b0 : (t326 == t327) = false := beq_eq_false_iff_ne.mpr c5
    have c5b1 : (t326 != t327) = true := bne_iff_ne.mpr c5
    exact absurd ((Option.some.inj H).trans HT.out) (by decide)

/-- THE ONE PURE STATEMENT of psalterylaw10_BandPlaces: yours. -/
def psalterylaw10_BandPlaces.Pure : Prop := ∀ (a0 : Int) (a1 : Int), (Lit.int .i64 a0).wf = true → (Lit.int .i64 a1).wf = true → ∃ k, psalterylaw10_BandPlaces.f k a0 a1 = some true
theorem psalterylaw10_BandPlaces.walk (P : psalterylaw10_BandPlaces.Pure) (a0 : Int) (a1 : Int) (w : World) (w0 : (Lit.int .i64 a0).wf = true) (w1 : (Lit.int .i64 a1).wf = true) :
    Calls Try.prog 9 #[.int .i64 a0, .int .i64 a1] w fun e w' => e = .returned (.bool true) ∧ Below w.heap.size w w' := by
  obtain ⟨k, h⟩ := P a0 a1 w0 w1
  refine (psalterylaw10_BandPlaces.calls k a0 a1 true w h rfl).mono ?_
  rintro e w' ⟨rfl, hd⟩
  exact ⟨rfl, hd⟩

end Go.Proofs.Ytoghpjggcfnoeaa.P
