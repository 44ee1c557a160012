-- PRINTED by print.py (a twelfth state) out of the translation. Not trusted: Lean checks it.
import Derived.Test.YtoghpjggcfnoeaaPx0
import Derived.Test.YtoghpjggcfnoeaaPx7
import Derived.Test.YtoghpjggcfnoeaaPx11
import Derived.Test.YtoghpjggcfnoeaaPx29
import Derived.Test.YtoghpjggcfnoeaaPx31
import Derived.Test.YtoghpjggcfnoeaaPx38
import Derived.Test.YtoghpjggcfnoeaaPx40
namespace Go.Proofs.Ytoghpjggcfnoeaa.P
open Go.RowKit Go.Proofs.YtoghpjggcfnoeaaW.PrintWords Go.Proofs.YtoghpjggcfnoeaaW.PrintLast Go.Proofs.YtoghpjggcfnoeaaW.PrintMore
attribute [local go_sem] max2_int min2_int max_two min_two max_three min_three max_four min_four   -- for this text's walks alone
set_option linter.unusedVariables false
set_option linter.unusedSimpArgs false

/-! ### psalterylaw10_knows: function 33 -/
def psalterylaw10_knows.f (k : Nat)  : Option (Bool) := (band_Gain.f k (([3, (-4)] : List Int))).bind fun bt308 => ((band_Gains.f k (([1, 0, 3, (-4), 0, 0, 0, 0, 2, 0, 0, 0, 0, 0, 0, 0] : List Int))).bind fun bt313 => ((band_From.f 3).bind fun t317 => (if t317 = 4 then ((band_Width.f 3).bind fun t318 => (if t318 = 4 then (if bt308.1 = 5 then (if bt308.2 = 0 then ((band_Value.f k 5).bind fun t319 => (if t319 = 4 then ((band_Value.f k 1).bind fun t320 => (if t320 = 1 then ((band_Value.f k 0).bind fun t321 => (if t321 = 0 then ((psalteryref06_Same.f k bt313.1 (([1, 0, 5, 0, 3] : List Int))).bind fun t325 => (if t325 = true then (some (bt313.2 == 0)) else (some false))) else (some false))) else (some false))) else (some false))) else (some false)) else (some false)) else (some false))) else (some false))))
theorem psalterylaw10_knows.mono : ∀ k, LeO (psalterylaw10_knows.f k ) (psalterylaw10_knows.f (k + 1) ) := by
  intro  k
  unfold psalterylaw10_knows.f
  repeat' first
      | (with_reducible exact band_Gain.mono _ _)
      | (with_reducible exact band_Gains.mono _ _)
      | (with_reducible exact band_Value.mono _ _)
      | (with_reducible exact psalteryref06_Same.mono _ _ _)
      | (with_reducible exact LeO.refl _)
      | (with_reducible exact LeO.none _)
      | (with_reducible refine LeO.ite ?_ ?_)
      | (with_reducible refine LeO.bind ?_ (fun _ => ?_))
      | exact band_Gain.mono _ _
      | exact band_Gains.mono _ _
      | exact band_Value.mono _ _
      | exact psalteryref06_Same.mono _ _ _
      | exact LeO.none _
      | refine LeO.ite ?_ ?_
      | refine LeO.bind ?_ (fun _ => ?_)
set_option maxHeartbeats 8000000 in
set_option maxRecDepth 100000 in
theorem psalterylaw10_knows.callsT (k : Nat)  (r : Bool) (w : World) (h : psalterylaw10_knows.f k  = some r) (hT : r = true) :
    Calls Try.prog 33 #[] w fun e w' => e = .returned (.bool r) ∧ Below w.heap.size w w' := by
  have HB := Aside0.mk (Below.refl w.heap.size w)
  have H : ((band_Gain.f k (([3, (-4)] : List Int))).bind fun bt308 => ((band_Gains.f k (([1, 0, 3, (-4), 0, 0, 0, 0, 2, 0, 0, 0, 0, 0, 0, 0] : List Int))).bind fun bt313 => ((band_From.f 3).bind fun t317 => (if t317 = 4 then ((band_Width.f 3).bind fun t318 => (if t318 = 4 then (if bt308.1 = 5 then (if bt308.2 = 0 then ((band_Value.f k 5).bind fun t319 => (if t319 = 4 then ((band_Value.f k 1).bind fun t320 => (if t320 = 1 then ((band_Value.f k 0).bind fun t321 => (if t321 = 0 then ((psalteryref06_Same.f k bt313.1 (([1, 0, 5, 0, 3] : List Int))).bind fun t325 => (if t325 = true then (some (bt313.2 == 0)) else (some false))) else (some false))) else (some false))) else (some false))) else (some false)) else (some false)) else (some false))) else (some false))))) = some r := h
  clear h
  have HT := Aside0.mk hT
  clear hT
  obtain ⟨y305, hy305⟩ : ∃ y_ : List Int, y_ = (([3, (-4)] : List Int)) := ⟨_, rfl⟩
  replace H : ((band_Gain.f k y305).bind fun bt308 => ((band_Gains.f k (([1, 0, 3, (-4), 0, 0, 0, 0, 2, 0, 0, 0, 0, 0, 0, 0] : List Int))).bind fun bt313 => ((band_From.f 3).bind fun t317 => (if t317 = 4 then ((band_Width.f 3).bind fun t318 => (if t318 = 4 then (if bt308.1 = 5 then (if bt308.2 = 0 then ((band_Value.f k 5).bind fun t319 => (if t319 = 4 then ((band_Value.f k 1).bind fun t320 => (if t320 = 1 then ((band_Value.f k 0).bind fun t321 => (if t321 = 0 then ((psalteryref06_Same.f k bt313.1 (([1, 0, 5, 0, 3] : List Int))).bind fun t325 => (if t325 = true then (some (bt313.2 == 0)) else (some false))) else (some false))) else (some false))) else (some false))) else (some false)) else (some false)) else (some false))) else (some false))))) = some r := by first | (rw [hy305]; with_reducible exact H) | (have H2_ := (Option.bind_some _ _).symm.trans H; rw [hy305]; with_reducible exact H2_) | (have H2_ := (Option.bind_some _ _).symm.trans H; with_reducible exact H2_) | with_reducible exact H | (rw [hy305]; exact H) | exact H
  have Ny305 := Aside0.mk hy305
  clear hy305
  replace H := Option.bind_eq_some_iff.mp H
  obtain ⟨⟨t308, t309⟩, A10, H⟩ := H
  replace H : ((band_Gains.f k (([1, 0, 3, (-4), 0, 0, 0, 0, 2, 0, 0, 0, 0, 0, 0, 0] : List Int))).bind fun bt313 => ((band_From.f 3).bind fun t317 => (if t317 = 4 then ((band_Width.f 3).bind fun t318 => (if t318 = 4 then (if t308 = 5 then (if t309 = 0 then ((band_Value.f k 5).bind fun t319 => (if t319 = 4 then ((band_Value.f k 1).bind fun t320 => (if t320 = 1 then ((band_Value.f k 0).bind fun t321 => (if t321 = 0 then ((psalteryref06_Same.f k bt313.1 (([1, 0, 5, 0, 3] : List Int))).bind fun t325 => (if t325 = true then (some (bt313.2 == 0)) else (some false))) else (some false))) else (some false))) else (some false))) else (some false)) else (some false)) else (some false))) else (some false)))) = some r := H
  have A1 := Aside0.mk A10
  clear A10
  obtain ⟨y310, hy310⟩ : ∃ y_ : List Int, y_ = (([1, 0, 3, (-4), 0, 0, 0, 0, 2, 0, 0, 0, 0, 0, 0, 0] : List Int)) := ⟨_, rfl⟩
  replace H : ((band_Gains.f k y310).bind fun bt313 => ((band_From.f 3).bind fun t317 => (if t317 = 4 then ((band_Width.f 3).bind fun t318 => (if t318 = 4 then (if t308 = 5 then (if t309 = 0 then ((band_Value.f k 5).bind fun t319 => (if t319 = 4 then ((band_Value.f k 1).bind fun t320 => (if t320 = 1 then ((band_Value.f k 0).bind fun t321 => (if t321 = 0 then ((psalteryref06_Same.f k bt313.1 (([1, 0, 5, 0, 3] : List Int))).bind fun t325 => (if t325 = true then (some (bt313.2 == 0)) else (some false))) else (some false))) else (some false))) else (some false))) else (some false)) else (some false)) else (some false))) else (some false)))) = some r := by first | (rw [hy310]; with_reducible exact H) | (have H2_ := (Option.bind_some _ _).symm.trans H; rw [hy310]; with_reducible exact H2_) | (have H2_ := (Option.bind_some _ _).symm.trans H; with_reducible exact H2_) | with_reducible exact H | (rw [hy310]; exact H) | exact H
  have Ny310 := Aside0.mk hy310
  clear hy310
  replace H := Option.bind_eq_some_iff.mp H
  obtain ⟨⟨t313, t314⟩, A20, H⟩ := H
  replace H : ((band_From.f 3).bind fun t317 => (if t317 = 4 then ((band_Width.f 3).bind fun t318 => (if t318 = 4 then (if t308 = 5 then (if t309 = 0 then ((band_Value.f k 5).bind fun t319 => (if t319 = 4 then ((band_Value.f k 1).bind fun t320 => (if t320 = 1 then ((band_Value.f k 0).bind fun t321 => (if t321 = 0 then ((psalteryref06_Same.f k t313 (([1, 0, 5, 0, 3] : List Int))).bind fun t325 => (if t325 = true then (some (t314 == 0)) else (some false))) else (some false))) else (some false))) else (some false))) else (some false)) else (some false)) else (some false))) else (some false))) = some r := H
  have A2 := Aside0.mk A20
  clear A20
  replace H := Option.bind_eq_some_iff.mp H
  obtain ⟨t317, A30, H⟩ := H
  replace H : (if t317 = 4 then ((band_Width.f 3).bind fun t318 => (if t318 = 4 then (if t308 = 5 then (if t309 = 0 then ((band_Value.f k 5).bind fun t319 => (if t319 = 4 then ((band_Value.f k 1).bind fun t320 => (if t320 = 1 then ((band_Value.f k 0).bind fun t321 => (if t321 = 0 then ((psalteryref06_Same.f k t313 (([1, 0, 5, 0, 3] : List Int))).bind fun t325 => (if t325 = true then (some (t314 == 0)) else (some false))) else (some false))) else (some false))) else (some false))) else (some false)) else (some false)) else (some false))) else (some false)) = some r := H
  have A3 := Aside0.mk A30
  clear A30
  by_cases c4 : t317 = 4
  · rw [if_pos c4] at H
    have c4b0 : (t317 == 4) = true := beq_iff_eq.mpr c4
    have c4b1 : (t317 != 4) = false := bne_eq_false_iff_eq.mpr c4
    clear c4
    replace H := Option.bind_eq_some_iff.mp H
    obtain ⟨t318, A50, H⟩ := H
    replace H : (if t318 = 4 then (if t308 = 5 then (if t309 = 0 then ((band_Value.f k 5).bind fun t319 => (if t319 = 4 then ((band_Value.f k 1).bind fun t320 => (if t320 = 1 then ((band_Value.f k 0).bind fun t321 => (if t321 = 0 then ((psalteryref06_Same.f k t313 (([1, 0, 5, 0, 3] : List Int))).bind fun t325 => (if t325 = true then (some (t314 == 0)) else (some false))) else (some false))) else (some false))) else (some false))) else (some false)) else (some false)) else (some false)) = some r := H
    have A5 := Aside0.mk A50
    clear A50
    by_cases c6 : t318 = 4
    · rw [if_pos c6] at H
      have c6b0 : (t318 == 4) = true := beq_iff_eq.mpr c6
      have c6b1 : (t318 != 4) = false := bne_eq_false_iff_eq.mpr c6
      clear c6
      by_cases c7 : t308 = 5
      · rw [if_pos c7] at H
        have c7b0 : (t308 == 5) = true := beq_iff_eq.mpr c7
        have c7b1 : (t308 != 5) = false := bne_eq_false_iff_eq.mpr c7
        clear c7
        by_cases c8 : t309 = 0
        · rw [if_pos c8] at H
          have c8b0 : (t309 == 0) = true := beq_iff_eq.mpr c8
          have c8b1 : (t309 != 0) = false := bne_eq_false_iff_eq.mpr c8
          clear c8
          replace H := Option.bind_eq_some_iff.mp H
          obtain ⟨t319, A90, H⟩ := H
          replace H : (if t319 = 4 then ((band_Value.f k 1).bind fun t320 => (if t320 = 1 then ((band_Value.f k 0).bind fun t321 => (if t321 = 0 then ((psalteryref06_Same.f k t313 (([1, 0, 5, 0, 3] : List Int))).bind fun t325 => (if t325 = true then (some (t314 == 0)) else (some false))) else (some false))) else (some false))) else (some false)) = some r := H
          have A9 := Aside0.mk A90
          clear A90
          by_cases c10 : t319 = 4
          · rw [if_pos c10] at H
            have c10b0 : (t319 == 4) = true := beq_iff_eq.mpr c10
            have c10b1 : (t319 != 4) = false := bne_eq_false_iff_eq.mpr c10
            clear c10
            replace H := Option.bind_eq_some_iff.mp H
            obtain ⟨t320, A110, H⟩ := H
            replace H : (if t320 = 1 then ((band_Value.f k 0).bind fun t321 => (if t321 = 0 then ((psalteryref06_Same.f k t313 (([1, 0, 5, 0, 3] : List Int))).bind fun t325 => (if t325 = true then (some (t314 == 0)) else (some false))) else (some false))) else (some false)) = some r := H
            have A11 := Aside0.mk A110
            clear A110
            by_cases c12 : t320 = 1
            · rw [if_pos c12] at H
              have c12b0 : (t320 == 1) = true := beq_iff_eq.mpr c12
              have c12b1 : (t320 != 1) = false := bne_eq_false_iff_eq.mpr c12
              clear c12
              replace H := Option.bind_eq_some_iff.mp H
              obtain ⟨t321, A130, H⟩ := H
              replace H : (if t321 = 0 then ((psalteryref06_Same.f k t313 (([1, 0, 5, 0, 3] : List Int))).bind fun t325 => (if t325 = true then (some (t314 == 0)) else (some false))) else (some false)) = some r := H
              have A13 := Aside0.mk A130
              clear A130
              by_cases c14 : t321 = 0
              · rw [if_pos c14] at H
                have c14b0 : (t321 == 0) = true := beq_iff_eq.mpr c14
                have c14b1 : (t321 != 0) = false := bne_eq_false_iff_eq.mpr c14
                clear c14
                obtain ⟨y322, hy322⟩ : ∃ y_ : List Int, y_ = (([1, 0, 5, 0, 3] : List Int)) := ⟨_, rfl⟩
                replace H : ((psalteryref06_Same.f k t313 y322).bind fun t325 => (if t325 = true then (some (t314 == 0)) else (some false))) = some r := by first | (rw [hy322]; with_reducible exact H) | (have H2_ := (Option.bind_some _ _).symm.trans H; rw [hy322]; with_reducible exact H2_) | (have H2_ := (Option.bind_some _ _).symm.trans H; with_reducible exact H2_) | with_reducible exact H | (rw [hy322]; exact H) | exact H
                have Ny322 := Aside0.mk hy322
                clear hy322
                replace H := Option.bind_eq_some_iff.mp H
                obtain ⟨t325, A150, H⟩ := H
                replace H : (if t325 = true then (some (t314 == 0)) else (some false)) = some r := H
                have A15 := Aside0.mk A150
                clear A150
                by_cases c16 : t325 = true
                · subst c16
                  have H1 : (some (t314 == 0)) = some r := by rw [if_pos rfl] at H; exact H
                  clear H
                  have H := H1
                  clear H1
                  obtain rfl := Option.some.inj H
                  go_enter Try.func33, Try.ntmps33
                  go_wp2_with (first | ((with_reducible refine gate_dst (N := 6) rfl ?_); (try (refine gate_guard (by rfl) ?_; dsimp only)); refine Kd.R_lit (Kd.int .i64) _ 2 ?hg (N := 6) ?hd (xs := ([3, (-4)] : List Int)) (inner := [.int .i64 3, .int .i64 (-4)]) (ok := fun _ => True) (okp := fun _ => True) ?hr ?hp (fun _ hk => hk) trivial (Below.refl _ _) (Nat.le_refl _) (by simp) ?_; (case hd => rfl); (case hg => rfl); (case hr => first | (go_simp; done) | (go_simp; rfl)); (case hp => exact (Reps.one (show Kd.M (Kd.int .i64) _ _ _ 3 [.int .i64 3] from rfl) (Reps.one (show Kd.M (Kd.int .i64) _ _ _ (-4) [.int .i64 (-4)] from rfl) (Reps.none _ _)))); intro v306 w17 ho18 hb hg_ hnew_; clear hg_ hnew_; (first | rw [← Ny305.out] at ho18 | (simp only [Int.reduceToNat] at ho18; rw [← Ny305.out] at ho18)); have n0_ := Aside0.mk (Kd.R_lower ho18 (below_size (by repeat (first | (with_reducible first | exact HB.out | apply below_alloc | apply pw_below_drewN | apply below_drew1) | exact HB.out)))); have n1_ := Aside0.mk (below_step (by repeat (first | (with_reducible first | exact HB.out | apply below_alloc | apply pw_below_drewN | apply below_drew1) | exact HB.out)) hb); clear HB; have HO307 := n0_; have HB := n1_; clear n0_ n1_; clear hb ho18; obtain ⟨Ao19, co19, eo19⟩ := Kd.R_slice HO307.out; subst eo19) | ((with_reducible refine gate_callee (f := 35) rfl ?_); refine goesL_ (some 7) rfl rfl Try.func35 (by kernel_rfl) rfl #[.slice Ao19 y305.length co19] rfl (by (try simp only [List.map_toArray, List.map_cons, List.map_nil]); first | done | rfl | (simp only [List.length_drop, List.length_take]; rfl)) ?_; (with_reducible refine (band_Gain.calls k _ _ y305 t308 t309 _ ?side1 ?side2 A1.out).mono ?_); (case side1 => repeat (first | exact (Kd.R_reads' HO307.out).2.2 | (with_reducible refine Kd.C_alloc ?_ _) | (with_reducible refine Kd.C_drewN ?_ _) | (with_reducible refine Kd.C_drew ?_))); (case side2 => exact (Kd.R_reads' HO307.out).2.1); rintro e w' ⟨rfl, ⟨nd, rfl⟩⟩; refine ⟨_, rfl, ?_⟩) | ((with_reducible refine gate_dst (N := 11) rfl ?_); (try (refine gate_guard (by rfl) ?_; dsimp only)); refine Kd.R_lit (Kd.int .i64) _ 2 ?hg (N := 11) ?hd (xs := ([1, 0, 3, (-4), 0, 0, 0, 0, 2, 0, 0, 0, 0, 0, 0, 0] : List Int)) (inner := [.int .i64 1, .int .i64 0, .int .i64 3, .int .i64 (-4), .int .i64 0, .int .i64 0, .int .i64 0, .int .i64 0, .int .i64 2, .int .i64 0, .int .i64 0, .int .i64 0, .int .i64 0, .int .i64 0, .int .i64 0, .int .i64 0]) (ok := fun _ => True) (okp := fun _ => True) ?hr ?hp (fun _ hk => hk) trivial (Below.refl _ _) (Nat.le_refl _) (by simp) ?_; (case hd => rfl); (case hg => rfl); (case hr => first | (go_simp; done) | (go_simp; rfl)); (case hp => exact (Reps.one (show Kd.M (Kd.int .i64) _ _ _ 1 [.int .i64 1] from rfl) (Reps.one (show Kd.M (Kd.int .i64) _ _ _ 0 [.int .i64 0] from rfl) (Reps.one (show Kd.M (Kd.int .i64) _ _ _ 3 [.int .i64 3] from rfl) (Reps.one (show Kd.M (Kd.int .i64) _ _ _ (-4) [.int .i64 (-4)] from rfl) (Reps.one (show Kd.M (Kd.int .i64) _ _ _ 0 [.int .i64 0] from rfl) (Reps.one (show Kd.M (Kd.int .i64) _ _ _ 0 [.int .i64 0] from rfl) (Reps.one (show Kd.M (Kd.int .i64) _ _ _ 0 [.int .i64 0] from rfl) (Reps.one (show Kd.M (Kd.int .i64) _ _ _ 0 [.int .i64 0] from rfl) (Reps.one (show Kd.M (Kd.int .i64) _ _ _ 2 [.int .i64 2] from rfl) (Reps.one (show Kd.M (Kd.int .i64) _ _ _ 0 [.int .i64 0] from rfl) (Reps.one (show Kd.M (Kd.int .i64) _ _ _ 0 [.int .i64 0] from rfl) (Reps.one (show Kd.M (Kd.int .i64) _ _ _ 0 [.int .i64 0] from rfl) (Reps.one (show Kd.M (Kd.int .i64) _ _ _ 0 [.int .i64 0] from rfl) (Reps.one (show Kd.M (Kd.int .i64) _ _ _ 0 [.int .i64 0] from rfl) (Reps.one (show Kd.M (Kd.int .i64) _ _ _ 0 [.int .i64 0] from rfl) (Reps.one (show Kd.M (Kd.int .i64) _ _ _ 0 [.int .i64 0] from rfl) (Reps.none _ _)))))))))))))))))); intro v311 w20 ho21 hb hg_ hnew_; clear hg_ hnew_; (first | rw [← Ny310.out] at ho21 | (simp only [Int.reduceToNat] at ho21; rw [← Ny310.out] at ho21)); have n0_ := Aside0.mk (Kd.R_elder' (by (with_reducible repeat (first | apply Kd.R_alloc | apply Kd.R_drewN | apply Kd.R_drew)); exact HO307.out) (Kd.R_base ho21) hb); have n1_ := Aside0.mk (Kd.R_lower (Kd.R_new' ho21 (Kd.R_lt (by (with_reducible repeat (first | apply Kd.R_alloc | apply Kd.R_drewN | apply Kd.R_drew)); exact HO307.out))) (below_size (by repeat (first | (with_reducible first | exact HB.out | apply below_alloc | apply pw_below_drewN | apply below_drew1) | exact HB.out)))); have n2_ := Aside0.mk (below_step (by repeat (first | (with_reducible first | exact HB.out | apply below_alloc | apply pw_below_drewN | apply below_drew1) | exact HB.out)) hb); clear HO307; clear HB; have HO307 := n0_; have HO312 := n1_; have HB := n2_; clear n0_ n1_ n2_; clear hb ho21; obtain ⟨Ao22, co22, eo22⟩ := Kd.R_slice HO312.out; subst eo22) | ((with_reducible refine gate_callee (f := 39) rfl ?_); refine goesL_ (some 12) rfl rfl Try.func39 (by kernel_rfl) rfl #[.slice Ao22 y310.length co22] rfl (by (try simp only [List.map_toArray, List.map_cons, List.map_nil]); first | done | rfl | (simp only [List.length_drop, List.length_take]; rfl)) ?_; (with_reducible refine (band_Gains.calls k _ _ y310 t313 t314 _ ?side1 ?side2 A2.out).mono ?_); (case side1 => repeat (first | exact (Kd.R_reads' HO312.out).2.2 | (with_reducible refine Kd.C_alloc ?_ _) | (with_reducible refine Kd.C_drewN ?_ _) | (with_reducible refine Kd.C_drew ?_))); (case side2 => exact (Kd.R_reads' HO312.out).2.1); rintro e w23 ⟨v315, rfl, ho0, hb⟩; refine ⟨_, rfl, ?_⟩; have n0_ := Aside0.mk (Kd.R_below (by (with_reducible repeat (first | apply Kd.R_alloc | apply Kd.R_drewN | apply Kd.R_drew)); exact HO307.out) hb); have n1_ := Aside0.mk (Kd.R_below (by (with_reducible repeat (first | apply Kd.R_alloc | apply Kd.R_drewN | apply Kd.R_drew)); exact HO312.out) hb); have n2_ := Aside0.mk (Kd.R_lower ho0 (below_size (by repeat (first | (with_reducible first | exact HB.out | apply below_alloc | apply pw_below_drewN | apply below_drew1) | exact HB.out)))); have n3_ := Aside0.mk (below_step (by repeat (first | (with_reducible first | exact HB.out | apply below_alloc | apply pw_below_drewN | apply below_drew1) | exact HB.out)) hb); clear HO307; clear HO312; clear HB; have HO307 := n0_; have HO312 := n1_; have HO316 := n2_; have HB := n3_; clear n0_ n1_ n2_ n3_; (try clear hb); (try clear hb2); (try clear hk); (try clear hi); (try clear ho0)) | ((with_reducible refine gate_callee (f := 28) rfl ?_); refine goesL_ (some 15) rfl rfl Try.func28 (by kernel_rfl) rfl #[.int .i64 3] rfl (by (try simp only [List.map_toArray, List.map_cons, List.map_nil]); first | done | rfl | (simp only [List.length_drop, List.length_take]; rfl)) ?_; (with_reducible refine (band_From.calls 3 t317 _ A3.out).mono ?_); rintro e w' ⟨rfl, ⟨nd, rfl⟩⟩; refine ⟨_, rfl, ?_⟩) | (go_at_call 30; (with_reducible refine (band_Width.calls 3 t318 _ A5.out).mono ?_); rintro e w24 ⟨rfl, hb⟩; have n0_ := Aside0.mk (Kd.R_below (by (with_reducible repeat (first | apply Kd.R_alloc | apply Kd.R_drewN | apply Kd.R_drew)); exact HO307.out) hb); have n1_ := Aside0.mk (Kd.R_below (by (with_reducible repeat (first | apply Kd.R_alloc | apply Kd.R_drewN | apply Kd.R_drew)); exact HO312.out) hb); have n2_ := Aside0.mk (Kd.R_below (by (with_reducible repeat (first | apply Kd.R_alloc | apply Kd.R_drewN | apply Kd.R_drew)); exact HO316.out) hb); have n3_ := Aside0.mk (below_step (by repeat (first | (with_reducible first | exact HB.out | apply below_alloc | apply pw_below_drewN | apply below_drew1) | exact HB.out)) hb); clear HO307; clear HO312; clear HO316; clear HB; have HO307 := n0_; have HO312 := n1_; have HO316 := n2_; have HB := n3_; clear n0_ n1_ n2_ n3_; (try clear hb); (try clear hb2); (try clear hk); (try clear hi)) | (go_at_call 32; (with_reducible refine (band_Value.calls k 5 t319 _ A9.out).mono ?_); rintro e w' ⟨rfl, ⟨nd, rfl⟩⟩) | (go_at_call 32; (with_reducible refine (band_Value.calls k 1 t320 _ A11.out).mono ?_); rintro e w' ⟨rfl, ⟨nd, rfl⟩⟩) | (go_at_call 32; (with_reducible refine (band_Value.calls k 0 t321 _ A13.out).mono ?_); rintro e w' ⟨rfl, ⟨nd, rfl⟩⟩) | ((with_reducible refine gate_dst (N := 43) rfl ?_); (try (refine gate_guard (by rfl) ?_; dsimp only)); refine Kd.R_lit (Kd.int .i64) _ 3 ?hg (N := 43) ?hd (xs := ([1, 0, 5, 0, 3] : List Int)) (inner := [.int .i64 1, .int .i64 0, .int .i64 5, .int .i64 0, .int .i64 3]) (ok := fun _ => True) (okp := fun _ => True) ?hr ?hp (fun _ hk => hk) trivial (Below.refl _ _) (Nat.le_refl _) (by simp) ?_; (case hd => rfl); (case hg => rfl); (case hr => first | (go_simp; done) | (go_simp; rfl)); (case hp => exact (Reps.one (show Kd.M (Kd.int .i64) _ _ _ 1 [.int .i64 1] from rfl) (Reps.one (show Kd.M (Kd.int .i64) _ _ _ 0 [.int .i64 0] from rfl) (Reps.one (show Kd.M (Kd.int .i64) _ _ _ 5 [.int .i64 5] from rfl) (Reps.one (show Kd.M (Kd.int .i64) _ _ _ 0 [.int .i64 0] from rfl) (Reps.one (show Kd.M (Kd.int .i64) _ _ _ 3 [.int .i64 3] from rfl) (Reps.none _ _))))))); intro v323 w25 ho26 hb hg_ hnew_; clear hg_ hnew_; (first | rw [← Ny322.out] at ho26 | (simp only [Int.reduceToNat] at ho26; rw [← Ny322.out] at ho26)); have n0_ := Aside0.mk (Kd.R_below (by (with_reducible repeat (first | apply Kd.R_alloc | apply Kd.R_drewN | apply Kd.R_drew)); exact HO307.out) hb); have n1_ := Aside0.mk (Kd.R_below (by (with_reducible repeat (first | apply Kd.R_alloc | apply Kd.R_drewN | apply Kd.R_drew)); exact HO312.out) hb); have n2_ := Aside0.mk (Kd.R_elder' (by (with_reducible repeat (first | apply Kd.R_alloc | apply Kd.R_drewN | apply Kd.R_drew)); exact HO316.out) (Kd.R_base ho26) hb); have n3_ := Aside0.mk (Kd.R_lower (Kd.R_new' ho26 (Kd.R_lt (by (with_reducible repeat (first | apply Kd.R_alloc | apply Kd.R_drewN | apply Kd.R_drew)); exact HO316.out))) (below_size (by repeat (first | (with_reducible first | exact HB.out | apply below_alloc | apply pw_below_drewN | apply below_drew1) | exact HB.out)))); have n4_ := Aside0.mk (below_step (by repeat (first | (with_reducible first | exact HB.out | apply below_alloc | apply pw_below_drewN | apply below_drew1) | exact HB.out)) hb); clear HO307; clear HO312; clear HO316; clear HB; have HO307 := n0_; have HO312 := n1_; have HO316 := n2_; have HO324 := n3_; have HB := n4_; clear n0_ n1_ n2_ n3_ n4_; clear hb ho26; obtain ⟨Ao27, co27, eo27⟩ := Kd.R_slice HO316.out; subst eo27; obtain ⟨Ao28, co28, eo28⟩ := Kd.R_slice HO324.out; subst eo28) | (go_at_call 43; (with_reducible refine (psalteryref06_Same.calls k _ _ t313 _ _ y322 true _ ?side1 ?side2 ?side3 ?side4 A15.out).mono ?_); (case side1 => repeat (first | exact (Kd.R_reads' HO316.out).2.2 | (with_reducible refine Kd.C_alloc ?_ _) | (with_reducible refine Kd.C_drewN ?_ _) | (with_reducible refine Kd.C_drew ?_))); (case side2 => exact (Kd.R_reads' HO316.out).2.1); (case side3 => repeat (first | exact (Kd.R_reads' HO324.out).2.2 | (with_reducible refine Kd.C_alloc ?_ _) | (with_reducible refine Kd.C_drewN ?_ _) | (with_reducible refine Kd.C_drew ?_))); (case side4 => exact (Kd.R_reads' HO324.out).2.1); rintro e w' ⟨rfl, ⟨nd, rfl⟩⟩))
                  go_ret
                  exact ⟨by first | rfl | (simp [errW_none, errW_some] <;> rfl) | (simp [*, errW_none, errW_some] <;> rfl), by repeat (first | (with_reducible first | exact HB.out | apply below_alloc | apply pw_below_drewN | apply below_drew1) | exact HB.out)⟩
                · replace c16 := Bool.eq_false_iff.mpr c16
                  subst c16
                  have H1 : (some false) = some r := by rw [if_neg (show ¬ (false = true) by decide)] at H; exact H
                  clear H
                  have H := H1
                  clear H1
                  exact absurd ((Option.some.inj H).trans HT.out) (by decide)
              · rw [if_neg c14] at H
                have c14b0 : (t321 == 0) = false := beq_eq_false_iff_ne.mpr c14
                have c14b1 : (t321 != 0) = true := bne_iff_ne.mpr c14
                exact absurd ((Option.some.inj H).trans HT.out) (by decide)
            · rw [if_neg c12] at H
              have c12b0 : (t320 == 1) = false := beq_eq_false_iff_ne.mpr c12
              have c12b1 : (t320 != 1) = true := bne_iff_ne.mpr c12
              exact absurd ((Option.some.inj H).trans HT.out) (by decide)
          · rw [if_neg c10] at H
            have c10b0 : (t319 == 4) = false := beq_eq_false_iff_ne.mpr c10
            have c10b1 : (t319 != 4) = true := bne_iff_ne.mpr c10
            exact absurd ((Option.some.inj H).trans HT.out) (by decide)
        · rw [if_neg c8] at H
          have c8b0 : (t309 == 0) = false := beq_eq_false_iff_ne.mpr c8
          have c8b1 : (t309 != 0) = true := bne_iff_ne.mpr c8
          exact absurd ((Option.some.inj H).trans HT.out) (by decide)
      · rw [if_neg c7] at H
        have c7b0 : (t308 == 5) = false := beq_eq_false_iff_ne.mpr c7
        have c7b1 : (t308 != 5) = true := bne_iff_ne.mpr c7
        exact absurd ((Option.some.inj H).trans HT.out) (by decide)
    · rw [if_neg c6] at H
      have c6b0 : (t318 == 4) = false := beq_eq_false_iff_ne.mpr c6
      have c6b1 : (t318 != 4) = true := bne_iff_ne.mpr c6
      exact absurd ((Option.some.inj H).trans HT.out) (by decide)
  · rw [if_neg c4] at H
    have c4b0 : (t317 == 4) = false := beq_eq_false_iff_ne.mpr c4
    have c4b1 : (t317 != 4) = true := bne_iff_ne.mpr c4
    exact absurd ((Option.some.inj H).trans HT.out) (by decide)
/-- The examples hold: by the kernel's own reckoning. -/
theorem psalterylaw10_knows.sure : psalterylaw10_knows.f 200 = some true := by decide +kernel
theorem psalterylaw10_knows.calls (k : Nat)  (r : Bool) (w : World) (h : psalterylaw10_knows.f k  = some r) :
    Calls Try.prog 33 #[] w fun e w' => e = .returned (.bool r) ∧ Below w.heap.size w w' :=
  psalterylaw10_knows.callsT k r w h (by
    have h1 := at_rounds (g := fun k => psalterylaw10_knows.f k) (fun k => psalterylaw10_knows.mono k) (Nat.le_add_right k 200) h
    have h2 := at_rounds (g := fun k => psalterylaw10_knows.f k) (fun k => psalterylaw10_knows.mono k) (Nat.le_add_left 200 k) psalterylaw10_knows.sure
    exact Option.some.inj (h1.symm.trans h2))

end Go.Proofs.Ytoghpjggcfnoeaa.P
