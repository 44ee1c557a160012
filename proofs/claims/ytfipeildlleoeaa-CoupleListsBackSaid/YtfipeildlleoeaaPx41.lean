-- PRINTED by print.py (a twelfth state) out of the translation. Not trusted: Lean checks it.
import Derived.Test.YtfipeildlleoeaaPx0
import Derived.Test.YtfipeildlleoeaaPx15
import Derived.Test.YtfipeildlleoeaaPx30
import Derived.Test.YtfipeildlleoeaaPx34
import Derived.Test.YtfipeildlleoeaaPx40
namespace Go.Proofs.Ytfipeildlleoeaa.P
open Go.RowKit Go.Proofs.YtfipeildlleoeaaW.PrintWords Go.Proofs.YtfipeildlleoeaaW.PrintLast Go.Proofs.YtfipeildlleoeaaW.PrintMore
attribute [local go_sem] max2_int min2_int max_two min_two max_three min_three max_four min_four   -- for this text's walks alone
set_option linter.unusedVariables false
set_option linter.unusedSimpArgs false

/-! ### psalterylaw15_knows: function 28 -/
def psalterylaw15_knows.f (k : Nat)  : Option (Bool) := (couple_Couple.f k (-3) 2).bind fun bt408 => ((couple_Part.f k bt408.1 bt408.2.1).bind fun bt411 => ((couple_CoupleAll.f k (([3, 2, 3] : List Int)) (([2, 3, (-3)] : List Int))).bind fun bt420 => (if bt408.1 = (-3) then (if bt408.2.1 = 5 then (if bt408.2.2 = 0 then (if bt411.1 = (-3) then (if bt411.2.1 = 2 then (if bt411.2.2 = 0 then ((psalteryref07_Same.f k bt420.1 (([3, 3, (-3)] : List Int))).bind fun t430 => (if t430 = true then ((psalteryref07_Same.f k bt420.2.1 (([1, (-1), (-6)] : List Int))).bind fun t434 => (if t434 = true then (some (bt420.2.2 == 0)) else (some false))) else (some false))) else (some false)) else (some false)) else (some false)) else (some false)) else (some false)) else (some false))))
theorem psalterylaw15_knows.mono : ∀ k, LeO (psalterylaw15_knows.f k ) (psalterylaw15_knows.f (k + 1) ) := by
  intro  k
  unfold psalterylaw15_knows.f
  repeat' first
      | (with_reducible exact couple_Couple.mono _ _ _)
      | (with_reducible exact couple_CoupleAll.mono _ _ _)
      | (with_reducible exact couple_Part.mono _ _ _)
      | (with_reducible exact psalteryref07_Same.mono _ _ _)
      | (with_reducible exact LeO.refl _)
      | (with_reducible exact LeO.none _)
      | (with_reducible refine LeO.ite ?_ ?_)
      | (with_reducible refine LeO.bind ?_ (fun _ => ?_))
      | exact couple_Couple.mono _ _ _
      | exact couple_CoupleAll.mono _ _ _
      | exact couple_Part.mono _ _ _
      | exact psalteryref07_Same.mono _ _ _
      | exact LeO.none _
      | refine LeO.ite ?_ ?_
      | refine LeO.bind ?_ (fun _ => ?_)
set_option maxHeartbeats 8000000 in
set_option maxRecDepth 100000 in
theorem psalterylaw15_knows.callsT (k : Nat)  (r : Bool) (w : World) (h : psalterylaw15_knows.f k  = some r) (hT : r = true) :
    Calls Try.prog 28 #[] w fun e w' => e = .returned (.bool r) ∧ Below w.heap.size w w' := by
  have HB := Aside0.mk (Below.refl w.heap.size w)
  have H : ((couple_Couple.f k (-3) 2).bind fun bt408 => ((couple_Part.f k bt408.1 bt408.2.1).bind fun bt411 => ((couple_CoupleAll.f k (([3, 2, 3] : List Int)) (([2, 3, (-3)] : List Int))).bind fun bt420 => (if bt408.1 = (-3) then (if bt408.2.1 = 5 then (if bt408.2.2 = 0 then (if bt411.1 = (-3) then (if bt411.2.1 = 2 then (if bt411.2.2 = 0 then ((psalteryref07_Same.f k bt420.1 (([3, 3, (-3)] : List Int))).bind fun t430 => (if t430 = true then ((psalteryref07_Same.f k bt420.2.1 (([1, (-1), (-6)] : List Int))).bind fun t434 => (if t434 = true then (some (bt420.2.2 == 0)) else (some false))) else (some false))) else (some false)) else (some false)) else (some false)) else (some false)) else (some false)) else (some false))))) = some r := h
  clear h
  have HT := Aside0.mk hT
  clear hT
  replace H := Option.bind_eq_some_iff.mp H
  obtain ⟨⟨t408, t409, t410⟩, A10, H⟩ := H
  replace H : ((couple_Part.f k t408 t409).bind fun bt411 => ((couple_CoupleAll.f k (([3, 2, 3] : List Int)) (([2, 3, (-3)] : List Int))).bind fun bt420 => (if t408 = (-3) then (if t409 = 5 then (if t410 = 0 then (if bt411.1 = (-3) then (if bt411.2.1 = 2 then (if bt411.2.2 = 0 then ((psalteryref07_Same.f k bt420.1 (([3, 3, (-3)] : List Int))).bind fun t430 => (if t430 = true then ((psalteryref07_Same.f k bt420.2.1 (([1, (-1), (-6)] : List Int))).bind fun t434 => (if t434 = true then (some (bt420.2.2 == 0)) else (some false))) else (some false))) else (some false)) else (some false)) else (some false)) else (some false)) else (some false)) else (some false)))) = some r := H
  have A1 := Aside0.mk A10
  clear A10
  replace H := Option.bind_eq_some_iff.mp H
  obtain ⟨⟨t411, t412, t413⟩, A20, H⟩ := H
  replace H : ((couple_CoupleAll.f k (([3, 2, 3] : List Int)) (([2, 3, (-3)] : List Int))).bind fun bt420 => (if t408 = (-3) then (if t409 = 5 then (if t410 = 0 then (if t411 = (-3) then (if t412 = 2 then (if t413 = 0 then ((psalteryref07_Same.f k bt420.1 (([3, 3, (-3)] : List Int))).bind fun t430 => (if t430 = true then ((psalteryref07_Same.f k bt420.2.1 (([1, (-1), (-6)] : List Int))).bind fun t434 => (if t434 = true then (some (bt420.2.2 == 0)) else (some false))) else (some false))) else (some false)) else (some false)) else (some false)) else (some false)) else (some false)) else (some false))) = some r := H
  have A2 := Aside0.mk A20
  clear A20
  obtain ⟨y414, hy414⟩ : ∃ y_ : List Int, y_ = (([3, 2, 3] : List Int)) := ⟨_, rfl⟩
  replace H : ((couple_CoupleAll.f k y414 (([2, 3, (-3)] : List Int))).bind fun bt420 => (if t408 = (-3) then (if t409 = 5 then (if t410 = 0 then (if t411 = (-3) then (if t412 = 2 then (if t413 = 0 then ((psalteryref07_Same.f k bt420.1 (([3, 3, (-3)] : List Int))).bind fun t430 => (if t430 = true then ((psalteryref07_Same.f k bt420.2.1 (([1, (-1), (-6)] : List Int))).bind fun t434 => (if t434 = true then (some (bt420.2.2 == 0)) else (some false))) else (some false))) else (some false)) else (some false)) else (some false)) else (some false)) else (some false)) else (some false))) = some r := by first | (rw [hy414]; with_reducible exact H) | (have H2_ := (Option.bind_some _ _).symm.trans H; rw [hy414]; with_reducible exact H2_) | (have H2_ := (Option.bind_some _ _).symm.trans H; with_reducible exact H2_) | with_reducible exact H | (rw [hy414]; exact H) | exact H
  have Ny414 := Aside0.mk hy414
  clear hy414
  obtain ⟨y417, hy417⟩ : ∃ y_ : List Int, y_ = (([2, 3, (-3)] : List Int)) := ⟨_, rfl⟩
  replace H : ((couple_CoupleAll.f k y414 y417).bind fun bt420 => (if t408 = (-3) then (if t409 = 5 then (if t410 = 0 then (if t411 = (-3) then (if t412 = 2 then (if t413 = 0 then ((psalteryref07_Same.f k bt420.1 (([3, 3, (-3)] : List Int))).bind fun t430 => (if t430 = true then ((psalteryref07_Same.f k bt420.2.1 (([1, (-1), (-6)] : List Int))).bind fun t434 => (if t434 = true then (some (bt420.2.2 == 0)) else (some false))) else (some false))) else (some false)) else (some false)) else (some false)) else (some false)) else (some false)) else (some false))) = some r := by first | (rw [hy417]; with_reducible exact H) | (have H2_ := (Option.bind_some _ _).symm.trans H; rw [hy417]; with_reducible exact H2_) | (have H2_ := (Option.bind_some _ _).symm.trans H; with_reducible exact H2_) | with_reducible exact H | (rw [hy417]; exact H) | exact H
  have Ny417 := Aside0.mk hy417
  clear hy417
  replace H := Option.bind_eq_some_iff.mp H
  obtain ⟨⟨t420, t421, t422⟩, A30, H⟩ := H
  replace H : (if t408 = (-3) then (if t409 = 5 then (if t410 = 0 then (if t411 = (-3) then (if t412 = 2 then (if t413 = 0 then ((psalteryref07_Same.f k t420 (([3, 3, (-3)] : List Int))).bind fun t430 => (if t430 = true then ((psalteryref07_Same.f k t421 (([1, (-1), (-6)] : List Int))).bind fun t434 => (if t434 = true then (some (t422 == 0)) else (some false))) else (some false))) else (some false)) else (some false)) else (some false)) else (some false)) else (some false)) else (some false)) = some r := H
  have A3 := Aside0.mk A30
  clear A30
  by_cases c4 : t408 = (-3)
  · rw [if_pos c4] at H
    have c4b0 : (t408 == (-3)) = true := beq_iff_eq.mpr c4
    have c4b1 : (t408 != (-3)) = false := bne_eq_false_iff_eq.mpr c4
    clear c4
    by_cases c5 : t409 = 5
    · rw [if_pos c5] at H
      have c5b0 : (t409 == 5) = true := beq_iff_eq.mpr c5
      have c5b1 : (t409 != 5) = false := bne_eq_false_iff_eq.mpr c5
      clear c5
      by_cases c6 : t410 = 0
      · rw [if_pos c6] at H
        have c6b0 : (t410 == 0) = true := beq_iff_eq.mpr c6
        have c6b1 : (t410 != 0) = false := bne_eq_false_iff_eq.mpr c6
        clear c6
        by_cases c7 : t411 = (-3)
        · rw [if_pos c7] at H
          have c7b0 : (t411 == (-3)) = true := beq_iff_eq.mpr c7
          have c7b1 : (t411 != (-3)) = false := bne_eq_false_iff_eq.mpr c7
          clear c7
          by_cases c8 : t412 = 2
          · rw [if_pos c8] at H
            have c8b0 : (t412 == 2) = true := beq_iff_eq.mpr c8
            have c8b1 : (t412 != 2) = false := bne_eq_false_iff_eq.mpr c8
            clear c8
            by_cases c9 : t413 = 0
            · rw [if_pos c9] at H
              have c9b0 : (t413 == 0) = true := beq_iff_eq.mpr c9
              have c9b1 : (t413 != 0) = false := bne_eq_false_iff_eq.mpr c9
              clear c9
              obtain ⟨y427, hy427⟩ : ∃ y_ : List Int, y_ = (([3, 3, (-3)] : List Int)) := ⟨_, rfl⟩
              replace H : ((psalteryref07_Same.f k t420 y427).bind fun t430 => (if t430 = true then ((psalteryref07_Same.f k t421 (([1, (-1), (-6)] : List Int))).bind fun t434 => (if t434 = true then (some (t422 == 0)) else (some false))) else (some false))) = some r := by first | (rw [hy427]; with_reducible exact H) | (have H2_ := (Option.bind_some _ _).symm.trans H; rw [hy427]; with_reducible exact H2_) | (have H2_ := (Option.bind_some _ _).symm.trans H; with_reducible exact H2_) | with_reducible exact H | (rw [hy427]; exact H) | exact H
              have Ny427 := Aside0.mk hy427
              clear hy427
              replace H := Option.bind_eq_some_iff.mp H
              obtain ⟨t430, A100, H⟩ := H
              replace H : (if t430 = true then ((psalteryref07_Same.f k t421 (([1, (-1), (-6)] : List Int))).bind fun t434 => (if t434 = true then (some (t422 == 0)) else (some false))) else (some false)) = some r := H
              have A10 := Aside0.mk A100
              clear A100
              by_cases c11 : t430 = true
              · subst c11
                have H1 : ((psalteryref07_Same.f k t421 (([1, (-1), (-6)] : List Int))).bind fun t434 => (if t434 = true then (some (t422 == 0)) else (some false))) = some r := by rw [if_pos rfl] at H; exact H
                clear H
                have H := H1
                clear H1
                obtain ⟨y431, hy431⟩ : ∃ y_ : List Int, y_ = (([1, (-1), (-6)] : List Int)) := ⟨_, rfl⟩
                replace H : ((psalteryref07_Same.f k t421 y431).bind fun t434 => (if t434 = true then (some (t422 == 0)) else (some false))) = some r := by first | (rw [hy431]; with_reducible exact H) | (have H2_ := (Option.bind_some _ _).symm.trans H; rw [hy431]; with_reducible exact H2_) | (have H2_ := (Option.bind_some _ _).symm.trans H; with_reducible exact H2_) | with_reducible exact H | (rw [hy431]; exact H) | exact H
                have Ny431 := Aside0.mk hy431
                clear hy431
                replace H := Option.bind_eq_some_iff.mp H
                obtain ⟨t434, A120, H⟩ := H
                replace H : (if t434 = true then (some (t422 == 0)) else (some false)) = some r := H
                have A12 := Aside0.mk A120
                clear A120
                by_cases c13 : t434 = true
                · subst c13
                  have H1 : (some (t422 == 0)) = some r := by rw [if_pos rfl] at H; exact H
                  clear H
                  have H := H1
                  clear H1
                  obtain rfl := Option.some.inj H
                  go_enter Try.func28, Try.ntmps28
                  go_wp2_with (first | ((with_reducible refine gate_callee (f := 24) rfl ?_); refine goesL_ (some 11) rfl rfl Try.func24 (by kernel_rfl) rfl #[.int .i64 (-3), .int .i64 2] rfl (by (try simp only [List.map_toArray, List.map_cons, List.map_nil]); first | done | rfl | (simp only [List.length_drop, List.length_take]; rfl)) ?_; (with_reducible refine (couple_Couple.calls k (-3) 2 t408 t409 t410 _ A1.out).mono ?_); rintro e w14 ⟨rfl, hb⟩; refine ⟨_, rfl, ?_⟩; have n0_ := Aside0.mk (below_step (by repeat (first | (with_reducible first | exact HB.out | apply below_alloc | apply pw_below_drewN | apply below_drew1) | exact HB.out)) hb); clear HB; have HB := n0_; clear n0_; (try clear hb); (try clear hb2); (try clear hk); (try clear hi)) | ((with_reducible refine gate_callee (f := 25) rfl ?_); refine goesL_ (some 18) rfl rfl Try.func25 (by kernel_rfl) rfl #[.int .i64 t408, .int .i64 t409] rfl (by (try simp only [List.map_toArray, List.map_cons, List.map_nil]); first | done | rfl | (simp only [List.length_drop, List.length_take]; rfl)) ?_; (with_reducible refine (couple_Part.calls k t408 t409 t411 t412 t413 _ A2.out).mono ?_); rintro e w15 ⟨rfl, hb⟩; refine ⟨_, rfl, ?_⟩; have n0_ := Aside0.mk (below_step (by repeat (first | (with_reducible first | exact HB.out | apply below_alloc | apply pw_below_drewN | apply below_drew1) | exact HB.out)) hb); clear HB; have HB := n0_; clear n0_; (try clear hb); (try clear hb2); (try clear hk); (try clear hi)) | ((with_reducible refine gate_dst (N := 23) rfl ?_); (try (refine gate_guard (by rfl) ?_; dsimp only)); refine Kd.R_lit (Kd.int .i64) _ 2 ?hg (N := 23) ?hd (xs := ([3, 2, 3] : List Int)) (inner := [.int .i64 3, .int .i64 2, .int .i64 3]) (ok := fun _ => True) (okp := fun _ => True) ?hr ?hp (fun _ hk => hk) trivial (Below.refl _ _) (Nat.le_refl _) (by simp) ?_; (case hd => rfl); (case hg => rfl); (case hr => first | (go_simp; done) | (go_simp; rfl)); (case hp => exact (Reps.one (show Kd.M (Kd.int .i64) _ _ _ 3 [.int .i64 3] from rfl) (Reps.one (show Kd.M (Kd.int .i64) _ _ _ 2 [.int .i64 2] from rfl) (Reps.one (show Kd.M (Kd.int .i64) _ _ _ 3 [.int .i64 3] from rfl) (Reps.none _ _))))); intro v415 w16 ho17 hb hg_ hnew_; clear hg_ hnew_; (first | rw [← Ny414.out] at ho17 | (simp only [Int.reduceToNat] at ho17; rw [← Ny414.out] at ho17)); have n0_ := Aside0.mk (Kd.R_lower ho17 (below_size (by repeat (first | (with_reducible first | exact HB.out | apply below_alloc | apply pw_below_drewN | apply below_drew1) | exact HB.out)))); have n1_ := Aside0.mk (below_step (by repeat (first | (with_reducible first | exact HB.out | apply below_alloc | apply pw_below_drewN | apply below_drew1) | exact HB.out)) hb); clear HB; have HO416 := n0_; have HB := n1_; clear n0_ n1_; clear hb ho17) | ((with_reducible refine gate_dst (N := 24) rfl ?_); (try (refine gate_guard (by rfl) ?_; dsimp only)); refine Kd.R_lit (Kd.int .i64) _ 2 ?hg (N := 24) ?hd (xs := ([2, 3, (-3)] : List Int)) (inner := [.int .i64 2, .int .i64 3, .int .i64 (-3)]) (ok := fun _ => True) (okp := fun _ => True) ?hr ?hp (fun _ hk => hk) trivial (Below.refl _ _) (Nat.le_refl _) (by simp) ?_; (case hd => rfl); (case hg => rfl); (case hr => first | (go_simp; done) | (go_simp; rfl)); (case hp => exact (Reps.one (show Kd.M (Kd.int .i64) _ _ _ 2 [.int .i64 2] from rfl) (Reps.one (show Kd.M (Kd.int .i64) _ _ _ 3 [.int .i64 3] from rfl) (Reps.one (show Kd.M (Kd.int .i64) _ _ _ (-3) [.int .i64 (-3)] from rfl) (Reps.none _ _))))); intro v418 w18 ho19 hb hg_ hnew_; clear hg_ hnew_; (first | rw [← Ny417.out] at ho19 | (simp only [Int.reduceToNat] at ho19; rw [← Ny417.out] at ho19)); have n0_ := Aside0.mk (Kd.R_elder' (by (with_reducible repeat (first | apply Kd.R_alloc | apply Kd.R_drewN | apply Kd.R_drew)); exact HO416.out) (Kd.R_base ho19) hb); have n1_ := Aside0.mk (Kd.R_lower (Kd.R_new' ho19 (Kd.R_lt (by (with_reducible repeat (first | apply Kd.R_alloc | apply Kd.R_drewN | apply Kd.R_drew)); exact HO416.out))) (below_size (by repeat (first | (with_reducible first | exact HB.out | apply below_alloc | apply pw_below_drewN | apply below_drew1) | exact HB.out)))); have n2_ := Aside0.mk (below_step (by repeat (first | (with_reducible first | exact HB.out | apply below_alloc | apply pw_below_drewN | apply below_drew1) | exact HB.out)) hb); clear HO416; clear HB; have HO416 := n0_; have HO419 := n1_; have HB := n2_; clear n0_ n1_ n2_; clear hb ho19; obtain ⟨Ao20, co20, eo20⟩ := Kd.R_slice HO416.out; subst eo20; obtain ⟨Ao21, co21, eo21⟩ := Kd.R_slice HO419.out; subst eo21) | ((with_reducible refine gate_callee (f := 30) rfl ?_); refine goesL_ (some 25) rfl rfl Try.func30 (by kernel_rfl) rfl #[.slice Ao20 y414.length co20, .slice Ao21 y417.length co21] rfl (by (try simp only [List.map_toArray, List.map_cons, List.map_nil]); first | done | rfl | (simp only [List.length_drop, List.length_take]; rfl)) ?_; (with_reducible refine (couple_CoupleAll.calls k _ _ y414 _ _ y417 t420 t421 t422 _ ?side1 ?side2 ?side3 ?side4 A3.out).mono ?_); (case side1 => repeat (first | exact (Kd.R_reads' HO416.out).2.2 | (with_reducible refine Kd.C_alloc ?_ _) | (with_reducible refine Kd.C_drewN ?_ _) | (with_reducible refine Kd.C_drew ?_))); (case side2 => exact (Kd.R_reads' HO416.out).2.1); (case side3 => repeat (first | exact (Kd.R_reads' HO419.out).2.2 | (with_reducible refine Kd.C_alloc ?_ _) | (with_reducible refine Kd.C_drewN ?_ _) | (with_reducible refine Kd.C_drew ?_))); (case side4 => exact (Kd.R_reads' HO419.out).2.1); rintro e w22 ⟨v423, v425, rfl, ho0, ho1, hb⟩; refine ⟨_, rfl, ?_⟩; have n0_ := Aside0.mk (Kd.R_mono (Kd.R_told (Kd.R_told (Kd.R_old (by (with_reducible repeat (first | apply Kd.R_alloc | apply Kd.R_drewN | apply Kd.R_drew)); exact HO416.out) hb) (Kd.R_base ho0)) (Kd.R_base ho1)) (fun _ h_ => h_.1)); have n1_ := Aside0.mk (Kd.R_mono (Kd.R_told (Kd.R_told (Kd.R_old (by (with_reducible repeat (first | apply Kd.R_alloc | apply Kd.R_drewN | apply Kd.R_drew)); exact HO419.out) hb) (Kd.R_base ho0)) (Kd.R_base ho1)) (fun _ h_ => h_.1)); have n2_ := Aside0.mk (Kd.R_lower (Kd.R_new' (Kd.R_new' ho0 (Kd.R_lt (by (with_reducible repeat (first | apply Kd.R_alloc | apply Kd.R_drewN | apply Kd.R_drew)); exact HO416.out))) (Kd.R_lt (by (with_reducible repeat (first | apply Kd.R_alloc | apply Kd.R_drewN | apply Kd.R_drew)); exact HO419.out))) (below_size (by repeat (first | (with_reducible first | exact HB.out | apply below_alloc | apply pw_below_drewN | apply below_drew1) | exact HB.out)))); have n3_ := Aside0.mk (Kd.R_lower (Kd.R_new' (Kd.R_new' ho1 (Kd.R_lt (by (with_reducible repeat (first | apply Kd.R_alloc | apply Kd.R_drewN | apply Kd.R_drew)); exact HO416.out))) (Kd.R_lt (by (with_reducible repeat (first | apply Kd.R_alloc | apply Kd.R_drewN | apply Kd.R_drew)); exact HO419.out))) (below_size (by repeat (first | (with_reducible first | exact HB.out | apply below_alloc | apply pw_below_drewN | apply below_drew1) | exact HB.out)))); have n4_ := Aside0.mk (below_step (by repeat (first | (with_reducible first | exact HB.out | apply below_alloc | apply pw_below_drewN | apply below_drew1) | exact HB.out)) hb); clear HO416; clear HO419; clear HB; have HO416 := n0_; have HO419 := n1_; have HO424 := n2_; have HO426 := n3_; have HB := n4_; clear n0_ n1_ n2_ n3_ n4_; (try clear hb); (try clear hb2); (try clear hk); (try clear hi); (try clear ho0); (try clear ho1)) | ((with_reducible refine gate_dst (N := 53) rfl ?_); (try (refine gate_guard (by rfl) ?_; dsimp only)); refine Kd.R_lit (Kd.int .i64) _ 2 ?hg (N := 53) ?hd (xs := ([3, 3, (-3)] : List Int)) (inner := [.int .i64 3, .int .i64 3, .int .i64 (-3)]) (ok := fun _ => True) (okp := fun _ => True) ?hr ?hp (fun _ hk => hk) trivial (Below.refl _ _) (Nat.le_refl _) (by simp) ?_; (case hd => rfl); (case hg => rfl); (case hr => first | (go_simp; done) | (go_simp; rfl)); (case hp => exact (Reps.one (show Kd.M (Kd.int .i64) _ _ _ 3 [.int .i64 3] from rfl) (Reps.one (show Kd.M (Kd.int .i64) _ _ _ 3 [.int .i64 3] from rfl) (Reps.one (show Kd.M (Kd.int .i64) _ _ _ (-3) [.int .i64 (-3)] from rfl) (Reps.none _ _))))); intro v428 w23 ho24 hb hg_ hnew_; clear hg_ hnew_; (first | rw [← Ny427.out] at ho24 | (simp only [Int.reduceToNat] at ho24; rw [← Ny427.out] at ho24)); have n0_ := Aside0.mk (Kd.R_elder' (by (with_reducible repeat (first | apply Kd.R_alloc | apply Kd.R_drewN | apply Kd.R_drew)); exact HO416.out) (Kd.R_base ho24) hb); have n1_ := Aside0.mk (Kd.R_elder' (by (with_reducible repeat (first | apply Kd.R_alloc | apply Kd.R_drewN | apply Kd.R_drew)); exact HO419.out) (Kd.R_base ho24) hb); have n2_ := Aside0.mk (Kd.R_elder' (by (with_reducible repeat (first | apply Kd.R_alloc | apply Kd.R_drewN | apply Kd.R_drew)); exact HO424.out) (Kd.R_base ho24) hb); have n3_ := Aside0.mk (Kd.R_elder' (by (with_reducible repeat (first | apply Kd.R_alloc | apply Kd.R_drewN | apply Kd.R_drew)); exact HO426.out) (Kd.R_base ho24) hb); have n4_ := Aside0.mk (Kd.R_lower (Kd.R_new' (Kd.R_new' (Kd.R_new' (Kd.R_new' ho24 (Kd.R_lt (by (with_reducible repeat (first | apply Kd.R_alloc | apply Kd.R_drewN | apply Kd.R_drew)); exact HO416.out))) (Kd.R_lt (by (with_reducible repeat (first | apply Kd.R_alloc | apply Kd.R_drewN | apply Kd.R_drew)); exact HO419.out))) (Kd.R_lt (by (with_reducible repeat (first | apply Kd.R_alloc | apply Kd.R_drewN | apply Kd.R_drew)); exact HO424.out))) (Kd.R_lt (by (with_reducible repeat (first | apply Kd.R_alloc | apply Kd.R_drewN | apply Kd.R_drew)); exact HO426.out))) (below_size (by repeat (first | (with_reducible first | exact HB.out | apply below_alloc | apply pw_below_drewN | apply below_drew1) | exact HB.out)))); have n5_ := Aside0.mk (below_step (by repeat (first | (with_reducible first | exact HB.out | apply below_alloc | apply pw_below_drewN | apply below_drew1) | exact HB.out)) hb); clear HO416; clear HO419; clear HO424; clear HO426; clear HB; have HO416 := n0_; have HO419 := n1_; have HO424 := n2_; have HO426 := n3_; have HO429 := n4_; have HB := n5_; clear n0_ n1_ n2_ n3_ n4_ n5_; clear hb ho24; obtain ⟨Ao25, co25, eo25⟩ := Kd.R_slice HO424.out; subst eo25; obtain ⟨Ao26, co26, eo26⟩ := Kd.R_slice HO429.out; subst eo26) | (go_at_call 19; (with_reducible refine (psalteryref07_Same.calls k _ _ t420 _ _ y427 true _ ?side1 ?side2 ?side3 ?side4 A10.out).mono ?_); (case side1 => repeat (first | exact (Kd.R_reads' HO424.out).2.2 | (with_reducible refine Kd.C_alloc ?_ _) | (with_reducible refine Kd.C_drewN ?_ _) | (with_reducible refine Kd.C_drew ?_))); (case side2 => exact (Kd.R_reads' HO424.out).2.1); (case side3 => repeat (first | exact (Kd.R_reads' HO429.out).2.2 | (with_reducible refine Kd.C_alloc ?_ _) | (with_reducible refine Kd.C_drewN ?_ _) | (with_reducible refine Kd.C_drew ?_))); (case side4 => exact (Kd.R_reads' HO429.out).2.1); rintro e w' ⟨rfl, ⟨nd, rfl⟩⟩) | ((with_reducible refine gate_dst (N := 58) rfl ?_); (try (refine gate_guard (by rfl) ?_; dsimp only)); refine Kd.R_lit (Kd.int .i64) _ 2 ?hg (N := 58) ?hd (xs := ([1, (-1), (-6)] : List Int)) (inner := [.int .i64 1, .int .i64 (-1), .int .i64 (-6)]) (ok := fun _ => True) (okp := fun _ => True) ?hr ?hp (fun _ hk => hk) trivial (Below.refl _ _) (Nat.le_refl _) (by simp) ?_; (case hd => rfl); (case hg => rfl); (case hr => first | (go_simp; done) | (go_simp; rfl)); (case hp => exact (Reps.one (show Kd.M (Kd.int .i64) _ _ _ 1 [.int .i64 1] from rfl) (Reps.one (show Kd.M (Kd.int .i64) _ _ _ (-1) [.int .i64 (-1)] from rfl) (Reps.one (show Kd.M (Kd.int .i64) _ _ _ (-6) [.int .i64 (-6)] from rfl) (Reps.none _ _))))); intro v432 w27 ho28 hb hg_ hnew_; clear hg_ hnew_; (first | rw [← Ny431.out] at ho28 | (simp only [Int.reduceToNat] at ho28; rw [← Ny431.out] at ho28)); have n0_ := Aside0.mk (Kd.R_elder' (by (with_reducible repeat (first | apply Kd.R_alloc | apply Kd.R_drewN | apply Kd.R_drew)); exact HO416.out) (Kd.R_base ho28) hb); have n1_ := Aside0.mk (Kd.R_elder' (by (with_reducible repeat (first | apply Kd.R_alloc | apply Kd.R_drewN | apply Kd.R_drew)); exact HO419.out) (Kd.R_base ho28) hb); have n2_ := Aside0.mk (Kd.R_elder' (by (with_reducible repeat (first | apply Kd.R_alloc | apply Kd.R_drewN | apply Kd.R_drew)); exact HO424.out) (Kd.R_base ho28) hb); have n3_ := Aside0.mk (Kd.R_elder' (by (with_reducible repeat (first | apply Kd.R_alloc | apply Kd.R_drewN | apply Kd.R_drew)); exact HO426.out) (Kd.R_base ho28) hb); have n4_ := Aside0.mk (Kd.R_elder' (by (with_reducible repeat (first | apply Kd.R_alloc | apply Kd.R_drewN | apply Kd.R_drew)); exact HO429.out) (Kd.R_base ho28) hb); have n5_ := Aside0.mk (Kd.R_lower (Kd.R_new' (Kd.R_new' (Kd.R_new' (Kd.R_new' (Kd.R_new' ho28 (Kd.R_lt (by (with_reducible repeat (first | apply Kd.R_alloc | apply Kd.R_drewN | apply Kd.R_drew)); exact HO416.out))) (Kd.R_lt (by (with_reducible repeat (first | apply Kd.R_alloc | apply Kd.R_drewN | apply Kd.R_drew)); exact HO419.out))) (Kd.R_lt (by (with_reducible repeat (first | apply Kd.R_alloc | apply Kd.R_drewN | apply Kd.R_drew)); exact HO424.out))) (Kd.R_lt (by (with_reducible repeat (first | apply Kd.R_alloc | apply Kd.R_drewN | apply Kd.R_drew)); exact HO426.out))) (Kd.R_lt (by (with_reducible repeat (first | apply Kd.R_alloc | apply Kd.R_drewN | apply Kd.R_drew)); exact HO429.out))) (below_size (by repeat (first | (with_reducible first | exact HB.out | apply below_alloc | apply pw_below_drewN | apply below_drew1) | exact HB.out)))); have n6_ := Aside0.mk (below_step (by repeat (first | (with_reducible first | exact HB.out | apply below_alloc | apply pw_below_drewN | apply below_drew1) | exact HB.out)) hb); clear HO416; clear HO419; clear HO424; clear HO426; clear HO429; clear HB; have HO416 := n0_; have HO419 := n1_; have HO424 := n2_; have HO426 := n3_; have HO429 := n4_; have HO433 := n5_; have HB := n6_; clear n0_ n1_ n2_ n3_ n4_ n5_ n6_; clear hb ho28; obtain ⟨Ao29, co29, eo29⟩ := Kd.R_slice HO426.out; subst eo29; obtain ⟨Ao30, co30, eo30⟩ := Kd.R_slice HO433.out; subst eo30) | (go_at_call 19; (with_reducible refine (psalteryref07_Same.calls k _ _ t421 _ _ y431 true _ ?side1 ?side2 ?side3 ?side4 A12.out).mono ?_); (case side1 => repeat (first | exact (Kd.R_reads' HO426.out).2.2 | (with_reducible refine Kd.C_alloc ?_ _) | (with_reducible refine Kd.C_drewN ?_ _) | (with_reducible refine Kd.C_drew ?_))); (case side2 => exact (Kd.R_reads' HO426.out).2.1); (case side3 => repeat (first | exact (Kd.R_reads' HO433.out).2.2 | (with_reducible refine Kd.C_alloc ?_ _) | (with_reducible refine Kd.C_drewN ?_ _) | (with_reducible refine Kd.C_drew ?_))); (case side4 => exact (Kd.R_reads' HO433.out).2.1); rintro e w' ⟨rfl, ⟨nd, rfl⟩⟩))
                  go_ret
                  exact ⟨by first | rfl | (simp [errW_none, errW_some] <;> rfl) | (simp [*, errW_none, errW_some] <;> rfl), by repeat (first | (with_reducible first | exact HB.out | apply below_alloc | apply pw_below_drewN | apply below_drew1) | exact HB.out)⟩
                · replace c13 := Bool.eq_false_iff.mpr c13
                  subst c13
                  have H1 : (some false) = some r := by rw [if_neg (show ¬ (false = true) by decide)] at H; exact H
                  clear H
                  have H := H1
                  clear H1
                  exact absurd ((Option.some.inj H).trans HT.out) (by decide)
              · replace c11 := Bool.eq_false_iff.mpr c11
                subst c11
                have H1 : (some false) = some r := by rw [if_neg (show ¬ (false = true) by decide)] at H; exact H
                clear H
                have H := H1
                clear H1
                exact absurd ((Option.some.inj H).trans HT.out) (by decide)
            · rw [if_neg c9] at H
              have c9b0 : (t413 == 0) = false := beq_eq_false_iff_ne.mpr c9
              have c9b1 : (t413 != 0) = true := bne_iff_ne.mpr c9
              exact absurd ((Option.some.inj H).trans HT.out) (by decide)
          · rw [if_neg c8] at H
            have c8b0 : (t412 == 2) = false := beq_eq_false_iff_ne.mpr c8
            have c8b1 : (t412 != 2) = true := bne_iff_ne.mpr c8
            exact absurd ((Option.some.inj H).trans HT.out) (by decide)
        · rw [if_neg c7] at H
          have c7b0 : (t411 == (-3)) = false := beq_eq_false_iff_ne.mpr c7
          have c7b1 : (t411 != (-3)) = true := bne_iff_ne.mpr c7
          exact absurd ((Option.some.inj H).trans HT.out) (by decide)
      · rw [if_neg c6] at H
        have c6b0 : (t410 == 0) = false := beq_eq_false_iff_ne.mpr c6
        have c6b1 : (t410 != 0) = true := bne_iff_ne.mpr c6
        exact absurd ((Option.some.inj H).trans HT.out) (by decide)
    · rw [if_neg c5] at H
      have c5b0 : (t409 == 5) = false := beq_eq_false_iff_ne.mpr c5
      have c5b1 : (t409 != 5) = true := bne_iff_ne.mpr c5
      exact absurd ((Option.some.inj H).trans HT.out) (by decide)
  · rw [if_neg c4] at H
    have c4b0 : (t408 == (-3)) = false := beq_eq_false_iff_ne.mpr c4
    have c4b1 : (t408 != (-3)) = true := bne_iff_ne.mpr c4
    exact absurd ((Option.some.inj H).trans HT.out) (by decide)
/-- The examples hold: by the kernel's own reckoning. -/
theorem psalterylaw15_knows.sure : psalterylaw15_knows.f 200 = some true := by decide +kernel
theorem psalterylaw15_knows.calls (k : Nat)  (r : Bool) (w : World) (h : psalterylaw15_knows.f k  = some r) :
    Calls Try.prog 28 #[] w fun e w' => e = .returned (.bool r) ∧ Below w.heap.size w w' :=
  psalterylaw15_knows.callsT k r w h (by
    have h1 := at_rounds (g := fun k => psalterylaw15_knows.f k) (fun k => psalterylaw15_knows.mono k) (Nat.le_add_right k 200) h
    have h2 := at_rounds (g := fun k => psalterylaw15_knows.f k) (fun k => psalterylaw15_knows.mono k) (Nat.le_add_left 200 k) psalterylaw15_knows.sure
    exact Option.some.inj (h1.symm.trans h2))

end Go.Proofs.Ytfipeildlleoeaa.P
