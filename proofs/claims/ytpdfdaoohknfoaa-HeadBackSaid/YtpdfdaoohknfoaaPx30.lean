-- PRINTED by print.py (a twelfth state) out of the translation. Not trusted: Lean checks it.
import Derived.Test.YtpdfdaoohknfoaaPx0
import Derived.Test.YtpdfdaoohknfoaaPx1
import Derived.Test.YtpdfdaoohknfoaaPx7
import Derived.Test.YtpdfdaoohknfoaaPx12
import Derived.Test.YtpdfdaoohknfoaaPx13
import Derived.Test.YtpdfdaoohknfoaaPx16
import Derived.Test.YtpdfdaoohknfoaaPx18
namespace Go.Proofs.Ytpdfdaoohknfoaa.P
open Go.RowKit Go.Proofs.YtpdfdaoohknfoaaW.PrintWords Go.Proofs.YtpdfdaoohknfoaaW.PrintLast Go.Proofs.YtpdfdaoohknfoaaW.PrintMore
attribute [local go_sem] max2_int min2_int max_two min_two max_three min_three max_four min_four   -- for this text's walks alone
set_option linter.unusedVariables false
set_option linter.unusedSimpArgs false

/-! ### psalterylaw16_HeadBack: function 6 -/
def psalterylaw16_HeadBack.f (k : Nat) (a0_0 : Int) (a0_1 : Int) (l0_2 : List Int) (l0_3 : List Int) : Option (Bool) := (psalterylaw16_Great.f a0_0 a0_1 l0_2 l0_3).bind fun t324 => (if t324 = true then ((psalterylaw16_knows.f k).bind fun t325 => (some t325)) else ((vhead_Write.f k a0_0 a0_1 l0_2 l0_3).bind fun bt326 => (if bt326.2 = 0 then ((vhead_Read.f k bt326.1).bind fun bt331 => ((psalterylaw16_As.f a0_0 a0_1 l0_2 l0_3).bind fun bt341 => ((psalterylaw16_As.f bt331.1 bt331.2.1 bt331.2.2.1 bt331.2.2.2.1).bind fun bt343 => ((psalteryref16_Same.f k bt341.1 bt341.2 l0_2 l0_3 bt343.1 bt343.2 bt331.2.2.1 bt331.2.2.2.1).bind fun t345 => (if t345 = true then (if bt331.2.2.2.2 = 0 then ((psalterylaw16_knows.f k).bind fun t346 => (some t346)) else (some false)) else (some false)))))) else (if (bt326.1.length : Int) = 0 then ((psalterylaw16_knows.f k).bind fun t330 => (some t330)) else (some false)))))
theorem psalterylaw16_HeadBack.mono : ∀ a0 a1 a2 a3 k, LeO (psalterylaw16_HeadBack.f k a0 a1 a2 a3) (psalterylaw16_HeadBack.f (k + 1) a0 a1 a2 a3) := by
  intro a0 a1 a2 a3 k
  unfold psalterylaw16_HeadBack.f
  repeat' first
      | (with_reducible exact psalterylaw16_knows.mono _)
      | (with_reducible exact psalteryref16_Same.mono _ _ _ _ _ _ _ _ _)
      | (with_reducible exact vhead_Read.mono _ _)
      | (with_reducible exact vhead_Write.mono _ _ _ _ _)
      | (with_reducible exact LeO.refl _)
      | (with_reducible exact LeO.none _)
      | (with_reducible refine LeO.ite ?_ ?_)
      | (with_reducible refine LeO.bind ?_ (fun _ => ?_))
      | exact psalterylaw16_knows.mono _
      | exact psalteryref16_Same.mono _ _ _ _ _ _ _ _ _
      | exact vhead_Read.mono _ _
      | exact vhead_Write.mono _ _ _ _ _
      | exact LeO.none _
      | refine LeO.ite ?_ ?_
      | refine LeO.bind ?_ (fun _ => ?_)
def psalterylaw16_HeadBack.T7 : Bool × List (List Nat × List Nat) := (true, [([], []), ([0], [0]), ([], []), ([2, 1], [2]), ([1, 3, 3], [1, 3]), ([4, 4], [4]), ([5], [5]), ([6, 5], [5, 6]), ([5, 7], [5, 7]), ([8, 5], [8]), ([9, 9], [9]), ([9, 10], [9, 10]), ([11, 10, 0, 1, 2, 3, 4, 5, 6, 7, 8, 9, 10, 11], [11])])
def psalterylaw16_HeadBack.B7 : List Nat := [0, 1, 0, 7, 15, 31, 63, 127, 255, 511, 1023, 2047, 4095]
theorem psalterylaw16_HeadBack.tab7 : rtab .any (opsOf Try.f6 7) = psalterylaw16_HeadBack.T7 := by kernel_rfl
theorem psalterylaw16_HeadBack.bits7 : waitsOk psalterylaw16_HeadBack.T7.2 psalterylaw16_HeadBack.B7 = true := by kernel_rfl
set_option maxHeartbeats 8000000 in
set_option maxRecDepth 100000 in
theorem psalterylaw16_HeadBack.calls (k : Nat) (a0_0 : Int) (a0_1 : Int) (A0_2 : Option Addr) (c0_2 : Nat) (l0_2 : List Int) (A0_3 : Option Addr) (c0_3 : Nat) (l0_3 : List Int) (r : Bool) (w : World) (hr0_2 : Kd.C (Kd.int .i64) w A0_2 l0_2.length l0_2) (hc0_2 : l0_2.length ≤ c0_2) (hr0_3 : Kd.C (Kd.int .i64) w A0_3 l0_3.length l0_3) (hc0_3 : l0_3.length ≤ c0_3) (h : psalterylaw16_HeadBack.f k a0_0 a0_1 l0_2 l0_3 = some r) (hT : r = true) :
    Calls Try.prog 6 #[.agg #[.int .i64 a0_0, .int .i64 a0_1, .slice A0_2 l0_2.length c0_2, .slice A0_3 l0_3.length c0_3]] w fun e w' => e = .returned (.bool r) ∧ Below w.heap.size w w' := by
  have hu24 := Try.underlying24
  have HR0_2 := Aside0.mk hr0_2
  have HC0_2 := Aside0.mk hc0_2
  clear hr0_2 hc0_2
  have HR0_3 := Aside0.mk hr0_3
  have HC0_3 := Aside0.mk hc0_3
  clear hr0_3 hc0_3
  have HB := Aside0.mk (Below.refl w.heap.size w)
  have H : ((psalterylaw16_Great.f a0_0 a0_1 l0_2 l0_3).bind fun t324 => (if t324 = true then ((psalterylaw16_knows.f k).bind fun t325 => (some t325)) else ((vhead_Write.f k a0_0 a0_1 l0_2 l0_3).bind fun bt326 => (if bt326.2 = 0 then ((vhead_Read.f k bt326.1).bind fun bt331 => ((psalterylaw16_As.f a0_0 a0_1 l0_2 l0_3).bind fun bt341 => ((psalterylaw16_As.f bt331.1 bt331.2.1 bt331.2.2.1 bt331.2.2.2.1).bind fun bt343 => ((psalteryref16_Same.f k bt341.1 bt341.2 l0_2 l0_3 bt343.1 bt343.2 bt331.2.2.1 bt331.2.2.2.1).bind fun t345 => (if t345 = true then (if bt331.2.2.2.2 = 0 then ((psalterylaw16_knows.f k).bind fun t346 => (some t346)) else (some false)) else (some false)))))) else (if (bt326.1.length : Int) = 0 then ((psalterylaw16_knows.f k).bind fun t330 => (some t330)) else (some false)))))) = some r := h
  clear h
  have HT := Aside0.mk hT
  clear hT
  replace H := Option.bind_eq_some_iff.mp H
  obtain ⟨t324, A20, H⟩ := H
  replace H : (if t324 = true then ((psalterylaw16_knows.f k).bind fun t325 => (some t325)) else ((vhead_Write.f k a0_0 a0_1 l0_2 l0_3).bind fun bt326 => (if bt326.2 = 0 then ((vhead_Read.f k bt326.1).bind fun bt331 => ((psalterylaw16_As.f a0_0 a0_1 l0_2 l0_3).bind fun bt341 => ((psalterylaw16_As.f bt331.1 bt331.2.1 bt331.2.2.1 bt331.2.2.2.1).bind fun bt343 => ((psalteryref16_Same.f k bt341.1 bt341.2 l0_2 l0_3 bt343.1 bt343.2 bt331.2.2.1 bt331.2.2.2.1).bind fun t345 => (if t345 = true then (if bt331.2.2.2.2 = 0 then ((psalterylaw16_knows.f k).bind fun t346 => (some t346)) else (some false)) else (some false)))))) else (if (bt326.1.length : Int) = 0 then ((psalterylaw16_knows.f k).bind fun t330 => (some t330)) else (some false))))) = some r := H
  have A2 := Aside0.mk A20
  clear A20
  by_cases c3 : t324 = true
  · subst c3
    have H1 : ((psalterylaw16_knows.f k).bind fun t325 => (some t325)) = some r := by rw [if_pos rfl] at H; exact H
    clear H
    have H := H1
    clear H1
    replace H := Option.bind_eq_some_iff.mp H
    obtain ⟨t325, A40, H⟩ := H
    replace H : (some t325) = some r := H
    have A4 := Aside0.mk A40
    clear A40
    obtain rfl := Option.some.inj H
    go_enter Try.func6, Try.ntmps6
    go_wp2_with (first | ((with_reducible refine gate_dst (N := 1) rfl ?_); refine box_event ?hg (N := 1) ?hd (cs := #[.int .i64 a0_0, .int .i64 a0_1, .slice A0_2 l0_2.length c0_2, .slice A0_3 l0_3.length c0_3]) (t := 24) ?hr ?_; (case hd => rfl); (case hg => rfl); (case hr => first | (go_simp; done) | (go_simp; rfl)); intro gb323 hg w5 hbox hb; have n0_ := Aside0.mk (below_step (by repeat (first | (with_reducible first | exact HB.out | apply below_alloc | apply pw_below_drewN | apply below_drew1) | exact HB.out)) hb); have n1_ := Aside0.mk (hbox); have n2_ := Aside0.mk ((by rw [hg]; exact (below_size (by repeat (first | (with_reducible first | exact HB.out | apply below_alloc | apply pw_below_drewN | apply below_drew1) | exact HB.out))) : w.heap.size ≤ gb323)); have n3_ := Aside0.mk ((by rw [hg]; exact (below_size (by repeat (first | (with_reducible first | exact HB.out | apply below_alloc | apply pw_below_drewN | apply below_drew1) | exact HB.out))) : w.heap.size ≤ gb323)); clear HB; have HB := n0_; have BK323 := n1_; have GW323 := n2_; have GE323 := n3_; clear n0_ n1_ n2_ n3_; clear hb hbox hg; have hcz6_0 : w5.cell? ⟨gb323, 0, none⟩ = some (.int .i64 a0_0) := (blk_cell BK323.out 0).trans rfl; have hcz6_1 : w5.cell? ⟨gb323, 1, none⟩ = some (.int .i64 a0_1) := (blk_cell BK323.out 1).trans rfl; have hcz6_2 : w5.cell? ⟨gb323, 2, none⟩ = some (.slice A0_2 l0_2.length c0_2) := (blk_cell BK323.out 2).trans rfl; have hcz6_3 : w5.cell? ⟨gb323, 3, none⟩ = some (.slice A0_3 l0_3.length c0_3) := (blk_cell BK323.out 3).trans rfl; have hfz6_0 := blk_frozen BK323.out 0; have hfz6_1 := blk_frozen BK323.out 1; have hfz6_2 := blk_frozen BK323.out 2; have hfz6_3 := blk_frozen BK323.out 3) | ((with_reducible refine gate_callee (f := 15) rfl ?_); refine goesL_ (some 8) rfl rfl Try.func15 (by kernel_rfl) rfl #[.agg #[.int .i64 a0_0, .int .i64 a0_1, .slice A0_2 l0_2.length c0_2, .slice A0_3 l0_3.length c0_3]] rfl (by (try simp only [List.map_toArray, List.map_cons, List.map_nil]); first | done | rfl | (simp only [List.length_drop, List.length_take]; rfl)) ?_; (with_reducible refine (psalterylaw16_Great.calls a0_0 a0_1 _ _ l0_2 _ _ l0_3 true _ ?side1 ?side2 ?side3 ?side4 A2.out).mono ?_); (case side1 => repeat (first | exact (Kd.C_below HR0_2.out HB.out) | (with_reducible refine Kd.C_alloc ?_ _) | (with_reducible refine Kd.C_drewN ?_ _) | (with_reducible refine Kd.C_drew ?_))); (case side2 => exact HC0_2.out); (case side3 => repeat (first | exact (Kd.C_below HR0_3.out HB.out) | (with_reducible refine Kd.C_alloc ?_ _) | (with_reducible refine Kd.C_drewN ?_ _) | (with_reducible refine Kd.C_drew ?_))); (case side4 => exact HC0_3.out); rintro e w7 ⟨rfl, hb⟩; refine ⟨_, rfl, ?_⟩; have n0_ := Aside0.mk (blk_below (g := gb323) (o := .cells #[.int .i64 a0_0, .int .i64 a0_1, .slice A0_2 l0_2.length c0_2, .slice A0_3 l0_3.length c0_3] 24 (0, 0)) (by (with_reducible repeat (first | refine blk_drewN ?_ _ | refine blk_drew ?_ | refine blk_alloc ?_ _)); exact BK323.out) hb); have n1_ := Aside0.mk (below_step (by repeat (first | (with_reducible first | exact HB.out | apply below_alloc | apply pw_below_drewN | apply below_drew1 | refine below_set ?_ GE323.out) | exact HB.out)) hb); clear BK323; clear HB; have BK323 := n0_; have HB := n1_; clear n0_ n1_; (try clear hb); (try clear hb2); (try clear hk); (try clear hi)) | ((with_reducible refine gate_callee (f := 16) rfl ?_); refine goesL_ (some 9) rfl rfl Try.func16 (by kernel_rfl) rfl #[] rfl (by (try simp only [List.map_toArray, List.map_cons, List.map_nil]); first | done | rfl | (simp only [List.length_drop, List.length_take]; rfl)) ?_; (with_reducible refine (psalterylaw16_knows.calls k  t325 _ A4.out).mono ?_); rintro e w8 ⟨rfl, hb⟩; refine ⟨_, rfl, ?_⟩; have n0_ := Aside0.mk (blk_below (g := gb323) (o := .cells #[.int .i64 a0_0, .int .i64 a0_1, .slice A0_2 l0_2.length c0_2, .slice A0_3 l0_3.length c0_3] 24 (0, 0)) (by (with_reducible repeat (first | refine blk_drewN ?_ _ | refine blk_drew ?_ | refine blk_alloc ?_ _)); exact BK323.out) hb); have n1_ := Aside0.mk (below_step (by repeat (first | (with_reducible first | exact HB.out | apply below_alloc | apply pw_below_drewN | apply below_drew1 | refine below_set ?_ GE323.out) | exact HB.out)) hb); clear BK323; clear HB; have BK323 := n0_; have HB := n1_; clear n0_ n1_; (try clear hb); (try clear hb2); (try clear hk); (try clear hi)))
    go_ret
    exact ⟨by first | rfl | (simp [errW_none, errW_some] <;> rfl) | (simp [*, errW_none, errW_some] <;> rfl), by repeat (first | (with_reducible first | exact HB.out | apply below_alloc | apply pw_below_drewN | apply below_drew1 | refine below_set ?_ GE323.out) | exact HB.out)⟩
  · replace c3 := Bool.eq_false_iff.mpr c3
    subst c3
    have H1 : ((vhead_Write.f k a0_0 a0_1 l0_2 l0_3).bind fun bt326 => (if bt326.2 = 0 then ((vhead_Read.f k bt326.1).bind fun bt331 => ((psalterylaw16_As.f a0_0 a0_1 l0_2 l0_3).bind fun bt341 => ((psalterylaw16_As.f bt331.1 bt331.2.1 bt331.2.2.1 bt331.2.2.2.1).bind fun bt343 => ((psalteryref16_Same.f k bt341.1 bt341.2 l0_2 l0_3 bt343.1 bt343.2 bt331.2.2.1 bt331.2.2.2.1).bind fun t345 => (if t345 = true then (if bt331.2.2.2.2 = 0 then ((psalterylaw16_knows.f k).bind fun t346 => (some t346)) else (some false)) else (some false)))))) else (if (bt326.1.length : Int) = 0 then ((psalterylaw16_knows.f k).bind fun t330 => (some t330)) else (some false)))) = some r := by rw [if_neg (show ¬ (false = true) by decide)] at H; exact H
    clear H
    have H := H1
    clear H1
    replace H := Option.bind_eq_some_iff.mp H
    obtain ⟨⟨t326, t329⟩, A90, H⟩ := H
    replace H : (if t329 = 0 then ((vhead_Read.f k t326).bind fun bt331 => ((psalterylaw16_As.f a0_0 a0_1 l0_2 l0_3).bind fun bt341 => ((psalterylaw16_As.f bt331.1 bt331.2.1 bt331.2.2.1 bt331.2.2.2.1).bind fun bt343 => ((psalteryref16_Same.f k bt341.1 bt341.2 l0_2 l0_3 bt343.1 bt343.2 bt331.2.2.1 bt331.2.2.2.1).bind fun t345 => (if t345 = true then (if bt331.2.2.2.2 = 0 then ((psalterylaw16_knows.f k).bind fun t346 => (some t346)) else (some false)) else (some false)))))) else (if (t326.length : Int) = 0 then ((psalterylaw16_knows.f k).bind fun t330 => (some t330)) else (some false))) = some r := H
    have A9 := Aside0.mk A90
    clear A90
    by_cases c10 : t329 = 0
    · rw [if_pos c10] at H
      have c10b0 : (t329 == 0) = true := beq_iff_eq.mpr c10
      have c10b1 : (t329 != 0) = false := bne_eq_false_iff_eq.mpr c10
      clear c10
      replace H := Option.bind_eq_some_iff.mp H
      obtain ⟨⟨t331, t332, t333, t336, t339⟩, A110, H⟩ := H
      replace H : ((psalterylaw16_As.f a0_0 a0_1 l0_2 l0_3).bind fun bt341 => ((psalterylaw16_As.f t331 t332 t333 t336).bind fun bt343 => ((psalteryref16_Same.f k bt341.1 bt341.2 l0_2 l0_3 bt343.1 bt343.2 t333 t336).bind fun t345 => (if t345 = true then (if t339 = 0 then ((psalterylaw16_knows.f k).bind fun t346 => (some t346)) else (some false)) else (some false))))) = some r := H
      have A11 := Aside0.mk A110
      clear A110
      replace H := Option.bind_eq_some_iff.mp H
      obtain ⟨⟨t341, t342⟩, A120, H⟩ := H
      replace H : ((psalterylaw16_As.f t331 t332 t333 t336).bind fun bt343 => ((psalteryref16_Same.f k t341 t342 l0_2 l0_3 bt343.1 bt343.2 t333 t336).bind fun t345 => (if t345 = true then (if t339 = 0 then ((psalterylaw16_knows.f k).bind fun t346 => (some t346)) else (some false)) else (some false)))) = some r := H
      have A12 := Aside0.mk A120
      clear A120
      replace H := Option.bind_eq_some_iff.mp H
      obtain ⟨⟨t343, t344⟩, A130, H⟩ := H
      replace H : ((psalteryref16_Same.f k t341 t342 l0_2 l0_3 t343 t344 t333 t336).bind fun t345 => (if t345 = true then (if t339 = 0 then ((psalterylaw16_knows.f k).bind fun t346 => (some t346)) else (some false)) else (some false))) = some r := H
      have A13 := Aside0.mk A130
      clear A130
      replace H := Option.bind_eq_some_iff.mp H
      obtain ⟨t345, A140, H⟩ := H
      replace H : (if t345 = true then (if t339 = 0 then ((psalterylaw16_knows.f k).bind fun t346 => (some t346)) else (some false)) else (some false)) = some r := H
      have A14 := Aside0.mk A140
      clear A140
      by_cases c15 : t345 = true
      · subst c15
        have H1 : (if t339 = 0 then ((psalterylaw16_knows.f k).bind fun t346 => (some t346)) else (some false)) = some r := by rw [if_pos rfl] at H; exact H
        clear H
        have H := H1
        clear H1
        by_cases c16 : t339 = 0
        · rw [if_pos c16] at H
          have c16b0 : (t339 == 0) = true := beq_iff_eq.mpr c16
          have c16b1 : (t339 != 0) = false := bne_eq_false_iff_eq.mpr c16
          clear c16
          replace H := Option.bind_eq_some_iff.mp H
          obtain ⟨t346, A170, H⟩ := H
          replace H : (some t346) = some r := H
          have A17 := Aside0.mk A170
          clear A170
          obtain rfl := Option.some.inj H
          go_enter Try.func6, Try.ntmps6
          try go_wp2_with (first | ((with_reducible refine gate_dst (N := 1) rfl ?_); refine box_event ?hg (N := 1) ?hd (cs := #[.int .i64 a0_0, .int .i64 a0_1, .slice A0_2 l0_2.length c0_2, .slice A0_3 l0_3.length c0_3]) (t := 24) ?hr ?_; (case hd => rfl); (case hg => rfl); (case hr => first | (go_simp; done) | (go_simp; rfl)); intro gb323 hg w18 hbox hb; have n0_ := Aside0.mk (below_step (by repeat (first | (with_reducible first | exact HB.out | apply below_alloc | apply pw_below_drewN | apply below_drew1) | exact HB.out)) hb); have n1_ := Aside0.mk (hbox); have n2_ := Aside0.mk ((by rw [hg]; exact (below_size (by repeat (first | (with_reducible first | exact HB.out | apply below_alloc | apply pw_below_drewN | apply below_drew1) | exact HB.out))) : w.heap.size ≤ gb323)); have n3_ := Aside0.mk ((by rw [hg]; exact (below_size (by repeat (first | (with_reducible first | exact HB.out | apply below_alloc | apply pw_below_drewN | apply below_drew1) | exact HB.out))) : w.heap.size ≤ gb323)); clear HB; have HB := n0_; have BK323 := n1_; have GW323 := n2_; have GE323 := n3_; clear n0_ n1_ n2_ n3_; clear hb hbox hg; have hcz19_0 : w18.cell? ⟨gb323, 0, none⟩ = some (.int .i64 a0_0) := (blk_cell BK323.out 0).trans rfl; have hcz19_1 : w18.cell? ⟨gb323, 1, none⟩ = some (.int .i64 a0_1) := (blk_cell BK323.out 1).trans rfl; have hcz19_2 : w18.cell? ⟨gb323, 2, none⟩ = some (.slice A0_2 l0_2.length c0_2) := (blk_cell BK323.out 2).trans rfl; have hcz19_3 : w18.cell? ⟨gb323, 3, none⟩ = some (.slice A0_3 l0_3.length c0_3) := (blk_cell BK323.out 3).trans rfl; have hfz19_0 := blk_frozen BK323.out 0; have hfz19_1 := blk_frozen BK323.out 1; have hfz19_2 := blk_frozen BK323.out 2; have hfz19_3 := blk_frozen BK323.out 3) | ((with_reducible refine gate_callee (f := 15) rfl ?_); refine goesL_ (some 8) rfl rfl Try.func15 (by kernel_rfl) rfl #[.agg #[.int .i64 a0_0, .int .i64 a0_1, .slice A0_2 l0_2.length c0_2, .slice A0_3 l0_3.length c0_3]] rfl (by (try simp only [List.map_toArray, List.map_cons, List.map_nil]); first | done | rfl | (simp only [List.length_drop, List.length_take]; rfl)) ?_; (with_reducible refine (psalterylaw16_Great.calls a0_0 a0_1 _ _ l0_2 _ _ l0_3 false _ ?side1 ?side2 ?side3 ?side4 A2.out).mono ?_); (case side1 => repeat (first | exact (Kd.C_below HR0_2.out HB.out) | (with_reducible refine Kd.C_alloc ?_ _) | (with_reducible refine Kd.C_drewN ?_ _) | (with_reducible refine Kd.C_drew ?_))); (case side2 => exact HC0_2.out); (case side3 => repeat (first | exact (Kd.C_below HR0_3.out HB.out) | (with_reducible refine Kd.C_alloc ?_ _) | (with_reducible refine Kd.C_drewN ?_ _) | (with_reducible refine Kd.C_drew ?_))); (case side4 => exact HC0_3.out); rintro e w20 ⟨rfl, hb⟩; refine ⟨_, rfl, ?_⟩; have n0_ := Aside0.mk (blk_below (g := gb323) (o := .cells #[.int .i64 a0_0, .int .i64 a0_1, .slice A0_2 l0_2.length c0_2, .slice A0_3 l0_3.length c0_3] 24 (0, 0)) (by (with_reducible repeat (first | refine blk_drewN ?_ _ | refine blk_drew ?_ | refine blk_alloc ?_ _)); exact BK323.out) hb); have n1_ := Aside0.mk (below_step (by repeat (first | (with_reducible first | exact HB.out | apply below_alloc | apply pw_below_drewN | apply below_drew1 | refine below_set ?_ GE323.out) | exact HB.out)) hb); clear BK323; clear HB; have BK323 := n0_; have HB := n1_; clear n0_ n1_; (try clear hb); (try clear hb2); (try clear hk); (try clear hi); have hcz21_0 : w20.cell? ⟨gb323, 0, none⟩ = some (.int .i64 a0_0) := (blk_cell BK323.out 0).trans rfl; have hcz21_1 : w20.cell? ⟨gb323, 1, none⟩ = some (.int .i64 a0_1) := (blk_cell BK323.out 1).trans rfl; have hcz21_2 : w20.cell? ⟨gb323, 2, none⟩ = some (.slice A0_2 l0_2.length c0_2) := (blk_cell BK323.out 2).trans rfl; have hcz21_3 : w20.cell? ⟨gb323, 3, none⟩ = some (.slice A0_3 l0_3.length c0_3) := (blk_cell BK323.out 3).trans rfl; have hfz21_0 := blk_frozen BK323.out 0; have hfz21_1 := blk_frozen BK323.out 1; have hfz21_2 := blk_frozen BK323.out 2; have hfz21_3 := blk_frozen BK323.out 3) | ((with_reducible refine gate_callee (f := 23) rfl ?_); refine goesL_ (some 12) rfl rfl Try.func23 (by kernel_rfl) rfl #[.agg #[.int .i64 a0_0, .int .i64 a0_1, .slice A0_2 l0_2.length c0_2, .slice A0_3 l0_3.length c0_3]] rfl (by (try simp only [List.map_toArray, List.map_cons, List.map_nil]); first | done | rfl | (simp only [List.length_drop, List.length_take]; rfl)) ?_; (with_reducible refine (vhead_Write.calls k a0_0 a0_1 _ _ l0_2 _ _ l0_3 t326 t329 _ ?side1 ?side2 ?side3 ?side4 A9.out).mono ?_); (case side1 => repeat (first | exact (Kd.C_below HR0_2.out HB.out) | (with_reducible refine Kd.C_alloc ?_ _) | (with_reducible refine Kd.C_drewN ?_ _) | (with_reducible refine Kd.C_drew ?_))); (case side2 => exact HC0_2.out); (case side3 => repeat (first | exact (Kd.C_below HR0_3.out HB.out) | (with_reducible refine Kd.C_alloc ?_ _) | (with_reducible refine Kd.C_drewN ?_ _) | (with_reducible refine Kd.C_drew ?_))); (case side4 => exact HC0_3.out); rintro e w22 ⟨v327, rfl, ho0, hb⟩; refine ⟨_, rfl, ?_⟩; have n0_ := Aside0.mk (Kd.R_lower ho0 (below_size (by repeat (first | (with_reducible first | exact HB.out | apply below_alloc | apply pw_below_drewN | apply below_drew1 | refine below_set ?_ GE323.out) | exact HB.out)))); have n1_ := Aside0.mk (blk_below (g := gb323) (o := .cells #[.int .i64 a0_0, .int .i64 a0_1, .slice A0_2 l0_2.length c0_2, .slice A0_3 l0_3.length c0_3] 24 (0, 0)) (by (with_reducible repeat (first | refine blk_drewN ?_ _ | refine blk_drew ?_ | refine blk_alloc ?_ _)); exact BK323.out) hb); have n2_ := Aside0.mk (below_step (by repeat (first | (with_reducible first | exact HB.out | apply below_alloc | apply pw_below_drewN | apply below_drew1 | refine below_set ?_ GE323.out) | exact HB.out)) hb); clear BK323; clear HB; have HO328 := n0_; have BK323 := n1_; have HB := n2_; clear n0_ n1_ n2_; (try clear hb); (try clear hb2); (try clear hk); (try clear hi); (try clear ho0); obtain ⟨Ao23, co23, eo23⟩ := Kd.R_slice HO328.out; subst eo23) | ((with_reducible refine gate_callee (f := 25) rfl ?_); refine goesL_ (some 25) rfl rfl Try.func25 (by kernel_rfl) rfl #[.slice Ao23 t326.length co23] rfl (by (try simp only [List.map_toArray, List.map_cons, List.map_nil]); first | done | rfl | (simp only [List.length_drop, List.length_take]; rfl)) ?_; (with_reducible refine (vhead_Read.calls k _ _ t326 t331 t332 t333 t336 t339 _ ?side1 ?side2 A11.out).mono ?_); (case side1 => repeat (first | exact (Kd.R_reads' HO328.out).2.2 | (with_reducible refine Kd.C_alloc ?_ _) | (with_reducible refine Kd.C_drewN ?_ _) | (with_reducible refine Kd.C_drew ?_))); (case side2 => exact (Kd.R_reads' HO328.out).2.1); rintro e w24 ⟨v334, v337, rfl, ho0, ho1, hb⟩; refine ⟨_, rfl, ?_⟩; have n0_ := Aside0.mk (Kd.R_below (by (with_reducible repeat (first | apply Kd.R_alloc | apply Kd.R_drewN | apply Kd.R_drew)); exact HO328.out) hb); have n1_ := Aside0.mk (Kd.R_lower ho0 (below_size (by repeat (first | (with_reducible first | exact HB.out | apply below_alloc | apply pw_below_drewN | apply below_drew1 | refine below_set ?_ GE323.out) | exact HB.out)))); have n2_ := Aside0.mk (Kd.R_lower ho1 (below_size (by repeat (first | (with_reducible first | exact HB.out | apply below_alloc | apply pw_below_drewN | apply below_drew1 | refine below_set ?_ GE323.out) | exact HB.out)))); have n3_ := Aside0.mk (blk_below (g := gb323) (o := .cells #[.int .i64 a0_0, .int .i64 a0_1, .slice A0_2 l0_2.length c0_2, .slice A0_3 l0_3.length c0_3] 24 (0, 0)) (by (with_reducible repeat (first | refine blk_drewN ?_ _ | refine blk_drew ?_ | refine blk_alloc ?_ _)); exact BK323.out) hb); have n4_ := Aside0.mk (below_step (by repeat (first | (with_reducible first | exact HB.out | apply below_alloc | apply pw_below_drewN | apply below_drew1 | refine below_set ?_ GE323.out) | exact HB.out)) hb); clear HO328; clear BK323; clear HB; have HO328 := n0_; have HO335 := n1_; have HO338 := n2_; have BK323 := n3_; have HB := n4_; clear n0_ n1_ n2_ n3_ n4_; (try clear hb); (try clear hb2); (try clear hk); (try clear hi); (try clear ho0); (try clear ho1)) | ((with_reducible refine gate_dst (N := 5) rfl ?_); refine box_event ?hg (N := 5) ?hd (cs := #[.int .i64 0, .int .i64 0, .slice none 0 0, .slice none 0 0]) (t := 24) ?hr ?_; (case hd => rfl); (case hg => rfl); (case hr => first | (go_simp; done) | (go_simp; rfl)); intro gb340 hg w25 hbox hb; have n0_ := Aside0.mk (Kd.R_below (by (with_reducible repeat (first | apply Kd.R_alloc | apply Kd.R_drewN | apply Kd.R_drew)); exact HO328.out) hb); have n1_ := Aside0.mk (Kd.R_below (by (with_reducible repeat (first | apply Kd.R_alloc | apply Kd.R_drewN | apply Kd.R_drew)); exact HO335.out) hb); have n2_ := Aside0.mk (Kd.R_below (by (with_reducible repeat (first | apply Kd.R_alloc | apply Kd.R_drewN | apply Kd.R_drew)); exact HO338.out) hb); have n3_ := Aside0.mk (blk_below (g := gb323) (o := .cells #[.int .i64 a0_0, .int .i64 a0_1, .slice A0_2 l0_2.length c0_2, .slice A0_3 l0_3.length c0_3] 24 (0, 0)) (by (with_reducible repeat (first | refine blk_drewN ?_ _ | refine blk_drew ?_ | refine blk_alloc ?_ _)); exact BK323.out) hb); have n4_ := Aside0.mk (below_step (by repeat (first | (with_reducible first | exact HB.out | apply below_alloc | apply pw_below_drewN | apply below_drew1 | refine below_set ?_ GE323.out) | exact HB.out)) hb); have n5_ := Aside0.mk (hbox); have n6_ := Aside0.mk ((by rw [hg]; exact (below_size (by repeat (first | (with_reducible first | exact HB.out | apply below_alloc | apply pw_below_drewN | apply below_drew1 | refine below_set ?_ GE323.out) | exact HB.out))) : w.heap.size ≤ gb340)); have n7_ := Aside0.mk ((by rw [hg]; exact (below_size (by repeat (first | (with_reducible first | exact HB.out | apply below_alloc | apply pw_below_drewN | apply below_drew1 | refine below_set ?_ GE323.out) | exact HB.out))) : w.heap.size ≤ gb340)); have n8_ := Aside0.mk ((by rw [hg]; exact Nat.ne_of_lt (blk_lt (g := gb323) (o := .cells #[.int .i64 a0_0, .int .i64 a0_1, .slice A0_2 l0_2.length c0_2, .slice A0_3 l0_3.length c0_3] 24 (0, 0)) (by (with_reducible repeat (first | refine blk_drewN ?_ _ | refine blk_drew ?_ | refine blk_alloc ?_ _)); exact BK323.out)) : gb323 ≠ gb340)); have n9_ := Aside0.mk ((by rw [hg]; exact Nat.ne_of_gt (blk_lt (g := gb323) (o := .cells #[.int .i64 a0_0, .int .i64 a0_1, .slice A0_2 l0_2.length c0_2, .slice A0_3 l0_3.length c0_3] 24 (0, 0)) (by (with_reducible repeat (first | refine blk_drewN ?_ _ | refine blk_drew ?_ | refine blk_alloc ?_ _)); exact BK323.out)) : gb340 ≠ gb323)); clear HO328; clear HO335; clear HO338; clear BK323; clear HB; have HO328 := n0_; have HO335 := n1_; have HO338 := n2_; have BK323 := n3_; have HB := n4_; have BK340 := n5_; have GW340 := n6_; have GE340 := n7_; have NB323_340 := n8_; have NB340_323 := n9_; clear n0_ n1_ n2_ n3_ n4_ n5_ n6_ n7_ n8_ n9_; clear hb hbox hg; have hnb26 := NB340_323.out; have hnc26 := NB323_340.out; have hcz27_0 : w25.cell? ⟨gb340, 0, none⟩ = some (.int .i64 0) := (blk_cell BK340.out 0).trans rfl; have hcz27_1 : w25.cell? ⟨gb340, 1, none⟩ = some (.int .i64 0) := (blk_cell BK340.out 1).trans rfl; have hcz27_2 : w25.cell? ⟨gb340, 2, none⟩ = some (.slice none 0 0) := (blk_cell BK340.out 2).trans rfl; have hcz27_3 : w25.cell? ⟨gb340, 3, none⟩ = some (.slice none 0 0) := (blk_cell BK340.out 3).trans rfl; have hfz27_0 := blk_frozen BK340.out 0; have hfz27_1 := blk_frozen BK340.out 1; have hfz27_2 := blk_frozen BK340.out 2; have hfz27_3 := blk_frozen BK340.out 3; obtain ⟨Ao28, co28, eo28⟩ := Kd.R_slice HO335.out; subst eo28; obtain ⟨Ao29, co29, eo29⟩ := Kd.R_slice HO338.out; subst eo29))
          have n0_ : Aside0 (Kd.R (Kd.int .u8) 5 ((((w25.setCell ⟨gb340, 0, none⟩ (.int .i64 t331)).setCell ⟨gb340, 1, none⟩ (.int .i64 t332)).setCell ⟨gb340, 2, none⟩ (.slice Ao28 t333.length co28)).setCell ⟨gb340, 3, none⟩ (.slice Ao29 t336.length co29)) w.heap.size (fun _ => True) (.slice Ao23 t326.length co23) t326) := ⟨by (with_reducible repeat (first | apply Kd.R_alloc | apply Kd.R_drewN | apply Kd.R_drew)); exact Kd.R_mono (Kd.R_far (p := ⟨gb340, 3, none⟩) (Kd.R_far (p := ⟨gb340, 2, none⟩) (Kd.R_far (p := ⟨gb340, 1, none⟩) (Kd.R_far (p := ⟨gb340, 0, none⟩) (Kd.R_types HO328.out BK340.out (by decide)) (fun _ hk => hk.2) (.int .i64 t331)) (fun _ hk => hk.2) (.int .i64 t332)) (fun _ hk => hk.2) (.slice Ao28 t333.length co28)) (fun _ hk => hk.2) (.slice Ao29 t336.length co29)) (fun _ hk => trivial)⟩
          have n1_ : Aside0 (Kd.R (Kd.int .i64) 3 ((((w25.setCell ⟨gb340, 0, none⟩ (.int .i64 t331)).setCell ⟨gb340, 1, none⟩ (.int .i64 t332)).setCell ⟨gb340, 2, none⟩ (.slice Ao28 t333.length co28)).setCell ⟨gb340, 3, none⟩ (.slice Ao29 t336.length co29)) w.heap.size (fun k_ => some k_ ≠ (.slice Ao29 t336.length co29 : Value).ownBlock) (.slice Ao28 t333.length co28) t333) := ⟨by (with_reducible repeat (first | apply Kd.R_alloc | apply Kd.R_drewN | apply Kd.R_drew)); exact Kd.R_mono (Kd.R_far (p := ⟨gb340, 3, none⟩) (Kd.R_far (p := ⟨gb340, 2, none⟩) (Kd.R_far (p := ⟨gb340, 1, none⟩) (Kd.R_far (p := ⟨gb340, 0, none⟩) (Kd.R_types HO335.out BK340.out (by decide)) (fun _ hk => hk.2) (.int .i64 t331)) (fun _ hk => hk.2) (.int .i64 t332)) (fun _ hk => hk.2) (.slice Ao28 t333.length co28)) (fun _ hk => hk.2) (.slice Ao29 t336.length co29)) (fun _ hk => hk.1)⟩
          have n2_ : Aside0 (Kd.R (Kd.int .i64) 3 ((((w25.setCell ⟨gb340, 0, none⟩ (.int .i64 t331)).setCell ⟨gb340, 1, none⟩ (.int .i64 t332)).setCell ⟨gb340, 2, none⟩ (.slice Ao28 t333.length co28)).setCell ⟨gb340, 3, none⟩ (.slice Ao29 t336.length co29)) w.heap.size (fun k_ => some k_ ≠ (.slice Ao28 t333.length co28 : Value).ownBlock) (.slice Ao29 t336.length co29) t336) := ⟨by (with_reducible repeat (first | apply Kd.R_alloc | apply Kd.R_drewN | apply Kd.R_drew)); exact Kd.R_mono (Kd.R_far (p := ⟨gb340, 3, none⟩) (Kd.R_far (p := ⟨gb340, 2, none⟩) (Kd.R_far (p := ⟨gb340, 1, none⟩) (Kd.R_far (p := ⟨gb340, 0, none⟩) (Kd.R_types HO338.out BK340.out (by decide)) (fun _ hk => hk.2) (.int .i64 t331)) (fun _ hk => hk.2) (.int .i64 t332)) (fun _ hk => hk.2) (.slice Ao28 t333.length co28)) (fun _ hk => hk.2) (.slice Ao29 t336.length co29)) (fun _ hk => hk.1)⟩
          have n3_ : Aside0 (((((w25.setCell ⟨gb340, 0, none⟩ (.int .i64 t331)).setCell ⟨gb340, 1, none⟩ (.int .i64 t332)).setCell ⟨gb340, 2, none⟩ (.slice Ao28 t333.length co28)).setCell ⟨gb340, 3, none⟩ (.slice Ao29 t336.length co29)).heap[gb323]? = some (.cells #[.int .i64 a0_0, .int .i64 a0_1, .slice A0_2 l0_2.length c0_2, .slice A0_3 l0_3.length c0_3] 24 (0, 0))) := ⟨by (with_reducible repeat (first | refine blk_drewN ?_ _ | refine blk_drew ?_ | refine blk_alloc ?_ _)); refine blk_far ?_ NB323_340.out _; (with_reducible repeat (first | refine blk_drewN ?_ _ | refine blk_drew ?_ | refine blk_alloc ?_ _)); refine blk_far ?_ NB323_340.out _; (with_reducible repeat (first | refine blk_drewN ?_ _ | refine blk_drew ?_ | refine blk_alloc ?_ _)); refine blk_far ?_ NB323_340.out _; (with_reducible repeat (first | refine blk_drewN ?_ _ | refine blk_drew ?_ | refine blk_alloc ?_ _)); refine blk_far ?_ NB323_340.out _; (with_reducible repeat (first | refine blk_drewN ?_ _ | refine blk_drew ?_ | refine blk_alloc ?_ _)); exact BK323.out⟩
          have n4_ : Aside0 (((((w25.setCell ⟨gb340, 0, none⟩ (.int .i64 t331)).setCell ⟨gb340, 1, none⟩ (.int .i64 t332)).setCell ⟨gb340, 2, none⟩ (.slice Ao28 t333.length co28)).setCell ⟨gb340, 3, none⟩ (.slice Ao29 t336.length co29)).heap[gb340]? = some (.cells #[.int .i64 t331, .int .i64 t332, .slice Ao28 t333.length co28, .slice Ao29 t336.length co29] 24 (0, 0))) := ⟨by (with_reducible repeat (first | refine blk_drewN ?_ _ | refine blk_drew ?_ | refine blk_alloc ?_ _)); refine blk_put (cs := #[.int .i64 t331, .int .i64 t332, .slice Ao28 t333.length co28, .slice none 0 0]) ?_ 3 _ rfl; (with_reducible repeat (first | refine blk_drewN ?_ _ | refine blk_drew ?_ | refine blk_alloc ?_ _)); refine blk_put (cs := #[.int .i64 t331, .int .i64 t332, .slice none 0 0, .slice none 0 0]) ?_ 2 _ rfl; (with_reducible repeat (first | refine blk_drewN ?_ _ | refine blk_drew ?_ | refine blk_alloc ?_ _)); refine blk_put (cs := #[.int .i64 t331, .int .i64 0, .slice none 0 0, .slice none 0 0]) ?_ 1 _ rfl; (with_reducible repeat (first | refine blk_drewN ?_ _ | refine blk_drew ?_ | refine blk_alloc ?_ _)); refine blk_put (cs := #[.int .i64 0, .int .i64 0, .slice none 0 0, .slice none 0 0]) ?_ 0 _ rfl; (with_reducible repeat (first | refine blk_drewN ?_ _ | refine blk_drew ?_ | refine blk_alloc ?_ _)); exact BK340.out⟩
          have n5_ : Aside0 (Below w.heap.size w ((((w25.setCell ⟨gb340, 0, none⟩ (.int .i64 t331)).setCell ⟨gb340, 1, none⟩ (.int .i64 t332)).setCell ⟨gb340, 2, none⟩ (.slice Ao28 t333.length co28)).setCell ⟨gb340, 3, none⟩ (.slice Ao29 t336.length co29))) := ⟨by repeat (first | (with_reducible first | exact HB.out | apply below_alloc | apply pw_below_drewN | apply below_drew1 | refine below_set ?_ GE323.out | refine below_set ?_ GE340.out) | exact HB.out)⟩
          (try clear HO328)
          (try clear HO335)
          (try clear HO338)
          (try clear BK323)
          (try clear BK340)
          (try clear HB)
          generalize ((((w25.setCell ⟨gb340, 0, none⟩ (.int .i64 t331)).setCell ⟨gb340, 1, none⟩ (.int .i64 t332)).setCell ⟨gb340, 2, none⟩ (.slice Ao28 t333.length co28)).setCell ⟨gb340, 3, none⟩ (.slice Ao29 t336.length co29)) = w30 at n0_ n1_ n2_ n3_ n4_ n5_ ⊢
          have HO328 := n0_
          have HO335 := n1_
          have HO338 := n2_
          have BK323 := n3_
          have BK340 := n4_
          have HB := n5_
          clear n0_ n1_ n2_ n3_ n4_ n5_
          have n0_ := Aside0.mk (Kd.R_drew HO328.out)
          have n1_ := Aside0.mk (Kd.R_drew HO335.out)
          have n2_ := Aside0.mk (Kd.R_drew HO338.out)
          have n3_ := Aside0.mk (blk_drew BK323.out)
          have n4_ := Aside0.mk (blk_drew BK340.out)
          have n5_ := Aside0.mk (below_drew1 HB.out)
          clear HO328
          clear HO335
          clear HO338
          clear BK323
          clear BK340
          clear HB
          have HO328 := n0_
          have HO335 := n1_
          have HO338 := n2_
          have BK323 := n3_
          have BK340 := n4_
          have HB := n5_
          clear n0_ n1_ n2_ n3_ n4_ n5_
          refine start_ (n := 13) (S := fun w' => w'.cell? ⟨gb323, 0, none⟩ = some (.int .i64 a0_0) ∧ w'.cell? ⟨gb323, 1, none⟩ = some (.int .i64 a0_1) ∧ w'.cell? ⟨gb323, 2, none⟩ = some (.slice A0_2 l0_2.length c0_2) ∧ w'.cell? ⟨gb323, 3, none⟩ = some (.slice A0_3 l0_3.length c0_3) ∧ w'.cell? ⟨gb340, 0, none⟩ = some (.int .i64 t331) ∧ w'.cell? ⟨gb340, 1, none⟩ = some (.int .i64 t332) ∧ w'.cell? ⟨gb340, 2, none⟩ = some (.slice Ao28 t333.length co28) ∧ w'.cell? ⟨gb340, 3, none⟩ = some (.slice Ao29 t336.length co29)) (ds := []) #[false, false, false, false, false, false, false, false, false, false, false, false, false] (by kernel_rfl) rfl rfl ⟨(blk_cell BK323.out 0).trans rfl, (blk_cell BK323.out 1).trans rfl, (blk_cell BK323.out 2).trans rfl, (blk_cell BK323.out 3).trans rfl, (blk_cell BK340.out 0).trans rfl, (blk_cell BK340.out 1).trans rfl, (blk_cell BK340.out 2).trans rfl, (blk_cell BK340.out 3).trans rfl⟩ (fun hHeld => ?_); refine with_tabW psalterylaw16_HeadBack.tab7 psalterylaw16_HeadBack.bits7 (fun HT_ HW_ => ?_)
          generalize w30.drew = w31 at HO328 HO335 HO338 BK323 BK340 HB hHeld ⊢
          refine take_ (i := 0) (N := some 28) (v := ?_) (a' := ?_) #[true, false, false, false, false, false, false, false, false, false, false, false, false] rfl rfl (take_ofW HT_.out HW_.out (by kernel_rfl)) (fun _ _ _ h => h) (Or.inl ⟨by rfl, ?_⟩) hHeld ?_ ?_
          rotate_left
          · rintro w' ⟨s0, s1, s2, s3, s4, s5, s6, s7⟩
            go_simp
            with_reducible rfl
          rotate_left
          · simp only [Act.put, List.setIfInBounds_toArray, List.set_cons_zero, List.set_cons_succ, i64_w, i32_w]
            rfl
          refine take_ (i := 2) (N := some 30) (v := ?_) (a' := ?_) #[true, false, true, false, false, false, false, false, false, false, false, false, false] rfl rfl (take_ofW HT_.out HW_.out (by kernel_rfl)) (fun _ _ _ h => h) (Or.inl ⟨by rfl, ?_⟩) hHeld ?_ ?_
          rotate_left
          · rintro w' ⟨s0, s1, s2, s3, s4, s5, s6, s7⟩
            go_simp
            with_reducible rfl
          rotate_left
          · simp only [Act.put, List.setIfInBounds_toArray, List.set_cons_zero, List.set_cons_succ, i64_w, i32_w]
            rfl
          refine one_ (i := 1) (N := some 29) #[true, true, true, false, false, false, false, false, false, false, false, false, false] rfl rfl (one_of HT_.out (by kernel_rfl)) (by decide) (fun K hK => ?_)
          refine goes_ Try.func19 (by kernel_rfl) rfl #[.agg #[.int .i64 a0_0, .int .i64 a0_1, .slice A0_2 l0_2.length c0_2, .slice A0_3 l0_3.length c0_3]] (by rfl) rfl rfl (by (try simp only [List.map_toArray, List.map_cons, List.map_nil]); first | done | rfl | (simp only [List.length_drop, List.length_take]; rfl)) ?_
          with_reducible refine (psalterylaw16_As.calls a0_0 a0_1 _ _ l0_2 _ _ l0_3 t341 t342 _ ?side1 ?side2 ?side3 ?side4 A12.out).mono ?_
          (case side1 => repeat (first | exact (Kd.C_below HR0_2.out HB.out) | (with_reducible refine Kd.C_alloc ?_ _) | (with_reducible refine Kd.C_drewN ?_ _) | (with_reducible refine Kd.C_drew ?_)))
          (case side2 => exact HC0_2.out)
          (case side3 => repeat (first | exact (Kd.C_below HR0_3.out HB.out) | (with_reducible refine Kd.C_alloc ?_ _) | (with_reducible refine Kd.C_drewN ?_ _) | (with_reducible refine Kd.C_drew ?_)))
          (case side4 => exact HC0_3.out)
          rintro e w32 ⟨rfl, hb⟩
          refine ⟨_, rfl, ?_⟩
          have n0_ := Aside0.mk (Kd.R_below (by (with_reducible repeat (first | apply Kd.R_alloc | apply Kd.R_drewN | apply Kd.R_drew)); exact HO328.out) hb)
          have n1_ := Aside0.mk (Kd.R_below (by (with_reducible repeat (first | apply Kd.R_alloc | apply Kd.R_drewN | apply Kd.R_drew)); exact HO335.out) hb)
          have n2_ := Aside0.mk (Kd.R_below (by (with_reducible repeat (first | apply Kd.R_alloc | apply Kd.R_drewN | apply Kd.R_drew)); exact HO338.out) hb)
          have n3_ := Aside0.mk (blk_below (g := gb323) (o := .cells #[.int .i64 a0_0, .int .i64 a0_1, .slice A0_2 l0_2.length c0_2, .slice A0_3 l0_3.length c0_3] 24 (0, 0)) (by (with_reducible repeat (first | refine blk_drewN ?_ _ | refine blk_drew ?_ | refine blk_alloc ?_ _)); exact BK323.out) hb)
          have n4_ := Aside0.mk (blk_below (g := gb340) (o := .cells #[.int .i64 t331, .int .i64 t332, .slice Ao28 t333.length co28, .slice Ao29 t336.length co29] 24 (0, 0)) (by (with_reducible repeat (first | refine blk_drewN ?_ _ | refine blk_drew ?_ | refine blk_alloc ?_ _)); exact BK340.out) hb)
          have n5_ := Aside0.mk (below_step (by repeat (first | (with_reducible first | exact HB.out | apply below_alloc | apply pw_below_drewN | apply below_drew1 | refine below_set ?_ GE323.out | refine below_set ?_ GE340.out) | exact HB.out)) hb)
          clear HO328
          clear HO335
          clear HO338
          clear BK323
          clear BK340
          clear HB
          have HO328 := n0_
          have HO335 := n1_
          have HO338 := n2_
          have BK323 := n3_
          have BK340 := n4_
          have HB := n5_
          clear n0_ n1_ n2_ n3_ n4_ n5_
          (try clear hb)
          (try clear hb2)
          (try clear hk)
          (try clear hi)
          refine hK.out _ _ ⟨(blk_cell BK323.out 0).trans rfl, (blk_cell BK323.out 1).trans rfl, (blk_cell BK323.out 2).trans rfl, (blk_cell BK323.out 3).trans rfl, (blk_cell BK340.out 0).trans rfl, (blk_cell BK340.out 1).trans rfl, (blk_cell BK340.out 2).trans rfl, (blk_cell BK340.out 3).trans rfl⟩ (fun hHeld => ?_)
          clear hK K
          refine norm_ (a' := ?_) ?_ ?_
          rotate_left
          · show Act.put _ (some 29) _ = _
            simp only [Act.put, List.setIfInBounds_toArray, List.set_cons_zero, List.set_cons_succ, i64_w, i32_w]
            rfl
          refine one_ (i := 3) (N := some 31) #[true, true, true, true, false, false, false, false, false, false, false, false, false] rfl rfl (one_of HT_.out (by kernel_rfl)) (by decide) (fun K hK => ?_)
          refine goes_ Try.func19 (by kernel_rfl) rfl #[.agg #[.int .i64 t331, .int .i64 t332, .slice Ao28 t333.length co28, .slice Ao29 t336.length co29]] (by rfl) rfl rfl (by (try simp only [List.map_toArray, List.map_cons, List.map_nil]); first | done | rfl | (simp only [List.length_drop, List.length_take]; rfl)) ?_
          with_reducible refine (psalterylaw16_As.calls t331 t332 _ _ t333 _ _ t336 t343 t344 _ ?side1 ?side2 ?side3 ?side4 A13.out).mono ?_
          (case side1 => repeat (first | exact (Kd.R_reads' HO335.out).2.2 | (with_reducible refine Kd.C_alloc ?_ _) | (with_reducible refine Kd.C_drewN ?_ _) | (with_reducible refine Kd.C_drew ?_)))
          (case side2 => exact (Kd.R_reads' HO335.out).2.1)
          (case side3 => repeat (first | exact (Kd.R_reads' HO338.out).2.2 | (with_reducible refine Kd.C_alloc ?_ _) | (with_reducible refine Kd.C_drewN ?_ _) | (with_reducible refine Kd.C_drew ?_)))
          (case side4 => exact (Kd.R_reads' HO338.out).2.1)
          rintro e w33 ⟨rfl, hb⟩
          refine ⟨_, rfl, ?_⟩
          have n0_ := Aside0.mk (Kd.R_below (by (with_reducible repeat (first | apply Kd.R_alloc | apply Kd.R_drewN | apply Kd.R_drew)); exact HO328.out) hb)
          have n1_ := Aside0.mk (Kd.R_below (by (with_reducible repeat (first | apply Kd.R_alloc | apply Kd.R_drewN | apply Kd.R_drew)); exact HO335.out) hb)
          have n2_ := Aside0.mk (Kd.R_below (by (with_reducible repeat (first | apply Kd.R_alloc | apply Kd.R_drewN | apply Kd.R_drew)); exact HO338.out) hb)
          have n3_ := Aside0.mk (blk_below (g := gb323) (o := .cells #[.int .i64 a0_0, .int .i64 a0_1, .slice A0_2 l0_2.length c0_2, .slice A0_3 l0_3.length c0_3] 24 (0, 0)) (by (with_reducible repeat (first | refine blk_drewN ?_ _ | refine blk_drew ?_ | refine blk_alloc ?_ _)); exact BK323.out) hb)
          have n4_ := Aside0.mk (blk_below (g := gb340) (o := .cells #[.int .i64 t331, .int .i64 t332, .slice Ao28 t333.length co28, .slice Ao29 t336.length co29] 24 (0, 0)) (by (with_reducible repeat (first | refine blk_drewN ?_ _ | refine blk_drew ?_ | refine blk_alloc ?_ _)); exact BK340.out) hb)
          have n5_ := Aside0.mk (below_step (by repeat (first | (with_reducible first | exact HB.out | apply below_alloc | apply pw_below_drewN | apply below_drew1 | refine below_set ?_ GE323.out | refine below_set ?_ GE340.out) | exact HB.out)) hb)
          clear HO328
          clear HO335
          clear HO338
          clear BK323
          clear BK340
          clear HB
          have HO328 := n0_
          have HO335 := n1_
          have HO338 := n2_
          have BK323 := n3_
          have BK340 := n4_
          have HB := n5_
          clear n0_ n1_ n2_ n3_ n4_ n5_
          (try clear hb)
          (try clear hb2)
          (try clear hk)
          (try clear hi)
          refine hK.out _ _ ⟨(blk_cell BK323.out 0).trans rfl, (blk_cell BK323.out 1).trans rfl, (blk_cell BK323.out 2).trans rfl, (blk_cell BK323.out 3).trans rfl, (blk_cell BK340.out 0).trans rfl, (blk_cell BK340.out 1).trans rfl, (blk_cell BK340.out 2).trans rfl, (blk_cell BK340.out 3).trans rfl⟩ (fun hHeld => ?_)
          clear hK K
          refine norm_ (a' := ?_) ?_ ?_
          rotate_left
          · show Act.put _ (some 31) _ = _
            simp only [Act.put, List.setIfInBounds_toArray, List.set_cons_zero, List.set_cons_succ, i64_w, i32_w]
            rfl
          refine one_ (i := 4) (N := some 32) #[true, true, true, true, true, false, false, false, false, false, false, false, false] rfl rfl (one_of HT_.out (by kernel_rfl)) (by decide) (fun K hK => ?_)
          refine goes_ Try.func20 (by kernel_rfl) rfl #[.agg #[.int .i64 t341, .int .i64 t342, .slice A0_2 l0_2.length c0_2, .slice A0_3 l0_3.length c0_3], .agg #[.int .i64 t343, .int .i64 t344, .slice Ao28 t333.length co28, .slice Ao29 t336.length co29]] (by rfl) rfl rfl (by (try simp only [List.map_toArray, List.map_cons, List.map_nil]); first | done | rfl | (simp only [List.length_drop, List.length_take]; rfl)) ?_
          with_reducible refine (psalteryref16_Same.calls k t341 t342 _ _ l0_2 _ _ l0_3 t343 t344 _ _ t333 _ _ t336 true _ ?side1 ?side2 ?side3 ?side4 ?side5 ?side6 ?side7 ?side8 A14.out).mono ?_
          (case side1 => repeat (first | exact (Kd.C_below HR0_2.out HB.out) | (with_reducible refine Kd.C_alloc ?_ _) | (with_reducible refine Kd.C_drewN ?_ _) | (with_reducible refine Kd.C_drew ?_)))
          (case side2 => exact HC0_2.out)
          (case side3 => repeat (first | exact (Kd.C_below HR0_3.out HB.out) | (with_reducible refine Kd.C_alloc ?_ _) | (with_reducible refine Kd.C_drewN ?_ _) | (with_reducible refine Kd.C_drew ?_)))
          (case side4 => exact HC0_3.out)
          (case side5 => repeat (first | exact (Kd.R_reads' HO335.out).2.2 | (with_reducible refine Kd.C_alloc ?_ _) | (with_reducible refine Kd.C_drewN ?_ _) | (with_reducible refine Kd.C_drew ?_)))
          (case side6 => exact (Kd.R_reads' HO335.out).2.1)
          (case side7 => repeat (first | exact (Kd.R_reads' HO338.out).2.2 | (with_reducible refine Kd.C_alloc ?_ _) | (with_reducible refine Kd.C_drewN ?_ _) | (with_reducible refine Kd.C_drew ?_)))
          (case side8 => exact (Kd.R_reads' HO338.out).2.1)
          rintro e w34 ⟨rfl, hb⟩
          refine ⟨_, rfl, ?_⟩
          have n0_ := Aside0.mk (Kd.R_below (by (with_reducible repeat (first | apply Kd.R_alloc | apply Kd.R_drewN | apply Kd.R_drew)); exact HO328.out) hb)
          have n1_ := Aside0.mk (Kd.R_below (by (with_reducible repeat (first | apply Kd.R_alloc | apply Kd.R_drewN | apply Kd.R_drew)); exact HO335.out) hb)
          have n2_ := Aside0.mk (Kd.R_below (by (with_reducible repeat (first | apply Kd.R_alloc | apply Kd.R_drewN | apply Kd.R_drew)); exact HO338.out) hb)
          have n3_ := Aside0.mk (blk_below (g := gb323) (o := .cells #[.int .i64 a0_0, .int .i64 a0_1, .slice A0_2 l0_2.length c0_2, .slice A0_3 l0_3.length c0_3] 24 (0, 0)) (by (with_reducible repeat (first | refine blk_drewN ?_ _ | refine blk_drew ?_ | refine blk_alloc ?_ _)); exact BK323.out) hb)
          have n4_ := Aside0.mk (blk_below (g := gb340) (o := .cells #[.int .i64 t331, .int .i64 t332, .slice Ao28 t333.length co28, .slice Ao29 t336.length co29] 24 (0, 0)) (by (with_reducible repeat (first | refine blk_drewN ?_ _ | refine blk_drew ?_ | refine blk_alloc ?_ _)); exact BK340.out) hb)
          have n5_ := Aside0.mk (below_step (by repeat (first | (with_reducible first | exact HB.out | apply below_alloc | apply pw_below_drewN | apply below_drew1 | refine below_set ?_ GE323.out | refine below_set ?_ GE340.out) | exact HB.out)) hb)
          clear HO328
          clear HO335
          clear HO338
          clear BK323
          clear BK340
          clear HB
          have HO328 := n0_
          have HO335 := n1_
          have HO338 := n2_
          have BK323 := n3_
          have BK340 := n4_
          have HB := n5_
          clear n0_ n1_ n2_ n3_ n4_ n5_
          (try clear hb)
          (try clear hb2)
          (try clear hk)
          (try clear hi)
          refine hK.out _ _ ⟨(blk_cell BK323.out 0).trans rfl, (blk_cell BK323.out 1).trans rfl, (blk_cell BK323.out 2).trans rfl, (blk_cell BK323.out 3).trans rfl, (blk_cell BK340.out 0).trans rfl, (blk_cell BK340.out 1).trans rfl, (blk_cell BK340.out 2).trans rfl, (blk_cell BK340.out 3).trans rfl⟩ (fun hHeld => ?_)
          clear hK K
          refine norm_ (a' := ?_) ?_ ?_
          rotate_left
          · show Act.put _ (some 32) _ = _
            simp only [Act.put, List.setIfInBounds_toArray, List.set_cons_zero, List.set_cons_succ, i64_w, i32_w]
            rfl
          refine pure_ (i := 5) (N := some 33) (v := ?_) (a' := ?_) #[true, true, true, true, true, true, false, false, false, false, false, false, false] rfl rfl (any_of HT_.out (by kernel_rfl)) (fun _ _ _ h => h) (Or.inl ⟨by rfl, ?_⟩) ?_ ?_
          rotate_left
          · intro w'
            go_simp
            with_reducible rfl
          rotate_left
          · simp only [Act.put, List.setIfInBounds_toArray, List.set_cons_zero, List.set_cons_succ, i64_w, i32_w]
            rfl
          refine pure_ (i := 6) (N := some 34) (v := ?_) (a' := ?_) #[true, true, true, true, true, true, true, false, false, false, false, false, false] rfl rfl (any_of HT_.out (by kernel_rfl)) (fun _ _ _ h => h) (Or.inl ⟨by rfl, ?_⟩) ?_ ?_
          rotate_left
          · intro w'
            go_simp
            with_reducible rfl
          rotate_left
          · simp only [Act.put, List.setIfInBounds_toArray, List.set_cons_zero, List.set_cons_succ, i64_w, i32_w]
            rfl
          refine pure_ (i := 7) (N := some 35) (v := ?_) (a' := ?_) #[true, true, true, true, true, true, true, true, false, false, false, false, false] rfl rfl (any_of HT_.out (by kernel_rfl)) (fun _ _ _ h => h) (Or.inl ⟨by rfl, ?_⟩) ?_ ?_
          rotate_left
          · intro w'
            go_simp
            with_reducible rfl
          rotate_left
          · simp only [Act.put, List.setIfInBounds_toArray, List.set_cons_zero, List.set_cons_succ, i64_w, i32_w]
            rfl
          refine pure_ (i := 8) (N := some 36) (v := ?_) (a' := ?_) #[true, true, true, true, true, true, true, true, true, false, false, false, false] rfl rfl (any_of HT_.out (by kernel_rfl)) (fun _ _ _ h => h) (Or.inl ⟨by rfl, ?_⟩) ?_ ?_
          rotate_left
          · intro w'
            go_simp
            with_reducible rfl
          rotate_left
          · simp only [Act.put, List.setIfInBounds_toArray, List.set_cons_zero, List.set_cons_succ, i64_w, i32_w]
            rfl
          refine pure_ (i := 9) (N := some 37) (v := ?_) (a' := ?_) #[true, true, true, true, true, true, true, true, true, true, false, false, false] rfl rfl (any_of HT_.out (by kernel_rfl)) (fun _ _ _ h => h) (Or.inl ⟨by rfl, ?_⟩) ?_ ?_
          rotate_left
          · intro w'
            go_simp
            with_reducible rfl
          rotate_left
          · simp only [Act.put, List.setIfInBounds_toArray, List.set_cons_zero, List.set_cons_succ, i64_w, i32_w]
            rfl
          refine one_ (i := 10) (N := some 38) #[true, true, true, true, true, true, true, true, true, true, true, false, false] rfl rfl (one_of HT_.out (by kernel_rfl)) (by decide) (fun K hK => ?_)
          refine goes_ Try.func16 (by kernel_rfl) rfl #[] (by rfl) rfl rfl (by (try simp only [List.map_toArray, List.map_cons, List.map_nil]); first | done | rfl | (simp only [List.length_drop, List.length_take]; rfl)) ?_
          with_reducible refine (psalterylaw16_knows.calls k  t346 _ A17.out).mono ?_
          rintro e w35 ⟨rfl, hb⟩
          refine ⟨_, rfl, ?_⟩
          have n0_ := Aside0.mk (Kd.R_below (by (with_reducible repeat (first | apply Kd.R_alloc | apply Kd.R_drewN | apply Kd.R_drew)); exact HO328.out) hb)
          have n1_ := Aside0.mk (Kd.R_below (by (with_reducible repeat (first | apply Kd.R_alloc | apply Kd.R_drewN | apply Kd.R_drew)); exact HO335.out) hb)
          have n2_ := Aside0.mk (Kd.R_below (by (with_reducible repeat (first | apply Kd.R_alloc | apply Kd.R_drewN | apply Kd.R_drew)); exact HO338.out) hb)
          have n3_ := Aside0.mk (blk_below (g := gb323) (o := .cells #[.int .i64 a0_0, .int .i64 a0_1, .slice A0_2 l0_2.length c0_2, .slice A0_3 l0_3.length c0_3] 24 (0, 0)) (by (with_reducible repeat (first | refine blk_drewN ?_ _ | refine blk_drew ?_ | refine blk_alloc ?_ _)); exact BK323.out) hb)
          have n4_ := Aside0.mk (blk_below (g := gb340) (o := .cells #[.int .i64 t331, .int .i64 t332, .slice Ao28 t333.length co28, .slice Ao29 t336.length co29] 24 (0, 0)) (by (with_reducible repeat (first | refine blk_drewN ?_ _ | refine blk_drew ?_ | refine blk_alloc ?_ _)); exact BK340.out) hb)
          have n5_ := Aside0.mk (below_step (by repeat (first | (with_reducible first | exact HB.out | apply below_alloc | apply pw_below_drewN | apply below_drew1 | refine below_set ?_ GE323.out | refine below_set ?_ GE340.out) | exact HB.out)) hb)
          clear HO328
          clear HO335
          clear HO338
          clear BK323
          clear BK340
          clear HB
          have HO328 := n0_
          have HO335 := n1_
          have HO338 := n2_
          have BK323 := n3_
          have BK340 := n4_
          have HB := n5_
          clear n0_ n1_ n2_ n3_ n4_ n5_
          (try clear hb)
          (try clear hb2)
          (try clear hk)
          (try clear hi)
          refine hK.out _ _ ⟨(blk_cell BK323.out 0).trans rfl, (blk_cell BK323.out 1).trans rfl, (blk_cell BK323.out 2).trans rfl, (blk_cell BK323.out 3).trans rfl, (blk_cell BK340.out 0).trans rfl, (blk_cell BK340.out 1).trans rfl, (blk_cell BK340.out 2).trans rfl, (blk_cell BK340.out 3).trans rfl⟩ (fun hHeld => ?_)
          clear hK K
          refine norm_ (a' := ?_) ?_ ?_
          rotate_left
          · show Act.put _ (some 38) _ = _
            simp only [Act.put, List.setIfInBounds_toArray, List.set_cons_zero, List.set_cons_succ, i64_w, i32_w]
            rfl
          refine pure_ (i := 11) (N := some 39) (v := ?_) (a' := ?_) #[true, true, true, true, true, true, true, true, true, true, true, true, false] rfl rfl (any_of HT_.out (by kernel_rfl)) (fun _ _ _ h => h) (Or.inl ⟨by rfl, ?_⟩) ?_ ?_
          rotate_left
          · intro w'
            go_simp
            with_reducible rfl
          rotate_left
          · simp only [Act.put, List.setIfInBounds_toArray, List.set_cons_zero, List.set_cons_succ, i64_w, i32_w]
            rfl
          refine pure_ (i := 12) (N := some 2) (v := ?_) (a' := ?_) #[true, true, true, true, true, true, true, true, true, true, true, true, true] rfl rfl (any_of HT_.out (by kernel_rfl)) (fun _ _ _ h => h) (Or.inl ⟨by rfl, ?_⟩) ?_ ?_
          rotate_left
          · intro w'
            go_simp
            with_reducible rfl
          rotate_left
          · simp only [Act.put, List.setIfInBounds_toArray, List.set_cons_zero, List.set_cons_succ, i64_w, i32_w]
            rfl
          refine done_ (done_of HT_.out (by kernel_rfl)) ?_
          try go_wp2
          go_ret
          exact ⟨by first | rfl | (simp [errW_none, errW_some] <;> rfl) | (simp [*, errW_none, errW_some] <;> rfl), by repeat (first | (with_reducible first | exact HB.out | apply below_alloc | apply pw_below_drewN | apply below_drew1 | refine below_set ?_ GE323.out | refine below_set ?_ GE340.out) | exact HB.out)⟩
        · rw [if_neg c16] at H
          have c16b0 : (t339 == 0) = false := beq_eq_false_iff_ne.mpr c16
          have c16b1 : (t339 != 0) = true := bne_iff_ne.mpr c16
          exact absurd ((Option.some.inj H).trans HT.out) (by decide)
      · replace c15 := Bool.eq_false_iff.mpr c15
        subst c15
        have H1 : (some false) = some r := by rw [if_neg (show ¬ (false = true) by decide)] at H; exact H
        clear H
        have H := H1
        clear H1
        exact absurd ((Option.some.inj H).trans HT.out) (by decide)
    · rw [if_neg c10] at H
      have c10b0 : (t329 == 0) = false := beq_eq_false_iff_ne.mpr c10
      have c10b1 : (t329 != 0) = true := bne_iff_ne.mpr c10
      by_cases c36 : (t326.length : Int) = 0
      · rw [if_pos c36] at H
        have c36b0 : ((t326.length : Int) == 0) = true := beq_iff_eq.mpr c36
        have c36b1 : ((t326.length : Int) != 0) = false := bne_eq_false_iff_eq.mpr c36
        clear c36
        replace H := Option.bind_eq_some_iff.mp H
        obtain ⟨t330, A370, H⟩ := H
        replace H : (some t330) = some r := H
        have A37 := Aside0.mk A370
        clear A370
        obtain rfl := Option.some.inj H
        go_enter Try.func6, Try.ntmps6
        go_wp2_with (first | ((with_reducible refine gate_dst (N := 1) rfl ?_); refine box_event ?hg (N := 1) ?hd (cs := #[.int .i64 a0_0, .int .i64 a0_1, .slice A0_2 l0_2.length c0_2, .slice A0_3 l0_3.length c0_3]) (t := 24) ?hr ?_; (case hd => rfl); (case hg => rfl); (case hr => first | (go_simp; done) | (go_simp; rfl)); intro gb323 hg w38 hbox hb; have n0_ := Aside0.mk (below_step (by repeat (first | (with_reducible first | exact HB.out | apply below_alloc | apply pw_below_drewN | apply below_drew1) | exact HB.out)) hb); have n1_ := Aside0.mk (hbox); have n2_ := Aside0.mk ((by rw [hg]; exact (below_size (by repeat (first | (with_reducible first | exact HB.out | apply below_alloc | apply pw_below_drewN | apply below_drew1) | exact HB.out))) : w.heap.size ≤ gb323)); have n3_ := Aside0.mk ((by rw [hg]; exact (below_size (by repeat (first | (with_reducible first | exact HB.out | apply below_alloc | apply pw_below_drewN | apply below_drew1) | exact HB.out))) : w.heap.size ≤ gb323)); clear HB; have HB := n0_; have BK323 := n1_; have GW323 := n2_; have GE323 := n3_; clear n0_ n1_ n2_ n3_; clear hb hbox hg; have hcz39_0 : w38.cell? ⟨gb323, 0, none⟩ = some (.int .i64 a0_0) := (blk_cell BK323.out 0).trans rfl; have hcz39_1 : w38.cell? ⟨gb323, 1, none⟩ = some (.int .i64 a0_1) := (blk_cell BK323.out 1).trans rfl; have hcz39_2 : w38.cell? ⟨gb323, 2, none⟩ = some (.slice A0_2 l0_2.length c0_2) := (blk_cell BK323.out 2).trans rfl; have hcz39_3 : w38.cell? ⟨gb323, 3, none⟩ = some (.slice A0_3 l0_3.length c0_3) := (blk_cell BK323.out 3).trans rfl; have hfz39_0 := blk_frozen BK323.out 0; have hfz39_1 := blk_frozen BK323.out 1; have hfz39_2 := blk_frozen BK323.out 2; have hfz39_3 := blk_frozen BK323.out 3) | ((with_reducible refine gate_callee (f := 15) rfl ?_); refine goesL_ (some 8) rfl rfl Try.func15 (by kernel_rfl) rfl #[.agg #[.int .i64 a0_0, .int .i64 a0_1, .slice A0_2 l0_2.length c0_2, .slice A0_3 l0_3.length c0_3]] rfl (by (try simp only [List.map_toArray, List.map_cons, List.map_nil]); first | done | rfl | (simp only [List.length_drop, List.length_take]; rfl)) ?_; (with_reducible refine (psalterylaw16_Great.calls a0_0 a0_1 _ _ l0_2 _ _ l0_3 false _ ?side1 ?side2 ?side3 ?side4 A2.out).mono ?_); (case side1 => repeat (first | exact (Kd.C_below HR0_2.out HB.out) | (with_reducible refine Kd.C_alloc ?_ _) | (with_reducible refine Kd.C_drewN ?_ _) | (with_reducible refine Kd.C_drew ?_))); (case side2 => exact HC0_2.out); (case side3 => repeat (first | exact (Kd.C_below HR0_3.out HB.out) | (with_reducible refine Kd.C_alloc ?_ _) | (with_reducible refine Kd.C_drewN ?_ _) | (with_reducible refine Kd.C_drew ?_))); (case side4 => exact HC0_3.out); rintro e w40 ⟨rfl, hb⟩; refine ⟨_, rfl, ?_⟩; have n0_ := Aside0.mk (blk_below (g := gb323) (o := .cells #[.int .i64 a0_0, .int .i64 a0_1, .slice A0_2 l0_2.length c0_2, .slice A0_3 l0_3.length c0_3] 24 (0, 0)) (by (with_reducible repeat (first | refine blk_drewN ?_ _ | refine blk_drew ?_ | refine blk_alloc ?_ _)); exact BK323.out) hb); have n1_ := Aside0.mk (below_step (by repeat (first | (with_reducible first | exact HB.out | apply below_alloc | apply pw_below_drewN | apply below_drew1 | refine below_set ?_ GE323.out) | exact HB.out)) hb); clear BK323; clear HB; have BK323 := n0_; have HB := n1_; clear n0_ n1_; (try clear hb); (try clear hb2); (try clear hk); (try clear hi); have hcz41_0 : w40.cell? ⟨gb323, 0, none⟩ = some (.int .i64 a0_0) := (blk_cell BK323.out 0).trans rfl; have hcz41_1 : w40.cell? ⟨gb323, 1, none⟩ = some (.int .i64 a0_1) := (blk_cell BK323.out 1).trans rfl; have hcz41_2 : w40.cell? ⟨gb323, 2, none⟩ = some (.slice A0_2 l0_2.length c0_2) := (blk_cell BK323.out 2).trans rfl; have hcz41_3 : w40.cell? ⟨gb323, 3, none⟩ = some (.slice A0_3 l0_3.length c0_3) := (blk_cell BK323.out 3).trans rfl; have hfz41_0 := blk_frozen BK323.out 0; have hfz41_1 := blk_frozen BK323.out 1; have hfz41_2 := blk_frozen BK323.out 2; have hfz41_3 := blk_frozen BK323.out 3) | ((with_reducible refine gate_callee (f := 23) rfl ?_); refine goesL_ (some 12) rfl rfl Try.func23 (by kernel_rfl) rfl #[.agg #[.int .i64 a0_0, .int .i64 a0_1, .slice A0_2 l0_2.length c0_2, .slice A0_3 l0_3.length c0_3]] rfl (by (try simp only [List.map_toArray, List.map_cons, List.map_nil]); first | done | rfl | (simp only [List.length_drop, List.length_take]; rfl)) ?_; (with_reducible refine (vhead_Write.calls k a0_0 a0_1 _ _ l0_2 _ _ l0_3 t326 t329 _ ?side1 ?side2 ?side3 ?side4 A9.out).mono ?_); (case side1 => repeat (first | exact (Kd.C_below HR0_2.out HB.out) | (with_reducible refine Kd.C_alloc ?_ _) | (with_reducible refine Kd.C_drewN ?_ _) | (with_reducible refine Kd.C_drew ?_))); (case side2 => exact HC0_2.out); (case side3 => repeat (first | exact (Kd.C_below HR0_3.out HB.out) | (with_reducible refine Kd.C_alloc ?_ _) | (with_reducible refine Kd.C_drewN ?_ _) | (with_reducible refine Kd.C_drew ?_))); (case side4 => exact HC0_3.out); rintro e w42 ⟨v327, rfl, ho0, hb⟩; refine ⟨_, rfl, ?_⟩; have n0_ := Aside0.mk (Kd.R_lower ho0 (below_size (by repeat (first | (with_reducible first | exact HB.out | apply below_alloc | apply pw_below_drewN | apply below_drew1 | refine below_set ?_ GE323.out) | exact HB.out)))); have n1_ := Aside0.mk (blk_below (g := gb323) (o := .cells #[.int .i64 a0_0, .int .i64 a0_1, .slice A0_2 l0_2.length c0_2, .slice A0_3 l0_3.length c0_3] 24 (0, 0)) (by (with_reducible repeat (first | refine blk_drewN ?_ _ | refine blk_drew ?_ | refine blk_alloc ?_ _)); exact BK323.out) hb); have n2_ := Aside0.mk (below_step (by repeat (first | (with_reducible first | exact HB.out | apply below_alloc | apply pw_below_drewN | apply below_drew1 | refine below_set ?_ GE323.out) | exact HB.out)) hb); clear BK323; clear HB; have HO328 := n0_; have BK323 := n1_; have HB := n2_; clear n0_ n1_ n2_; (try clear hb); (try clear hb2); (try clear hk); (try clear hi); (try clear ho0); obtain ⟨Ao43, co43, eo43⟩ := Kd.R_slice HO328.out; subst eo43) | (go_at_call 16; (with_reducible refine (psalterylaw16_knows.calls k  t330 _ A37.out).mono ?_); rintro e w44 ⟨rfl, hb⟩; have n0_ := Aside0.mk (Kd.R_below (by (with_reducible repeat (first | apply Kd.R_alloc | apply Kd.R_drewN | apply Kd.R_drew)); exact HO328.out) hb); have n1_ := Aside0.mk (blk_below (g := gb323) (o := .cells #[.int .i64 a0_0, .int .i64 a0_1, .slice A0_2 l0_2.length c0_2, .slice A0_3 l0_3.length c0_3] 24 (0, 0)) (by (with_reducible repeat (first | refine blk_drewN ?_ _ | refine blk_drew ?_ | refine blk_alloc ?_ _)); exact BK323.out) hb); have n2_ := Aside0.mk (below_step (by repeat (first | (with_reducible first | exact HB.out | apply below_alloc | apply pw_below_drewN | apply below_drew1 | refine below_set ?_ GE323.out) | exact HB.out)) hb); clear HO328; clear BK323; clear HB; have HO328 := n0_; have BK323 := n1_; have HB := n2_; clear n0_ n1_ n2_; (try clear hb); (try clear hb2); (try clear hk); (try clear hi)))
        go_ret
        exact ⟨by first | rfl | (simp [errW_none, errW_some] <;> rfl) | (simp [*, errW_none, errW_some] <;> rfl), by repeat (first | (with_reducible first | exact HB.out | apply below_alloc | apply pw_below_drewN | apply below_drew1 | refine below_set ?_ GE323.out) | exact HB.out)⟩
      · rw [if_neg c36] at H
        have c36b0 : ((t326.length : Int) == 0) = false := beq_eq_false_iff_ne.mpr c36
        have c36b1 : ((t326.length : Int) != 0) = true := bne_iff_ne.mpr c36
        have c36b2 : ¬ (t326 = []) := fun h_ => c36 (by rw [h_]; rfl)
        exact absurd ((Option.some.inj H).trans HT.out) (by decide)

/-- THE ONE PURE STATEMENT of psalterylaw16_HeadBack: yours. -/
def psalterylaw16_HeadBack.Pure : Prop := ∀ (a0_0 : Int) (a0_1 : Int) (l0_2 : List Int) (l0_3 : List Int), (Lit.int .i64 a0_0).wf = true → (Lit.int .i64 a0_1).wf = true → (l0_2.length ≤ maxLen ∧ ∀ x0_ ∈ l0_2, (Lit.int .i64 x0_).wf = true) → (l0_3.length ≤ maxLen ∧ ∀ x0_ ∈ l0_3, (Lit.int .i64 x0_).wf = true) → ∃ k, psalterylaw16_HeadBack.f k a0_0 a0_1 l0_2 l0_3 = some true
theorem psalterylaw16_HeadBack.walk (P : psalterylaw16_HeadBack.Pure) (a0_0 : Int) (a0_1 : Int) (A0_2 : Option Addr) (c0_2 : Nat) (l0_2 : List Int) (A0_3 : Option Addr) (c0_3 : Nat) (l0_3 : List Int) (w : World) (hr0_2 : Kd.C (Kd.int .i64) w A0_2 l0_2.length l0_2) (hc0_2 : l0_2.length ≤ c0_2) (hr0_3 : Kd.C (Kd.int .i64) w A0_3 l0_3.length l0_3) (hc0_3 : l0_3.length ≤ c0_3) (w0_0 : (Lit.int .i64 a0_0).wf = true) (w0_1 : (Lit.int .i64 a0_1).wf = true) (w0_2 : (l0_2.length ≤ maxLen ∧ ∀ x0_ ∈ l0_2, (Lit.int .i64 x0_).wf = true)) (w0_3 : (l0_3.length ≤ maxLen ∧ ∀ x0_ ∈ l0_3, (Lit.int .i64 x0_).wf = true)) :
    Calls Try.prog 6 #[.agg #[.int .i64 a0_0, .int .i64 a0_1, .slice A0_2 l0_2.length c0_2, .slice A0_3 l0_3.length c0_3]] w fun e w' => e = .returned (.bool true) ∧ Below w.heap.size w w' := by
  obtain ⟨k, h⟩ := P a0_0 a0_1 l0_2 l0_3 w0_0 w0_1 w0_2 w0_3
  refine (psalterylaw16_HeadBack.calls k a0_0 a0_1 _ _ l0_2 _ _ l0_3 true w hr0_2 hc0_2 hr0_3 hc0_3 h rfl).mono ?_
  rintro e w' ⟨rfl, hd⟩
  exact ⟨rfl, hd⟩

end Go.Proofs.Ytpdfdaoohknfoaa.P
