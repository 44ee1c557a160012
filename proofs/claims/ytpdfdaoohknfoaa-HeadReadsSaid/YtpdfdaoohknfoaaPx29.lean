-- PRINTED by print.py (a twelfth state) out of the translation. Not trusted: Lean checks it.
import Derived.Test.YtpdfdaoohknfoaaPx0
import Derived.Test.YtpdfdaoohknfoaaPx12
import Derived.Test.YtpdfdaoohknfoaaPx13
import Derived.Test.YtpdfdaoohknfoaaPx16
import Derived.Test.YtpdfdaoohknfoaaPx18
import Derived.Test.YtpdfdaoohknfoaaPx28
namespace Go.Proofs.Ytpdfdaoohknfoaa.P
open Go.RowKit Go.Proofs.YtpdfdaoohknfoaaW.PrintWords Go.Proofs.YtpdfdaoohknfoaaW.PrintLast Go.Proofs.YtpdfdaoohknfoaaW.PrintMore
attribute [local go_sem] max2_int min2_int max_two min_two max_three min_three max_four min_four   -- for this text's walks alone
set_option linter.unusedVariables false
set_option linter.unusedSimpArgs false

/-! ### psalterylaw16_HeadReads: function 5 -/
def psalterylaw16_HeadReads.f (k : Nat) (l0 : List Int) : Option (Bool) := if (l0.length : Int) > 1000 then ((psalterylaw16_knows.f k).bind fun t292 => (some t292)) else ((some (([] : List Int) : List Int)).bind fun y293 => (if y293.length + l0.length < 140737488355328 then ((vhead_Read.f k (y293 ++ l0)).bind fun bt299 => ((psalteryref16_Read.f k l0).bind fun bt309 => ((psalterylaw16_As.f bt299.1 bt299.2.1 bt299.2.2.1 bt299.2.2.2.1).bind fun bt319 => ((psalteryref16_Same.f k bt319.1 bt319.2 bt299.2.2.1 bt299.2.2.2.1 bt309.1 bt309.2.1 bt309.2.2.1 bt309.2.2.2.1).bind fun t321 => (if t321 = true then (if bt299.2.2.2.2 = bt309.2.2.2.2 then ((psalterylaw16_knows.f k).bind fun t322 => (some t322)) else (some false)) else (some false)))))) else (none)))
theorem psalterylaw16_HeadReads.mono : ∀ a0 k, LeO (psalterylaw16_HeadReads.f k a0) (psalterylaw16_HeadReads.f (k + 1) a0) := by
  intro a0 k
  unfold psalterylaw16_HeadReads.f
  repeat' first
      | (with_reducible exact psalterylaw16_knows.mono _)
      | (with_reducible exact psalteryref16_Read.mono _ _)
      | (with_reducible exact psalteryref16_Same.mono _ _ _ _ _ _ _ _ _)
      | (with_reducible exact vhead_Read.mono _ _)
      | (with_reducible exact LeO.refl _)
      | (with_reducible exact LeO.none _)
      | (with_reducible refine LeO.ite ?_ ?_)
      | (with_reducible refine LeO.bind ?_ (fun _ => ?_))
      | exact psalterylaw16_knows.mono _
      | exact psalteryref16_Read.mono _ _
      | exact psalteryref16_Same.mono _ _ _ _ _ _ _ _ _
      | exact vhead_Read.mono _ _
      | exact LeO.none _
      | refine LeO.ite ?_ ?_
      | refine LeO.bind ?_ (fun _ => ?_)
def psalterylaw16_HeadReads.T5 : Bool × List (List Nat × List Nat) := (true, [([], []), ([0], [0]), ([], []), ([1, 2, 1], [1, 2]), ([3, 3], [3]), ([4], [4]), ([4], [4]), ([5, 6, 4], [4, 5, 6]), ([4, 7], [4, 7]), ([8, 4], [8]), ([9, 9], [9]), ([9, 10], [9, 10]), ([11, 10, 0, 1, 2, 3, 4, 5, 6, 7, 8, 9, 10, 11], [11])])
def psalterylaw16_HeadReads.B5 : List Nat := [0, 1, 0, 7, 15, 31, 31, 127, 255, 511, 1023, 2047, 4095]
theorem psalterylaw16_HeadReads.tab5 : rtab .any (opsOf Try.f5 5) = psalterylaw16_HeadReads.T5 := by kernel_rfl
theorem psalterylaw16_HeadReads.bits5 : waitsOk psalterylaw16_HeadReads.T5.2 psalterylaw16_HeadReads.B5 = true := by kernel_rfl
set_option maxHeartbeats 8000000 in
set_option maxRecDepth 100000 in
theorem psalterylaw16_HeadReads.calls (k : Nat) (A0 : Option Addr) (c0 : Nat) (l0 : List Int) (r : Bool) (w : World) (hr0 : Kd.C (Kd.int .u8) w A0 l0.length l0) (hc0 : l0.length ≤ c0) (h : psalterylaw16_HeadReads.f k l0 = some r) (hT : r = true) :
    Calls Try.prog 5 #[.slice A0 l0.length c0] w fun e w' => e = .returned (.bool r) ∧ Below w.heap.size w w' := by
  have hu24 := Try.underlying24
  have hu28 := Try.underlying28
  have HR0 := Aside0.mk hr0
  have HC0 := Aside0.mk hc0
  clear hr0 hc0
  have HB := Aside0.mk (Below.refl w.heap.size w)
  have H : (if (l0.length : Int) > 1000 then ((psalterylaw16_knows.f k).bind fun t292 => (some t292)) else ((some (([] : List Int) : List Int)).bind fun y293 => (if y293.length + l0.length < 140737488355328 then ((vhead_Read.f k (y293 ++ l0)).bind fun bt299 => ((psalteryref16_Read.f k l0).bind fun bt309 => ((psalterylaw16_As.f bt299.1 bt299.2.1 bt299.2.2.1 bt299.2.2.2.1).bind fun bt319 => ((psalteryref16_Same.f k bt319.1 bt319.2 bt299.2.2.1 bt299.2.2.2.1 bt309.1 bt309.2.1 bt309.2.2.1 bt309.2.2.2.1).bind fun t321 => (if t321 = true then (if bt299.2.2.2.2 = bt309.2.2.2.2 then ((psalterylaw16_knows.f k).bind fun t322 => (some t322)) else (some false)) else (some false)))))) else (none)))) = some r := h
  clear h
  have HT := Aside0.mk hT
  clear hT
  by_cases c2 : (l0.length : Int) > 1000
  · rw [if_pos c2] at H
    have c2b0 : decide (1000 < (l0.length : Int)) = true := decide_eq_true c2
    have c2b1 : decide (1000 < l0.length) = true := decide_eq_true (by omega)
    clear c2
    replace H := Option.bind_eq_some_iff.mp H
    obtain ⟨t292, A30, H⟩ := H
    replace H : (some t292) = some r := H
    have A3 := Aside0.mk A30
    clear A30
    obtain rfl := Option.some.inj H
    go_enter Try.func5, Try.ntmps5
    go_wp2_with (first | ((with_reducible refine gate_callee (f := 16) rfl ?_); refine goesL_ (some 10) rfl rfl Try.func16 (by kernel_rfl) rfl #[] rfl (by (try simp only [List.map_toArray, List.map_cons, List.map_nil]); first | done | rfl | (simp only [List.length_drop, List.length_take]; rfl)) ?_; (with_reducible refine (psalterylaw16_knows.calls k  t292 _ A3.out).mono ?_); rintro e w4 ⟨rfl, hb⟩; refine ⟨_, rfl, ?_⟩; have n0_ := Aside0.mk (below_step (by repeat (first | (with_reducible first | exact HB.out | apply below_alloc | apply pw_below_drewN | apply below_drew1) | exact HB.out)) hb); clear HB; have HB := n0_; clear n0_; (try clear hb); (try clear hb2); (try clear hk); (try clear hi)))
    go_ret
    exact ⟨by first | rfl | (simp [errW_none, errW_some] <;> rfl) | (simp [*, errW_none, errW_some] <;> rfl), by repeat (first | (with_reducible first | exact HB.out | apply below_alloc | apply pw_below_drewN | apply below_drew1) | exact HB.out)⟩
  · rw [if_neg c2] at H
    have c2b0 : decide (1000 < (l0.length : Int)) = false := decide_eq_false c2
    have c2b1 : decide (1000 < l0.length) = false := decide_eq_false (by omega)
    clear c2
    obtain ⟨y293, hy293⟩ : ∃ y_ : List Int, y_ = (([] : List Int)) := ⟨_, rfl⟩
    replace H : (if y293.length + l0.length < 140737488355328 then ((vhead_Read.f k (y293 ++ l0)).bind fun bt299 => ((psalteryref16_Read.f k l0).bind fun bt309 => ((psalterylaw16_As.f bt299.1 bt299.2.1 bt299.2.2.1 bt299.2.2.2.1).bind fun bt319 => ((psalteryref16_Same.f k bt319.1 bt319.2 bt299.2.2.1 bt299.2.2.2.1 bt309.1 bt309.2.1 bt309.2.2.1 bt309.2.2.2.1).bind fun t321 => (if t321 = true then (if bt299.2.2.2.2 = bt309.2.2.2.2 then ((psalterylaw16_knows.f k).bind fun t322 => (some t322)) else (some false)) else (some false)))))) else (none)) = some r := by first | (rw [hy293]; with_reducible exact H) | (have H2_ := (Option.bind_some _ _).symm.trans H; rw [hy293]; with_reducible exact H2_) | (have H2_ := (Option.bind_some _ _).symm.trans H; with_reducible exact H2_) | with_reducible exact H | (rw [hy293]; exact H) | exact H
    have Ny293 := Aside0.mk hy293
    clear hy293
    by_cases c5 : y293.length + l0.length < 140737488355328
    · rw [if_pos c5] at H
      have LMc5 := Aside0.mk c5
      clear c5
      obtain ⟨y296, hy296⟩ : ∃ y_ : List Int, y_ = (y293 ++ l0) := ⟨_, rfl⟩
      replace H : ((vhead_Read.f k y296).bind fun bt299 => ((psalteryref16_Read.f k l0).bind fun bt309 => ((psalterylaw16_As.f bt299.1 bt299.2.1 bt299.2.2.1 bt299.2.2.2.1).bind fun bt319 => ((psalteryref16_Same.f k bt319.1 bt319.2 bt299.2.2.1 bt299.2.2.2.1 bt309.1 bt309.2.1 bt309.2.2.1 bt309.2.2.2.1).bind fun t321 => (if t321 = true then (if bt299.2.2.2.2 = bt309.2.2.2.2 then ((psalterylaw16_knows.f k).bind fun t322 => (some t322)) else (some false)) else (some false)))))) = some r := by first | (rw [hy296]; with_reducible exact H) | (have H2_ := (Option.bind_some _ _).symm.trans H; rw [hy296]; with_reducible exact H2_) | (have H2_ := (Option.bind_some _ _).symm.trans H; with_reducible exact H2_) | with_reducible exact H | (rw [hy296]; exact H) | exact H
      have Ny296 := Aside0.mk hy296
      clear hy296
      replace H := Option.bind_eq_some_iff.mp H
      obtain ⟨⟨t299, t300, t301, t304, t307⟩, A60, H⟩ := H
      replace H : ((psalteryref16_Read.f k l0).bind fun bt309 => ((psalterylaw16_As.f t299 t300 t301 t304).bind fun bt319 => ((psalteryref16_Same.f k bt319.1 bt319.2 t301 t304 bt309.1 bt309.2.1 bt309.2.2.1 bt309.2.2.2.1).bind fun t321 => (if t321 = true then (if t307 = bt309.2.2.2.2 then ((psalterylaw16_knows.f k).bind fun t322 => (some t322)) else (some false)) else (some false))))) = some r := H
      have A6 := Aside0.mk A60
      clear A60
      replace H := Option.bind_eq_some_iff.mp H
      obtain ⟨⟨t309, t310, t311, t314, t317⟩, A70, H⟩ := H
      replace H : ((psalterylaw16_As.f t299 t300 t301 t304).bind fun bt319 => ((psalteryref16_Same.f k bt319.1 bt319.2 t301 t304 t309 t310 t311 t314).bind fun t321 => (if t321 = true then (if t307 = t317 then ((psalterylaw16_knows.f k).bind fun t322 => (some t322)) else (some false)) else (some false)))) = some r := H
      have A7 := Aside0.mk A70
      clear A70
      replace H := Option.bind_eq_some_iff.mp H
      obtain ⟨⟨t319, t320⟩, A80, H⟩ := H
      replace H : ((psalteryref16_Same.f k t319 t320 t301 t304 t309 t310 t311 t314).bind fun t321 => (if t321 = true then (if t307 = t317 then ((psalterylaw16_knows.f k).bind fun t322 => (some t322)) else (some false)) else (some false))) = some r := H
      have A8 := Aside0.mk A80
      clear A80
      replace H := Option.bind_eq_some_iff.mp H
      obtain ⟨t321, A90, H⟩ := H
      replace H : (if t321 = true then (if t307 = t317 then ((psalterylaw16_knows.f k).bind fun t322 => (some t322)) else (some false)) else (some false)) = some r := H
      have A9 := Aside0.mk A90
      clear A90
      by_cases c10 : t321 = true
      · subst c10
        have H1 : (if t307 = t317 then ((psalterylaw16_knows.f k).bind fun t322 => (some t322)) else (some false)) = some r := by rw [if_pos rfl] at H; exact H
        clear H
        have H := H1
        clear H1
        by_cases c11 : t307 = t317
        · rw [if_pos c11] at H
          have c11b0 : (t307 == t317) = true := beq_iff_eq.mpr c11
          have c11b1 : (t307 != t317) = false := bne_eq_false_iff_eq.mpr c11
          clear c11
          replace H := Option.bind_eq_some_iff.mp H
          obtain ⟨t322, A120, H⟩ := H
          replace H : (some t322) = some r := H
          have A12 := Aside0.mk A120
          clear A120
          obtain rfl := Option.some.inj H
          go_enter Try.func5, Try.ntmps5
          try go_wp2_with (first | ((with_reducible refine gate_dst (N := 12) rfl ?_); refine Kd.R_lit (Kd.int .u8) _ 5 ?hg (N := 12) ?hd (xs := ([] : List Int)) (inner := []) (ok := fun _ => True) (okp := fun _ => True) ?hr ?hp (fun _ hk => hk) trivial (Below.refl _ _) (Nat.le_refl _) (by simp) ?_; (case hd => rfl); (case hg => rfl); (case hr => first | (go_simp; done) | (go_simp; rfl)); (case hp => exact (Reps.none _ _)); intro v294 w13 ho14 hb hg_ hnew_; clear hg_ hnew_; (first | rw [← Ny293.out] at ho14 | (simp only [Int.reduceToNat] at ho14; rw [← Ny293.out] at ho14)); have n0_ := Aside0.mk (Kd.R_lower ho14 (below_size (by repeat (first | (with_reducible first | exact HB.out | apply below_alloc | apply pw_below_drewN | apply below_drew1) | exact HB.out)))); have n1_ := Aside0.mk (below_step (by repeat (first | (with_reducible first | exact HB.out | apply below_alloc | apply pw_below_drewN | apply below_drew1) | exact HB.out)) hb); clear HB; have HO295 := n0_; have HB := n1_; clear n0_ n1_; clear hb ho14) | ((with_reducible refine gate_builtin (b := .append) (xs := #[.tmp 12, .tmp 13]) rfl ?_); at_builtin; refine Kd.R_append_rows (Kd.int .u8) (w0 := w) w.heap.size rfl (.tmp 12) (.tmp 13) 34 5 (.int .u8 0) 1 rfl Try.underlying34 info5 rfl (by decide) (by omega) v294 y293 l0 _ _ _ (fun _ => True) (fun _ => False) rfl rfl ?aO ?aR (fun _ _ h => h) (fun _ h => h.elim) ?aF ?aB ?aS ?aL ?_; (case aR => repeat (first | exact (Kd.C_below HR0.out HB.out) | (with_reducible refine Kd.C_alloc ?_ _) | (with_reducible refine Kd.C_drewN ?_ _) | (with_reducible refine Kd.C_drew ?_))); (case aB => exact (by repeat (first | (with_reducible first | exact HB.out | apply below_alloc | apply pw_below_drewN | apply below_drew1) | exact HB.out))); (case aF => exact (fun _ _ => trivial)); (case aO => exact (by (with_reducible repeat (first | apply Kd.R_alloc | apply Kd.R_drewN | apply Kd.R_drew)); exact HO295.out)); (case aS => exact (below_size (by repeat (first | (with_reducible first | exact HB.out | apply below_alloc | apply pw_below_drewN | apply below_drew1) | exact HB.out)))); (case aL => have := LMc5.out; omega); intro v297 w15 ho hb hg hat; rw [← Ny296.out] at ho; have n0_ := Aside0.mk (hb); have n1_ := Aside0.mk (ho); clear HB; clear HO295; have HB := n0_; have HO298 := n1_; clear n0_ n1_; clear ho hb hg hat; obtain ⟨Ao16, co16, eo16⟩ := Kd.R_slice HO298.out; subst eo16) | ((with_reducible refine gate_callee (f := 25) rfl ?_); refine goesL_ (some 15) rfl rfl Try.func25 (by kernel_rfl) rfl #[.slice Ao16 y296.length co16] rfl (by (try simp only [List.map_toArray, List.map_cons, List.map_nil]); first | done | rfl | (simp only [List.length_drop, List.length_take]; rfl)) ?_; (with_reducible refine (vhead_Read.calls k _ _ y296 t299 t300 t301 t304 t307 _ ?side1 ?side2 A6.out).mono ?_); (case side1 => repeat (first | exact (Kd.R_reads' HO298.out).2.2 | (with_reducible refine Kd.C_alloc ?_ _) | (with_reducible refine Kd.C_drewN ?_ _) | (with_reducible refine Kd.C_drew ?_))); (case side2 => exact (Kd.R_reads' HO298.out).2.1); rintro e w17 ⟨v302, v305, rfl, ho0, ho1, hb⟩; refine ⟨_, rfl, ?_⟩; have n0_ := Aside0.mk (Kd.R_below (by (with_reducible repeat (first | apply Kd.R_alloc | apply Kd.R_drewN | apply Kd.R_drew)); exact HO298.out) hb); have n1_ := Aside0.mk (Kd.R_lower ho0 (below_size (by repeat (first | (with_reducible first | exact HB.out | apply below_alloc | apply pw_below_drewN | apply below_drew1) | exact HB.out)))); have n2_ := Aside0.mk (Kd.R_lower ho1 (below_size (by repeat (first | (with_reducible first | exact HB.out | apply below_alloc | apply pw_below_drewN | apply below_drew1) | exact HB.out)))); have n3_ := Aside0.mk (below_step (by repeat (first | (with_reducible first | exact HB.out | apply below_alloc | apply pw_below_drewN | apply below_drew1) | exact HB.out)) hb); clear HO298; clear HB; have HO298 := n0_; have HO303 := n1_; have HO306 := n2_; have HB := n3_; clear n0_ n1_ n2_ n3_; (try clear hb); (try clear hb2); (try clear hk); (try clear hi); (try clear ho0); (try clear ho1)) | ((with_reducible refine gate_dst (N := 3) rfl ?_); refine box_event ?hg (N := 3) ?hd (cs := #[.int .i64 0, .int .i64 0, .slice none 0 0, .slice none 0 0]) (t := 24) ?hr ?_; (case hd => rfl); (case hg => rfl); (case hr => first | (go_simp; done) | (go_simp; rfl)); intro gb308 hg w18 hbox hb; have n0_ := Aside0.mk (Kd.R_below (by (with_reducible repeat (first | apply Kd.R_alloc | apply Kd.R_drewN | apply Kd.R_drew)); exact HO298.out) hb); have n1_ := Aside0.mk (Kd.R_below (by (with_reducible repeat (first | apply Kd.R_alloc | apply Kd.R_drewN | apply Kd.R_drew)); exact HO303.out) hb); have n2_ := Aside0.mk (Kd.R_below (by (with_reducible repeat (first | apply Kd.R_alloc | apply Kd.R_drewN | apply Kd.R_drew)); exact HO306.out) hb); have n3_ := Aside0.mk (below_step (by repeat (first | (with_reducible first | exact HB.out | apply below_alloc | apply pw_below_drewN | apply below_drew1) | exact HB.out)) hb); have n4_ := Aside0.mk (hbox); have n5_ := Aside0.mk ((by rw [hg]; exact (below_size (by repeat (first | (with_reducible first | exact HB.out | apply below_alloc | apply pw_below_drewN | apply below_drew1) | exact HB.out))) : w.heap.size ≤ gb308)); have n6_ := Aside0.mk ((by rw [hg]; exact (below_size (by repeat (first | (with_reducible first | exact HB.out | apply below_alloc | apply pw_below_drewN | apply below_drew1) | exact HB.out))) : w.heap.size ≤ gb308)); clear HO298; clear HO303; clear HO306; clear HB; have HO298 := n0_; have HO303 := n1_; have HO306 := n2_; have HB := n3_; have BK308 := n4_; have GW308 := n5_; have GE308 := n6_; clear n0_ n1_ n2_ n3_ n4_ n5_ n6_; clear hb hbox hg; have hcz19_0 : w18.cell? ⟨gb308, 0, none⟩ = some (.int .i64 0) := (blk_cell BK308.out 0).trans rfl; have hcz19_1 : w18.cell? ⟨gb308, 1, none⟩ = some (.int .i64 0) := (blk_cell BK308.out 1).trans rfl; have hcz19_2 : w18.cell? ⟨gb308, 2, none⟩ = some (.slice none 0 0) := (blk_cell BK308.out 2).trans rfl; have hcz19_3 : w18.cell? ⟨gb308, 3, none⟩ = some (.slice none 0 0) := (blk_cell BK308.out 3).trans rfl; have hfz19_0 := blk_frozen BK308.out 0; have hfz19_1 := blk_frozen BK308.out 1; have hfz19_2 := blk_frozen BK308.out 2; have hfz19_3 := blk_frozen BK308.out 3; obtain ⟨Ao20, co20, eo20⟩ := Kd.R_slice HO303.out; subst eo20; obtain ⟨Ao21, co21, eo21⟩ := Kd.R_slice HO306.out; subst eo21) | ((with_reducible refine gate_callee (f := 26) rfl ?_); refine goesL_ (some 20) rfl rfl Try.func26 (by kernel_rfl) rfl #[.slice A0 l0.length c0] rfl (by (try simp only [List.map_toArray, List.map_cons, List.map_nil]); first | done | rfl | (simp only [List.length_drop, List.length_take]; rfl)) ?_; (with_reducible refine (psalteryref16_Read.calls k _ _ l0 t309 t310 t311 t314 t317 _ ?side1 ?side2 A7.out).mono ?_); (case side1 => exact Kd.C_below HR0.out (by repeat (first | (with_reducible first | exact HB.out | apply below_alloc | apply pw_below_drewN | apply below_drew1 | refine below_set ?_ GE308.out) | exact HB.out))); (case side2 => exact HC0.out); rintro e w22 ⟨v312, v315, rfl, ho0, ho1, hb⟩; refine ⟨_, rfl, ?_⟩; have n0_ := Aside0.mk (Kd.R_below (by (with_reducible repeat (first | apply Kd.R_alloc | apply Kd.R_drewN | apply Kd.R_drew)); exact (Kd.R_mono (Kd.R_far (p := ⟨gb308, 3, none⟩) (Kd.R_far (p := ⟨gb308, 2, none⟩) (Kd.R_far (p := ⟨gb308, 1, none⟩) (Kd.R_far (p := ⟨gb308, 0, none⟩) (Kd.R_types HO298.out BK308.out (by decide)) (fun _ hk => hk.2) (.int .i64 t299)) (fun _ hk => hk.2) (.int .i64 t300)) (fun _ hk => hk.2) (.slice Ao20 t301.length co20)) (fun _ hk => hk.2) (.slice Ao21 t304.length co21)) (fun _ h_ => h_.1))) hb); have n1_ := Aside0.mk (Kd.R_mono (Kd.R_told (Kd.R_told (Kd.R_old (by (with_reducible repeat (first | apply Kd.R_alloc | apply Kd.R_drewN | apply Kd.R_drew)); exact (Kd.R_mono (Kd.R_far (p := ⟨gb308, 3, none⟩) (Kd.R_far (p := ⟨gb308, 2, none⟩) (Kd.R_far (p := ⟨gb308, 1, none⟩) (Kd.R_far (p := ⟨gb308, 0, none⟩) (Kd.R_types HO303.out BK308.out (by decide)) (fun _ hk => hk.2) (.int .i64 t299)) (fun _ hk => hk.2) (.int .i64 t300)) (fun _ hk => hk.2) (.slice Ao20 t301.length co20)) (fun _ hk => hk.2) (.slice Ao21 t304.length co21)) (fun _ h_ => h_.1))) hb) (Kd.R_base ho0)) (Kd.R_base ho1)) (fun _ h_ => h_.1)); have n2_ := Aside0.mk (Kd.R_mono (Kd.R_told (Kd.R_told (Kd.R_old (by (with_reducible repeat (first | apply Kd.R_alloc | apply Kd.R_drewN | apply Kd.R_drew)); exact (Kd.R_mono (Kd.R_far (p := ⟨gb308, 3, none⟩) (Kd.R_far (p := ⟨gb308, 2, none⟩) (Kd.R_far (p := ⟨gb308, 1, none⟩) (Kd.R_far (p := ⟨gb308, 0, none⟩) (Kd.R_types HO306.out BK308.out (by decide)) (fun _ hk => hk.2) (.int .i64 t299)) (fun _ hk => hk.2) (.int .i64 t300)) (fun _ hk => hk.2) (.slice Ao20 t301.length co20)) (fun _ hk => hk.2) (.slice Ao21 t304.length co21)) (fun _ h_ => h_.1))) hb) (Kd.R_base ho0)) (Kd.R_base ho1)) (fun _ h_ => h_.1)); have n3_ := Aside0.mk (Kd.R_lower (Kd.R_new' (Kd.R_new' ho0 (Kd.R_lt (by (with_reducible repeat (first | apply Kd.R_alloc | apply Kd.R_drewN | apply Kd.R_drew)); exact (Kd.R_mono (Kd.R_far (p := ⟨gb308, 3, none⟩) (Kd.R_far (p := ⟨gb308, 2, none⟩) (Kd.R_far (p := ⟨gb308, 1, none⟩) (Kd.R_far (p := ⟨gb308, 0, none⟩) (Kd.R_types HO303.out BK308.out (by decide)) (fun _ hk => hk.2) (.int .i64 t299)) (fun _ hk => hk.2) (.int .i64 t300)) (fun _ hk => hk.2) (.slice Ao20 t301.length co20)) (fun _ hk => hk.2) (.slice Ao21 t304.length co21)) (fun _ h_ => h_.1))))) (Kd.R_lt (by (with_reducible repeat (first | apply Kd.R_alloc | apply Kd.R_drewN | apply Kd.R_drew)); exact (Kd.R_mono (Kd.R_far (p := ⟨gb308, 3, none⟩) (Kd.R_far (p := ⟨gb308, 2, none⟩) (Kd.R_far (p := ⟨gb308, 1, none⟩) (Kd.R_far (p := ⟨gb308, 0, none⟩) (Kd.R_types HO306.out BK308.out (by decide)) (fun _ hk => hk.2) (.int .i64 t299)) (fun _ hk => hk.2) (.int .i64 t300)) (fun _ hk => hk.2) (.slice Ao20 t301.length co20)) (fun _ hk => hk.2) (.slice Ao21 t304.length co21)) (fun _ h_ => h_.1))))) (below_size (by repeat (first | (with_reducible first | exact HB.out | apply below_alloc | apply pw_below_drewN | apply below_drew1 | refine below_set ?_ GE308.out) | exact HB.out)))); have n4_ := Aside0.mk (Kd.R_lower (Kd.R_new' (Kd.R_new' ho1 (Kd.R_lt (by (with_reducible repeat (first | apply Kd.R_alloc | apply Kd.R_drewN | apply Kd.R_drew)); exact (Kd.R_mono (Kd.R_far (p := ⟨gb308, 3, none⟩) (Kd.R_far (p := ⟨gb308, 2, none⟩) (Kd.R_far (p := ⟨gb308, 1, none⟩) (Kd.R_far (p := ⟨gb308, 0, none⟩) (Kd.R_types HO303.out BK308.out (by decide)) (fun _ hk => hk.2) (.int .i64 t299)) (fun _ hk => hk.2) (.int .i64 t300)) (fun _ hk => hk.2) (.slice Ao20 t301.length co20)) (fun _ hk => hk.2) (.slice Ao21 t304.length co21)) (fun _ h_ => h_.1))))) (Kd.R_lt (by (with_reducible repeat (first | apply Kd.R_alloc | apply Kd.R_drewN | apply Kd.R_drew)); exact (Kd.R_mono (Kd.R_far (p := ⟨gb308, 3, none⟩) (Kd.R_far (p := ⟨gb308, 2, none⟩) (Kd.R_far (p := ⟨gb308, 1, none⟩) (Kd.R_far (p := ⟨gb308, 0, none⟩) (Kd.R_types HO306.out BK308.out (by decide)) (fun _ hk => hk.2) (.int .i64 t299)) (fun _ hk => hk.2) (.int .i64 t300)) (fun _ hk => hk.2) (.slice Ao20 t301.length co20)) (fun _ hk => hk.2) (.slice Ao21 t304.length co21)) (fun _ h_ => h_.1))))) (below_size (by repeat (first | (with_reducible first | exact HB.out | apply below_alloc | apply pw_below_drewN | apply below_drew1 | refine below_set ?_ GE308.out) | exact HB.out)))); have n5_ := Aside0.mk (blk_below (g := gb308) (o := .cells #[.int .i64 t299, .int .i64 t300, .slice Ao20 t301.length co20, .slice Ao21 t304.length co21] 24 (0, 0)) (by (with_reducible repeat (first | refine blk_drewN ?_ _ | refine blk_drew ?_ | refine blk_alloc ?_ _)); refine blk_put (cs := #[.int .i64 t299, .int .i64 t300, .slice Ao20 t301.length co20, .slice none 0 0]) ?_ 3 _ rfl; (with_reducible repeat (first | refine blk_drewN ?_ _ | refine blk_drew ?_ | refine blk_alloc ?_ _)); refine blk_put (cs := #[.int .i64 t299, .int .i64 t300, .slice none 0 0, .slice none 0 0]) ?_ 2 _ rfl; (with_reducible repeat (first | refine blk_drewN ?_ _ | refine blk_drew ?_ | refine blk_alloc ?_ _)); refine blk_put (cs := #[.int .i64 t299, .int .i64 0, .slice none 0 0, .slice none 0 0]) ?_ 1 _ rfl; (with_reducible repeat (first | refine blk_drewN ?_ _ | refine blk_drew ?_ | refine blk_alloc ?_ _)); refine blk_put (cs := #[.int .i64 0, .int .i64 0, .slice none 0 0, .slice none 0 0]) ?_ 0 _ rfl; (with_reducible repeat (first | refine blk_drewN ?_ _ | refine blk_drew ?_ | refine blk_alloc ?_ _)); exact BK308.out) hb); have n6_ := Aside0.mk (below_step (by repeat (first | (with_reducible first | exact HB.out | apply below_alloc | apply pw_below_drewN | apply below_drew1 | refine below_set ?_ GE308.out) | exact HB.out)) hb); clear HO298; clear HO303; clear HO306; clear BK308; clear HB; have HO298 := n0_; have HO303 := n1_; have HO306 := n2_; have HO313 := n3_; have HO316 := n4_; have BK308 := n5_; have HB := n6_; clear n0_ n1_ n2_ n3_ n4_ n5_ n6_; (try clear hb); (try clear hb2); (try clear hk); (try clear hi); (try clear ho0); (try clear ho1)) | ((with_reducible refine gate_dst (N := 5) rfl ?_); refine box_event ?hg (N := 5) ?hd (cs := #[.int .i64 0, .int .i64 0, .slice none 0 0, .slice none 0 0]) (t := 28) ?hr ?_; (case hd => rfl); (case hg => rfl); (case hr => first | (go_simp; done) | (go_simp; rfl)); intro gb318 hg w23 hbox hb; have n0_ := Aside0.mk (Kd.R_below (by (with_reducible repeat (first | apply Kd.R_alloc | apply Kd.R_drewN | apply Kd.R_drew)); exact HO298.out) hb); have n1_ := Aside0.mk (Kd.R_below (by (with_reducible repeat (first | apply Kd.R_alloc | apply Kd.R_drewN | apply Kd.R_drew)); exact HO303.out) hb); have n2_ := Aside0.mk (Kd.R_below (by (with_reducible repeat (first | apply Kd.R_alloc | apply Kd.R_drewN | apply Kd.R_drew)); exact HO306.out) hb); have n3_ := Aside0.mk (Kd.R_below (by (with_reducible repeat (first | apply Kd.R_alloc | apply Kd.R_drewN | apply Kd.R_drew)); exact HO313.out) hb); have n4_ := Aside0.mk (Kd.R_below (by (with_reducible repeat (first | apply Kd.R_alloc | apply Kd.R_drewN | apply Kd.R_drew)); exact HO316.out) hb); have n5_ := Aside0.mk (blk_below (g := gb308) (o := .cells #[.int .i64 t299, .int .i64 t300, .slice Ao20 t301.length co20, .slice Ao21 t304.length co21] 24 (0, 0)) (by (with_reducible repeat (first | refine blk_drewN ?_ _ | refine blk_drew ?_ | refine blk_alloc ?_ _)); exact BK308.out) hb); have n6_ := Aside0.mk (below_step (by repeat (first | (with_reducible first | exact HB.out | apply below_alloc | apply pw_below_drewN | apply below_drew1 | refine below_set ?_ GE308.out) | exact HB.out)) hb); have n7_ := Aside0.mk (hbox); have n8_ := Aside0.mk ((by rw [hg]; exact (below_size (by repeat (first | (with_reducible first | exact HB.out | apply below_alloc | apply pw_below_drewN | apply below_drew1 | refine below_set ?_ GE308.out) | exact HB.out))) : w.heap.size ≤ gb318)); have n9_ := Aside0.mk ((by rw [hg]; exact (below_size (by repeat (first | (with_reducible first | exact HB.out | apply below_alloc | apply pw_below_drewN | apply below_drew1 | refine below_set ?_ GE308.out) | exact HB.out))) : w.heap.size ≤ gb318)); have n10_ := Aside0.mk ((by rw [hg]; exact Nat.ne_of_lt (blk_lt (g := gb308) (o := .cells #[.int .i64 t299, .int .i64 t300, .slice Ao20 t301.length co20, .slice Ao21 t304.length co21] 24 (0, 0)) (by (with_reducible repeat (first | refine blk_drewN ?_ _ | refine blk_drew ?_ | refine blk_alloc ?_ _)); exact BK308.out)) : gb308 ≠ gb318)); have n11_ := Aside0.mk ((by rw [hg]; exact Nat.ne_of_gt (blk_lt (g := gb308) (o := .cells #[.int .i64 t299, .int .i64 t300, .slice Ao20 t301.length co20, .slice Ao21 t304.length co21] 24 (0, 0)) (by (with_reducible repeat (first | refine blk_drewN ?_ _ | refine blk_drew ?_ | refine blk_alloc ?_ _)); exact BK308.out)) : gb318 ≠ gb308)); clear HO298; clear HO303; clear HO306; clear HO313; clear HO316; clear BK308; clear HB; have HO298 := n0_; have HO303 := n1_; have HO306 := n2_; have HO313 := n3_; have HO316 := n4_; have BK308 := n5_; have HB := n6_; have BK318 := n7_; have GW318 := n8_; have GE318 := n9_; have NB308_318 := n10_; have NB318_308 := n11_; clear n0_ n1_ n2_ n3_ n4_ n5_ n6_ n7_ n8_ n9_ n10_ n11_; clear hb hbox hg; have hnb24 := NB318_308.out; have hnc24 := NB308_318.out; have hcz25_0 : w23.cell? ⟨gb318, 0, none⟩ = some (.int .i64 0) := (blk_cell BK318.out 0).trans rfl; have hcz25_1 : w23.cell? ⟨gb318, 1, none⟩ = some (.int .i64 0) := (blk_cell BK318.out 1).trans rfl; have hcz25_2 : w23.cell? ⟨gb318, 2, none⟩ = some (.slice none 0 0) := (blk_cell BK318.out 2).trans rfl; have hcz25_3 : w23.cell? ⟨gb318, 3, none⟩ = some (.slice none 0 0) := (blk_cell BK318.out 3).trans rfl; have hfz25_0 := blk_frozen BK318.out 0; have hfz25_1 := blk_frozen BK318.out 1; have hfz25_2 := blk_frozen BK318.out 2; have hfz25_3 := blk_frozen BK318.out 3; obtain ⟨Ao26, co26, eo26⟩ := Kd.R_slice HO313.out; subst eo26; obtain ⟨Ao27, co27, eo27⟩ := Kd.R_slice HO316.out; subst eo27))
          have n0_ : Aside0 (Kd.R (Kd.int .u8) 5 ((((w23.setCell ⟨gb318, 0, none⟩ (.int .i64 t309)).setCell ⟨gb318, 1, none⟩ (.int .i64 t310)).setCell ⟨gb318, 2, none⟩ (.slice Ao26 t311.length co26)).setCell ⟨gb318, 3, none⟩ (.slice Ao27 t314.length co27)) w.heap.size (fun _ => True) (.slice Ao16 y296.length co16) y296) := ⟨by (with_reducible repeat (first | apply Kd.R_alloc | apply Kd.R_drewN | apply Kd.R_drew)); exact Kd.R_mono (Kd.R_far (p := ⟨gb318, 3, none⟩) (Kd.R_far (p := ⟨gb318, 2, none⟩) (Kd.R_far (p := ⟨gb318, 1, none⟩) (Kd.R_far (p := ⟨gb318, 0, none⟩) (Kd.R_types HO298.out BK318.out (by decide)) (fun _ hk => hk.2) (.int .i64 t309)) (fun _ hk => hk.2) (.int .i64 t310)) (fun _ hk => hk.2) (.slice Ao26 t311.length co26)) (fun _ hk => hk.2) (.slice Ao27 t314.length co27)) (fun _ hk => trivial)⟩
          have n1_ : Aside0 (Kd.R (Kd.int .i64) 3 ((((w23.setCell ⟨gb318, 0, none⟩ (.int .i64 t309)).setCell ⟨gb318, 1, none⟩ (.int .i64 t310)).setCell ⟨gb318, 2, none⟩ (.slice Ao26 t311.length co26)).setCell ⟨gb318, 3, none⟩ (.slice Ao27 t314.length co27)) w.heap.size (fun k_ => some k_ ≠ (.slice Ao21 t304.length co21 : Value).ownBlock ∧ some k_ ≠ (.slice Ao26 t311.length co26 : Value).ownBlock ∧ some k_ ≠ (.slice Ao27 t314.length co27 : Value).ownBlock) (.slice Ao20 t301.length co20) t301) := ⟨by (with_reducible repeat (first | apply Kd.R_alloc | apply Kd.R_drewN | apply Kd.R_drew)); exact Kd.R_mono (Kd.R_far (p := ⟨gb318, 3, none⟩) (Kd.R_far (p := ⟨gb318, 2, none⟩) (Kd.R_far (p := ⟨gb318, 1, none⟩) (Kd.R_far (p := ⟨gb318, 0, none⟩) (Kd.R_types HO303.out BK318.out (by decide)) (fun _ hk => hk.2) (.int .i64 t309)) (fun _ hk => hk.2) (.int .i64 t310)) (fun _ hk => hk.2) (.slice Ao26 t311.length co26)) (fun _ hk => hk.2) (.slice Ao27 t314.length co27)) (fun _ hk => ⟨hk.1.1.1, ⟨hk.1.1.2, hk.1.2⟩⟩)⟩
          have n2_ : Aside0 (Kd.R (Kd.int .i64) 3 ((((w23.setCell ⟨gb318, 0, none⟩ (.int .i64 t309)).setCell ⟨gb318, 1, none⟩ (.int .i64 t310)).setCell ⟨gb318, 2, none⟩ (.slice Ao26 t311.length co26)).setCell ⟨gb318, 3, none⟩ (.slice Ao27 t314.length co27)) w.heap.size (fun k_ => some k_ ≠ (.slice Ao20 t301.length co20 : Value).ownBlock ∧ some k_ ≠ (.slice Ao26 t311.length co26 : Value).ownBlock ∧ some k_ ≠ (.slice Ao27 t314.length co27 : Value).ownBlock) (.slice Ao21 t304.length co21) t304) := ⟨by (with_reducible repeat (first | apply Kd.R_alloc | apply Kd.R_drewN | apply Kd.R_drew)); exact Kd.R_mono (Kd.R_far (p := ⟨gb318, 3, none⟩) (Kd.R_far (p := ⟨gb318, 2, none⟩) (Kd.R_far (p := ⟨gb318, 1, none⟩) (Kd.R_far (p := ⟨gb318, 0, none⟩) (Kd.R_types HO306.out BK318.out (by decide)) (fun _ hk => hk.2) (.int .i64 t309)) (fun _ hk => hk.2) (.int .i64 t310)) (fun _ hk => hk.2) (.slice Ao26 t311.length co26)) (fun _ hk => hk.2) (.slice Ao27 t314.length co27)) (fun _ hk => ⟨hk.1.1.1, ⟨hk.1.1.2, hk.1.2⟩⟩)⟩
          have n3_ : Aside0 (Kd.R (Kd.int .i64) 3 ((((w23.setCell ⟨gb318, 0, none⟩ (.int .i64 t309)).setCell ⟨gb318, 1, none⟩ (.int .i64 t310)).setCell ⟨gb318, 2, none⟩ (.slice Ao26 t311.length co26)).setCell ⟨gb318, 3, none⟩ (.slice Ao27 t314.length co27)) w.heap.size (fun k_ => some k_ ≠ (.slice Ao20 t301.length co20 : Value).ownBlock ∧ some k_ ≠ (.slice Ao21 t304.length co21 : Value).ownBlock ∧ some k_ ≠ (.slice Ao27 t314.length co27 : Value).ownBlock) (.slice Ao26 t311.length co26) t311) := ⟨by (with_reducible repeat (first | apply Kd.R_alloc | apply Kd.R_drewN | apply Kd.R_drew)); exact Kd.R_mono (Kd.R_far (p := ⟨gb318, 3, none⟩) (Kd.R_far (p := ⟨gb318, 2, none⟩) (Kd.R_far (p := ⟨gb318, 1, none⟩) (Kd.R_far (p := ⟨gb318, 0, none⟩) (Kd.R_types HO313.out BK318.out (by decide)) (fun _ hk => hk.2) (.int .i64 t309)) (fun _ hk => hk.2) (.int .i64 t310)) (fun _ hk => hk.2) (.slice Ao26 t311.length co26)) (fun _ hk => hk.2) (.slice Ao27 t314.length co27)) (fun _ hk => ⟨hk.1.1.2, ⟨hk.1.2, hk.1.1.1⟩⟩)⟩
          have n4_ : Aside0 (Kd.R (Kd.int .i64) 3 ((((w23.setCell ⟨gb318, 0, none⟩ (.int .i64 t309)).setCell ⟨gb318, 1, none⟩ (.int .i64 t310)).setCell ⟨gb318, 2, none⟩ (.slice Ao26 t311.length co26)).setCell ⟨gb318, 3, none⟩ (.slice Ao27 t314.length co27)) w.heap.size (fun k_ => some k_ ≠ (.slice Ao20 t301.length co20 : Value).ownBlock ∧ some k_ ≠ (.slice Ao21 t304.length co21 : Value).ownBlock ∧ some k_ ≠ (.slice Ao26 t311.length co26 : Value).ownBlock) (.slice Ao27 t314.length co27) t314) := ⟨by (with_reducible repeat (first | apply Kd.R_alloc | apply Kd.R_drewN | apply Kd.R_drew)); exact Kd.R_mono (Kd.R_far (p := ⟨gb318, 3, none⟩) (Kd.R_far (p := ⟨gb318, 2, none⟩) (Kd.R_far (p := ⟨gb318, 1, none⟩) (Kd.R_far (p := ⟨gb318, 0, none⟩) (Kd.R_types HO316.out BK318.out (by decide)) (fun _ hk => hk.2) (.int .i64 t309)) (fun _ hk => hk.2) (.int .i64 t310)) (fun _ hk => hk.2) (.slice Ao26 t311.length co26)) (fun _ hk => hk.2) (.slice Ao27 t314.length co27)) (fun _ hk => ⟨hk.1.1.2, ⟨hk.1.2, hk.1.1.1⟩⟩)⟩
          have n5_ : Aside0 (((((w23.setCell ⟨gb318, 0, none⟩ (.int .i64 t309)).setCell ⟨gb318, 1, none⟩ (.int .i64 t310)).setCell ⟨gb318, 2, none⟩ (.slice Ao26 t311.length co26)).setCell ⟨gb318, 3, none⟩ (.slice Ao27 t314.length co27)).heap[gb308]? = some (.cells #[.int .i64 t299, .int .i64 t300, .slice Ao20 t301.length co20, .slice Ao21 t304.length co21] 24 (0, 0))) := ⟨by (with_reducible repeat (first | refine blk_drewN ?_ _ | refine blk_drew ?_ | refine blk_alloc ?_ _)); refine blk_far ?_ NB308_318.out _; (with_reducible repeat (first | refine blk_drewN ?_ _ | refine blk_drew ?_ | refine blk_alloc ?_ _)); refine blk_far ?_ NB308_318.out _; (with_reducible repeat (first | refine blk_drewN ?_ _ | refine blk_drew ?_ | refine blk_alloc ?_ _)); refine blk_far ?_ NB308_318.out _; (with_reducible repeat (first | refine blk_drewN ?_ _ | refine blk_drew ?_ | refine blk_alloc ?_ _)); refine blk_far ?_ NB308_318.out _; (with_reducible repeat (first | refine blk_drewN ?_ _ | refine blk_drew ?_ | refine blk_alloc ?_ _)); exact BK308.out⟩
          have n6_ : Aside0 (((((w23.setCell ⟨gb318, 0, none⟩ (.int .i64 t309)).setCell ⟨gb318, 1, none⟩ (.int .i64 t310)).setCell ⟨gb318, 2, none⟩ (.slice Ao26 t311.length co26)).setCell ⟨gb318, 3, none⟩ (.slice Ao27 t314.length co27)).heap[gb318]? = some (.cells #[.int .i64 t309, .int .i64 t310, .slice Ao26 t311.length co26, .slice Ao27 t314.length co27] 28 (0, 0))) := ⟨by (with_reducible repeat (first | refine blk_drewN ?_ _ | refine blk_drew ?_ | refine blk_alloc ?_ _)); refine blk_put (cs := #[.int .i64 t309, .int .i64 t310, .slice Ao26 t311.length co26, .slice none 0 0]) ?_ 3 _ rfl; (with_reducible repeat (first | refine blk_drewN ?_ _ | refine blk_drew ?_ | refine blk_alloc ?_ _)); refine blk_put (cs := #[.int .i64 t309, .int .i64 t310, .slice none 0 0, .slice none 0 0]) ?_ 2 _ rfl; (with_reducible repeat (first | refine blk_drewN ?_ _ | refine blk_drew ?_ | refine blk_alloc ?_ _)); refine blk_put (cs := #[.int .i64 t309, .int .i64 0, .slice none 0 0, .slice none 0 0]) ?_ 1 _ rfl; (with_reducible repeat (first | refine blk_drewN ?_ _ | refine blk_drew ?_ | refine blk_alloc ?_ _)); refine blk_put (cs := #[.int .i64 0, .int .i64 0, .slice none 0 0, .slice none 0 0]) ?_ 0 _ rfl; (with_reducible repeat (first | refine blk_drewN ?_ _ | refine blk_drew ?_ | refine blk_alloc ?_ _)); exact BK318.out⟩
          have n7_ : Aside0 (Below w.heap.size w ((((w23.setCell ⟨gb318, 0, none⟩ (.int .i64 t309)).setCell ⟨gb318, 1, none⟩ (.int .i64 t310)).setCell ⟨gb318, 2, none⟩ (.slice Ao26 t311.length co26)).setCell ⟨gb318, 3, none⟩ (.slice Ao27 t314.length co27))) := ⟨by repeat (first | (with_reducible first | exact HB.out | apply below_alloc | apply pw_below_drewN | apply below_drew1 | refine below_set ?_ GE308.out | refine below_set ?_ GE318.out) | exact HB.out)⟩
          (try clear HO298)
          (try clear HO303)
          (try clear HO306)
          (try clear HO313)
          (try clear HO316)
          (try clear BK308)
          (try clear BK318)
          (try clear HB)
          generalize ((((w23.setCell ⟨gb318, 0, none⟩ (.int .i64 t309)).setCell ⟨gb318, 1, none⟩ (.int .i64 t310)).setCell ⟨gb318, 2, none⟩ (.slice Ao26 t311.length co26)).setCell ⟨gb318, 3, none⟩ (.slice Ao27 t314.length co27)) = w28 at n0_ n1_ n2_ n3_ n4_ n5_ n6_ n7_ ⊢
          have HO298 := n0_
          have HO303 := n1_
          have HO306 := n2_
          have HO313 := n3_
          have HO316 := n4_
          have BK308 := n5_
          have BK318 := n6_
          have HB := n7_
          clear n0_ n1_ n2_ n3_ n4_ n5_ n6_ n7_
          have n0_ := Aside0.mk (Kd.R_drew HO298.out)
          have n1_ := Aside0.mk (Kd.R_drew HO303.out)
          have n2_ := Aside0.mk (Kd.R_drew HO306.out)
          have n3_ := Aside0.mk (Kd.R_drew HO313.out)
          have n4_ := Aside0.mk (Kd.R_drew HO316.out)
          have n5_ := Aside0.mk (blk_drew BK308.out)
          have n6_ := Aside0.mk (blk_drew BK318.out)
          have n7_ := Aside0.mk (below_drew1 HB.out)
          clear HO298
          clear HO303
          clear HO306
          clear HO313
          clear HO316
          clear BK308
          clear BK318
          clear HB
          have HO298 := n0_
          have HO303 := n1_
          have HO306 := n2_
          have HO313 := n3_
          have HO316 := n4_
          have BK308 := n5_
          have BK318 := n6_
          have HB := n7_
          clear n0_ n1_ n2_ n3_ n4_ n5_ n6_ n7_
          refine start_ (n := 13) (S := fun w' => w'.cell? ⟨gb308, 0, none⟩ = some (.int .i64 t299) ∧ w'.cell? ⟨gb308, 1, none⟩ = some (.int .i64 t300) ∧ w'.cell? ⟨gb308, 2, none⟩ = some (.slice Ao20 t301.length co20) ∧ w'.cell? ⟨gb308, 3, none⟩ = some (.slice Ao21 t304.length co21) ∧ w'.cell? ⟨gb318, 0, none⟩ = some (.int .i64 t309) ∧ w'.cell? ⟨gb318, 1, none⟩ = some (.int .i64 t310) ∧ w'.cell? ⟨gb318, 2, none⟩ = some (.slice Ao26 t311.length co26) ∧ w'.cell? ⟨gb318, 3, none⟩ = some (.slice Ao27 t314.length co27)) (ds := []) #[false, false, false, false, false, false, false, false, false, false, false, false, false] (by kernel_rfl) rfl rfl ⟨(blk_cell BK308.out 0).trans rfl, (blk_cell BK308.out 1).trans rfl, (blk_cell BK308.out 2).trans rfl, (blk_cell BK308.out 3).trans rfl, (blk_cell BK318.out 0).trans rfl, (blk_cell BK318.out 1).trans rfl, (blk_cell BK318.out 2).trans rfl, (blk_cell BK318.out 3).trans rfl⟩ (fun hHeld => ?_); refine with_tabW psalterylaw16_HeadReads.tab5 psalterylaw16_HeadReads.bits5 (fun HT_ HW_ => ?_)
          generalize w28.drew = w29 at HO298 HO303 HO306 HO313 HO316 BK308 BK318 HB hHeld ⊢
          refine take_ (i := 0) (N := some 23) (v := ?_) (a' := ?_) #[true, false, false, false, false, false, false, false, false, false, false, false, false] rfl rfl (take_ofW HT_.out HW_.out (by kernel_rfl)) (fun _ _ _ h => h) (Or.inl ⟨by rfl, ?_⟩) hHeld ?_ ?_
          rotate_left
          · rintro w' ⟨s0, s1, s2, s3, s4, s5, s6, s7⟩
            go_simp
            with_reducible rfl
          rotate_left
          · simp only [Act.put, List.setIfInBounds_toArray, List.set_cons_zero, List.set_cons_succ, i64_w, i32_w]
            rfl
          refine take_ (i := 2) (N := some 25) (v := ?_) (a' := ?_) #[true, false, true, false, false, false, false, false, false, false, false, false, false] rfl rfl (take_ofW HT_.out HW_.out (by kernel_rfl)) (fun _ _ _ h => h) (Or.inl ⟨by rfl, ?_⟩) hHeld ?_ ?_
          rotate_left
          · rintro w' ⟨s0, s1, s2, s3, s4, s5, s6, s7⟩
            go_simp
            with_reducible rfl
          rotate_left
          · simp only [Act.put, List.setIfInBounds_toArray, List.set_cons_zero, List.set_cons_succ, i64_w, i32_w]
            rfl
          refine one_ (i := 1) (N := some 24) #[true, true, true, false, false, false, false, false, false, false, false, false, false] rfl rfl (one_of HT_.out (by kernel_rfl)) (by decide) (fun K hK => ?_)
          refine goes_ Try.func19 (by kernel_rfl) rfl #[.agg #[.int .i64 t299, .int .i64 t300, .slice Ao20 t301.length co20, .slice Ao21 t304.length co21]] (by rfl) rfl rfl (by (try simp only [List.map_toArray, List.map_cons, List.map_nil]); first | done | rfl | (simp only [List.length_drop, List.length_take]; rfl)) ?_
          with_reducible refine (psalterylaw16_As.calls t299 t300 _ _ t301 _ _ t304 t319 t320 _ ?side1 ?side2 ?side3 ?side4 A8.out).mono ?_
          (case side1 => repeat (first | exact (Kd.R_reads' HO303.out).2.2 | (with_reducible refine Kd.C_alloc ?_ _) | (with_reducible refine Kd.C_drewN ?_ _) | (with_reducible refine Kd.C_drew ?_)))
          (case side2 => exact (Kd.R_reads' HO303.out).2.1)
          (case side3 => repeat (first | exact (Kd.R_reads' HO306.out).2.2 | (with_reducible refine Kd.C_alloc ?_ _) | (with_reducible refine Kd.C_drewN ?_ _) | (with_reducible refine Kd.C_drew ?_)))
          (case side4 => exact (Kd.R_reads' HO306.out).2.1)
          rintro e w30 ⟨rfl, hb⟩
          refine ⟨_, rfl, ?_⟩
          have n0_ := Aside0.mk (Kd.R_below (by (with_reducible repeat (first | apply Kd.R_alloc | apply Kd.R_drewN | apply Kd.R_drew)); exact HO298.out) hb)
          have n1_ := Aside0.mk (Kd.R_below (by (with_reducible repeat (first | apply Kd.R_alloc | apply Kd.R_drewN | apply Kd.R_drew)); exact HO303.out) hb)
          have n2_ := Aside0.mk (Kd.R_below (by (with_reducible repeat (first | apply Kd.R_alloc | apply Kd.R_drewN | apply Kd.R_drew)); exact HO306.out) hb)
          have n3_ := Aside0.mk (Kd.R_below (by (with_reducible repeat (first | apply Kd.R_alloc | apply Kd.R_drewN | apply Kd.R_drew)); exact HO313.out) hb)
          have n4_ := Aside0.mk (Kd.R_below (by (with_reducible repeat (first | apply Kd.R_alloc | apply Kd.R_drewN | apply Kd.R_drew)); exact HO316.out) hb)
          have n5_ := Aside0.mk (blk_below (g := gb308) (o := .cells #[.int .i64 t299, .int .i64 t300, .slice Ao20 t301.length co20, .slice Ao21 t304.length co21] 24 (0, 0)) (by (with_reducible repeat (first | refine blk_drewN ?_ _ | refine blk_drew ?_ | refine blk_alloc ?_ _)); exact BK308.out) hb)
          have n6_ := Aside0.mk (blk_below (g := gb318) (o := .cells #[.int .i64 t309, .int .i64 t310, .slice Ao26 t311.length co26, .slice Ao27 t314.length co27] 28 (0, 0)) (by (with_reducible repeat (first | refine blk_drewN ?_ _ | refine blk_drew ?_ | refine blk_alloc ?_ _)); exact BK318.out) hb)
          have n7_ := Aside0.mk (below_step (by repeat (first | (with_reducible first | exact HB.out | apply below_alloc | apply pw_below_drewN | apply below_drew1 | refine below_set ?_ GE308.out | refine below_set ?_ GE318.out) | exact HB.out)) hb)
          clear HO298
          clear HO303
          clear HO306
          clear HO313
          clear HO316
          clear BK308
          clear BK318
          clear HB
          have HO298 := n0_
          have HO303 := n1_
          have HO306 := n2_
          have HO313 := n3_
          have HO316 := n4_
          have BK308 := n5_
          have BK318 := n6_
          have HB := n7_
          clear n0_ n1_ n2_ n3_ n4_ n5_ n6_ n7_
          (try clear hb)
          (try clear hb2)
          (try clear hk)
          (try clear hi)
          refine hK.out _ _ ⟨(blk_cell BK308.out 0).trans rfl, (blk_cell BK308.out 1).trans rfl, (blk_cell BK308.out 2).trans rfl, (blk_cell BK308.out 3).trans rfl, (blk_cell BK318.out 0).trans rfl, (blk_cell BK318.out 1).trans rfl, (blk_cell BK318.out 2).trans rfl, (blk_cell BK318.out 3).trans rfl⟩ (fun hHeld => ?_)
          clear hK K
          refine norm_ (a' := ?_) ?_ ?_
          rotate_left
          · show Act.put _ (some 24) _ = _
            simp only [Act.put, List.setIfInBounds_toArray, List.set_cons_zero, List.set_cons_succ, i64_w, i32_w]
            rfl
          refine one_ (i := 3) (N := some 26) #[true, true, true, true, false, false, false, false, false, false, false, false, false] rfl rfl (one_of HT_.out (by kernel_rfl)) (by decide) (fun K hK => ?_)
          refine goes_ Try.func20 (by kernel_rfl) rfl #[.agg #[.int .i64 t319, .int .i64 t320, .slice Ao20 t301.length co20, .slice Ao21 t304.length co21], .agg #[.int .i64 t309, .int .i64 t310, .slice Ao26 t311.length co26, .slice Ao27 t314.length co27]] (by rfl) rfl rfl (by (try simp only [List.map_toArray, List.map_cons, List.map_nil]); first | done | rfl | (simp only [List.length_drop, List.length_take]; rfl)) ?_
          with_reducible refine (psalteryref16_Same.calls k t319 t320 _ _ t301 _ _ t304 t309 t310 _ _ t311 _ _ t314 true _ ?side1 ?side2 ?side3 ?side4 ?side5 ?side6 ?side7 ?side8 A9.out).mono ?_
          (case side1 => repeat (first | exact (Kd.R_reads' HO303.out).2.2 | (with_reducible refine Kd.C_alloc ?_ _) | (with_reducible refine Kd.C_drewN ?_ _) | (with_reducible refine Kd.C_drew ?_)))
          (case side2 => exact (Kd.R_reads' HO303.out).2.1)
          (case side3 => repeat (first | exact (Kd.R_reads' HO306.out).2.2 | (with_reducible refine Kd.C_alloc ?_ _) | (with_reducible refine Kd.C_drewN ?_ _) | (with_reducible refine Kd.C_drew ?_)))
          (case side4 => exact (Kd.R_reads' HO306.out).2.1)
          (case side5 => repeat (first | exact (Kd.R_reads' HO313.out).2.2 | (with_reducible refine Kd.C_alloc ?_ _) | (with_reducible refine Kd.C_drewN ?_ _) | (with_reducible refine Kd.C_drew ?_)))
          (case side6 => exact (Kd.R_reads' HO313.out).2.1)
          (case side7 => repeat (first | exact (Kd.R_reads' HO316.out).2.2 | (with_reducible refine Kd.C_alloc ?_ _) | (with_reducible refine Kd.C_drewN ?_ _) | (with_reducible refine Kd.C_drew ?_)))
          (case side8 => exact (Kd.R_reads' HO316.out).2.1)
          rintro e w31 ⟨rfl, hb⟩
          refine ⟨_, rfl, ?_⟩
          have n0_ := Aside0.mk (Kd.R_below (by (with_reducible repeat (first | apply Kd.R_alloc | apply Kd.R_drewN | apply Kd.R_drew)); exact HO298.out) hb)
          have n1_ := Aside0.mk (Kd.R_below (by (with_reducible repeat (first | apply Kd.R_alloc | apply Kd.R_drewN | apply Kd.R_drew)); exact HO303.out) hb)
          have n2_ := Aside0.mk (Kd.R_below (by (with_reducible repeat (first | apply Kd.R_alloc | apply Kd.R_drewN | apply Kd.R_drew)); exact HO306.out) hb)
          have n3_ := Aside0.mk (Kd.R_below (by (with_reducible repeat (first | apply Kd.R_alloc | apply Kd.R_drewN | apply Kd.R_drew)); exact HO313.out) hb)
          have n4_ := Aside0.mk (Kd.R_below (by (with_reducible repeat (first | apply Kd.R_alloc | apply Kd.R_drewN | apply Kd.R_drew)); exact HO316.out) hb)
          have n5_ := Aside0.mk (blk_below (g := gb308) (o := .cells #[.int .i64 t299, .int .i64 t300, .slice Ao20 t301.length co20, .slice Ao21 t304.length co21] 24 (0, 0)) (by (with_reducible repeat (first | refine blk_drewN ?_ _ | refine blk_drew ?_ | refine blk_alloc ?_ _)); exact BK308.out) hb)
          have n6_ := Aside0.mk (blk_below (g := gb318) (o := .cells #[.int .i64 t309, .int .i64 t310, .slice Ao26 t311.length co26, .slice Ao27 t314.length co27] 28 (0, 0)) (by (with_reducible repeat (first | refine blk_drewN ?_ _ | refine blk_drew ?_ | refine blk_alloc ?_ _)); exact BK318.out) hb)
          have n7_ := Aside0.mk (below_step (by repeat (first | (with_reducible first | exact HB.out | apply below_alloc | apply pw_below_drewN | apply below_drew1 | refine below_set ?_ GE308.out | refine below_set ?_ GE318.out) | exact HB.out)) hb)
          clear HO298
          clear HO303
          clear HO306
          clear HO313
          clear HO316
          clear BK308
          clear BK318
          clear HB
          have HO298 := n0_
          have HO303 := n1_
          have HO306 := n2_
          have HO313 := n3_
          have HO316 := n4_
          have BK308 := n5_
          have BK318 := n6_
          have HB := n7_
          clear n0_ n1_ n2_ n3_ n4_ n5_ n6_ n7_
          (try clear hb)
          (try clear hb2)
          (try clear hk)
          (try clear hi)
          refine hK.out _ _ ⟨(blk_cell BK308.out 0).trans rfl, (blk_cell BK308.out 1).trans rfl, (blk_cell BK308.out 2).trans rfl, (blk_cell BK308.out 3).trans rfl, (blk_cell BK318.out 0).trans rfl, (blk_cell BK318.out 1).trans rfl, (blk_cell BK318.out 2).trans rfl, (blk_cell BK318.out 3).trans rfl⟩ (fun hHeld => ?_)
          clear hK K
          refine norm_ (a' := ?_) ?_ ?_
          rotate_left
          · show Act.put _ (some 26) _ = _
            simp only [Act.put, List.setIfInBounds_toArray, List.set_cons_zero, List.set_cons_succ, i64_w, i32_w]
            rfl
          refine pure_ (i := 4) (N := some 27) (v := ?_) (a' := ?_) #[true, true, true, true, true, false, false, false, false, false, false, false, false] rfl rfl (any_of HT_.out (by kernel_rfl)) (fun _ _ _ h => h) (Or.inl ⟨by rfl, ?_⟩) ?_ ?_
          rotate_left
          · intro w'
            go_simp
            with_reducible rfl
          rotate_left
          · simp only [Act.put, List.setIfInBounds_toArray, List.set_cons_zero, List.set_cons_succ, i64_w, i32_w]
            rfl
          refine pure_ (i := 5) (N := some 28) (v := ?_) (a' := ?_) #[true, true, true, true, true, true, false, false, false, false, false, false, false] rfl rfl (any_of HT_.out (by kernel_rfl)) (fun _ _ _ h => h) (Or.inl ⟨by rfl, ?_⟩) ?_ ?_
          rotate_left
          · intro w'
            go_simp
            with_reducible rfl
          rotate_left
          · simp only [Act.put, List.setIfInBounds_toArray, List.set_cons_zero, List.set_cons_succ, i64_w, i32_w]
            rfl
          refine pure_ (i := 6) (N := some 29) (v := ?_) (a' := ?_) #[true, true, true, true, true, true, true, false, false, false, false, false, false] rfl rfl (any_of HT_.out (by kernel_rfl)) (fun _ _ _ h => h) (Or.inl ⟨by rfl, ?_⟩) ?_ ?_
          rotate_left
          · intro w'
            go_simp
            with_reducible rfl
          rotate_left
          · simp only [Act.put, List.setIfInBounds_toArray, List.set_cons_zero, List.set_cons_succ, i64_w, i32_w]
            rfl
          refine pure_ (i := 7) (N := some 30) (v := ?_) (a' := ?_) #[true, true, true, true, true, true, true, true, false, false, false, false, false] rfl rfl (any_of HT_.out (by kernel_rfl)) (fun _ _ _ h => h) (Or.inl ⟨by rfl, ?_⟩) ?_ ?_
          rotate_left
          · intro w'
            go_simp
            with_reducible rfl
          rotate_left
          · simp only [Act.put, List.setIfInBounds_toArray, List.set_cons_zero, List.set_cons_succ, i64_w, i32_w]
            rfl
          refine pure_ (i := 8) (N := some 31) (v := ?_) (a' := ?_) #[true, true, true, true, true, true, true, true, true, false, false, false, false] rfl rfl (any_of HT_.out (by kernel_rfl)) (fun _ _ _ h => h) (Or.inl ⟨by rfl, ?_⟩) ?_ ?_
          rotate_left
          · intro w'
            go_simp
            with_reducible rfl
          rotate_left
          · simp only [Act.put, List.setIfInBounds_toArray, List.set_cons_zero, List.set_cons_succ, i64_w, i32_w]
            rfl
          refine pure_ (i := 9) (N := some 32) (v := ?_) (a' := ?_) #[true, true, true, true, true, true, true, true, true, true, false, false, false] rfl rfl (any_of HT_.out (by kernel_rfl)) (fun _ _ _ h => h) (Or.inl ⟨by rfl, ?_⟩) ?_ ?_
          rotate_left
          · intro w'
            go_simp
            with_reducible rfl
          rotate_left
          · simp only [Act.put, List.setIfInBounds_toArray, List.set_cons_zero, List.set_cons_succ, i64_w, i32_w]
            rfl
          refine one_ (i := 10) (N := some 33) #[true, true, true, true, true, true, true, true, true, true, true, false, false] rfl rfl (one_of HT_.out (by kernel_rfl)) (by decide) (fun K hK => ?_)
          refine goes_ Try.func16 (by kernel_rfl) rfl #[] (by rfl) rfl rfl (by (try simp only [List.map_toArray, List.map_cons, List.map_nil]); first | done | rfl | (simp only [List.length_drop, List.length_take]; rfl)) ?_
          with_reducible refine (psalterylaw16_knows.calls k  t322 _ A12.out).mono ?_
          rintro e w32 ⟨rfl, hb⟩
          refine ⟨_, rfl, ?_⟩
          have n0_ := Aside0.mk (Kd.R_below (by (with_reducible repeat (first | apply Kd.R_alloc | apply Kd.R_drewN | apply Kd.R_drew)); exact HO298.out) hb)
          have n1_ := Aside0.mk (Kd.R_below (by (with_reducible repeat (first | apply Kd.R_alloc | apply Kd.R_drewN | apply Kd.R_drew)); exact HO303.out) hb)
          have n2_ := Aside0.mk (Kd.R_below (by (with_reducible repeat (first | apply Kd.R_alloc | apply Kd.R_drewN | apply Kd.R_drew)); exact HO306.out) hb)
          have n3_ := Aside0.mk (Kd.R_below (by (with_reducible repeat (first | apply Kd.R_alloc | apply Kd.R_drewN | apply Kd.R_drew)); exact HO313.out) hb)
          have n4_ := Aside0.mk (Kd.R_below (by (with_reducible repeat (first | apply Kd.R_alloc | apply Kd.R_drewN | apply Kd.R_drew)); exact HO316.out) hb)
          have n5_ := Aside0.mk (blk_below (g := gb308) (o := .cells #[.int .i64 t299, .int .i64 t300, .slice Ao20 t301.length co20, .slice Ao21 t304.length co21] 24 (0, 0)) (by (with_reducible repeat (first | refine blk_drewN ?_ _ | refine blk_drew ?_ | refine blk_alloc ?_ _)); exact BK308.out) hb)
          have n6_ := Aside0.mk (blk_below (g := gb318) (o := .cells #[.int .i64 t309, .int .i64 t310, .slice Ao26 t311.length co26, .slice Ao27 t314.length co27] 28 (0, 0)) (by (with_reducible repeat (first | refine blk_drewN ?_ _ | refine blk_drew ?_ | refine blk_alloc ?_ _)); exact BK318.out) hb)
          have n7_ := Aside0.mk (below_step (by repeat (first | (with_reducible first | exact HB.out | apply below_alloc | apply pw_below_drewN | apply below_drew1 | refine below_set ?_ GE308.out | refine below_set ?_ GE318.out) | exact HB.out)) hb)
          clear HO298
          clear HO303
          clear HO306
          clear HO313
          clear HO316
          clear BK308
          clear BK318
          clear HB
          have HO298 := n0_
          have HO303 := n1_
          have HO306 := n2_
          have HO313 := n3_
          have HO316 := n4_
          have BK308 := n5_
          have BK318 := n6_
          have HB := n7_
          clear n0_ n1_ n2_ n3_ n4_ n5_ n6_ n7_
          (try clear hb)
          (try clear hb2)
          (try clear hk)
          (try clear hi)
          refine hK.out _ _ ⟨(blk_cell BK308.out 0).trans rfl, (blk_cell BK308.out 1).trans rfl, (blk_cell BK308.out 2).trans rfl, (blk_cell BK308.out 3).trans rfl, (blk_cell BK318.out 0).trans rfl, (blk_cell BK318.out 1).trans rfl, (blk_cell BK318.out 2).trans rfl, (blk_cell BK318.out 3).trans rfl⟩ (fun hHeld => ?_)
          clear hK K
          refine norm_ (a' := ?_) ?_ ?_
          rotate_left
          · show Act.put _ (some 33) _ = _
            simp only [Act.put, List.setIfInBounds_toArray, List.set_cons_zero, List.set_cons_succ, i64_w, i32_w]
            rfl
          refine pure_ (i := 11) (N := some 34) (v := ?_) (a' := ?_) #[true, true, true, true, true, true, true, true, true, true, true, true, false] rfl rfl (any_of HT_.out (by kernel_rfl)) (fun _ _ _ h => h) (Or.inl ⟨by rfl, ?_⟩) ?_ ?_
          rotate_left
          · intro w'
            go_simp
            with_reducible rfl
          rotate_left
          · simp only [Act.put, List.setIfInBounds_toArray, List.set_cons_zero, List.set_cons_succ, i64_w, i32_w]
            rfl
          refine pure_ (i := 12) (N := some 2) (v := ?_) (a' := ?_) #[true, true, true, true, true, true, true, true, true, true, true, true, true] rfl rfl (any_of HT_.out (by kernel_rfl)) (fun _ _ _ h => h) (Or.inl ⟨by rfl, ?_⟩) ?_ ?_
          rotate_left
          · intro w'
            go_simp
            with_reducible rfl
          rotate_left
          · simp only [Act.put, List.setIfInBounds_toArray, List.set_cons_zero, List.set_cons_succ, i64_w, i32_w]
            rfl
          refine done_ (done_of HT_.out (by kernel_rfl)) ?_
          try go_wp2
          go_ret
          exact ⟨by first | rfl | (simp [errW_none, errW_some] <;> rfl) | (simp [*, errW_none, errW_some] <;> rfl), by repeat (first | (with_reducible first | exact HB.out | apply below_alloc | apply pw_below_drewN | apply below_drew1 | refine below_set ?_ GE308.out | refine below_set ?_ GE318.out) | exact HB.out)⟩
        · rw [if_neg c11] at H
          have c11b0 : (t307 == t317) = false := beq_eq_false_iff_ne.mpr c11
          have c11b1 : (t307 != t317) = true := bne_iff_ne.mpr c11
          exact absurd ((Option.some.inj H).trans HT.out) (by decide)
      · replace c10 := Bool.eq_false_iff.mpr c10
        subst c10
        have H1 : (some false) = some r := by rw [if_neg (show ¬ (false = true) by decide)] at H; exact H
        clear H
        have H := H1
        clear H1
        exact absurd ((Option.some.inj H).trans HT.out) (by decide)
    · rw [if_neg c5] at H
      exact absurd H (by simp)

/-- THE ONE PURE STATEMENT of psalterylaw16_HeadReads: yours. -/
def psalterylaw16_HeadReads.Pure : Prop := ∀ (l0 : List Int), l0.length ≤ maxLen → l0.length * 1 ≤ 140737488351232 → (∀ x ∈ l0, (Lit.int .u8 x).wf = true) → ∃ k, psalterylaw16_HeadReads.f k l0 = some true
theorem psalterylaw16_HeadReads.walk (P : psalterylaw16_HeadReads.Pure) (a0 : Option Addr) (len0 cap0 : Nat) (z0 : List Int) (w : World) (w0 : (a0 = none ∧ len0 = 0 ∧ cap0 = 0 ∧ z0 = []) ∨ ∃ x, a0 = some x ∧ len0 ≤ cap0 ∧ cap0 ≤ maxLen ∧ z0.length = cap0 ∧ (∀ i, i < z0.length → w.cell? (x.add i) = some (.int .u8 (z0.getD i 0))) ∧ ∀ n ∈ z0, (Lit.int .u8 n).wf = true) (y0 : len0 * 1 ≤ 140737488351232) :
    Calls Try.prog 5 #[.slice a0 len0 cap0] w fun e w' => e = .returned (.bool true) ∧ Below w.heap.size w w' := by
  obtain ⟨l0, rfl, hr0, hm0, hw0, hc0⟩ := ReadsInt.ofRowC w0
  obtain ⟨k, h⟩ := P l0 hm0 y0 hw0
  refine (psalterylaw16_HeadReads.calls k _ _ l0 true w (Kd.C_of_reads (d := (0 : Int)) (h1 := fun _ => rfl) hr0) hc0 h rfl).mono ?_
  rintro e w' ⟨rfl, hd⟩
  exact ⟨rfl, hd⟩

end Go.Proofs.Ytpdfdaoohknfoaa.P
