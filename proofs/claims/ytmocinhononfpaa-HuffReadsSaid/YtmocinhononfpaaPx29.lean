-- PRINTED by print.py (a twelfth state) out of the translation. Not trusted: Lean checks it.
import Derived.Test.YtmocinhononfpaaPx0
import Derived.Test.YtmocinhononfpaaPx10
import Derived.Test.YtmocinhononfpaaPx11
import Derived.Test.YtmocinhononfpaaPx18
import Derived.Test.YtmocinhononfpaaPx28
namespace Go.Proofs.Ytmocinhononfpaa.P
open Go.RowKit Go.Proofs.YtmocinhononfpaaW.PrintWords Go.Proofs.YtmocinhononfpaaW.PrintLast Go.Proofs.YtmocinhononfpaaW.PrintMore
attribute [local go_sem] max2_int min2_int max_two min_two max_three min_three max_four min_four   -- for this text's walks alone
set_option linter.unusedVariables false
set_option linter.unusedSimpArgs false

/-! ### psalterylaw04_HuffReads: function 6 -/
def psalterylaw04_HuffReads.f (k : Nat) (l0 : List Int) (a1 : Int) (l2 : List Int) : Option (Bool) := (psalterylaw04_great.f l0 l2).bind fun t313 => (if t313 = true then ((psalterylaw04_knows.f k).bind fun t314 => (some t314)) else ((huff_Read.f k l0 a1 l2).bind fun bt315 => ((psalteryref04_Read.f k l0 a1 l2).bind fun bt319 => (if bt315.2.1 = bt319.1 then (if bt315.2.2 = bt319.2.2 then (if (strOfNums l0).toList = (strOfNums l0).toList then (if bt319.2.2 = 0 then (if bt315.1 = (wrap64 (a1 + bt319.2.1)) then ((psalterylaw04_knows.f k).bind fun t322 => (some t322)) else (some false)) else (if bt315.1 = a1 then ((psalterylaw04_knows.f k).bind fun t323 => (some t323)) else (some false))) else (some false)) else (some false)) else (some false)))))
theorem psalterylaw04_HuffReads.mono : ∀ a0 a1 a2 k, LeO (psalterylaw04_HuffReads.f k a0 a1 a2) (psalterylaw04_HuffReads.f (k + 1) a0 a1 a2) := by
  intro a0 a1 a2 k
  unfold psalterylaw04_HuffReads.f
  repeat' first
      | (with_reducible exact huff_Read.mono _ _ _ _)
      | (with_reducible exact psalterylaw04_knows.mono _)
      | (with_reducible exact psalteryref04_Read.mono _ _ _ _)
      | (with_reducible exact LeO.refl _)
      | (with_reducible exact LeO.none _)
      | (with_reducible refine LeO.ite ?_ ?_)
      | (with_reducible refine LeO.bind ?_ (fun _ => ?_))
      | exact huff_Read.mono _ _ _ _
      | exact psalterylaw04_knows.mono _
      | exact psalteryref04_Read.mono _ _ _ _
      | exact LeO.none _
      | refine LeO.ite ?_ ?_
      | refine LeO.bind ?_ (fun _ => ?_)
set_option maxHeartbeats 8000000 in
set_option maxRecDepth 100000 in
theorem psalterylaw04_HuffReads.calls (k : Nat) (A0 : Option Addr) (c0 : Nat) (l0 : List Int) (a1 : Int) (A2 : Option Addr) (c2 : Nat) (l2 : List Int) (r : Bool) (w : World) (hr0 : Kd.C (Kd.int .u8) w A0 l0.length l0) (hc0 : l0.length ≤ c0) (hr2 : Kd.C (Kd.int .i64) w A2 l2.length l2) (hc2 : l2.length ≤ c2) (h : psalterylaw04_HuffReads.f k l0 a1 l2 = some r) (hT : r = true) :
    Calls Try.prog 6 #[.slice A0 l0.length c0, .int .i64 a1, .slice A2 l2.length c2] w fun e w' => e = .returned (.bool r) ∧ Below w.heap.size w w' := by
  have hu45 := Try.underlying45
  have HR0 := Aside0.mk hr0
  have HC0 := Aside0.mk hc0
  clear hr0 hc0
  have HR2 := Aside0.mk hr2
  have HC2 := Aside0.mk hc2
  clear hr2 hc2
  have HB := Aside0.mk (Below.refl w.heap.size w)
  have H : ((psalterylaw04_great.f l0 l2).bind fun t313 => (if t313 = true then ((psalterylaw04_knows.f k).bind fun t314 => (some t314)) else ((huff_Read.f k l0 a1 l2).bind fun bt315 => ((psalteryref04_Read.f k l0 a1 l2).bind fun bt319 => (if bt315.2.1 = bt319.1 then (if bt315.2.2 = bt319.2.2 then (if (strOfNums l0).toList = (strOfNums l0).toList then (if bt319.2.2 = 0 then (if bt315.1 = (wrap64 (a1 + bt319.2.1)) then ((psalterylaw04_knows.f k).bind fun t322 => (some t322)) else (some false)) else (if bt315.1 = a1 then ((psalterylaw04_knows.f k).bind fun t323 => (some t323)) else (some false))) else (some false)) else (some false)) else (some false)))))) = some r := h
  clear h
  have HT := Aside0.mk hT
  clear hT
  replace H := Option.bind_eq_some_iff.mp H
  obtain ⟨t313, A40, H⟩ := H
  replace H : (if t313 = true then ((psalterylaw04_knows.f k).bind fun t314 => (some t314)) else ((huff_Read.f k l0 a1 l2).bind fun bt315 => ((psalteryref04_Read.f k l0 a1 l2).bind fun bt319 => (if bt315.2.1 = bt319.1 then (if bt315.2.2 = bt319.2.2 then (if (strOfNums l0).toList = (strOfNums l0).toList then (if bt319.2.2 = 0 then (if bt315.1 = (wrap64 (a1 + bt319.2.1)) then ((psalterylaw04_knows.f k).bind fun t322 => (some t322)) else (some false)) else (if bt315.1 = a1 then ((psalterylaw04_knows.f k).bind fun t323 => (some t323)) else (some false))) else (some false)) else (some false)) else (some false))))) = some r := H
  have A4 := Aside0.mk A40
  clear A40
  by_cases c5 : t313 = true
  · subst c5
    have H1 : ((psalterylaw04_knows.f k).bind fun t314 => (some t314)) = some r := by rw [if_pos rfl] at H; exact H
    clear H
    have H := H1
    clear H1
    replace H := Option.bind_eq_some_iff.mp H
    obtain ⟨t314, A60, H⟩ := H
    replace H : (some t314) = some r := H
    have A6 := Aside0.mk A60
    clear A60
    obtain rfl := Option.some.inj H
    go_enter Try.func6, Try.ntmps6
    go_wp2_with (first | ((with_reducible refine gate_callee (f := 16) rfl ?_); refine goesL_ (some 15) rfl rfl Try.func16 (by kernel_rfl) rfl #[.slice A0 l0.length c0, .slice A2 l2.length c2] rfl (by (try simp only [List.map_toArray, List.map_cons, List.map_nil]); first | done | rfl | (simp only [List.length_drop, List.length_take]; rfl)) ?_; (with_reducible refine (psalterylaw04_great.calls _ _ l0 _ _ l2 true _ ?side1 ?side2 ?side3 ?side4 A4.out).mono ?_); (case side1 => repeat (first | exact HR0.out | (with_reducible refine Kd.C_alloc ?_ _) | (with_reducible refine Kd.C_drewN ?_ _) | (with_reducible refine Kd.C_drew ?_))); (case side2 => exact HC0.out); (case side3 => repeat (first | exact HR2.out | (with_reducible refine Kd.C_alloc ?_ _) | (with_reducible refine Kd.C_drewN ?_ _) | (with_reducible refine Kd.C_drew ?_))); (case side4 => exact HC2.out); rintro e w' ⟨rfl, ⟨nd, rfl⟩⟩; refine ⟨_, rfl, ?_⟩) | ((with_reducible refine gate_callee (f := 10) rfl ?_); refine goesL_ (some 16) rfl rfl Try.func10 (by kernel_rfl) rfl #[] rfl (by (try simp only [List.map_toArray, List.map_cons, List.map_nil]); first | done | rfl | (simp only [List.length_drop, List.length_take]; rfl)) ?_; (with_reducible refine (psalterylaw04_knows.calls k  t314 _ A6.out).mono ?_); rintro e w7 ⟨rfl, hb⟩; refine ⟨_, rfl, ?_⟩; have n0_ := Aside0.mk (below_step (by repeat (first | (with_reducible first | exact HB.out | apply below_alloc | apply pw_below_drewN | apply below_drew1) | exact HB.out)) hb); clear HB; have HB := n0_; clear n0_; (try clear hb); (try clear hb2); (try clear hk); (try clear hi)))
    go_ret
    exact ⟨by first | rfl | (simp [errW_none, errW_some] <;> rfl) | (simp [*, errW_none, errW_some] <;> rfl), by repeat (first | (with_reducible first | exact HB.out | apply below_alloc | apply pw_below_drewN | apply below_drew1) | exact HB.out)⟩
  · replace c5 := Bool.eq_false_iff.mpr c5
    subst c5
    have H1 : ((huff_Read.f k l0 a1 l2).bind fun bt315 => ((psalteryref04_Read.f k l0 a1 l2).bind fun bt319 => (if bt315.2.1 = bt319.1 then (if bt315.2.2 = bt319.2.2 then (if (strOfNums l0).toList = (strOfNums l0).toList then (if bt319.2.2 = 0 then (if bt315.1 = (wrap64 (a1 + bt319.2.1)) then ((psalterylaw04_knows.f k).bind fun t322 => (some t322)) else (some false)) else (if bt315.1 = a1 then ((psalterylaw04_knows.f k).bind fun t323 => (some t323)) else (some false))) else (some false)) else (some false)) else (some false)))) = some r := by rw [if_neg (show ¬ (false = true) by decide)] at H; exact H
    clear H
    have H := H1
    clear H1
    replace H := Option.bind_eq_some_iff.mp H
    obtain ⟨⟨t315, t316, t317⟩, A80, H⟩ := H
    replace H : ((psalteryref04_Read.f k l0 a1 l2).bind fun bt319 => (if t316 = bt319.1 then (if t317 = bt319.2.2 then (if (strOfNums l0).toList = (strOfNums l0).toList then (if bt319.2.2 = 0 then (if t315 = (wrap64 (a1 + bt319.2.1)) then ((psalterylaw04_knows.f k).bind fun t322 => (some t322)) else (some false)) else (if t315 = a1 then ((psalterylaw04_knows.f k).bind fun t323 => (some t323)) else (some false))) else (some false)) else (some false)) else (some false))) = some r := H
    have A8 := Aside0.mk A80
    clear A80
    replace H := Option.bind_eq_some_iff.mp H
    obtain ⟨⟨t319, t320, t321⟩, A90, H⟩ := H
    replace H : (if t316 = t319 then (if t317 = t321 then (if (strOfNums l0).toList = (strOfNums l0).toList then (if t321 = 0 then (if t315 = (wrap64 (a1 + t320)) then ((psalterylaw04_knows.f k).bind fun t322 => (some t322)) else (some false)) else (if t315 = a1 then ((psalterylaw04_knows.f k).bind fun t323 => (some t323)) else (some false))) else (some false)) else (some false)) else (some false)) = some r := H
    have A9 := Aside0.mk A90
    clear A90
    by_cases c10 : t316 = t319
    · rw [if_pos c10] at H
      have c10b0 : (t316 == t319) = true := beq_iff_eq.mpr c10
      have c10b1 : (t316 != t319) = false := bne_eq_false_iff_eq.mpr c10
      clear c10
      by_cases c11 : t317 = t321
      · rw [if_pos c11] at H
        have c11b0 : (t317 == t321) = true := beq_iff_eq.mpr c11
        have c11b1 : (t317 != t321) = false := bne_eq_false_iff_eq.mpr c11
        clear c11
        by_cases c12 : (strOfNums l0).toList = (strOfNums l0).toList
        · rw [if_pos c12] at H
          have c12b0 : ((strOfNums l0).toList == (strOfNums l0).toList) = true := beq_iff_eq.mpr c12
          have c12b1 : ((strOfNums l0).toList != (strOfNums l0).toList) = false := bne_eq_false_iff_eq.mpr c12
          clear c12
          by_cases c13 : t321 = 0
          · rw [if_pos c13] at H
            have c13b0 : (t321 == 0) = true := beq_iff_eq.mpr c13
            have c13b1 : (t321 != 0) = false := bne_eq_false_iff_eq.mpr c13
            clear c13
            by_cases c14 : t315 = (wrap64 (a1 + t320))
            · rw [if_pos c14] at H
              have c14b0 : (t315 == (wrap64 (a1 + t320))) = true := beq_iff_eq.mpr c14
              have c14b1 : (t315 != (wrap64 (a1 + t320))) = false := bne_eq_false_iff_eq.mpr c14
              clear c14
              replace H := Option.bind_eq_some_iff.mp H
              obtain ⟨t322, A150, H⟩ := H
              replace H : (some t322) = some r := H
              have A15 := Aside0.mk A150
              clear A150
              obtain rfl := Option.some.inj H
              go_enter Try.func6, Try.ntmps6
              go_wp2_with (first | ((with_reducible refine gate_callee (f := 16) rfl ?_); refine goesL_ (some 15) rfl rfl Try.func16 (by kernel_rfl) rfl #[.slice A0 l0.length c0, .slice A2 l2.length c2] rfl (by (try simp only [List.map_toArray, List.map_cons, List.map_nil]); first | done | rfl | (simp only [List.length_drop, List.length_take]; rfl)) ?_; (with_reducible refine (psalterylaw04_great.calls _ _ l0 _ _ l2 false _ ?side1 ?side2 ?side3 ?side4 A4.out).mono ?_); (case side1 => repeat (first | exact HR0.out | (with_reducible refine Kd.C_alloc ?_ _) | (with_reducible refine Kd.C_drewN ?_ _) | (with_reducible refine Kd.C_drew ?_))); (case side2 => exact HC0.out); (case side3 => repeat (first | exact HR2.out | (with_reducible refine Kd.C_alloc ?_ _) | (with_reducible refine Kd.C_drewN ?_ _) | (with_reducible refine Kd.C_drew ?_))); (case side4 => exact HC2.out); rintro e w' ⟨rfl, ⟨nd, rfl⟩⟩; refine ⟨_, rfl, ?_⟩) | ((with_reducible refine gate_callee (f := 21) rfl ?_); refine goesL_ (some 22) rfl rfl Try.func21 (by kernel_rfl) rfl #[.agg #[.slice A0 l0.length c0, .int .i64 a1], .slice A2 l2.length c2] rfl (by (try simp only [List.map_toArray, List.map_cons, List.map_nil]); first | done | rfl | (simp only [List.length_drop, List.length_take]; rfl)) ?_; (with_reducible refine (huff_Read.calls k _ _ l0 a1 _ _ l2 t315 t316 t317 _ ?side1 ?side2 ?side3 ?side4 A8.out).mono ?_); (case side1 => repeat (first | exact HR0.out | (with_reducible refine Kd.C_alloc ?_ _) | (with_reducible refine Kd.C_drewN ?_ _) | (with_reducible refine Kd.C_drew ?_))); (case side2 => exact HC0.out); (case side3 => repeat (first | exact HR2.out | (with_reducible refine Kd.C_alloc ?_ _) | (with_reducible refine Kd.C_drewN ?_ _) | (with_reducible refine Kd.C_drew ?_))); (case side4 => exact HC2.out); rintro e w16 ⟨rfl, hb⟩; refine ⟨_, rfl, ?_⟩; have n0_ := Aside0.mk (below_step (by repeat (first | (with_reducible first | exact HB.out | apply below_alloc | apply pw_below_drewN | apply below_drew1) | exact HB.out)) hb); clear HB; have HB := n0_; clear n0_; (try clear hb); (try clear hb2); (try clear hk); (try clear hi)) | ((with_reducible refine gate_dst (N := 7) rfl ?_); refine box_event ?hg (N := 7) ?hd (cs := #[.slice none 0 0, .int .i64 0]) (t := 45) ?hr ?_; (case hd => rfl); (case hg => rfl); (case hr => first | (go_simp; done) | (go_simp; rfl)); intro gb318 hg w17 hbox hb; have n0_ := Aside0.mk (below_step (by repeat (first | (with_reducible first | exact HB.out | apply below_alloc | apply pw_below_drewN | apply below_drew1) | exact HB.out)) hb); have n1_ := Aside0.mk (hbox); have n2_ := Aside0.mk ((by rw [hg]; exact (below_size (by repeat (first | (with_reducible first | exact HB.out | apply below_alloc | apply pw_below_drewN | apply below_drew1) | exact HB.out))) : w.heap.size ≤ gb318)); have n3_ := Aside0.mk ((by rw [hg]; exact (below_size (by repeat (first | (with_reducible first | exact HB.out | apply below_alloc | apply pw_below_drewN | apply below_drew1) | exact HB.out))) : w.heap.size ≤ gb318)); clear HB; have HB := n0_; have BK318 := n1_; have GW318 := n2_; have GE318 := n3_; clear n0_ n1_ n2_ n3_; clear hb hbox hg; have hcz18_0 : w17.cell? ⟨gb318, 0, none⟩ = some (.slice none 0 0) := (blk_cell BK318.out 0).trans rfl; have hcz18_1 : w17.cell? ⟨gb318, 1, none⟩ = some (.int .i64 0) := (blk_cell BK318.out 1).trans rfl; have hfz18_0 := blk_frozen BK318.out 0; have hfz18_1 := blk_frozen BK318.out 1) | ((with_reducible refine gate_callee (f := 22) rfl ?_); refine goesL_ (some 30) rfl rfl Try.func22 (by kernel_rfl) rfl #[.slice A0 l0.length c0, .int .i64 a1, .slice A2 l2.length c2] rfl (by (try simp only [List.map_toArray, List.map_cons, List.map_nil]); first | done | rfl | (simp only [List.length_drop, List.length_take]; rfl)) ?_; (with_reducible refine (psalteryref04_Read.calls k _ _ l0 a1 _ _ l2 t319 t320 t321 _ ?side1 ?side2 ?side3 ?side4 A9.out).mono ?_); (case side1 => exact Kd.C_below HR0.out (by repeat (first | (with_reducible first | exact HB.out | apply below_alloc | apply pw_below_drewN | apply below_drew1 | refine below_set ?_ GE318.out) | exact HB.out))); (case side2 => exact HC0.out); (case side3 => exact Kd.C_below HR2.out (by repeat (first | (with_reducible first | exact HB.out | apply below_alloc | apply pw_below_drewN | apply below_drew1 | refine below_set ?_ GE318.out) | exact HB.out))); (case side4 => exact HC2.out); rintro e w19 ⟨rfl, hb⟩; refine ⟨_, rfl, ?_⟩; have n0_ := Aside0.mk (blk_below (g := gb318) (o := .cells #[.slice A0 l0.length c0, .int .i64 t315] 45 (0, 0)) (by (with_reducible repeat (first | refine blk_drewN ?_ _ | refine blk_drew ?_ | refine blk_alloc ?_ _)); refine blk_put (cs := #[.slice A0 l0.length c0, .int .i64 0]) ?_ 1 _ rfl; (with_reducible repeat (first | refine blk_drewN ?_ _ | refine blk_drew ?_ | refine blk_alloc ?_ _)); refine blk_put (cs := #[.slice none 0 0, .int .i64 0]) ?_ 0 _ rfl; (with_reducible repeat (first | refine blk_drewN ?_ _ | refine blk_drew ?_ | refine blk_alloc ?_ _)); exact BK318.out) hb); have n1_ := Aside0.mk (below_step (by repeat (first | (with_reducible first | exact HB.out | apply below_alloc | apply pw_below_drewN | apply below_drew1 | refine below_set ?_ GE318.out) | exact HB.out)) hb); clear BK318; clear HB; have BK318 := n0_; have HB := n1_; clear n0_ n1_; (try clear hb); (try clear hb2); (try clear hk); (try clear hi); have hcz20_0 : w19.cell? ⟨gb318, 0, none⟩ = some (.slice A0 l0.length c0) := (blk_cell BK318.out 0).trans rfl; have hcz20_1 : w19.cell? ⟨gb318, 1, none⟩ = some (.int .i64 t315) := (blk_cell BK318.out 1).trans rfl; have hfz20_0 := blk_frozen BK318.out 0; have hfz20_1 := blk_frozen BK318.out 1; have hcv21 := Kd.C_string (P := Try.prog) (A := A0) (c := c0) Try.underlying32 Try.underlying5 Try.underlying9 (Kd.C_below HR0.out HB.out); have hcv22 := Kd.C_string (P := Try.prog) (A := A0) (c := c0) Try.underlying32 Try.underlying5 Try.underlying9 (Kd.C_below HR0.out HB.out)) | (go_at_call 10; (with_reducible refine (psalterylaw04_knows.calls k  t322 _ A15.out).mono ?_); rintro e w23 ⟨rfl, hb⟩; have n0_ := Aside0.mk (blk_below (g := gb318) (o := .cells #[.slice A0 l0.length c0, .int .i64 t315] 45 (0, 0)) (by (with_reducible repeat (first | refine blk_drewN ?_ _ | refine blk_drew ?_ | refine blk_alloc ?_ _)); exact BK318.out) hb); have n1_ := Aside0.mk (below_step (by repeat (first | (with_reducible first | exact HB.out | apply below_alloc | apply pw_below_drewN | apply below_drew1 | refine below_set ?_ GE318.out) | exact HB.out)) hb); clear BK318; clear HB; have BK318 := n0_; have HB := n1_; clear n0_ n1_; (try clear hb); (try clear hb2); (try clear hk); (try clear hi)))
              go_ret
              exact ⟨by first | rfl | (simp [errW_none, errW_some] <;> rfl) | (simp [*, errW_none, errW_some] <;> rfl), by repeat (first | (with_reducible first | exact HB.out | apply below_alloc | apply pw_below_drewN | apply below_drew1 | refine below_set ?_ GE318.out) | exact HB.out)⟩
            · rw [if_neg c14] at H
              have c14b0 : (t315 == (wrap64 (a1 + t320))) = false := beq_eq_false_iff_ne.mpr c14
              have c14b1 : (t315 != (wrap64 (a1 + t320))) = true := bne_iff_ne.mpr c14
              exact absurd ((Option.some.inj H).trans HT.out) (by decide)
          · rw [if_neg c13] at H
            have c13b0 : (t321 == 0) = false := beq_eq_false_iff_ne.mpr c13
            have c13b1 : (t321 != 0) = true := bne_iff_ne.mpr c13
            by_cases c24 : t315 = a1
            · rw [if_pos c24] at H
              have c24b0 : (t315 == a1) = true := beq_iff_eq.mpr c24
              have c24b1 : (t315 != a1) = false := bne_eq_false_iff_eq.mpr c24
              clear c24
              replace H := Option.bind_eq_some_iff.mp H
              obtain ⟨t323, A250, H⟩ := H
              replace H : (some t323) = some r := H
              have A25 := Aside0.mk A250
              clear A250
              obtain rfl := Option.some.inj H
              go_enter Try.func6, Try.ntmps6
              go_wp2_with (first | ((with_reducible refine gate_callee (f := 16) rfl ?_); refine goesL_ (some 15) rfl rfl Try.func16 (by kernel_rfl) rfl #[.slice A0 l0.length c0, .slice A2 l2.length c2] rfl (by (try simp only [List.map_toArray, List.map_cons, List.map_nil]); first | done | rfl | (simp only [List.length_drop, List.length_take]; rfl)) ?_; (with_reducible refine (psalterylaw04_great.calls _ _ l0 _ _ l2 false _ ?side1 ?side2 ?side3 ?side4 A4.out).mono ?_); (case side1 => repeat (first | exact HR0.out | (with_reducible refine Kd.C_alloc ?_ _) | (with_reducible refine Kd.C_drewN ?_ _) | (with_reducible refine Kd.C_drew ?_))); (case side2 => exact HC0.out); (case side3 => repeat (first | exact HR2.out | (with_reducible refine Kd.C_alloc ?_ _) | (with_reducible refine Kd.C_drewN ?_ _) | (with_reducible refine Kd.C_drew ?_))); (case side4 => exact HC2.out); rintro e w' ⟨rfl, ⟨nd, rfl⟩⟩; refine ⟨_, rfl, ?_⟩) | ((with_reducible refine gate_callee (f := 21) rfl ?_); refine goesL_ (some 22) rfl rfl Try.func21 (by kernel_rfl) rfl #[.agg #[.slice A0 l0.length c0, .int .i64 a1], .slice A2 l2.length c2] rfl (by (try simp only [List.map_toArray, List.map_cons, List.map_nil]); first | done | rfl | (simp only [List.length_drop, List.length_take]; rfl)) ?_; (with_reducible refine (huff_Read.calls k _ _ l0 a1 _ _ l2 t315 t316 t317 _ ?side1 ?side2 ?side3 ?side4 A8.out).mono ?_); (case side1 => repeat (first | exact HR0.out | (with_reducible refine Kd.C_alloc ?_ _) | (with_reducible refine Kd.C_drewN ?_ _) | (with_reducible refine Kd.C_drew ?_))); (case side2 => exact HC0.out); (case side3 => repeat (first | exact HR2.out | (with_reducible refine Kd.C_alloc ?_ _) | (with_reducible refine Kd.C_drewN ?_ _) | (with_reducible refine Kd.C_drew ?_))); (case side4 => exact HC2.out); rintro e w26 ⟨rfl, hb⟩; refine ⟨_, rfl, ?_⟩; have n0_ := Aside0.mk (below_step (by repeat (first | (with_reducible first | exact HB.out | apply below_alloc | apply pw_below_drewN | apply below_drew1) | exact HB.out)) hb); clear HB; have HB := n0_; clear n0_; (try clear hb); (try clear hb2); (try clear hk); (try clear hi)) | ((with_reducible refine gate_dst (N := 7) rfl ?_); refine box_event ?hg (N := 7) ?hd (cs := #[.slice none 0 0, .int .i64 0]) (t := 45) ?hr ?_; (case hd => rfl); (case hg => rfl); (case hr => first | (go_simp; done) | (go_simp; rfl)); intro gb318 hg w27 hbox hb; have n0_ := Aside0.mk (below_step (by repeat (first | (with_reducible first | exact HB.out | apply below_alloc | apply pw_below_drewN | apply below_drew1) | exact HB.out)) hb); have n1_ := Aside0.mk (hbox); have n2_ := Aside0.mk ((by rw [hg]; exact (below_size (by repeat (first | (with_reducible first | exact HB.out | apply below_alloc | apply pw_below_drewN | apply below_drew1) | exact HB.out))) : w.heap.size ≤ gb318)); have n3_ := Aside0.mk ((by rw [hg]; exact (below_size (by repeat (first | (with_reducible first | exact HB.out | apply below_alloc | apply pw_below_drewN | apply below_drew1) | exact HB.out))) : w.heap.size ≤ gb318)); clear HB; have HB := n0_; have BK318 := n1_; have GW318 := n2_; have GE318 := n3_; clear n0_ n1_ n2_ n3_; clear hb hbox hg; have hcz28_0 : w27.cell? ⟨gb318, 0, none⟩ = some (.slice none 0 0) := (blk_cell BK318.out 0).trans rfl; have hcz28_1 : w27.cell? ⟨gb318, 1, none⟩ = some (.int .i64 0) := (blk_cell BK318.out 1).trans rfl; have hfz28_0 := blk_frozen BK318.out 0; have hfz28_1 := blk_frozen BK318.out 1) | ((with_reducible refine gate_callee (f := 22) rfl ?_); refine goesL_ (some 30) rfl rfl Try.func22 (by kernel_rfl) rfl #[.slice A0 l0.length c0, .int .i64 a1, .slice A2 l2.length c2] rfl (by (try simp only [List.map_toArray, List.map_cons, List.map_nil]); first | done | rfl | (simp only [List.length_drop, List.length_take]; rfl)) ?_; (with_reducible refine (psalteryref04_Read.calls k _ _ l0 a1 _ _ l2 t319 t320 t321 _ ?side1 ?side2 ?side3 ?side4 A9.out).mono ?_); (case side1 => exact Kd.C_below HR0.out (by repeat (first | (with_reducible first | exact HB.out | apply below_alloc | apply pw_below_drewN | apply below_drew1 | refine below_set ?_ GE318.out) | exact HB.out))); (case side2 => exact HC0.out); (case side3 => exact Kd.C_below HR2.out (by repeat (first | (with_reducible first | exact HB.out | apply below_alloc | apply pw_below_drewN | apply below_drew1 | refine below_set ?_ GE318.out) | exact HB.out))); (case side4 => exact HC2.out); rintro e w29 ⟨rfl, hb⟩; refine ⟨_, rfl, ?_⟩; have n0_ := Aside0.mk (blk_below (g := gb318) (o := .cells #[.slice A0 l0.length c0, .int .i64 t315] 45 (0, 0)) (by (with_reducible repeat (first | refine blk_drewN ?_ _ | refine blk_drew ?_ | refine blk_alloc ?_ _)); refine blk_put (cs := #[.slice A0 l0.length c0, .int .i64 0]) ?_ 1 _ rfl; (with_reducible repeat (first | refine blk_drewN ?_ _ | refine blk_drew ?_ | refine blk_alloc ?_ _)); refine blk_put (cs := #[.slice none 0 0, .int .i64 0]) ?_ 0 _ rfl; (with_reducible repeat (first | refine blk_drewN ?_ _ | refine blk_drew ?_ | refine blk_alloc ?_ _)); exact BK318.out) hb); have n1_ := Aside0.mk (below_step (by repeat (first | (with_reducible first | exact HB.out | apply below_alloc | apply pw_below_drewN | apply below_drew1 | refine below_set ?_ GE318.out) | exact HB.out)) hb); clear BK318; clear HB; have BK318 := n0_; have HB := n1_; clear n0_ n1_; (try clear hb); (try clear hb2); (try clear hk); (try clear hi); have hcz30_0 : w29.cell? ⟨gb318, 0, none⟩ = some (.slice A0 l0.length c0) := (blk_cell BK318.out 0).trans rfl; have hcz30_1 : w29.cell? ⟨gb318, 1, none⟩ = some (.int .i64 t315) := (blk_cell BK318.out 1).trans rfl; have hfz30_0 := blk_frozen BK318.out 0; have hfz30_1 := blk_frozen BK318.out 1; have hcv31 := Kd.C_string (P := Try.prog) (A := A0) (c := c0) Try.underlying32 Try.underlying5 Try.underlying9 (Kd.C_below HR0.out HB.out); have hcv32 := Kd.C_string (P := Try.prog) (A := A0) (c := c0) Try.underlying32 Try.underlying5 Try.underlying9 (Kd.C_below HR0.out HB.out)) | (go_at_call 10; (with_reducible refine (psalterylaw04_knows.calls k  t323 _ A25.out).mono ?_); rintro e w33 ⟨rfl, hb⟩; have n0_ := Aside0.mk (blk_below (g := gb318) (o := .cells #[.slice A0 l0.length c0, .int .i64 t315] 45 (0, 0)) (by (with_reducible repeat (first | refine blk_drewN ?_ _ | refine blk_drew ?_ | refine blk_alloc ?_ _)); exact BK318.out) hb); have n1_ := Aside0.mk (below_step (by repeat (first | (with_reducible first | exact HB.out | apply below_alloc | apply pw_below_drewN | apply below_drew1 | refine below_set ?_ GE318.out) | exact HB.out)) hb); clear BK318; clear HB; have BK318 := n0_; have HB := n1_; clear n0_ n1_; (try clear hb); (try clear hb2); (try clear hk); (try clear hi)))
              go_ret
              exact ⟨by first | rfl | (simp [errW_none, errW_some] <;> rfl) | (simp [*, errW_none, errW_some] <;> rfl), by repeat (first | (with_reducible first | exact HB.out | apply below_alloc | apply pw_below_drewN | apply below_drew1 | refine below_set ?_ GE318.out) | exact HB.out)⟩
            · rw [if_neg c24] at H
              have c24b0 : (t315 == a1) = false := beq_eq_false_iff_ne.mpr c24
              have c24b1 : (t315 != a1) = true := bne_iff_ne.mpr c24
              exact absurd ((Option.some.inj H).trans HT.out) (by decide)
        · rw [if_neg c12] at H
          have c12b0 : ((strOfNums l0).toList == (strOfNums l0).toList) = false := beq_eq_false_iff_ne.mpr c12
          have c12b1 : ((strOfNums l0).toList != (strOfNums l0).toList) = true := bne_iff_ne.mpr c12
          exact absurd ((Option.some.inj H).trans HT.out) (by decide)
      · rw [if_neg c11] at H
        have c11b0 : (t317 == t321) = false := beq_eq_false_iff_ne.mpr c11
        have c11b1 : (t317 != t321) = true := bne_iff_ne.mpr c11
        exact absurd ((Option.some.inj H).trans HT.out) (by decide)
    · rw [if_neg c10] at H
      have c10b0 : (t316 == t319) = false := beq_eq_false_iff_ne.mpr c10
      have c10b1 : (t316 != t319) = true := bne_iff_ne.mpr c10
      exact absurd ((Option.some.inj H).trans HT.out) (by decide)

/-- THE ONE PURE STATEMENT of psalterylaw04_HuffReads: yours. -/
def psalterylaw04_HuffReads.Pure : Prop := ∀ (l0 : List Int) (a1 : Int) (l2 : List Int), l0.length ≤ maxLen → l0.length * 1 ≤ 140737488351232 → (∀ x ∈ l0, (Lit.int .u8 x).wf = true) → (Lit.int .i64 a1).wf = true → l2.length ≤ maxLen → l2.length * 8 ≤ 140737488351232 → (∀ x ∈ l2, (Lit.int .i64 x).wf = true) → ∃ k, psalterylaw04_HuffReads.f k l0 a1 l2 = some true
theorem psalterylaw04_HuffReads.walk (P : psalterylaw04_HuffReads.Pure) (a0 : Option Addr) (len0 cap0 : Nat) (z0 : List Int) (a1 : Int) (a2 : Option Addr) (len2 cap2 : Nat) (z2 : List Int) (w : World) (w0 : (a0 = none ∧ len0 = 0 ∧ cap0 = 0 ∧ z0 = []) ∨ ∃ x, a0 = some x ∧ len0 ≤ cap0 ∧ cap0 ≤ maxLen ∧ z0.length = cap0 ∧ (∀ i, i < z0.length → w.cell? (x.add i) = some (.int .u8 (z0.getD i 0))) ∧ ∀ n ∈ z0, (Lit.int .u8 n).wf = true) (y0 : len0 * 1 ≤ 140737488351232) (w1 : (Lit.int .i64 a1).wf = true) (w2 : (a2 = none ∧ len2 = 0 ∧ cap2 = 0 ∧ z2 = []) ∨ ∃ x, a2 = some x ∧ len2 ≤ cap2 ∧ cap2 ≤ maxLen ∧ z2.length = cap2 ∧ (∀ i, i < z2.length → w.cell? (x.add i) = some (.int .i64 (z2.getD i 0))) ∧ ∀ n ∈ z2, (Lit.int .i64 n).wf = true) (y2 : len2 * 8 ≤ 140737488351232) :
    Calls Try.prog 6 #[.slice a0 len0 cap0, .int .i64 a1, .slice a2 len2 cap2] w fun e w' => e = .returned (.bool true) ∧ Below w.heap.size w w' := by
  obtain ⟨l0, rfl, hr0, hm0, hw0, hc0⟩ := ReadsInt.ofRowC w0
  obtain ⟨l2, rfl, hr2, hm2, hw2, hc2⟩ := ReadsInt.ofRowC w2
  obtain ⟨k, h⟩ := P l0 a1 l2 hm0 y0 hw0 w1 hm2 y2 hw2
  refine (psalterylaw04_HuffReads.calls k _ _ l0 a1 _ _ l2 true w (Kd.C_of_reads (d := (0 : Int)) (h1 := fun _ => rfl) hr0) hc0 (Kd.C_of_reads (d := (0 : Int)) (h1 := fun _ => rfl) hr2) hc2 h rfl).mono ?_
  rintro e w' ⟨rfl, hd⟩
  exact ⟨rfl, hd⟩

end Go.Proofs.Ytmocinhononfpaa.P
