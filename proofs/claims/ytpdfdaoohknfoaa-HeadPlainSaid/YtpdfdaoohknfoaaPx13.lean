-- PRINTED by print.py (a twelfth state) out of the translation. Not trusted: Lean checks it.
import Derived.Test.YtpdfdaoohknfoaaPx0
import Derived.Test.YtpdfdaoohknfoaaPx5
import Derived.Test.YtpdfdaoohknfoaaPx6
import Derived.Test.YtpdfdaoohknfoaaPx7
import Derived.Test.YtpdfdaoohknfoaaPx12
namespace Go.Proofs.Ytpdfdaoohknfoaa.P
open Go.RowKit Go.Proofs.YtpdfdaoohknfoaaW.PrintWords Go.Proofs.YtpdfdaoohknfoaaW.PrintLast Go.Proofs.YtpdfdaoohknfoaaW.PrintMore
attribute [local go_sem] max2_int min2_int max_two min_two max_three min_three max_four min_four   -- for this text's walks alone
set_option linter.unusedVariables false
set_option linter.unusedSimpArgs false

/-! ### psalterylaw16_knows: function 16 -/
def psalterylaw16_knows.f (k : Nat)  : Option (Bool) := (vhead_Plain.f k 1 0).bind fun bt130 => ((vhead_Write.f k bt130.1 bt130.2.1 bt130.2.2.1 bt130.2.2.2).bind fun bt138 => ((vhead_Read.f k bt138.1).bind fun bt142 => (if (bt138.1.length : Int) = 41 then (if bt138.2 = 0 then (if 0 < (bt138.1.length : Int) then (if (rd bt138.1 0) = 83 then (if 1 < (bt138.1.length : Int) then (if (rd bt138.1 1) = 86 then (if bt142.1 = 1 then (if (bt142.2.2.1.length : Int) = 45 then (if (bt142.2.2.2.1.length : Int) = 16 then (if bt142.2.2.2.2 = 0 then ((vhead_Right.f k bt142.1 bt142.2.1 bt142.2.2.1 bt142.2.2.2.1).bind fun t154 => (some t154)) else (some false)) else (some false)) else (some false)) else (some false)) else (some false)) else (none)) else (some false)) else (none)) else (some false)) else (some false))))
theorem psalterylaw16_knows.mono : ∀ k, LeO (psalterylaw16_knows.f k ) (psalterylaw16_knows.f (k + 1) ) := by
  intro  k
  unfold psalterylaw16_knows.f
  repeat' first
      | (with_reducible exact vhead_Plain.mono _ _ _)
      | (with_reducible exact vhead_Read.mono _ _)
      | (with_reducible exact vhead_Right.mono _ _ _ _ _)
      | (with_reducible exact vhead_Write.mono _ _ _ _ _)
      | (with_reducible exact LeO.refl _)
      | (with_reducible exact LeO.none _)
      | (with_reducible refine LeO.ite ?_ ?_)
      | (with_reducible refine LeO.bind ?_ (fun _ => ?_))
      | exact vhead_Plain.mono _ _ _
      | exact vhead_Read.mono _ _
      | exact vhead_Right.mono _ _ _ _ _
      | exact vhead_Write.mono _ _ _ _ _
      | exact LeO.none _
      | refine LeO.ite ?_ ?_
      | refine LeO.bind ?_ (fun _ => ?_)
set_option maxHeartbeats 8000000 in
set_option maxRecDepth 100000 in
theorem psalterylaw16_knows.callsT (k : Nat)  (r : Bool) (w : World) (h : psalterylaw16_knows.f k  = some r) (hT : r = true) :
    Calls Try.prog 16 #[] w fun e w' => e = .returned (.bool r) ∧ Below w.heap.size w w' := by
  have hu24 := Try.underlying24
  have HB := Aside0.mk (Below.refl w.heap.size w)
  have H : ((vhead_Plain.f k 1 0).bind fun bt130 => ((vhead_Write.f k bt130.1 bt130.2.1 bt130.2.2.1 bt130.2.2.2).bind fun bt138 => ((vhead_Read.f k bt138.1).bind fun bt142 => (if (bt138.1.length : Int) = 41 then (if bt138.2 = 0 then (if 0 < (bt138.1.length : Int) then (if (rd bt138.1 0) = 83 then (if 1 < (bt138.1.length : Int) then (if (rd bt138.1 1) = 86 then (if bt142.1 = 1 then (if (bt142.2.2.1.length : Int) = 45 then (if (bt142.2.2.2.1.length : Int) = 16 then (if bt142.2.2.2.2 = 0 then ((vhead_Right.f k bt142.1 bt142.2.1 bt142.2.2.1 bt142.2.2.2.1).bind fun t154 => (some t154)) else (some false)) else (some false)) else (some false)) else (some false)) else (some false)) else (none)) else (some false)) else (none)) else (some false)) else (some false))))) = some r := h
  clear h
  have HT := Aside0.mk hT
  clear hT
  replace H := Option.bind_eq_some_iff.mp H
  obtain ⟨⟨t130, t131, t132, t135⟩, A10, H⟩ := H
  replace H : ((vhead_Write.f k t130 t131 t132 t135).bind fun bt138 => ((vhead_Read.f k bt138.1).bind fun bt142 => (if (bt138.1.length : Int) = 41 then (if bt138.2 = 0 then (if 0 < (bt138.1.length : Int) then (if (rd bt138.1 0) = 83 then (if 1 < (bt138.1.length : Int) then (if (rd bt138.1 1) = 86 then (if bt142.1 = 1 then (if (bt142.2.2.1.length : Int) = 45 then (if (bt142.2.2.2.1.length : Int) = 16 then (if bt142.2.2.2.2 = 0 then ((vhead_Right.f k bt142.1 bt142.2.1 bt142.2.2.1 bt142.2.2.2.1).bind fun t154 => (some t154)) else (some false)) else (some false)) else (some false)) else (some false)) else (some false)) else (none)) else (some false)) else (none)) else (some false)) else (some false)))) = some r := H
  have A1 := Aside0.mk A10
  clear A10
  replace H := Option.bind_eq_some_iff.mp H
  obtain ⟨⟨t138, t141⟩, A20, H⟩ := H
  replace H : ((vhead_Read.f k t138).bind fun bt142 => (if (t138.length : Int) = 41 then (if t141 = 0 then (if 0 < (t138.length : Int) then (if (rd t138 0) = 83 then (if 1 < (t138.length : Int) then (if (rd t138 1) = 86 then (if bt142.1 = 1 then (if (bt142.2.2.1.length : Int) = 45 then (if (bt142.2.2.2.1.length : Int) = 16 then (if bt142.2.2.2.2 = 0 then ((vhead_Right.f k bt142.1 bt142.2.1 bt142.2.2.1 bt142.2.2.2.1).bind fun t154 => (some t154)) else (some false)) else (some false)) else (some false)) else (some false)) else (some false)) else (none)) else (some false)) else (none)) else (some false)) else (some false))) = some r := H
  have A2 := Aside0.mk A20
  clear A20
  replace H := Option.bind_eq_some_iff.mp H
  obtain ⟨⟨t142, t143, t144, t147, t150⟩, A30, H⟩ := H
  replace H : (if (t138.length : Int) = 41 then (if t141 = 0 then (if 0 < (t138.length : Int) then (if (rd t138 0) = 83 then (if 1 < (t138.length : Int) then (if (rd t138 1) = 86 then (if t142 = 1 then (if (t144.length : Int) = 45 then (if (t147.length : Int) = 16 then (if t150 = 0 then ((vhead_Right.f k t142 t143 t144 t147).bind fun t154 => (some t154)) else (some false)) else (some false)) else (some false)) else (some false)) else (some false)) else (none)) else (some false)) else (none)) else (some false)) else (some false)) = some r := H
  have A3 := Aside0.mk A30
  clear A30
  by_cases c4 : (t138.length : Int) = 41
  · rw [if_pos c4] at H
    have c4b0 : ((t138.length : Int) == 41) = true := beq_iff_eq.mpr c4
    have c4b1 : ((t138.length : Int) != 41) = false := bne_eq_false_iff_eq.mpr c4
    clear c4
    by_cases c5 : t141 = 0
    · rw [if_pos c5] at H
      have c5b0 : (t141 == 0) = true := beq_iff_eq.mpr c5
      have c5b1 : (t141 != 0) = false := bne_eq_false_iff_eq.mpr c5
      clear c5
      by_cases c6 : 0 < (t138.length : Int)
      · rw [if_pos c6] at H
        have c6b0 : decide (0 < (t138.length : Int)) = true := decide_eq_true c6
        have c6b1 : decide (0 < t138.length) = true := decide_eq_true (by omega)
        clear c6
        by_cases c7 : (rd t138 0) = 83
        · rw [if_pos c7] at H
          have c7b0 : ((rd t138 0) == 83) = true := beq_iff_eq.mpr c7
          have c7b1 : ((rd t138 0) != 83) = false := bne_eq_false_iff_eq.mpr c7
          clear c7
          by_cases c8 : 1 < (t138.length : Int)
          · rw [if_pos c8] at H
            have c8b0 : decide (1 < (t138.length : Int)) = true := decide_eq_true c8
            have c8b1 : decide (1 < t138.length) = true := decide_eq_true (by omega)
            clear c8
            by_cases c9 : (rd t138 1) = 86
            · rw [if_pos c9] at H
              have c9b0 : ((rd t138 1) == 86) = true := beq_iff_eq.mpr c9
              have c9b1 : ((rd t138 1) != 86) = false := bne_eq_false_iff_eq.mpr c9
              clear c9
              by_cases c10 : t142 = 1
              · rw [if_pos c10] at H
                have c10b0 : (t142 == 1) = true := beq_iff_eq.mpr c10
                have c10b1 : (t142 != 1) = false := bne_eq_false_iff_eq.mpr c10
                clear c10
                by_cases c11 : (t144.length : Int) = 45
                · rw [if_pos c11] at H
                  have c11b0 : ((t144.length : Int) == 45) = true := beq_iff_eq.mpr c11
                  have c11b1 : ((t144.length : Int) != 45) = false := bne_eq_false_iff_eq.mpr c11
                  clear c11
                  by_cases c12 : (t147.length : Int) = 16
                  · rw [if_pos c12] at H
                    have c12b0 : ((t147.length : Int) == 16) = true := beq_iff_eq.mpr c12
                    have c12b1 : ((t147.length : Int) != 16) = false := bne_eq_false_iff_eq.mpr c12
                    clear c12
                    by_cases c13 : t150 = 0
                    · rw [if_pos c13] at H
                      have c13b0 : (t150 == 0) = true := beq_iff_eq.mpr c13
                      have c13b1 : (t150 != 0) = false := bne_eq_false_iff_eq.mpr c13
                      clear c13
                      replace H := Option.bind_eq_some_iff.mp H
                      obtain ⟨t154, A140, H⟩ := H
                      replace H : (some t154) = some r := H
                      have A14 := Aside0.mk A140
                      clear A140
                      obtain rfl := Option.some.inj H
                      go_enter Try.func16, Try.ntmps16
                      go_wp2_with (first | ((with_reducible refine gate_callee (f := 21) rfl ?_); refine goesL_ (some 6) rfl rfl Try.func21 (by kernel_rfl) rfl #[.int .i64 1, .int .i64 0] rfl (by (try simp only [List.map_toArray, List.map_cons, List.map_nil]); first | done | rfl | (simp only [List.length_drop, List.length_take]; rfl)) ?_; (with_reducible refine (vhead_Plain.calls k 1 0 t130 t131 t132 t135 _ A1.out).mono ?_); rintro e w15 ⟨v133, v136, rfl, ho0, ho1, hb⟩; refine ⟨_, rfl, ?_⟩; have n0_ := Aside0.mk (Kd.R_lower ho0 (below_size (by repeat (first | (with_reducible first | exact HB.out | apply below_alloc | apply pw_below_drewN | apply below_drew1) | exact HB.out)))); have n1_ := Aside0.mk (Kd.R_lower ho1 (below_size (by repeat (first | (with_reducible first | exact HB.out | apply below_alloc | apply pw_below_drewN | apply below_drew1) | exact HB.out)))); have n2_ := Aside0.mk (below_step (by repeat (first | (with_reducible first | exact HB.out | apply below_alloc | apply pw_below_drewN | apply below_drew1) | exact HB.out)) hb); clear HB; have HO134 := n0_; have HO137 := n1_; have HB := n2_; clear n0_ n1_ n2_; (try clear hb); (try clear hb2); (try clear hk); (try clear hi); (try clear ho0); (try clear ho1); obtain ⟨Ao16, co16, eo16⟩ := Kd.R_slice HO134.out; subst eo16; obtain ⟨Ao17, co17, eo17⟩ := Kd.R_slice HO137.out; subst eo17) | ((with_reducible refine gate_callee (f := 23) rfl ?_); refine goesL_ (some 7) rfl rfl Try.func23 (by kernel_rfl) rfl #[.agg #[.int .i64 t130, .int .i64 t131, .slice Ao16 t132.length co16, .slice Ao17 t135.length co17]] rfl (by (try simp only [List.map_toArray, List.map_cons, List.map_nil]); first | done | rfl | (simp only [List.length_drop, List.length_take]; rfl)) ?_; (with_reducible refine (vhead_Write.calls k t130 t131 _ _ t132 _ _ t135 t138 t141 _ ?side1 ?side2 ?side3 ?side4 A2.out).mono ?_); (case side1 => repeat (first | exact (Kd.R_reads' HO134.out).2.2 | (with_reducible refine Kd.C_alloc ?_ _) | (with_reducible refine Kd.C_drewN ?_ _) | (with_reducible refine Kd.C_drew ?_))); (case side2 => exact (Kd.R_reads' HO134.out).2.1); (case side3 => repeat (first | exact (Kd.R_reads' HO137.out).2.2 | (with_reducible refine Kd.C_alloc ?_ _) | (with_reducible refine Kd.C_drewN ?_ _) | (with_reducible refine Kd.C_drew ?_))); (case side4 => exact (Kd.R_reads' HO137.out).2.1); rintro e w18 ⟨v139, rfl, ho0, hb⟩; refine ⟨_, rfl, ?_⟩; have n0_ := Aside0.mk (Kd.R_below (by (with_reducible repeat (first | apply Kd.R_alloc | apply Kd.R_drewN | apply Kd.R_drew)); exact HO134.out) hb); have n1_ := Aside0.mk (Kd.R_below (by (with_reducible repeat (first | apply Kd.R_alloc | apply Kd.R_drewN | apply Kd.R_drew)); exact HO137.out) hb); have n2_ := Aside0.mk (Kd.R_lower ho0 (below_size (by repeat (first | (with_reducible first | exact HB.out | apply below_alloc | apply pw_below_drewN | apply below_drew1) | exact HB.out)))); have n3_ := Aside0.mk (below_step (by repeat (first | (with_reducible first | exact HB.out | apply below_alloc | apply pw_below_drewN | apply below_drew1) | exact HB.out)) hb); clear HO134; clear HO137; clear HB; have HO134 := n0_; have HO137 := n1_; have HO140 := n2_; have HB := n3_; clear n0_ n1_ n2_ n3_; (try clear hb); (try clear hb2); (try clear hk); (try clear hi); (try clear ho0); obtain ⟨Ao19, co19, eo19⟩ := Kd.R_slice HO140.out; subst eo19) | ((with_reducible refine gate_callee (f := 25) rfl ?_); refine goesL_ (some 12) rfl rfl Try.func25 (by kernel_rfl) rfl #[.slice Ao19 t138.length co19] rfl (by (try simp only [List.map_toArray, List.map_cons, List.map_nil]); first | done | rfl | (simp only [List.length_drop, List.length_take]; rfl)) ?_; (with_reducible refine (vhead_Read.calls k _ _ t138 t142 t143 t144 t147 t150 _ ?side1 ?side2 A3.out).mono ?_); (case side1 => repeat (first | exact (Kd.R_reads' HO140.out).2.2 | (with_reducible refine Kd.C_alloc ?_ _) | (with_reducible refine Kd.C_drewN ?_ _) | (with_reducible refine Kd.C_drew ?_))); (case side2 => exact (Kd.R_reads' HO140.out).2.1); rintro e w20 ⟨v145, v148, rfl, ho0, ho1, hb⟩; refine ⟨_, rfl, ?_⟩; have n0_ := Aside0.mk (Kd.R_mono (Kd.R_told (Kd.R_told (Kd.R_old (by (with_reducible repeat (first | apply Kd.R_alloc | apply Kd.R_drewN | apply Kd.R_drew)); exact HO134.out) hb) (Kd.R_base ho0)) (Kd.R_base ho1)) (fun _ h_ => h_.1)); have n1_ := Aside0.mk (Kd.R_mono (Kd.R_told (Kd.R_told (Kd.R_old (by (with_reducible repeat (first | apply Kd.R_alloc | apply Kd.R_drewN | apply Kd.R_drew)); exact HO137.out) hb) (Kd.R_base ho0)) (Kd.R_base ho1)) (fun _ h_ => h_.1)); have n2_ := Aside0.mk (Kd.R_below (by (with_reducible repeat (first | apply Kd.R_alloc | apply Kd.R_drewN | apply Kd.R_drew)); exact HO140.out) hb); have n3_ := Aside0.mk (Kd.R_lower (Kd.R_new' (Kd.R_new' ho0 (Kd.R_lt (by (with_reducible repeat (first | apply Kd.R_alloc | apply Kd.R_drewN | apply Kd.R_drew)); exact HO134.out))) (Kd.R_lt (by (with_reducible repeat (first | apply Kd.R_alloc | apply Kd.R_drewN | apply Kd.R_drew)); exact HO137.out))) (below_size (by repeat (first | (with_reducible first | exact HB.out | apply below_alloc | apply pw_below_drewN | apply below_drew1) | exact HB.out)))); have n4_ := Aside0.mk (Kd.R_lower (Kd.R_new' (Kd.R_new' ho1 (Kd.R_lt (by (with_reducible repeat (first | apply Kd.R_alloc | apply Kd.R_drewN | apply Kd.R_drew)); exact HO134.out))) (Kd.R_lt (by (with_reducible repeat (first | apply Kd.R_alloc | apply Kd.R_drewN | apply Kd.R_drew)); exact HO137.out))) (below_size (by repeat (first | (with_reducible first | exact HB.out | apply below_alloc | apply pw_below_drewN | apply below_drew1) | exact HB.out)))); have n5_ := Aside0.mk (below_step (by repeat (first | (with_reducible first | exact HB.out | apply below_alloc | apply pw_below_drewN | apply below_drew1) | exact HB.out)) hb); clear HO134; clear HO137; clear HO140; clear HB; have HO134 := n0_; have HO137 := n1_; have HO140 := n2_; have HO146 := n3_; have HO149 := n4_; have HB := n5_; clear n0_ n1_ n2_ n3_ n4_ n5_; (try clear hb); (try clear hb2); (try clear hk); (try clear hi); (try clear ho0); (try clear ho1)) | ((with_reducible refine gate_dst (N := 3) rfl ?_); (try (refine gate_guard (by rfl) ?_; dsimp only)); refine box_event ?hg (N := 3) ?hd (cs := #[.int .i64 0, .int .i64 0, .slice none 0 0, .slice none 0 0]) (t := 24) ?hr ?_; (case hd => rfl); (case hg => rfl); (case hr => first | (go_simp; done) | (go_simp; rfl)); intro gb151 hg w21 hbox hb; have n0_ := Aside0.mk (Kd.R_below (by (with_reducible repeat (first | apply Kd.R_alloc | apply Kd.R_drewN | apply Kd.R_drew)); exact HO134.out) hb); have n1_ := Aside0.mk (Kd.R_below (by (with_reducible repeat (first | apply Kd.R_alloc | apply Kd.R_drewN | apply Kd.R_drew)); exact HO137.out) hb); have n2_ := Aside0.mk (Kd.R_below (by (with_reducible repeat (first | apply Kd.R_alloc | apply Kd.R_drewN | apply Kd.R_drew)); exact HO140.out) hb); have n3_ := Aside0.mk (Kd.R_below (by (with_reducible repeat (first | apply Kd.R_alloc | apply Kd.R_drewN | apply Kd.R_drew)); exact HO146.out) hb); have n4_ := Aside0.mk (Kd.R_below (by (with_reducible repeat (first | apply Kd.R_alloc | apply Kd.R_drewN | apply Kd.R_drew)); exact HO149.out) hb); have n5_ := Aside0.mk (below_step (by repeat (first | (with_reducible first | exact HB.out | apply below_alloc | apply pw_below_drewN | apply below_drew1) | exact HB.out)) hb); have n6_ := Aside0.mk (hbox); have n7_ := Aside0.mk ((by rw [hg]; exact (below_size (by repeat (first | (with_reducible first | exact HB.out | apply below_alloc | apply pw_below_drewN | apply below_drew1) | exact HB.out))) : w.heap.size ≤ gb151)); have n8_ := Aside0.mk ((by rw [hg]; exact (below_size (by repeat (first | (with_reducible first | exact HB.out | apply below_alloc | apply pw_below_drewN | apply below_drew1) | exact HB.out))) : w.heap.size ≤ gb151)); clear HO134; clear HO137; clear HO140; clear HO146; clear HO149; clear HB; have HO134 := n0_; have HO137 := n1_; have HO140 := n2_; have HO146 := n3_; have HO149 := n4_; have HB := n5_; have BK151 := n6_; have GW151 := n7_; have GE151 := n8_; clear n0_ n1_ n2_ n3_ n4_ n5_ n6_ n7_ n8_; clear hb hbox hg; have hcz22_0 : w21.cell? ⟨gb151, 0, none⟩ = some (.int .i64 0) := (blk_cell BK151.out 0).trans rfl; have hcz22_1 : w21.cell? ⟨gb151, 1, none⟩ = some (.int .i64 0) := (blk_cell BK151.out 1).trans rfl; have hcz22_2 : w21.cell? ⟨gb151, 2, none⟩ = some (.slice none 0 0) := (blk_cell BK151.out 2).trans rfl; have hcz22_3 : w21.cell? ⟨gb151, 3, none⟩ = some (.slice none 0 0) := (blk_cell BK151.out 3).trans rfl; have hfz22_0 := blk_frozen BK151.out 0; have hfz22_1 := blk_frozen BK151.out 1; have hfz22_2 := blk_frozen BK151.out 2; have hfz22_3 := blk_frozen BK151.out 3; obtain ⟨Ao23, co23, eo23⟩ := Kd.R_slice HO146.out; subst eo23; obtain ⟨Ao24, co24, eo24⟩ := Kd.R_slice HO149.out; subst eo24; have p152 : 0 ≤ (0 : Int) := (by omega); have q152 : 0 < (t138.length : Int) := of_decide_eq_true (by first | (with_reducible assumption) | assumption); obtain ⟨ad152, e152, hx152_0⟩ := Kd.at_int (Kd.R_reads' HO140.out).2.2 0 p152 q152; cases e152; have qi152 : (0 < t138.length) = True := eq_true (by omega); (try rw [show ((0 : Int)).toNat = 0 from rfl] at hx152_0); (try rw [Addr.add_zero'] at hx152_0); have hn152_0 : ad152.block ≠ gb151 := Kd.own_blk (Kd.R_ne HO140.out BK151.out (by decide)); have hn152_1 : ad152.block ≠ gb151 := Kd.own_blk (Kd.R_ne HO140.out BK151.out (by decide)); have hn152_2 : ad152.block ≠ gb151 := Kd.own_blk (Kd.R_ne HO140.out BK151.out (by decide)); have hn152_3 : ad152.block ≠ gb151 := Kd.own_blk (Kd.R_ne HO140.out BK151.out (by decide)); replace hx152_0 := (cell_far (p := ⟨gb151, 0, none⟩) (by first | (rw [add_block]; exact hn152_0) | (show (Addr.add _ _).block ≠ _; rw [add_block]; exact hn152_0) | exact hn152_0) (.int .i64 t142)).trans hx152_0; replace hx152_0 := (cell_far (p := ⟨gb151, 1, none⟩) (by first | (rw [add_block]; exact hn152_1) | (show (Addr.add _ _).block ≠ _; rw [add_block]; exact hn152_1) | exact hn152_1) (.int .i64 t143)).trans hx152_0; replace hx152_0 := (cell_far (p := ⟨gb151, 2, none⟩) (by first | (rw [add_block]; exact hn152_2) | (show (Addr.add _ _).block ≠ _; rw [add_block]; exact hn152_2) | exact hn152_2) (.slice Ao23 t144.length co23)).trans hx152_0; replace hx152_0 := (cell_far (p := ⟨gb151, 3, none⟩) (by first | (rw [add_block]; exact hn152_3) | (show (Addr.add _ _).block ≠ _; rw [add_block]; exact hn152_3) | exact hn152_3) (.slice Ao24 t147.length co24)).trans hx152_0; clear hn152_0; clear hn152_1; clear hn152_2; clear hn152_3; replace p152 := eq_true p152; replace q152 := eq_true q152; have p153 : 0 ≤ (1 : Int) := (by omega); have q153 : 1 < (t138.length : Int) := of_decide_eq_true (by first | (with_reducible assumption) | assumption); obtain ⟨ad153, e153, hx153_0⟩ := Kd.at_int (Kd.R_reads' HO140.out).2.2 1 p153 q153; obtain rfl : ad152 = ad153 := (by injection e153); (try simp only [show (1 : Int).toNat = 1 from rfl, Nat.reduceMul, Nat.reduceEqDiff, Go.Addr.add, ↓reduceIte] at hx153_0); have qi153 : (1 < t138.length) = True := eq_true (by omega); (try rw [show ((1 : Int)).toNat = 1 from rfl] at hx153_0); have hn153_0 : ad152.block ≠ gb151 := Kd.own_blk (Kd.R_ne HO140.out BK151.out (by decide)); have hn153_1 : ad152.block ≠ gb151 := Kd.own_blk (Kd.R_ne HO140.out BK151.out (by decide)); have hn153_2 : ad152.block ≠ gb151 := Kd.own_blk (Kd.R_ne HO140.out BK151.out (by decide)); have hn153_3 : ad152.block ≠ gb151 := Kd.own_blk (Kd.R_ne HO140.out BK151.out (by decide)); replace hx153_0 := (cell_far (p := ⟨gb151, 0, none⟩) (by first | (rw [add_block]; exact hn153_0) | (show (Addr.add _ _).block ≠ _; rw [add_block]; exact hn153_0) | exact hn153_0) (.int .i64 t142)).trans hx153_0; replace hx153_0 := (cell_far (p := ⟨gb151, 1, none⟩) (by first | (rw [add_block]; exact hn153_1) | (show (Addr.add _ _).block ≠ _; rw [add_block]; exact hn153_1) | exact hn153_1) (.int .i64 t143)).trans hx153_0; replace hx153_0 := (cell_far (p := ⟨gb151, 2, none⟩) (by first | (rw [add_block]; exact hn153_2) | (show (Addr.add _ _).block ≠ _; rw [add_block]; exact hn153_2) | exact hn153_2) (.slice Ao23 t144.length co23)).trans hx153_0; replace hx153_0 := (cell_far (p := ⟨gb151, 3, none⟩) (by first | (rw [add_block]; exact hn153_3) | (show (Addr.add _ _).block ≠ _; rw [add_block]; exact hn153_3) | exact hn153_3) (.slice Ao24 t147.length co24)).trans hx153_0; clear hn153_0; clear hn153_1; clear hn153_2; clear hn153_3; replace p153 := eq_true p153; replace q153 := eq_true q153) | (go_at_call 17; (with_reducible refine (vhead_Right.calls k t142 t143 _ _ t144 _ _ t147 t154 _ ?side1 ?side2 ?side3 ?side4 A14.out).mono ?_); (case side1 => refine (Kd.R_reads' (e := 3) (base := w.heap.size) (ok := fun k_ => ((some k_ ≠ (.slice Ao24 t147.length co24 : Value).ownBlock ∧ some k_ ≠ (.slice Ao16 t132.length co16 : Value).ownBlock) ∧ some k_ ≠ (.slice Ao17 t135.length co17 : Value).ownBlock)) (n := t144.length) (c := co23) ?_).2.2; exact (by (with_reducible repeat (first | apply Kd.R_alloc | apply Kd.R_drewN | apply Kd.R_drew)); exact (Kd.R_mono (Kd.R_far (p := ⟨gb151, 3, none⟩) (Kd.R_far (p := ⟨gb151, 2, none⟩) (Kd.R_far (p := ⟨gb151, 1, none⟩) (Kd.R_far (p := ⟨gb151, 0, none⟩) (Kd.R_types HO146.out BK151.out (by decide)) (fun _ hk => hk.2) (.int .i64 t142)) (fun _ hk => hk.2) (.int .i64 t143)) (fun _ hk => hk.2) (.slice Ao23 t144.length co23)) (fun _ hk => hk.2) (.slice Ao24 t147.length co24)) (fun _ h_ => h_.1)))); (case side2 => exact (Kd.R_reads' HO146.out).2.1); (case side3 => refine (Kd.R_reads' (e := 3) (base := w.heap.size) (ok := fun k_ => ((some k_ ≠ (.slice Ao23 t144.length co23 : Value).ownBlock ∧ some k_ ≠ (.slice Ao16 t132.length co16 : Value).ownBlock) ∧ some k_ ≠ (.slice Ao17 t135.length co17 : Value).ownBlock)) (n := t147.length) (c := co24) ?_).2.2; exact (by (with_reducible repeat (first | apply Kd.R_alloc | apply Kd.R_drewN | apply Kd.R_drew)); exact (Kd.R_mono (Kd.R_far (p := ⟨gb151, 3, none⟩) (Kd.R_far (p := ⟨gb151, 2, none⟩) (Kd.R_far (p := ⟨gb151, 1, none⟩) (Kd.R_far (p := ⟨gb151, 0, none⟩) (Kd.R_types HO149.out BK151.out (by decide)) (fun _ hk => hk.2) (.int .i64 t142)) (fun _ hk => hk.2) (.int .i64 t143)) (fun _ hk => hk.2) (.slice Ao23 t144.length co23)) (fun _ hk => hk.2) (.slice Ao24 t147.length co24)) (fun _ h_ => h_.1)))); (case side4 => exact (Kd.R_reads' HO149.out).2.1); rintro e w25 ⟨rfl, hb⟩; have n0_ := Aside0.mk (Kd.R_below (by (with_reducible repeat (first | apply Kd.R_alloc | apply Kd.R_drewN | apply Kd.R_drew)); exact (Kd.R_mono (Kd.R_far (p := ⟨gb151, 3, none⟩) (Kd.R_far (p := ⟨gb151, 2, none⟩) (Kd.R_far (p := ⟨gb151, 1, none⟩) (Kd.R_far (p := ⟨gb151, 0, none⟩) (Kd.R_types HO134.out BK151.out (by decide)) (fun _ hk => hk.2) (.int .i64 t142)) (fun _ hk => hk.2) (.int .i64 t143)) (fun _ hk => hk.2) (.slice Ao23 t144.length co23)) (fun _ hk => hk.2) (.slice Ao24 t147.length co24)) (fun _ h_ => h_.1))) hb); have n1_ := Aside0.mk (Kd.R_below (by (with_reducible repeat (first | apply Kd.R_alloc | apply Kd.R_drewN | apply Kd.R_drew)); exact (Kd.R_mono (Kd.R_far (p := ⟨gb151, 3, none⟩) (Kd.R_far (p := ⟨gb151, 2, none⟩) (Kd.R_far (p := ⟨gb151, 1, none⟩) (Kd.R_far (p := ⟨gb151, 0, none⟩) (Kd.R_types HO137.out BK151.out (by decide)) (fun _ hk => hk.2) (.int .i64 t142)) (fun _ hk => hk.2) (.int .i64 t143)) (fun _ hk => hk.2) (.slice Ao23 t144.length co23)) (fun _ hk => hk.2) (.slice Ao24 t147.length co24)) (fun _ h_ => h_.1))) hb); have n2_ := Aside0.mk (Kd.R_below (by (with_reducible repeat (first | apply Kd.R_alloc | apply Kd.R_drewN | apply Kd.R_drew)); exact (Kd.R_mono (Kd.R_far (p := ⟨gb151, 3, none⟩) (Kd.R_far (p := ⟨gb151, 2, none⟩) (Kd.R_far (p := ⟨gb151, 1, none⟩) (Kd.R_far (p := ⟨gb151, 0, none⟩) (Kd.R_types HO140.out BK151.out (by decide)) (fun _ hk => hk.2) (.int .i64 t142)) (fun _ hk => hk.2) (.int .i64 t143)) (fun _ hk => hk.2) (.slice Ao23 t144.length co23)) (fun _ hk => hk.2) (.slice Ao24 t147.length co24)) (fun _ h_ => h_.1))) hb); have n3_ := Aside0.mk (Kd.R_below (by (with_reducible repeat (first | apply Kd.R_alloc | apply Kd.R_drewN | apply Kd.R_drew)); exact (Kd.R_mono (Kd.R_far (p := ⟨gb151, 3, none⟩) (Kd.R_far (p := ⟨gb151, 2, none⟩) (Kd.R_far (p := ⟨gb151, 1, none⟩) (Kd.R_far (p := ⟨gb151, 0, none⟩) (Kd.R_types HO146.out BK151.out (by decide)) (fun _ hk => hk.2) (.int .i64 t142)) (fun _ hk => hk.2) (.int .i64 t143)) (fun _ hk => hk.2) (.slice Ao23 t144.length co23)) (fun _ hk => hk.2) (.slice Ao24 t147.length co24)) (fun _ h_ => h_.1))) hb); have n4_ := Aside0.mk (Kd.R_below (by (with_reducible repeat (first | apply Kd.R_alloc | apply Kd.R_drewN | apply Kd.R_drew)); exact (Kd.R_mono (Kd.R_far (p := ⟨gb151, 3, none⟩) (Kd.R_far (p := ⟨gb151, 2, none⟩) (Kd.R_far (p := ⟨gb151, 1, none⟩) (Kd.R_far (p := ⟨gb151, 0, none⟩) (Kd.R_types HO149.out BK151.out (by decide)) (fun _ hk => hk.2) (.int .i64 t142)) (fun _ hk => hk.2) (.int .i64 t143)) (fun _ hk => hk.2) (.slice Ao23 t144.length co23)) (fun _ hk => hk.2) (.slice Ao24 t147.length co24)) (fun _ h_ => h_.1))) hb); have n5_ := Aside0.mk (blk_below (g := gb151) (o := .cells #[.int .i64 t142, .int .i64 t143, .slice Ao23 t144.length co23, .slice Ao24 t147.length co24] 24 (0, 0)) (by (with_reducible repeat (first | refine blk_drewN ?_ _ | refine blk_drew ?_ | refine blk_alloc ?_ _)); refine blk_put (cs := #[.int .i64 t142, .int .i64 t143, .slice Ao23 t144.length co23, .slice none 0 0]) ?_ 3 _ rfl; (with_reducible repeat (first | refine blk_drewN ?_ _ | refine blk_drew ?_ | refine blk_alloc ?_ _)); refine blk_put (cs := #[.int .i64 t142, .int .i64 t143, .slice none 0 0, .slice none 0 0]) ?_ 2 _ rfl; (with_reducible repeat (first | refine blk_drewN ?_ _ | refine blk_drew ?_ | refine blk_alloc ?_ _)); refine blk_put (cs := #[.int .i64 t142, .int .i64 0, .slice none 0 0, .slice none 0 0]) ?_ 1 _ rfl; (with_reducible repeat (first | refine blk_drewN ?_ _ | refine blk_drew ?_ | refine blk_alloc ?_ _)); refine blk_put (cs := #[.int .i64 0, .int .i64 0, .slice none 0 0, .slice none 0 0]) ?_ 0 _ rfl; (with_reducible repeat (first | refine blk_drewN ?_ _ | refine blk_drew ?_ | refine blk_alloc ?_ _)); exact BK151.out) hb); have n6_ := Aside0.mk (below_step (by repeat (first | (with_reducible first | exact HB.out | apply below_alloc | apply pw_below_drewN | apply below_drew1 | refine below_set ?_ GE151.out) | exact HB.out)) hb); clear HO134; clear HO137; clear HO140; clear HO146; clear HO149; clear BK151; clear HB; have HO134 := n0_; have HO137 := n1_; have HO140 := n2_; have HO146 := n3_; have HO149 := n4_; have BK151 := n5_; have HB := n6_; clear n0_ n1_ n2_ n3_ n4_ n5_ n6_; (try clear hb); (try clear hb2); (try clear hk); (try clear hi)))
                      go_ret
                      exact ⟨by first | rfl | (simp [errW_none, errW_some] <;> rfl) | (simp [*, errW_none, errW_some] <;> rfl), by repeat (first | (with_reducible first | exact HB.out | apply below_alloc | apply pw_below_drewN | apply below_drew1 | refine below_set ?_ GE151.out) | exact HB.out)⟩
                    · rw [if_neg c13] at H
                      have c13b0 : (t150 == 0) = false := beq_eq_false_iff_ne.mpr c13
                      have c13b1 : (t150 != 0) = true := bne_iff_ne.mpr c13
                      exact absurd ((Option.some.inj H).trans HT.out) (by decide)
                  · rw [if_neg c12] at H
                    have c12b0 : ((t147.length : Int) == 16) = false := beq_eq_false_iff_ne.mpr c12
                    have c12b1 : ((t147.length : Int) != 16) = true := bne_iff_ne.mpr c12
                    exact absurd ((Option.some.inj H).trans HT.out) (by decide)
                · rw [if_neg c11] at H
                  have c11b0 : ((t144.length : Int) == 45) = false := beq_eq_false_iff_ne.mpr c11
                  have c11b1 : ((t144.length : Int) != 45) = true := bne_iff_ne.mpr c11
                  exact absurd ((Option.some.inj H).trans HT.out) (by decide)
              · rw [if_neg c10] at H
                have c10b0 : (t142 == 1) = false := beq_eq_false_iff_ne.mpr c10
                have c10b1 : (t142 != 1) = true := bne_iff_ne.mpr c10
                exact absurd ((Option.some.inj H).trans HT.out) (by decide)
            · rw [if_neg c9] at H
              have c9b0 : ((rd t138 1) == 86) = false := beq_eq_false_iff_ne.mpr c9
              have c9b1 : ((rd t138 1) != 86) = true := bne_iff_ne.mpr c9
              exact absurd ((Option.some.inj H).trans HT.out) (by decide)
          · rw [if_neg c8] at H
            exact absurd H (by simp)
        · rw [if_neg c7] at H
          have c7b0 : ((rd t138 0) == 83) = false := beq_eq_false_iff_ne.mpr c7
          have c7b1 : ((rd t138 0) != 83) = true := bne_iff_ne.mpr c7
          exact absurd ((Option.some.inj H).trans HT.out) (by decide)
      · rw [if_neg c6] at H
        exact absurd H (by simp)
    · rw [if_neg c5] at H
      have c5b0 : (t141 == 0) = false := beq_eq_false_iff_ne.mpr c5
      have c5b1 : (t141 != 0) = true := bne_iff_ne.mpr c5
      exact absurd ((Option.some.inj H).trans HT.out) (by decide)
  · rw [if_neg c4] at H
    have c4b0 : ((t138.length : Int) == 41) = false := beq_eq_false_iff_ne.mpr c4
    have c4b1 : ((t138.length : Int) != 41) = true := bne_iff_ne.mpr c4
    exact absurd ((Option.some.inj H).trans HT.out) (by decide)
/-- The examples hold: by the kernel's own reckoning. -/
theorem psalterylaw16_knows.sure : psalterylaw16_knows.f 200 = some true := by decide +kernel
theorem psalterylaw16_knows.calls (k : Nat)  (r : Bool) (w : World) (h : psalterylaw16_knows.f k  = some r) :
    Calls Try.prog 16 #[] w fun e w' => e = .returned (.bool r) ∧ Below w.heap.size w w' :=
  psalterylaw16_knows.callsT k r w h (by
    have h1 := at_rounds (g := fun k => psalterylaw16_knows.f k) (fun k => psalterylaw16_knows.mono k) (Nat.le_add_right k 200) h
    have h2 := at_rounds (g := fun k => psalterylaw16_knows.f k) (fun k => psalterylaw16_knows.mono k) (Nat.le_add_left 200 k) psalterylaw16_knows.sure
    exact Option.some.inj (h1.symm.trans h2))

end Go.Proofs.Ytpdfdaoohknfoaa.P
