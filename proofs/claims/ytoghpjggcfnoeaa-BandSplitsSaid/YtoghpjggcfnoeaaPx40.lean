-- PRINTED by print.py (a twelfth state) out of the translation. Not trusted: Lean checks it.
import Derived.Test.YtoghpjggcfnoeaaPx0
import Derived.Test.YtoghpjggcfnoeaaPx38
import Derived.Test.YtoghpjggcfnoeaaPx39
namespace Go.Proofs.Ytoghpjggcfnoeaa.P
open Go.RowKit Go.Proofs.YtoghpjggcfnoeaaW.PrintWords Go.Proofs.YtoghpjggcfnoeaaW.PrintLast Go.Proofs.YtoghpjggcfnoeaaW.PrintMore
attribute [local go_sem] max2_int min2_int max_two min_two max_three min_three max_four min_four   -- for this text's walks alone
set_option linter.unusedVariables false
set_option linter.unusedSimpArgs false

/-! ### band_Gains: function 39 -/
def band_Gains.l0 : Nat → List Int → List (List Int) → Int → Int → Option (List Int × Int)
  | 0, _, _, _, _ => none
  | k + 1, x6, x19, x20, x21 => if x21 < x20 then (if 0 ≤ x21 then (if x21 < (x19.length : Int) then ((band_Gain.f k (rd_L1 x19 x21)).bind fun bt300 => (if x6.length < 17592186044416 then (band_Gains.l0 k (x6 ++ [bt300.1]) x19 x20 (wrap64 (x21 + 1))) else (none))) else (none)) else (none)) else (some (x6, 0))
def band_Gains.f (k : Nat) (l0 : List Int) : Option (List Int × Int) := (band_Split.f k l0).bind fun bt295 => (if bt295.2 = 0 then (band_Gains.l0 k ([] : List Int) bt295.1 (bt295.1.length : Int) 0) else (some (([] : List Int), bt295.2)))
theorem band_Gains.mono_l : ∀ k, (∀ y0 y1 y2 y3, LeO (band_Gains.l0 k y0 y1 y2 y3) (band_Gains.l0 (k + 1) y0 y1 y2 y3))
  | 0 => fun _ _ _ _ r h => by simp [band_Gains.l0] at h
  | k + 1 => by
    have ih0 := band_Gains.mono_l k
    · intro y0 y1 y2 y3
      unfold band_Gains.l0
      repeat' first
      | (with_reducible exact ih0 _ _ _ _)
      | (with_reducible exact band_Gain.mono _ _)
      | (with_reducible exact band_Split.mono _ _)
      | (with_reducible exact LeO.refl _)
      | (with_reducible exact LeO.none _)
      | (with_reducible refine LeO.ite ?_ ?_)
      | (with_reducible refine LeO.bind ?_ (fun _ => ?_))
      | exact ih0 _ _ _ _
      | exact band_Gain.mono _ _
      | exact band_Split.mono _ _
      | exact LeO.none _
      | refine LeO.ite ?_ ?_
      | refine LeO.bind ?_ (fun _ => ?_)
theorem band_Gains.mono : ∀ a0 k, LeO (band_Gains.f k a0) (band_Gains.f (k + 1) a0) := by
  intro a0 k
  have ih0 := band_Gains.mono_l k
  unfold band_Gains.f
  repeat' first
      | (with_reducible exact ih0 _ _ _ _)
      | (with_reducible exact band_Gain.mono _ _)
      | (with_reducible exact band_Split.mono _ _)
      | (with_reducible exact LeO.refl _)
      | (with_reducible exact LeO.none _)
      | (with_reducible refine LeO.ite ?_ ?_)
      | (with_reducible refine LeO.bind ?_ (fun _ => ?_))
      | exact ih0 _ _ _ _
      | exact band_Gain.mono _ _
      | exact band_Split.mono _ _
      | exact LeO.none _
      | refine LeO.ite ?_ ?_
      | refine LeO.bind ?_ (fun _ => ?_)
set_option maxHeartbeats 8000000 in
set_option maxRecDepth 100000 in
theorem band_Gains.calls (k : Nat) (A0 : Option Addr) (c0 : Nat) (l0 : List Int) (r1 : List Int) (r2 : Int) (w : World) (hr0 : Kd.C (Kd.int .i64) w A0 l0.length l0) (hc0 : l0.length ≤ c0) (h : band_Gains.f k l0 = some (r1, r2)) :
    Calls Try.prog 39 #[.slice A0 l0.length c0] w fun e w' => ∃ v0_ : Value, e = .returned (.tuple #[v0_, .int .i64 r2]) ∧ Kd.R (Kd.int .i64) 3 w' w.heap.size (fun _ => True) v0_ r1 ∧ Below w.heap.size w w' := by
  have HR0 := Aside0.mk hr0
  have HC0 := Aside0.mk hc0
  clear hr0 hc0
  have HB := Aside0.mk (Below.refl w.heap.size w)
  have H : ((band_Split.f k l0).bind fun bt295 => (if bt295.2 = 0 then (band_Gains.l0 k ([] : List Int) bt295.1 (bt295.1.length : Int) 0) else (some (([] : List Int), bt295.2)))) = some (r1, r2) := h
  clear h
  replace H := Option.bind_eq_some_iff.mp H
  obtain ⟨⟨t295, t298⟩, A20, H⟩ := H
  replace H : (if t298 = 0 then (band_Gains.l0 k ([] : List Int) t295 (t295.length : Int) 0) else (some (([] : List Int), t298))) = some (r1, r2) := H
  have A2 := Aside0.mk A20
  clear A20
  by_cases c3 : t298 = 0
  · rw [if_pos c3] at H
    have c3b0 : (t298 == 0) = true := beq_iff_eq.mpr c3
    have c3b1 : (t298 != 0) = false := bne_eq_false_iff_eq.mpr c3
    clear c3
    have H' := Aside0.mk H
    clear H
    go_enter Try.func39, Try.ntmps39
    go_wp2_with (first | ((with_reducible refine gate_callee (f := 38) rfl ?_); refine goesL_ (some 13) rfl rfl Try.func38 (by kernel_rfl) rfl #[.slice A0 l0.length c0] rfl (by (try simp only [List.map_toArray, List.map_cons, List.map_nil]); first | done | rfl | (simp only [List.length_drop, List.length_take]; rfl)) ?_; (with_reducible refine (band_Split.calls k _ _ l0 t295 t298 _ ?side1 ?side2 A2.out).mono ?_); (case side1 => repeat (first | exact HR0.out | (with_reducible refine Kd.C_alloc ?_ _) | (with_reducible refine Kd.C_drewN ?_ _) | (with_reducible refine Kd.C_drew ?_))); (case side2 => exact HC0.out); rintro e w4 ⟨v296, rfl, ho0, hb⟩; refine ⟨_, rfl, ?_⟩; have n0_ := Aside0.mk (Kd.N_lower (Kd.N_mono (ok' := fun k_ => True) ho0 (fun k_ hk_ => trivial)) (below_size (by repeat (first | (with_reducible first | exact HB.out | apply below_alloc | apply pw_below_drewN | apply below_drew1) | exact HB.out)))); have n1_ := Aside0.mk (below_step (by repeat (first | (with_reducible first | exact HB.out | apply below_alloc | apply pw_below_drewN | apply below_drew1) | exact HB.out)) hb); clear HB; have HO297 := n0_; have HB := n1_; clear n0_ n1_; (try clear hb); (try clear hb2); (try clear hk); (try clear hi); (try clear ho0); obtain ⟨Ao5, co5, eo5⟩ := Kd.N_slice HO297.out; subst eo5))
    go_loopg [6, 21] k (fun kq v6 v21 w' => ∃ (x6_1 : List Int) (x21_1 : Int), v21 = .int .i64 x21_1 ∧ Aside0 (band_Gains.l0 kq x6_1 t295 (t295.length : Int) x21_1 = some (r1, r2)) ∧ Aside0 (kq ≤ k) ∧ Aside0 (Kd.R (Kd.int .i64) 3 w' w.heap.size (fun _ => True) v6 x6_1) ∧ Aside0 (Kd.N (Kd.slice 2 (Kd.int .i64)) 30 w' w.heap.size (fun k_ => some k_ ≠ (v6 : Value).ownBlock) (.slice Ao5 t295.length co5) t295) ∧ Aside0 (Below w.heap.size w w'))
    case atStart => exact ⟨(([] : List Int)), (0), (by first | rfl | (simp; done) | (simp [*]; done)), H', ⟨Nat.le_refl _⟩, ⟨by first | exact Kd.R_nil _ _ _ _ _ | exact Kd.N_nil _ _ _ _ _ | exact Kd.V_nil _ _ _ _ _ | exact Kd.Q_nil _ _ _ _ _ | exact Kd.S_nil _ _ _ _ _⟩, ⟨by (with_reducible repeat (first | apply Kd.N_alloc | apply Kd.N_drewN | apply Kd.N_drew)); exact Kd.N_mono HO297.out (fun _ hk => (by simp [Value.ownBlock]))⟩, ⟨by repeat (first | (with_reducible first | exact HB.out | apply below_alloc | apply pw_below_drewN | apply below_drew1) | exact HB.out)⟩⟩
    case round =>
      clear H'
      try clear p2
      try clear c3
      try clear c3b0
      try clear c3b1
      obtain ⟨x6_1, x21_1, rfl, HA, HK1, HO_6, HO_19, HB⟩ := hrel
      cases gk with
      | zero => exact absurd HA.out (by simp [band_Gains.l0])
      | succ k1 =>
        have H := HA.out
        clear HA
        simp only [band_Gains.l0] at H
        by_cases c6 : x21_1 < (t295.length : Int)
        · rw [if_pos c6] at H
          have c6b0 : decide (x21_1 < (t295.length : Int)) = true := decide_eq_true c6
          clear c6
          by_cases c7 : 0 ≤ x21_1
          · rw [if_pos c7] at H
            have c7b0 : decide (0 ≤ x21_1) = true := decide_eq_true c7
            clear c7
            by_cases c8 : x21_1 < (t295.length : Int)
            · rw [if_pos c8] at H
              have c8b0 : decide (x21_1 < (t295.length : Int)) = true := decide_eq_true c8
              clear c8
              replace H := Option.bind_eq_some_iff.mp H
              obtain ⟨⟨t300, t301⟩, A90, H⟩ := H
              replace H : (if x6_1.length < 17592186044416 then (band_Gains.l0 k1 (x6_1 ++ [t300]) t295 (t295.length : Int) (wrap64 (x21_1 + 1))) else (none)) = some (r1, r2) := H
              have A9 := Aside0.mk A90
              clear A90
              by_cases c10 : x6_1.length < 17592186044416
              · rw [if_pos c10] at H
                have LMc10 := Aside0.mk c10
                clear c10
                obtain ⟨y302, hy302⟩ : ∃ y_ : List Int, y_ = (x6_1 ++ [t300]) := ⟨_, rfl⟩
                replace H : (band_Gains.l0 k1 y302 t295 (t295.length : Int) (wrap64 (x21_1 + 1))) = some (r1, r2) := by first | (rw [hy302]; with_reducible exact H) | (have H2_ := (Option.bind_some _ _).symm.trans H; rw [hy302]; with_reducible exact H2_) | (have H2_ := (Option.bind_some _ _).symm.trans H; with_reducible exact H2_) | with_reducible exact H | (rw [hy302]; exact H) | exact H
                have Ny302 := Aside0.mk hy302
                clear hy302
                have H' := Aside0.mk H
                clear H
                have p299 : 0 ≤ (x21_1 : Int) := of_decide_eq_true (by first | (with_reducible assumption) | assumption)
                have q299 : x21_1 < (t295.length : Int) := of_decide_eq_true (by first | (with_reducible assumption) | assumption)
                obtain ⟨ad299, A299_0, c299_0, e299, hx299_0, hl299_0, hi299_0⟩ := at_L1 (Kd.N_reads' HO_19.out).2.2 x21_1 p299 q299
                cases e299
                obtain ⟨ce299, hce299, hMe299, hcc299⟩ := Kd.N_get HO_19.out [] x21_1 p299 (by first | exact q299 | exact of_decide_eq_true (by first | (with_reducible assumption) | assumption) | (have e_ := (Kd.N_reads' HO_19.out).1; omega))
                obtain ⟨ua299_0, uc299_0, rfl, ul299_0, ge299_0⟩ := Kd.FK_slice_open hMe299
                have hv299_0 := hcc299 0 _ rfl
                rw [Nat.add_zero, show ((Kd.slice 2 (Kd.int .i64))).sz = 1 from rfl, Nat.mul_one] at hv299_0
                replace hv299_0 := Option.some.inj (hv299_0.symm.trans hx299_0)
                injection hv299_0 with hva_ hvn_ hvc_
                rw [hva_] at ge299_0
                rw [hvc_] at ul299_0
                have HL299_0 := Aside0.mk (show Kd.V (Kd.int .i64) 2 _ w.heap.size _ _ (rd_L1 t295 x21_1) from Kd.V_mk ul299_0 ge299_0)
                clear hva_ hvn_ hvc_ ge299_0 ul299_0
                clear hcc299 hce299
                have HR299_0 := Aside0.mk hi299_0
                have HC299_0 := Aside0.mk hl299_0
                clear hi299_0 hl299_0
                replace p299 := eq_true p299
                replace q299 := eq_true q299
                go_wp2_with (first | ((with_reducible refine gate_callee (f := 35) rfl ?_); refine goesL_ (some 27) rfl rfl Try.func35 (by kernel_rfl) rfl #[.slice A299_0 (rd_L1 t295 x21_1).length c299_0] rfl (by (try simp only [List.map_toArray, List.map_cons, List.map_nil]); first | done | rfl | (simp only [List.length_drop, List.length_take]; rfl)) ?_; (with_reducible refine (band_Gain.calls k1 _ _ (rd_L1 t295 x21_1) t300 t301 _ ?side1 ?side2 A9.out).mono ?_); (case side1 => repeat (first | exact (by repeat (first | (with_reducible exact HR299_0.out) | (with_reducible refine Kd.C_alloc ?_ _) | (with_reducible refine Kd.C_drewN ?_ _) | (with_reducible refine Kd.C_drew ?_) | exact HR299_0.out)) | (with_reducible refine Kd.C_alloc ?_ _) | (with_reducible refine Kd.C_drewN ?_ _) | (with_reducible refine Kd.C_drew ?_))); (case side2 => exact HC299_0.out); rintro e w' ⟨rfl, ⟨nd, rfl⟩⟩; refine ⟨_, rfl, ?_⟩) | ((with_reducible refine gate_builtin (b := .append) (xs := #[.tmp 30, .tmp 32]) rfl ?_); at_builtin; refine Kd.R_append (Kd.int .i64) (w0 := w) w.heap.size rfl (.tmp 30) (.tmp 32) 22 3 (.int .i64 0) 8 rfl Try.underlying22 info3 rfl (by decide) (by omega) u6 x6_1 t300 [.int .i64 t300] (fun _ => True) (fun _ => False) rfl rfl ?aP (fun _ hk => hk.elim) ?aF ?aO ?aB ?aS ?aL ?_; (case aP => exact rfl); (case aB => exact (by repeat (first | (with_reducible first | exact HB.out | apply below_alloc | apply pw_below_drewN | apply below_drew1) | exact HB.out))); (case aF => exact (fun _ _ => trivial)); (case aO => exact (by (with_reducible repeat (first | apply Kd.R_alloc | apply Kd.R_drewN | apply Kd.R_drew)); exact HO_6.out)); (case aS => exact (below_size (by repeat (first | (with_reducible first | exact HB.out | apply below_alloc | apply pw_below_drewN | apply below_drew1) | exact HB.out)))); (case aL => have := LMc10.out; omega); intro v303 w11 ho hb hg hat; rw [← Ny302.out] at ho; have n0_ := Aside0.mk (Kd.N_afterv (ok := (fun _ => True)) (by (with_reducible repeat (first | apply Kd.N_alloc | apply Kd.N_drewN | apply Kd.N_drew)); exact Kd.N_mono HO_19.out (fun _ hk => ⟨trivial, hk⟩)) hg hat); have n1_ := Aside0.mk (Kd.V_afterv (ok := (fun k_ => some k_ ≠ (.slice (some ad299) t295.length co5 : Value).ownBlock)) (by (with_reducible repeat (first | apply Kd.V_alloc | apply Kd.V_drewN | apply Kd.V_drew)); exact Kd.V_mono HL299_0.out (fun _ hk => ⟨hk.2, hk.1⟩)) hg hat); have n2_ := Aside0.mk (hb); have n3_ := Aside0.mk (ho); clear HO_19; clear HL299_0; clear HB; clear HO_6; have HO_19 := n0_; have HL299_0 := n1_; have HB := n2_; have HO304 := n3_; clear n0_ n1_ n2_ n3_; clear ho hb hg hat))
                go_roundg k1
                case measure => have := HK1.out; omega
                case rel => exact ⟨(y302), (wrap64 (x21_1 + 1)), (by first | rfl | (simp; done) | (simp [*]; done)), H', ⟨by have := HK1.out; omega⟩, ⟨by (with_reducible repeat (first | apply Kd.R_alloc | apply Kd.R_drewN | apply Kd.R_drew)); exact HO304.out⟩, ⟨by (with_reducible repeat (first | apply Kd.N_alloc | apply Kd.N_drewN | apply Kd.N_drew)); exact Kd.N_mono HO_19.out (fun _ hk => hk.2)⟩, ⟨by repeat (first | (with_reducible first | exact HB.out | apply below_alloc | apply pw_below_drewN | apply below_drew1) | exact HB.out)⟩⟩
              · rw [if_neg c10] at H
                exact absurd H (by simp)
            · rw [if_neg c8] at H
              exact absurd H (by simp)
          · rw [if_neg c7] at H
            exact absurd H (by simp)
        · rw [if_neg c6] at H
          have c6b0 : decide (x21_1 < (t295.length : Int)) = false := decide_eq_false c6
          clear c6
          simp only [Option.some.injEq, Prod.mk.injEq] at H
          obtain ⟨rfl, rfl⟩ := H
          go_wp2
          go_ret2
          exact ⟨_, by first | rfl | (simp [errW_none, errW_some] <;> rfl) | (simp [*, errW_none, errW_some] <;> rfl), by (with_reducible repeat (first | apply Kd.R_alloc | apply Kd.R_drewN | apply Kd.R_drew)); exact HO_6.out, by repeat (first | (with_reducible first | exact HB.out | apply below_alloc | apply pw_below_drewN | apply below_drew1) | exact HB.out)⟩
  · rw [if_neg c3] at H
    have c3b0 : (t298 == 0) = false := beq_eq_false_iff_ne.mpr c3
    have c3b1 : (t298 != 0) = true := bne_iff_ne.mpr c3
    simp only [Option.some.injEq, Prod.mk.injEq] at H
    obtain ⟨rfl, rfl⟩ := H
    go_enter Try.func39, Try.ntmps39
    go_wp2_with (first | ((with_reducible refine gate_callee (f := 38) rfl ?_); refine goesL_ (some 13) rfl rfl Try.func38 (by kernel_rfl) rfl #[.slice A0 l0.length c0] rfl (by (try simp only [List.map_toArray, List.map_cons, List.map_nil]); first | done | rfl | (simp only [List.length_drop, List.length_take]; rfl)) ?_; (with_reducible refine (band_Split.calls k _ _ l0 t295 t298 _ ?side1 ?side2 A2.out).mono ?_); (case side1 => repeat (first | exact HR0.out | (with_reducible refine Kd.C_alloc ?_ _) | (with_reducible refine Kd.C_drewN ?_ _) | (with_reducible refine Kd.C_drew ?_))); (case side2 => exact HC0.out); rintro e w12 ⟨v296, rfl, ho0, hb⟩; refine ⟨_, rfl, ?_⟩; have n0_ := Aside0.mk (Kd.N_lower (Kd.N_mono (ok' := fun k_ => True) ho0 (fun k_ hk_ => trivial)) (below_size (by repeat (first | (with_reducible first | exact HB.out | apply below_alloc | apply pw_below_drewN | apply below_drew1) | exact HB.out)))); have n1_ := Aside0.mk (below_step (by repeat (first | (with_reducible first | exact HB.out | apply below_alloc | apply pw_below_drewN | apply below_drew1) | exact HB.out)) hb); clear HB; have HO297 := n0_; have HB := n1_; clear n0_ n1_; (try clear hb); (try clear hb2); (try clear hk); (try clear hi); (try clear ho0)))
    go_ret2
    exact ⟨_, by first | rfl | (simp [errW_none, errW_some] <;> rfl) | (simp [*, errW_none, errW_some] <;> rfl), by first | exact Kd.R_nil _ _ _ _ _ | exact Kd.N_nil _ _ _ _ _ | exact Kd.V_nil _ _ _ _ _ | exact Kd.Q_nil _ _ _ _ _ | exact Kd.S_nil _ _ _ _ _, by repeat (first | (with_reducible first | exact HB.out | apply below_alloc | apply pw_below_drewN | apply below_drew1) | exact HB.out)⟩

end Go.Proofs.Ytoghpjggcfnoeaa.P
