-- PRINTED by print.py (a twelfth state) out of the translation. Not trusted: Lean checks it.
import Derived.Test.YtoghpjggcfnoeaaPx0
import Derived.Test.YtoghpjggcfnoeaaPx8
import Derived.Test.YtoghpjggcfnoeaaPx12
import Derived.Test.YtoghpjggcfnoeaaPx14
import Derived.Test.YtoghpjggcfnoeaaPx19
namespace Go.Proofs.Ytoghpjggcfnoeaa.P
open Go.RowKit Go.Proofs.YtoghpjggcfnoeaaW.PrintWords Go.Proofs.YtoghpjggcfnoeaaW.PrintLast Go.Proofs.YtoghpjggcfnoeaaW.PrintMore
attribute [local go_sem] max2_int min2_int max_two min_two max_three min_three max_four min_four   -- for this text's walks alone
set_option linter.unusedVariables false
set_option linter.unusedSimpArgs false

/-! ### psalterylaw14_FloorBounds: function 7 -/
mutual
def psalterylaw14_FloorBounds.j0 : Nat → List Int → List Int → Bool → Option (Bool)
  | 0, _, _, _ => none
  | k + 1, x0, x3, x24 => if x24 = true then (some false) else (psalterylaw14_FloorBounds.l0 k x0 x3 0 0)
def psalterylaw14_FloorBounds.l0 : Nat → List Int → List Int → Int → Int → Option (Bool)
  | 0, _, _, _, _ => none
  | k + 1, x0, x3, x5, x6 => if x6 < 6 then (if 0 ≤ x6 then (if x6 < (x0.length : Int) then (if (rd x0 x6) > x5 then (psalterylaw14_FloorBounds.l0 k x0 x3 (rd x0 x6) (wrap64 (x6 + 1))) else (psalterylaw14_FloorBounds.l0 k x0 x3 x5 (wrap64 (x6 + 1)))) else (none)) else (none)) else ((psalteryref10_Value.f k x5).bind fun t241 => (if t241 < 1 then (psalterylaw14_FloorBounds.j2 k x3 1) else (psalterylaw14_FloorBounds.j2 k x3 t241)))
def psalterylaw14_FloorBounds.j2 : Nat → List Int → Int → Option (Bool)
  | 0, _, _ => none
  | k + 1, x3, x7 => psalterylaw14_FloorBounds.l1 k x3 x7 0
def psalterylaw14_FloorBounds.l1 : Nat → List Int → Int → Int → Option (Bool)
  | 0, _, _, _ => none
  | k + 1, x3, x7, x8 => if x8 < 16 then (if 0 ≤ x8 then (if x8 < (x3.length : Int) then (if (rd x3 x8) < 1 then (some false) else (if (rd x3 x8) > x7 then (some false) else (psalterylaw14_FloorBounds.l1 k x3 x7 (wrap64 (x8 + 1))))) else (none)) else (none)) else ((psalterylaw14_knows.f k).bind fun t244 => (some t244))
end
def psalterylaw14_FloorBounds.f (k : Nat) (l0 : List Int) : Option (Bool) := (psalteryref14_Right.f k l0).bind fun t233 => (if t233 = true then ((floor_Floor.f k l0).bind fun bt235 => (if bt235.2 = 0 then (psalterylaw14_FloorBounds.j0 k l0 bt235.1 ((bt235.1.length : Int) != 16)) else (psalterylaw14_FloorBounds.j0 k l0 bt235.1 true))) else ((psalterylaw14_knows.f k).bind fun t234 => (some t234)))
theorem psalterylaw14_FloorBounds.mono_l : ∀ k, (∀ y0 y1 y2, LeO (psalterylaw14_FloorBounds.j0 k y0 y1 y2) (psalterylaw14_FloorBounds.j0 (k + 1) y0 y1 y2)) ∧ (∀ y0 y1 y2 y3, LeO (psalterylaw14_FloorBounds.l0 k y0 y1 y2 y3) (psalterylaw14_FloorBounds.l0 (k + 1) y0 y1 y2 y3)) ∧ (∀ y0 y1, LeO (psalterylaw14_FloorBounds.j2 k y0 y1) (psalterylaw14_FloorBounds.j2 (k + 1) y0 y1)) ∧ (∀ y0 y1 y2, LeO (psalterylaw14_FloorBounds.l1 k y0 y1 y2) (psalterylaw14_FloorBounds.l1 (k + 1) y0 y1 y2))
  | 0 => ⟨fun _ _ _ r h => by simp [psalterylaw14_FloorBounds.j0] at h, fun _ _ _ _ r h => by simp [psalterylaw14_FloorBounds.l0] at h, fun _ _ r h => by simp [psalterylaw14_FloorBounds.j2] at h, fun _ _ _ r h => by simp [psalterylaw14_FloorBounds.l1] at h⟩
  | k + 1 => by
    obtain ⟨ih0, ih1, ih2, ih3⟩ := psalterylaw14_FloorBounds.mono_l k
    refine ⟨?_, ?_, ?_, ?_⟩
    · intro y0 y1 y2
      unfold psalterylaw14_FloorBounds.j0
      repeat' first
      | (with_reducible exact ih0 _ _ _)
      | (with_reducible exact ih1 _ _ _ _)
      | (with_reducible exact ih2 _ _)
      | (with_reducible exact ih3 _ _ _)
      | (with_reducible exact floor_Floor.mono _ _)
      | (with_reducible exact psalterylaw14_knows.mono _)
      | (with_reducible exact psalteryref10_Value.mono _ _)
      | (with_reducible exact psalteryref14_Right.mono _ _)
      | (with_reducible exact LeO.refl _)
      | (with_reducible exact LeO.none _)
      | (with_reducible refine LeO.ite ?_ ?_)
      | (with_reducible refine LeO.bind ?_ (fun _ => ?_))
      | exact ih0 _ _ _
      | exact ih1 _ _ _ _
      | exact ih2 _ _
      | exact ih3 _ _ _
      | exact floor_Floor.mono _ _
      | exact psalterylaw14_knows.mono _
      | exact psalteryref10_Value.mono _ _
      | exact psalteryref14_Right.mono _ _
      | exact LeO.none _
      | refine LeO.ite ?_ ?_
      | refine LeO.bind ?_ (fun _ => ?_)
    · intro y0 y1 y2 y3
      unfold psalterylaw14_FloorBounds.l0
      repeat' first
      | (with_reducible exact ih0 _ _ _)
      | (with_reducible exact ih1 _ _ _ _)
      | (with_reducible exact ih2 _ _)
      | (with_reducible exact ih3 _ _ _)
      | (with_reducible exact floor_Floor.mono _ _)
      | (with_reducible exact psalterylaw14_knows.mono _)
      | (with_reducible exact psalteryref10_Value.mono _ _)
      | (with_reducible exact psalteryref14_Right.mono _ _)
      | (with_reducible exact LeO.refl _)
      | (with_reducible exact LeO.none _)
      | (with_reducible refine LeO.ite ?_ ?_)
      | (with_reducible refine LeO.bind ?_ (fun _ => ?_))
      | exact ih0 _ _ _
      | exact ih1 _ _ _ _
      | exact ih2 _ _
      | exact ih3 _ _ _
      | exact floor_Floor.mono _ _
      | exact psalterylaw14_knows.mono _
      | exact psalteryref10_Value.mono _ _
      | exact psalteryref14_Right.mono _ _
      | exact LeO.none _
      | refine LeO.ite ?_ ?_
      | refine LeO.bind ?_ (fun _ => ?_)
    · intro y0 y1
      unfold psalterylaw14_FloorBounds.j2
      repeat' first
      | (with_reducible exact ih0 _ _ _)
      | (with_reducible exact ih1 _ _ _ _)
      | (with_reducible exact ih2 _ _)
      | (with_reducible exact ih3 _ _ _)
      | (with_reducible exact floor_Floor.mono _ _)
      | (with_reducible exact psalterylaw14_knows.mono _)
      | (with_reducible exact psalteryref10_Value.mono _ _)
      | (with_reducible exact psalteryref14_Right.mono _ _)
      | (with_reducible exact LeO.refl _)
      | (with_reducible exact LeO.none _)
      | (with_reducible refine LeO.ite ?_ ?_)
      | (with_reducible refine LeO.bind ?_ (fun _ => ?_))
      | exact ih0 _ _ _
      | exact ih1 _ _ _ _
      | exact ih2 _ _
      | exact ih3 _ _ _
      | exact floor_Floor.mono _ _
      | exact psalterylaw14_knows.mono _
      | exact psalteryref10_Value.mono _ _
      | exact psalteryref14_Right.mono _ _
      | exact LeO.none _
      | refine LeO.ite ?_ ?_
      | refine LeO.bind ?_ (fun _ => ?_)
    · intro y0 y1 y2
      unfold psalterylaw14_FloorBounds.l1
      repeat' first
      | (with_reducible exact ih0 _ _ _)
      | (with_reducible exact ih1 _ _ _ _)
      | (with_reducible exact ih2 _ _)
      | (with_reducible exact ih3 _ _ _)
      | (with_reducible exact floor_Floor.mono _ _)
      | (with_reducible exact psalterylaw14_knows.mono _)
      | (with_reducible exact psalteryref10_Value.mono _ _)
      | (with_reducible exact psalteryref14_Right.mono _ _)
      | (with_reducible exact LeO.refl _)
      | (with_reducible exact LeO.none _)
      | (with_reducible refine LeO.ite ?_ ?_)
      | (with_reducible refine LeO.bind ?_ (fun _ => ?_))
      | exact ih0 _ _ _
      | exact ih1 _ _ _ _
      | exact ih2 _ _
      | exact ih3 _ _ _
      | exact floor_Floor.mono _ _
      | exact psalterylaw14_knows.mono _
      | exact psalteryref10_Value.mono _ _
      | exact psalteryref14_Right.mono _ _
      | exact LeO.none _
      | refine LeO.ite ?_ ?_
      | refine LeO.bind ?_ (fun _ => ?_)
theorem psalterylaw14_FloorBounds.mono : ∀ a0 k, LeO (psalterylaw14_FloorBounds.f k a0) (psalterylaw14_FloorBounds.f (k + 1) a0) := by
  intro a0 k
  obtain ⟨ih0, ih1, ih2, ih3⟩ := psalterylaw14_FloorBounds.mono_l k
  unfold psalterylaw14_FloorBounds.f
  repeat' first
      | (with_reducible exact ih0 _ _ _)
      | (with_reducible exact ih1 _ _ _ _)
      | (with_reducible exact ih2 _ _)
      | (with_reducible exact ih3 _ _ _)
      | (with_reducible exact floor_Floor.mono _ _)
      | (with_reducible exact psalterylaw14_knows.mono _)
      | (with_reducible exact psalteryref10_Value.mono _ _)
      | (with_reducible exact psalteryref14_Right.mono _ _)
      | (with_reducible exact LeO.refl _)
      | (with_reducible exact LeO.none _)
      | (with_reducible refine LeO.ite ?_ ?_)
      | (with_reducible refine LeO.bind ?_ (fun _ => ?_))
      | exact ih0 _ _ _
      | exact ih1 _ _ _ _
      | exact ih2 _ _
      | exact ih3 _ _ _
      | exact floor_Floor.mono _ _
      | exact psalterylaw14_knows.mono _
      | exact psalteryref10_Value.mono _ _
      | exact psalteryref14_Right.mono _ _
      | exact LeO.none _
      | refine LeO.ite ?_ ?_
      | refine LeO.bind ?_ (fun _ => ?_)
set_option maxHeartbeats 8000000 in
set_option maxRecDepth 100000 in
theorem psalterylaw14_FloorBounds.calls (k : Nat) (A0 : Option Addr) (c0 : Nat) (l0 : List Int) (r : Bool) (w : World) (hr0 : Kd.C (Kd.int .i64) w A0 l0.length l0) (hc0 : l0.length ≤ c0) (h : psalterylaw14_FloorBounds.f k l0 = some r) (hT : r = true) :
    Calls Try.prog 7 #[.slice A0 l0.length c0] w fun e w' => e = .returned (.bool r) ∧ Below w.heap.size w w' := by
  have HR0 := Aside0.mk hr0
  have HC0 := Aside0.mk hc0
  clear hr0 hc0
  have HB := Aside0.mk (Below.refl w.heap.size w)
  have H : ((psalteryref14_Right.f k l0).bind fun t233 => (if t233 = true then ((floor_Floor.f k l0).bind fun bt235 => (if bt235.2 = 0 then (psalterylaw14_FloorBounds.j0 k l0 bt235.1 ((bt235.1.length : Int) != 16)) else (psalterylaw14_FloorBounds.j0 k l0 bt235.1 true))) else ((psalterylaw14_knows.f k).bind fun t234 => (some t234)))) = some r := h
  clear h
  have HT := Aside0.mk hT
  clear hT
  replace H := Option.bind_eq_some_iff.mp H
  obtain ⟨t233, A20, H⟩ := H
  replace H : (if t233 = true then ((floor_Floor.f k l0).bind fun bt235 => (if bt235.2 = 0 then (psalterylaw14_FloorBounds.j0 k l0 bt235.1 ((bt235.1.length : Int) != 16)) else (psalterylaw14_FloorBounds.j0 k l0 bt235.1 true))) else ((psalterylaw14_knows.f k).bind fun t234 => (some t234))) = some r := H
  have A2 := Aside0.mk A20
  clear A20
  by_cases c3 : t233 = true
  · subst c3
    have H1 : ((floor_Floor.f k l0).bind fun bt235 => (if bt235.2 = 0 then (psalterylaw14_FloorBounds.j0 k l0 bt235.1 ((bt235.1.length : Int) != 16)) else (psalterylaw14_FloorBounds.j0 k l0 bt235.1 true))) = some r := by rw [if_pos rfl] at H; exact H
    clear H
    have H := H1
    clear H1
    replace H := Option.bind_eq_some_iff.mp H
    obtain ⟨⟨t235, t236⟩, A40, H⟩ := H
    replace H : (if t236 = 0 then (psalterylaw14_FloorBounds.j0 k l0 t235 ((t235.length : Int) != 16)) else (psalterylaw14_FloorBounds.j0 k l0 t235 true)) = some r := H
    have A4 := Aside0.mk A40
    clear A40
    have HC5 := Aside0.mk H
    clear H
    go_enter Try.func7, Try.ntmps7
    go_upto_region 4 with (first | ((with_reducible refine gate_callee (f := 19) rfl ?_); refine goesL_ (some 10) rfl rfl Try.func19 (by kernel_rfl) rfl #[.slice A0 l0.length c0] rfl (by (try simp only [List.map_toArray, List.map_cons, List.map_nil]); first | done | rfl | (simp only [List.length_drop, List.length_take]; rfl)) ?_; (with_reducible refine (psalteryref14_Right.calls k _ _ l0 true _ ?side1 ?side2 A2.out).mono ?_); (case side1 => repeat (first | exact HR0.out | (with_reducible refine Kd.C_alloc ?_ _) | (with_reducible refine Kd.C_drewN ?_ _) | (with_reducible refine Kd.C_drew ?_))); (case side2 => exact HC0.out); rintro e w' ⟨rfl, ⟨nd, rfl⟩⟩; refine ⟨_, rfl, ?_⟩) | ((with_reducible refine gate_callee (f := 21) rfl ?_); refine goesL_ (some 15) rfl rfl Try.func21 (by kernel_rfl) rfl #[.slice A0 l0.length c0] rfl (by (try simp only [List.map_toArray, List.map_cons, List.map_nil]); first | done | rfl | (simp only [List.length_drop, List.length_take]; rfl)) ?_; (with_reducible refine (floor_Floor.calls k _ _ l0 t235 t236 _ ?side1 ?side2 A4.out).mono ?_); (case side1 => repeat (first | exact HR0.out | (with_reducible refine Kd.C_alloc ?_ _) | (with_reducible refine Kd.C_drewN ?_ _) | (with_reducible refine Kd.C_drew ?_))); (case side2 => exact HC0.out); rintro e w6 ⟨v237, rfl, ho0, hb⟩; refine ⟨_, rfl, ?_⟩; have n0_ := Aside0.mk (Kd.R_lower ho0 (below_size (by repeat (first | (with_reducible first | exact HB.out | apply below_alloc | apply pw_below_drewN | apply below_drew1) | exact HB.out)))); have n1_ := Aside0.mk (below_step (by repeat (first | (with_reducible first | exact HB.out | apply below_alloc | apply pw_below_drewN | apply below_drew1) | exact HB.out)) hb); clear HB; have HO238 := n0_; have HB := n1_; clear n0_ n1_; (try clear hb); (try clear hb2); (try clear hk); (try clear hi); (try clear ho0)))
    (try simp only [Act.put, List.setIfInBounds_toArray, List.set_cons_zero, List.set_cons_succ])
    go_cut [24] (fun v24 wc => ∃ (kq : Nat) (x24_4 : Bool), v24 = .bool x24_4 ∧ Aside0 (psalterylaw14_FloorBounds.j0 kq l0 t235 x24_4 = some r) ∧ Aside0 (kq ≤ k) ∧ Aside0 (Kd.R (Kd.int .i64) 2 wc w.heap.size (fun _ => True) v237 t235) ∧ Aside0 (Below w.heap.size w wc))
    case first =>
      have H := HC5.out
      clear HC5
      by_cases c7 : t236 = 0
      · rw [if_pos c7] at H
        have c7b0 : (t236 == 0) = true := beq_iff_eq.mpr c7
        have c7b1 : (t236 != 0) = false := bne_eq_false_iff_eq.mpr c7
        clear c7
        (first | rw [c7b0] | (simp only [i64_w, i32_w]; rw [c7b0]) | skip)
        have H' := Aside0.mk H
        clear H
        obtain ⟨Ao8, co8, eo8⟩ := Kd.R_slice HO238.out
        subst eo8
        go_wp2
        go_meet
        case rel => exact ⟨_, (((t235.length : Int) != 16)), (by first | rfl | (simp; done) | (simp [*]; done)), H', ⟨by first | omega | exact Nat.le_refl _⟩, ⟨by (with_reducible repeat (first | apply Kd.R_alloc | apply Kd.R_drewN | apply Kd.R_drew)); exact HO238.out⟩, ⟨by repeat (first | (with_reducible first | exact HB.out | apply below_alloc | apply pw_below_drewN | apply below_drew1) | exact HB.out)⟩⟩
      · rw [if_neg c7] at H
        have c7b0 : (t236 == 0) = false := beq_eq_false_iff_ne.mpr c7
        have c7b1 : (t236 != 0) = true := bne_iff_ne.mpr c7
        (first | rw [c7b0] | (simp only [i64_w, i32_w]; rw [c7b0]) | skip)
        have H' := Aside0.mk H
        clear H
        go_wp2
        go_meet
        case rel => exact ⟨_, (true), (by first | rfl | (simp; done) | (simp [*]; done)), H', ⟨by first | omega | exact Nat.le_refl _⟩, ⟨by (with_reducible repeat (first | apply Kd.R_alloc | apply Kd.R_drewN | apply Kd.R_drew)); exact HO238.out⟩, ⟨by repeat (first | (with_reducible first | exact HB.out | apply below_alloc | apply pw_below_drewN | apply below_drew1) | exact HB.out)⟩⟩
    case rest =>
      clear HC5
      try clear c1
      try clear c2
      try clear p2
      try clear c3
      try clear c7
      try clear c7b0
      try clear c7b1
      obtain ⟨kq, x24_4, rfl, HA, HJ4, HO_3, HB⟩ := hcut
      cases kq with
      | zero => exact absurd HA.out (by simp [psalterylaw14_FloorBounds.j0])
      | succ kj4 =>
        have H := HA.out
        clear HA
        simp only [psalterylaw14_FloorBounds.j0] at H
        by_cases c9 : x24_4 = true
        · subst c9
          have H1 : (some false) = some r := by rw [if_pos rfl] at H; exact H
          clear H
          have H := H1
          clear H1
          exact absurd ((Option.some.inj H).trans HT.out) (by decide)
        · replace c9 := Bool.eq_false_iff.mpr c9
          subst c9
          have H1 : (psalterylaw14_FloorBounds.l0 kj4 l0 t235 0 0) = some r := by rw [if_neg (show ¬ (false = true) by decide)] at H; exact H
          clear H
          have H := H1
          clear H1
          have H' := Aside0.mk H
          clear H
          go_wp2
          go_loopg [5, 6] kj4 (fun kq v5 v6 w' => ∃ (x5_2 : Int) (x6_2 : Int), v5 = .int .i64 x5_2 ∧ v6 = .int .i64 x6_2 ∧ Aside0 (psalterylaw14_FloorBounds.l0 kq l0 t235 x5_2 x6_2 = some r) ∧ Aside0 (kq ≤ kj4) ∧ Aside0 (Kd.R (Kd.int .i64) 2 w' w.heap.size (fun _ => True) v237 t235) ∧ Aside0 (Below w.heap.size w w'))
          case atStart => exact ⟨(0), (0), (by first | rfl | (simp; done) | (simp [*]; done)), (by first | rfl | (simp; done) | (simp [*]; done)), H', ⟨Nat.le_refl _⟩, ⟨by (with_reducible repeat (first | apply Kd.R_alloc | apply Kd.R_drewN | apply Kd.R_drew)); exact HO_3.out⟩, ⟨by repeat (first | (with_reducible first | exact HB.out | apply below_alloc | apply pw_below_drewN | apply below_drew1) | exact HB.out)⟩⟩
          case round =>
            clear H'
            try clear c1
            try clear c2
            try clear p2
            try clear c3
            try clear c7
            try clear c7b0
            try clear c7b1
            try clear c9
            try clear p2
            obtain ⟨x5_2, x6_2, rfl, rfl, HA, HK2, HO_3, HB⟩ := hrel
            cases gk with
            | zero => exact absurd HA.out (by simp [psalterylaw14_FloorBounds.l0])
            | succ k2 =>
              have H := HA.out
              clear HA
              simp only [psalterylaw14_FloorBounds.l0] at H
              by_cases c10 : x6_2 < 6
              · rw [if_pos c10] at H
                have c10b0 : decide (x6_2 < 6) = true := decide_eq_true c10
                clear c10
                by_cases c11 : 0 ≤ x6_2
                · rw [if_pos c11] at H
                  have c11b0 : decide (0 ≤ x6_2) = true := decide_eq_true c11
                  clear c11
                  by_cases c12 : x6_2 < (l0.length : Int)
                  · rw [if_pos c12] at H
                    have c12b0 : decide (x6_2 < (l0.length : Int)) = true := decide_eq_true c12
                    clear c12
                    by_cases c13 : (rd l0 x6_2) > x5_2
                    · rw [if_pos c13] at H
                      have c13b0 : decide (x5_2 < (rd l0 x6_2)) = true := decide_eq_true c13
                      clear c13
                      have H' := Aside0.mk H
                      clear H
                      have p239 : 0 ≤ (x6_2 : Int) := of_decide_eq_true (by first | (with_reducible assumption) | assumption)
                      have q239 : x6_2 < (l0.length : Int) := of_decide_eq_true (by first | (with_reducible assumption) | assumption)
                      obtain ⟨ad239, e239, hx239_0⟩ := Kd.at_int HR0.out x6_2 p239 q239
                      cases e239
                      replace hx239_0 := (HB.out.cell (World.block_lt_of_cell? w _ hx239_0)).trans hx239_0
                      replace p239 := eq_true p239
                      replace q239 := eq_true q239
                      have p240 : 0 ≤ (x6_2 : Int) := of_decide_eq_true (by first | (with_reducible assumption) | assumption)
                      have q240 : x6_2 < (l0.length : Int) := of_decide_eq_true (by first | (with_reducible assumption) | assumption)
                      obtain ⟨ad240, e240, hx240_0⟩ := Kd.at_int HR0.out x6_2 p240 q240
                      obtain rfl : ad239 = ad240 := (by injection e240)
                      replace hx240_0 := (HB.out.cell (World.block_lt_of_cell? w _ hx240_0)).trans hx240_0
                      replace p240 := eq_true p240
                      replace q240 := eq_true q240
                      go_wp2
                      go_roundg k2
                      case measure => have := HJ4.out; have := HK2.out; omega
                      case rel => exact ⟨(rd l0 x6_2), (wrap64 (x6_2 + 1)), (by first | rfl | (simp; done) | (simp [*]; done)), (by first | rfl | (simp; done) | (simp [*]; done)), H', ⟨by have := HJ4.out; have := HK2.out; omega⟩, ⟨by (with_reducible repeat (first | apply Kd.R_alloc | apply Kd.R_drewN | apply Kd.R_drew)); exact HO_3.out⟩, ⟨by repeat (first | (with_reducible first | exact HB.out | apply below_alloc | apply pw_below_drewN | apply below_drew1) | exact HB.out)⟩⟩
                    · rw [if_neg c13] at H
                      have c13b0 : decide (x5_2 < (rd l0 x6_2)) = false := decide_eq_false c13
                      clear c13
                      have H' := Aside0.mk H
                      clear H
                      have p239 : 0 ≤ (x6_2 : Int) := of_decide_eq_true (by first | (with_reducible assumption) | assumption)
                      have q239 : x6_2 < (l0.length : Int) := of_decide_eq_true (by first | (with_reducible assumption) | assumption)
                      obtain ⟨ad239, e239, hx239_0⟩ := Kd.at_int HR0.out x6_2 p239 q239
                      cases e239
                      replace hx239_0 := (HB.out.cell (World.block_lt_of_cell? w _ hx239_0)).trans hx239_0
                      replace p239 := eq_true p239
                      replace q239 := eq_true q239
                      go_wp2
                      go_roundg k2
                      case measure => have := HJ4.out; have := HK2.out; omega
                      case rel => exact ⟨(x5_2), (wrap64 (x6_2 + 1)), (by first | rfl | (simp; done) | (simp [*]; done)), (by first | rfl | (simp; done) | (simp [*]; done)), H', ⟨by have := HJ4.out; have := HK2.out; omega⟩, ⟨by (with_reducible repeat (first | apply Kd.R_alloc | apply Kd.R_drewN | apply Kd.R_drew)); exact HO_3.out⟩, ⟨by repeat (first | (with_reducible first | exact HB.out | apply below_alloc | apply pw_below_drewN | apply below_drew1) | exact HB.out)⟩⟩
                  · rw [if_neg c12] at H
                    exact absurd H (by simp)
                · rw [if_neg c11] at H
                  exact absurd H (by simp)
              · rw [if_neg c10] at H
                have c10b0 : decide (x6_2 < 6) = false := decide_eq_false c10
                clear c10
                replace H := Option.bind_eq_some_iff.mp H
                obtain ⟨t241, A140, H⟩ := H
                replace H : (if t241 < 1 then (psalterylaw14_FloorBounds.j2 k2 t235 1) else (psalterylaw14_FloorBounds.j2 k2 t235 t241)) = some r := H
                have A14 := Aside0.mk A140
                clear A140
                have HC15 := Aside0.mk H
                clear H
                go_upto_if 42 with (first | ((with_reducible refine gate_callee (f := 27) rfl ?_); refine goesL_ (some 40) rfl rfl Try.func27 (by kernel_rfl) rfl #[.int .i64 x5_2] rfl (by (try simp only [List.map_toArray, List.map_cons, List.map_nil]); first | done | rfl | (simp only [List.length_drop, List.length_take]; rfl)) ?_; (with_reducible refine (psalteryref10_Value.calls k2 x5_2 t241 _ A14.out).mono ?_); rintro e w' ⟨rfl, ⟨nd, rfl⟩⟩; refine ⟨_, rfl, ?_⟩))
                (try simp only [Act.put, List.setIfInBounds_toArray, List.set_cons_zero, List.set_cons_succ])
                go_cut [7] (fun v7 wc => ∃ (kq : Nat) (x7_14 : Int), v7 = .int .i64 x7_14 ∧ Aside0 (psalterylaw14_FloorBounds.j2 kq t235 x7_14 = some r) ∧ Aside0 (kq ≤ k2) ∧ Aside0 (Kd.R (Kd.int .i64) 2 wc w.heap.size (fun _ => True) v237 t235) ∧ Aside0 (Below w.heap.size w wc))
                case first =>
                  have H := HC15.out
                  clear HC15
                  by_cases c16 : t241 < 1
                  · rw [if_pos c16] at H
                    have c16b0 : decide (t241 < 1) = true := decide_eq_true c16
                    clear c16
                    (first | rw [c16b0] | (simp only [i64_w, i32_w]; rw [c16b0]) | skip)
                    have H' := Aside0.mk H
                    clear H
                    go_wp2
                    go_meet
                    case rel => exact ⟨_, (1), (by first | rfl | (simp; done) | (simp [*]; done)), H', ⟨by have := HJ4.out; have := HK2.out; first | omega | exact Nat.le_refl _⟩, ⟨by (with_reducible repeat (first | apply Kd.R_alloc | apply Kd.R_drewN | apply Kd.R_drew)); exact HO_3.out⟩, ⟨by repeat (first | (with_reducible first | exact HB.out | apply below_alloc | apply pw_below_drewN | apply below_drew1) | exact HB.out)⟩⟩
                  · rw [if_neg c16] at H
                    have c16b0 : decide (t241 < 1) = false := decide_eq_false c16
                    clear c16
                    (first | rw [c16b0] | (simp only [i64_w, i32_w]; rw [c16b0]) | skip)
                    have H' := Aside0.mk H
                    clear H
                    go_wp2
                    go_meet
                    case rel => exact ⟨_, (t241), (by first | rfl | (simp; done) | (simp [*]; done)), H', ⟨by have := HJ4.out; have := HK2.out; first | omega | exact Nat.le_refl _⟩, ⟨by (with_reducible repeat (first | apply Kd.R_alloc | apply Kd.R_drewN | apply Kd.R_drew)); exact HO_3.out⟩, ⟨by repeat (first | (with_reducible first | exact HB.out | apply below_alloc | apply pw_below_drewN | apply below_drew1) | exact HB.out)⟩⟩
                case rest =>
                  clear HC15
                  try clear c1
                  try clear c2
                  try clear p2
                  try clear q2
                  try clear hx2
                  try clear c3
                  try clear p6
                  try clear c7
                  try clear c7b0
                  try clear c7b1
                  try clear c9
                  try clear c10
                  try clear c10b0
                  try clear c11
                  try clear c11b0
                  try clear c12
                  try clear c12b0
                  try clear c13
                  try clear c13b0
                  try clear c16
                  try clear c16b0
                  try clear hx239_0
                  try clear hx240_0
                  try clear p2
                  try clear p239
                  try clear p240
                  try clear q239
                  try clear q240
                  obtain ⟨kq, x7_14, rfl, HA, HJ14, HO_3, HB⟩ := hcut
                  cases kq with
                  | zero => exact absurd HA.out (by simp [psalterylaw14_FloorBounds.j2])
                  | succ kj14 =>
                    have H := HA.out
                    clear HA
                    simp only [psalterylaw14_FloorBounds.j2] at H
                    have H' := Aside0.mk H
                    clear H
                    go_wp2
                    go_loopg [8] kj14 (fun kq v8 w' => ∃ (x8_4 : Int), v8 = .int .i64 x8_4 ∧ Aside0 (psalterylaw14_FloorBounds.l1 kq t235 x7_14 x8_4 = some r) ∧ Aside0 (kq ≤ kj14) ∧ Aside0 (Kd.R (Kd.int .i64) 2 w' w.heap.size (fun _ => True) v237 t235) ∧ Aside0 (Below w.heap.size w w'))
                    case atStart => exact ⟨(0), (by first | rfl | (simp; done) | (simp [*]; done)), H', ⟨Nat.le_refl _⟩, ⟨by (with_reducible repeat (first | apply Kd.R_alloc | apply Kd.R_drewN | apply Kd.R_drew)); exact HO_3.out⟩, ⟨by repeat (first | (with_reducible first | exact HB.out | apply below_alloc | apply pw_below_drewN | apply below_drew1) | exact HB.out)⟩⟩
                    case round =>
                      clear H'
                      try clear c1
                      try clear c2
                      try clear p2
                      try clear q2
                      try clear hx2
                      try clear c3
                      try clear p6
                      try clear c7
                      try clear c7b0
                      try clear c7b1
                      try clear c9
                      try clear c10
                      try clear c10b0
                      try clear c11
                      try clear c11b0
                      try clear c12
                      try clear c12b0
                      try clear c13
                      try clear c13b0
                      try clear c16
                      try clear c16b0
                      try clear hx239_0
                      try clear hx240_0
                      try clear p2
                      try clear p239
                      try clear p240
                      try clear p6
                      try clear q2
                      try clear q239
                      try clear q240
                      obtain ⟨x8_4, rfl, HA, HK4, HO_3, HB⟩ := hrel
                      cases gk with
                      | zero => exact absurd HA.out (by simp [psalterylaw14_FloorBounds.l1])
                      | succ k4 =>
                        have H := HA.out
                        clear HA
                        simp only [psalterylaw14_FloorBounds.l1] at H
                        by_cases c17 : x8_4 < 16
                        · rw [if_pos c17] at H
                          have c17b0 : decide (x8_4 < 16) = true := decide_eq_true c17
                          clear c17
                          by_cases c18 : 0 ≤ x8_4
                          · rw [if_pos c18] at H
                            have c18b0 : decide (0 ≤ x8_4) = true := decide_eq_true c18
                            clear c18
                            by_cases c19 : x8_4 < (t235.length : Int)
                            · rw [if_pos c19] at H
                              have c19b0 : decide (x8_4 < (t235.length : Int)) = true := decide_eq_true c19
                              clear c19
                              by_cases c20 : (rd t235 x8_4) < 1
                              · rw [if_pos c20] at H
                                have c20b0 : decide ((rd t235 x8_4) < 1) = true := decide_eq_true c20
                                clear c20
                                exact absurd ((Option.some.inj H).trans HT.out) (by decide)
                              · rw [if_neg c20] at H
                                have c20b0 : decide ((rd t235 x8_4) < 1) = false := decide_eq_false c20
                                clear c20
                                by_cases c21 : (rd t235 x8_4) > x7_14
                                · rw [if_pos c21] at H
                                  have c21b0 : decide (x7_14 < (rd t235 x8_4)) = true := decide_eq_true c21
                                  clear c21
                                  exact absurd ((Option.some.inj H).trans HT.out) (by decide)
                                · rw [if_neg c21] at H
                                  have c21b0 : decide (x7_14 < (rd t235 x8_4)) = false := decide_eq_false c21
                                  clear c21
                                  have H' := Aside0.mk H
                                  clear H
                                  obtain ⟨Ao22, co22, eo22⟩ := Kd.R_slice HO_3.out
                                  subst eo22
                                  have p242 : 0 ≤ (x8_4 : Int) := of_decide_eq_true (by first | (with_reducible assumption) | assumption)
                                  have q242 : x8_4 < (t235.length : Int) := of_decide_eq_true (by first | (with_reducible assumption) | assumption)
                                  obtain ⟨ad242, e242, hx242_0⟩ := Kd.at_int (Kd.R_reads' HO_3.out).2.2 x8_4 p242 q242
                                  cases e242
                                  replace p242 := eq_true p242
                                  replace q242 := eq_true q242
                                  have p243 : 0 ≤ (x8_4 : Int) := of_decide_eq_true (by first | (with_reducible assumption) | assumption)
                                  have q243 : x8_4 < (t235.length : Int) := of_decide_eq_true (by first | (with_reducible assumption) | assumption)
                                  obtain ⟨ad243, e243, hx243_0⟩ := Kd.at_int (Kd.R_reads' HO_3.out).2.2 x8_4 p243 q243
                                  obtain rfl : ad242 = ad243 := (by injection e243)
                                  replace p243 := eq_true p243
                                  replace q243 := eq_true q243
                                  go_wp2
                                  go_roundg k4
                                  case measure => have := HJ4.out; have := HK2.out; have := HJ14.out; have := HK4.out; omega
                                  case rel => exact ⟨(wrap64 (x8_4 + 1)), (by first | rfl | (simp; done) | (simp [*]; done)), H', ⟨by have := HJ4.out; have := HK2.out; have := HJ14.out; have := HK4.out; omega⟩, ⟨by (with_reducible repeat (first | apply Kd.R_alloc | apply Kd.R_drewN | apply Kd.R_drew)); exact HO_3.out⟩, ⟨by repeat (first | (with_reducible first | exact HB.out | apply below_alloc | apply pw_below_drewN | apply below_drew1) | exact HB.out)⟩⟩
                            · rw [if_neg c19] at H
                              exact absurd H (by simp)
                          · rw [if_neg c18] at H
                            exact absurd H (by simp)
                        · rw [if_neg c17] at H
                          have c17b0 : decide (x8_4 < 16) = false := decide_eq_false c17
                          clear c17
                          replace H := Option.bind_eq_some_iff.mp H
                          obtain ⟨t244, A230, H⟩ := H
                          replace H : (some t244) = some r := H
                          have A23 := Aside0.mk A230
                          clear A230
                          obtain rfl := Option.some.inj H
                          go_wp2_with (first | ((with_reducible refine gate_callee (f := 15) rfl ?_); refine goesL_ (some 60) rfl rfl Try.func15 (by kernel_rfl) rfl #[] rfl (by (try simp only [List.map_toArray, List.map_cons, List.map_nil]); first | done | rfl | (simp only [List.length_drop, List.length_take]; rfl)) ?_; (with_reducible refine (psalterylaw14_knows.calls k4  t244 _ A23.out).mono ?_); rintro e w24 ⟨rfl, hb⟩; refine ⟨_, rfl, ?_⟩; have n0_ := Aside0.mk (Kd.R_below (by (with_reducible repeat (first | apply Kd.R_alloc | apply Kd.R_drewN | apply Kd.R_drew)); exact HO_3.out) hb); have n1_ := Aside0.mk (below_step (by repeat (first | (with_reducible first | exact HB.out | apply below_alloc | apply pw_below_drewN | apply below_drew1) | exact HB.out)) hb); clear HO_3; clear HB; have HO_3 := n0_; have HB := n1_; clear n0_ n1_; (try clear hb); (try clear hb2); (try clear hk); (try clear hi)))
                          go_ret
                          exact ⟨by first | rfl | (simp [errW_none, errW_some] <;> rfl) | (simp [*, errW_none, errW_some] <;> rfl), by repeat (first | (with_reducible first | exact HB.out | apply below_alloc | apply pw_below_drewN | apply below_drew1) | exact HB.out)⟩
  · replace c3 := Bool.eq_false_iff.mpr c3
    subst c3
    have H1 : ((psalterylaw14_knows.f k).bind fun t234 => (some t234)) = some r := by rw [if_neg (show ¬ (false = true) by decide)] at H; exact H
    clear H
    have H := H1
    clear H1
    replace H := Option.bind_eq_some_iff.mp H
    obtain ⟨t234, A250, H⟩ := H
    replace H : (some t234) = some r := H
    have A25 := Aside0.mk A250
    clear A250
    obtain rfl := Option.some.inj H
    go_enter Try.func7, Try.ntmps7
    go_wp2_with (first | ((with_reducible refine gate_callee (f := 19) rfl ?_); refine goesL_ (some 10) rfl rfl Try.func19 (by kernel_rfl) rfl #[.slice A0 l0.length c0] rfl (by (try simp only [List.map_toArray, List.map_cons, List.map_nil]); first | done | rfl | (simp only [List.length_drop, List.length_take]; rfl)) ?_; (with_reducible refine (psalteryref14_Right.calls k _ _ l0 false _ ?side1 ?side2 A2.out).mono ?_); (case side1 => repeat (first | exact HR0.out | (with_reducible refine Kd.C_alloc ?_ _) | (with_reducible refine Kd.C_drewN ?_ _) | (with_reducible refine Kd.C_drew ?_))); (case side2 => exact HC0.out); rintro e w' ⟨rfl, ⟨nd, rfl⟩⟩; refine ⟨_, rfl, ?_⟩) | ((with_reducible refine gate_callee (f := 15) rfl ?_); refine goesL_ (some 12) rfl rfl Try.func15 (by kernel_rfl) rfl #[] rfl (by (try simp only [List.map_toArray, List.map_cons, List.map_nil]); first | done | rfl | (simp only [List.length_drop, List.length_take]; rfl)) ?_; (with_reducible refine (psalterylaw14_knows.calls k  t234 _ A25.out).mono ?_); rintro e w26 ⟨rfl, hb⟩; refine ⟨_, rfl, ?_⟩; have n0_ := Aside0.mk (below_step (by repeat (first | (with_reducible first | exact HB.out | apply below_alloc | apply pw_below_drewN | apply below_drew1) | exact HB.out)) hb); clear HB; have HB := n0_; clear n0_; (try clear hb); (try clear hb2); (try clear hk); (try clear hi)))
    go_ret
    exact ⟨by first | rfl | (simp [errW_none, errW_some] <;> rfl) | (simp [*, errW_none, errW_some] <;> rfl), by repeat (first | (with_reducible first | exact HB.out | apply below_alloc | apply pw_below_drewN | apply below_drew1) | exact HB.out)⟩

/-- THE ONE PURE STATEMENT of psalterylaw14_FloorBounds: yours. -/
def psalterylaw14_FloorBounds.Pure : Prop := ∀ (l0 : List Int), l0.length ≤ maxLen → l0.length * 8 ≤ 140737488351232 → (∀ x ∈ l0, (Lit.int .i64 x).wf = true) → ∃ k, psalterylaw14_FloorBounds.f k l0 = some true
theorem psalterylaw14_FloorBounds.walk (P : psalterylaw14_FloorBounds.Pure) (a0 : Option Addr) (len0 cap0 : Nat) (z0 : List Int) (w : World) (w0 : (a0 = none ∧ len0 = 0 ∧ cap0 = 0 ∧ z0 = []) ∨ ∃ x, a0 = some x ∧ len0 ≤ cap0 ∧ cap0 ≤ maxLen ∧ z0.length = cap0 ∧ (∀ i, i < z0.length → w.cell? (x.add i) = some (.int .i64 (z0.getD i 0))) ∧ ∀ n ∈ z0, (Lit.int .i64 n).wf = true) (y0 : len0 * 8 ≤ 140737488351232) :
    Calls Try.prog 7 #[.slice a0 len0 cap0] w fun e w' => e = .returned (.bool true) ∧ Below w.heap.size w w' := by
  obtain ⟨l0, rfl, hr0, hm0, hw0, hc0⟩ := ReadsInt.ofRowC w0
  obtain ⟨k, h⟩ := P l0 hm0 y0 hw0
  refine (psalterylaw14_FloorBounds.calls k _ _ l0 true w (Kd.C_of_reads (d := (0 : Int)) (h1 := fun _ => rfl) hr0) hc0 h rfl).mono ?_
  rintro e w' ⟨rfl, hd⟩
  exact ⟨rfl, hd⟩

end Go.Proofs.Ytoghpjggcfnoeaa.P
