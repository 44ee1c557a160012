-- PRINTED by print.py (a twelfth state) out of the translation. Not trusted: Lean checks it.
import Derived.Test.YtmocinhononfpaaPx0
import Derived.Test.YtmocinhononfpaaPx12
import Derived.Test.YtmocinhononfpaaPx16
import Derived.Test.YtmocinhononfpaaPx19
import Derived.Test.YtmocinhononfpaaPx21
import Derived.Test.YtmocinhononfpaaPx22
namespace Go.Proofs.Ytmocinhononfpaa.P
open Go.RowKit Go.Proofs.YtmocinhononfpaaW.PrintWords Go.Proofs.YtmocinhononfpaaW.PrintLast Go.Proofs.YtmocinhononfpaaW.PrintMore
attribute [local go_sem] max2_int min2_int max_two min_two max_three min_three max_four min_four   -- for this text's walks alone
set_option linter.unusedVariables false
set_option linter.unusedSimpArgs false

/-! ### psalteryref04_Write: function 18 -/
def psalteryref04_Write.j0 : Nat → List Int → Int → Bool → List Int → Int → Option (List Int × Int × Int)
  | 0, _, _, _, _, _ => none
  | k + 1, x1, x2, x31, x259000, x259001 => if x31 = true then (some (x259000, x259001, 1)) else ((psalteryref04_Code.f k x1 x2).bind fun t266 => (if (wrap64 (x259001 + (t266.length : Int))) > 32000 then (some (x259000, x259001, 3)) else ((some (([] : List Int) : List Int)).bind fun y269 => ((psalteryref01_Bits.f k x259000).bind fun t272 => (if 0 ≤ x259001 then (if x259001 ≤ (t272.length : Int) then ((some (t272.take (x259001 : Int).toNat : List Int)).bind fun y275 => (if y269.length + y275.length < 17592186044416 then ((some (y269 ++ y275 : List Int)).bind fun y279 => (if y279.length + t266.length < 17592186044416 then ((some (y279 ++ t266 : List Int)).bind fun y282 => ((psalteryref01_Bytes.f k y282).bind fun t285 => (some (t285, (y282.length : Int), 0)))) else (none))) else (none))) else (none)) else (none))))))
def psalteryref04_Write.f (k : Nat) (l0_0 : List Int) (a0_1 : Int) (l1 : List Int) (a2 : Int) : Option (List Int × Int × Int) := (psalteryref01_Good.f k l0_0 a0_1).bind fun bt260 => ((psalteryref04_Right.f k l1).bind fun t264 => (if t264 = true then (if a2 < 0 then (psalteryref04_Write.j0 k l1 a2 true bt260.1 bt260.2) else (if a2 ≥ (l1.length : Int) then (psalteryref04_Write.j0 k l1 a2 true bt260.1 bt260.2) else (if 0 ≤ a2 then (if a2 < (l1.length : Int) then (psalteryref04_Write.j0 k l1 a2 ((rd l1 a2) == 0) bt260.1 bt260.2) else (none)) else (none)))) else (psalteryref04_Write.j0 k l1 a2 true bt260.1 bt260.2)))
theorem psalteryref04_Write.mono_l : ∀ k, (∀ y0 y1 y2 y3 y4, LeO (psalteryref04_Write.j0 k y0 y1 y2 y3 y4) (psalteryref04_Write.j0 (k + 1) y0 y1 y2 y3 y4))
  | 0 => fun _ _ _ _ _ r h => by simp [psalteryref04_Write.j0] at h
  | k + 1 => by
    have ih0 := psalteryref04_Write.mono_l k
    · intro y0 y1 y2 y3 y4
      unfold psalteryref04_Write.j0
      repeat' first
      | (with_reducible exact ih0 _ _ _ _ _)
      | (with_reducible exact psalteryref01_Bits.mono _ _)
      | (with_reducible exact psalteryref01_Bytes.mono _ _)
      | (with_reducible exact psalteryref01_Good.mono _ _ _)
      | (with_reducible exact psalteryref04_Code.mono _ _ _)
      | (with_reducible exact psalteryref04_Right.mono _ _)
      | (with_reducible exact LeO.refl _)
      | (with_reducible exact LeO.none _)
      | (with_reducible refine LeO.ite ?_ ?_)
      | (with_reducible refine LeO.bind ?_ (fun _ => ?_))
      | exact ih0 _ _ _ _ _
      | exact psalteryref01_Bits.mono _ _
      | exact psalteryref01_Bytes.mono _ _
      | exact psalteryref01_Good.mono _ _ _
      | exact psalteryref04_Code.mono _ _ _
      | exact psalteryref04_Right.mono _ _
      | exact LeO.none _
      | refine LeO.ite ?_ ?_
      | refine LeO.bind ?_ (fun _ => ?_)
theorem psalteryref04_Write.mono : ∀ a0 a1 a2 a3 k, LeO (psalteryref04_Write.f k a0 a1 a2 a3) (psalteryref04_Write.f (k + 1) a0 a1 a2 a3) := by
  intro a0 a1 a2 a3 k
  have ih0 := psalteryref04_Write.mono_l k
  unfold psalteryref04_Write.f
  repeat' first
      | (with_reducible exact ih0 _ _ _ _ _)
      | (with_reducible exact psalteryref01_Bits.mono _ _)
      | (with_reducible exact psalteryref01_Bytes.mono _ _)
      | (with_reducible exact psalteryref01_Good.mono _ _ _)
      | (with_reducible exact psalteryref04_Code.mono _ _ _)
      | (with_reducible exact psalteryref04_Right.mono _ _)
      | (with_reducible exact LeO.refl _)
      | (with_reducible exact LeO.none _)
      | (with_reducible refine LeO.ite ?_ ?_)
      | (with_reducible refine LeO.bind ?_ (fun _ => ?_))
      | exact ih0 _ _ _ _ _
      | exact psalteryref01_Bits.mono _ _
      | exact psalteryref01_Bytes.mono _ _
      | exact psalteryref01_Good.mono _ _ _
      | exact psalteryref04_Code.mono _ _ _
      | exact psalteryref04_Right.mono _ _
      | exact LeO.none _
      | refine LeO.ite ?_ ?_
      | refine LeO.bind ?_ (fun _ => ?_)
set_option maxHeartbeats 8000000 in
set_option maxRecDepth 100000 in
theorem psalteryref04_Write.calls (k : Nat) (P0_0_ : Nat → Prop) (A0_0 : Option Addr) (c0_0 : Nat) (l0_0 : List Int) (a0_1 : Int) (A1 : Option Addr) (c1 : Nat) (l1 : List Int) (a2 : Int) (r1 : List Int) (r2 : Int) (r3 : Int) (w : World) (hs0_0 : Kd.V (Kd.int .u8) 5 w w.heap.size (fun k_ => P0_0_ k_) (.slice A0_0 l0_0.length c0_0) l0_0) (hr1 : Kd.C (Kd.int .i64) w A1 l1.length l1) (hc1 : l1.length ≤ c1) (h : psalteryref04_Write.f k l0_0 a0_1 l1 a2 = some (r1, r2, r3)) :
    Calls Try.prog 18 #[.agg #[.slice A0_0 l0_0.length c0_0, .int .i64 a0_1], .slice A1 l1.length c1, .int .i64 a2] w fun e w' => ∃ v0_ : Value, e = .returned (.tuple #[.agg #[v0_, .int .i64 r2], .int .i64 r3]) ∧ Kd.V (Kd.int .u8) 5 w' w.heap.size (fun k_ => (P0_0_ k_ ∨ w.heap.size ≤ k_)) v0_ r1 ∧ Below w.heap.size w w' := by
  have hu38 := Try.underlying38
  have HO0_0 := Aside0.mk (show Kd.V (Kd.int .u8) 5 w w.heap.size (fun k_ => (P0_0_ k_ ∨ w.heap.size ≤ k_)) (.slice A0_0 l0_0.length c0_0) l0_0 from Kd.V_mono hs0_0 (fun k_ hk => .inl hk))
  have HR1 := Aside0.mk hr1
  have HC1 := Aside0.mk hc1
  clear hr1 hc1
  have HB := Aside0.mk (Below.refl w.heap.size w)
  have H : ((psalteryref01_Good.f k l0_0 a0_1).bind fun bt260 => ((psalteryref04_Right.f k l1).bind fun t264 => (if t264 = true then (if a2 < 0 then (psalteryref04_Write.j0 k l1 a2 true bt260.1 bt260.2) else (if a2 ≥ (l1.length : Int) then (psalteryref04_Write.j0 k l1 a2 true bt260.1 bt260.2) else (if 0 ≤ a2 then (if a2 < (l1.length : Int) then (psalteryref04_Write.j0 k l1 a2 ((rd l1 a2) == 0) bt260.1 bt260.2) else (none)) else (none)))) else (psalteryref04_Write.j0 k l1 a2 true bt260.1 bt260.2)))) = some (r1, r2, r3) := h
  clear h
  replace H := Option.bind_eq_some_iff.mp H
  obtain ⟨⟨t260, t263⟩, A40, H⟩ := H
  replace H : ((psalteryref04_Right.f k l1).bind fun t264 => (if t264 = true then (if a2 < 0 then (psalteryref04_Write.j0 k l1 a2 true t260 t263) else (if a2 ≥ (l1.length : Int) then (psalteryref04_Write.j0 k l1 a2 true t260 t263) else (if 0 ≤ a2 then (if a2 < (l1.length : Int) then (psalteryref04_Write.j0 k l1 a2 ((rd l1 a2) == 0) t260 t263) else (none)) else (none)))) else (psalteryref04_Write.j0 k l1 a2 true t260 t263))) = some (r1, r2, r3) := H
  have A4 := Aside0.mk A40
  clear A40
  have HC5 := Aside0.mk H
  clear H
  go_enter Try.func18, Try.ntmps18
  go_upto_region 2 with (first | ((with_reducible refine gate_dst (N := 3) rfl ?_); (try (refine gate_guard (by rfl) ?_; dsimp only)); refine box_event ?hg (N := 3) ?hd (cs := #[.slice A0_0 l0_0.length c0_0, .int .i64 a0_1]) (t := 38) ?hr ?_; (case hd => rfl); (case hg => rfl); (case hr => first | (go_simp; done) | (go_simp; rfl)); intro gb258 hg w6 hbox hb; have n0_ := Aside0.mk (Kd.V_below (Kd.V_elderB (by (with_reducible repeat (first | apply Kd.V_alloc | apply Kd.V_drewN | apply Kd.V_drew)); exact HO0_0.out) gb258 (Nat.le_of_eq hg.symm)) hb); have n1_ := Aside0.mk (below_step (by repeat (first | (with_reducible first | exact HB.out | apply below_alloc | apply pw_below_drewN | apply below_drew1) | exact HB.out)) hb); have n2_ := Aside0.mk (hbox); have n3_ := Aside0.mk ((by rw [hg]; exact (below_size (by repeat (first | (with_reducible first | exact HB.out | apply below_alloc | apply pw_below_drewN | apply below_drew1) | exact HB.out))) : w.heap.size ≤ gb258)); have n4_ := Aside0.mk ((by rw [hg]; exact (below_size (by repeat (first | (with_reducible first | exact HB.out | apply below_alloc | apply pw_below_drewN | apply below_drew1) | exact HB.out))) : w.heap.size ≤ gb258)); clear HO0_0; clear HB; have HO0_0 := n0_; have HB := n1_; have BK258 := n2_; have GW258 := n3_; have GE258 := n4_; clear n0_ n1_ n2_ n3_ n4_; clear hb hbox hg) | ((with_reducible refine gate_dst (N := 6) rfl ?_); (try (refine gate_guard (by rfl) ?_; dsimp only)); refine box_event ?hg (N := 6) ?hd (cs := #[.slice none 0 0, .int .i64 0]) (t := 38) ?hr ?_; (case hd => rfl); (case hg => rfl); (case hr => first | (go_simp; done) | (go_simp; rfl)); intro gb259 hg w7 hbox hb; have n0_ := Aside0.mk (Kd.V_below (Kd.V_elderB (by (with_reducible repeat (first | apply Kd.V_alloc | apply Kd.V_drewN | apply Kd.V_drew)); exact HO0_0.out) gb259 (Nat.le_of_eq hg.symm)) hb); have n1_ := Aside0.mk (blk_below (g := gb258) (o := .cells #[.slice A0_0 l0_0.length c0_0, .int .i64 a0_1] 38 (0, 0)) (by (with_reducible repeat (first | refine blk_drewN ?_ _ | refine blk_drew ?_ | refine blk_alloc ?_ _)); exact BK258.out) hb); have n2_ := Aside0.mk (below_step (by repeat (first | (with_reducible first | exact HB.out | apply below_alloc | apply pw_below_drewN | apply below_drew1 | refine below_set ?_ GE258.out) | exact HB.out)) hb); have n3_ := Aside0.mk (hbox); have n4_ := Aside0.mk ((by rw [hg]; exact (below_size (by repeat (first | (with_reducible first | exact HB.out | apply below_alloc | apply pw_below_drewN | apply below_drew1 | refine below_set ?_ GE258.out) | exact HB.out))) : w.heap.size ≤ gb259)); have n5_ := Aside0.mk ((by rw [hg]; exact (below_size (by repeat (first | (with_reducible first | exact HB.out | apply below_alloc | apply pw_below_drewN | apply below_drew1 | refine below_set ?_ GE258.out) | exact HB.out))) : w.heap.size ≤ gb259)); have n6_ := Aside0.mk ((by rw [hg]; exact Nat.ne_of_lt (blk_lt (g := gb258) (o := .cells #[.slice A0_0 l0_0.length c0_0, .int .i64 a0_1] 38 (0, 0)) (by (with_reducible repeat (first | refine blk_drewN ?_ _ | refine blk_drew ?_ | refine blk_alloc ?_ _)); exact BK258.out)) : gb258 ≠ gb259)); have n7_ := Aside0.mk ((by rw [hg]; exact Nat.ne_of_gt (blk_lt (g := gb258) (o := .cells #[.slice A0_0 l0_0.length c0_0, .int .i64 a0_1] 38 (0, 0)) (by (with_reducible repeat (first | refine blk_drewN ?_ _ | refine blk_drew ?_ | refine blk_alloc ?_ _)); exact BK258.out)) : gb259 ≠ gb258)); clear HO0_0; clear BK258; clear HB; have HO0_0 := n0_; have BK258 := n1_; have HB := n2_; have BK259 := n3_; have GW259 := n4_; have GE259 := n5_; have NB258_259 := n6_; have NB259_258 := n7_; clear n0_ n1_ n2_ n3_ n4_ n5_ n6_ n7_; clear hb hbox hg; have hnb8 := NB258_259.out; have hnc8 := NB259_258.out; have hcz9_0 : w7.cell? ⟨gb258, 0, none⟩ = some (.slice A0_0 l0_0.length c0_0) := (blk_cell BK258.out 0).trans rfl; have hcz9_1 : w7.cell? ⟨gb258, 1, none⟩ = some (.int .i64 a0_1) := (blk_cell BK258.out 1).trans rfl; have hfz9_0 := blk_frozen BK258.out 0; have hfz9_1 := blk_frozen BK258.out 1) | ((with_reducible refine gate_callee (f := 27) rfl ?_); refine goesL_ (some 11) rfl rfl Try.func27 (by kernel_rfl) rfl #[.agg #[.slice A0_0 l0_0.length c0_0, .int .i64 a0_1]] rfl (by (try simp only [List.map_toArray, List.map_cons, List.map_nil]); first | done | rfl | (simp only [List.length_drop, List.length_take]; rfl)) ?_; (with_reducible refine (psalteryref01_Good.calls k (fun k_ => (((P0_0_ k_ ∨ w.heap.size ≤ k_) ∧ k_ ≠ gb258) ∧ k_ ≠ gb259)) _ _ l0_0 a0_1 t260 t263 _ ?side1 A4.out).mono ?_); (case side1 => exact HO0_0.out); rintro e w10 ⟨v261, rfl, ho0, hb⟩; refine ⟨_, rfl, ?_⟩; have n0_ := Aside0.mk (Kd.V_below (by (with_reducible repeat (first | apply Kd.V_alloc | apply Kd.V_drewN | apply Kd.V_drew)); exact HO0_0.out) hb); have n1_ := Aside0.mk (Kd.V_lower (Kd.V_mono (ok' := fun k_ => (P0_0_ k_ ∨ w.heap.size ≤ k_) ∧ k_ ≠ gb258 ∧ k_ ≠ gb259) ho0 (fun k_ hk_ => ⟨Or.elim hk_ (fun hs_ => hs_.1.1) (fun hn_ => (.inr (Nat.le_trans (below_size (by repeat (first | (with_reducible first | exact HB.out | apply below_alloc | apply pw_below_drewN | apply below_drew1 | refine below_set ?_ GE258.out | refine below_set ?_ GE259.out) | exact HB.out))) hn_))), Or.elim hk_ (fun hs_ => hs_.1.2) (fun hn_ => (Kd.freshB (g := gb258) (o := .cells #[.slice A0_0 l0_0.length c0_0, .int .i64 a0_1] 38 (0, 0)) (by (with_reducible repeat (first | refine blk_drewN ?_ _ | refine blk_drew ?_ | refine blk_alloc ?_ _)); exact BK258.out) k_ hn_)), Or.elim hk_ (fun hs_ => hs_.2) (fun hn_ => (Kd.freshB (g := gb259) (o := .cells #[.slice none 0 0, .int .i64 0] 38 (0, 0)) (by (with_reducible repeat (first | refine blk_drewN ?_ _ | refine blk_drew ?_ | refine blk_alloc ?_ _)); exact BK259.out) k_ hn_))⟩)) (below_size (by repeat (first | (with_reducible first | exact HB.out | apply below_alloc | apply pw_below_drewN | apply below_drew1 | refine below_set ?_ GE258.out | refine below_set ?_ GE259.out) | exact HB.out)))); have n2_ := Aside0.mk (blk_below (g := gb258) (o := .cells #[.slice A0_0 l0_0.length c0_0, .int .i64 a0_1] 38 (0, 0)) (by (with_reducible repeat (first | refine blk_drewN ?_ _ | refine blk_drew ?_ | refine blk_alloc ?_ _)); exact BK258.out) hb); have n3_ := Aside0.mk (blk_below (g := gb259) (o := .cells #[.slice none 0 0, .int .i64 0] 38 (0, 0)) (by (with_reducible repeat (first | refine blk_drewN ?_ _ | refine blk_drew ?_ | refine blk_alloc ?_ _)); exact BK259.out) hb); have n4_ := Aside0.mk (below_step (by repeat (first | (with_reducible first | exact HB.out | apply below_alloc | apply pw_below_drewN | apply below_drew1 | refine below_set ?_ GE258.out | refine below_set ?_ GE259.out) | exact HB.out)) hb); clear HO0_0; clear BK258; clear BK259; clear HB; have HO0_0 := n0_; have HO262 := n1_; have BK258 := n2_; have BK259 := n3_; have HB := n4_; clear n0_ n1_ n2_ n3_ n4_; (try clear hb); (try clear hb2); (try clear hk); (try clear hi); (try clear ho0); obtain ⟨Ao11, co11, eo11⟩ := Kd.V_slice HO262.out; subst eo11; have hcz12_0 : w10.cell? ⟨gb258, 0, none⟩ = some (.slice A0_0 l0_0.length c0_0) := (blk_cell BK258.out 0).trans rfl; have hcz12_1 : w10.cell? ⟨gb258, 1, none⟩ = some (.int .i64 a0_1) := (blk_cell BK258.out 1).trans rfl; have hfz12_0 := blk_frozen BK258.out 0; have hfz12_1 := blk_frozen BK258.out 1))
  (try simp only [Act.put, List.setIfInBounds_toArray, List.set_cons_zero, List.set_cons_succ])
  go_cut [31] (fun v31 wc => ∃ (kq : Nat) (x31_4 : Bool), v31 = .bool x31_4 ∧ Aside0 (psalteryref04_Write.j0 kq l1 a2 x31_4 t260 t263 = some (r1, r2, r3)) ∧ Aside0 (kq ≤ k) ∧ Aside0 (Kd.V (Kd.int .u8) 5 wc w.heap.size (fun k_ => (P0_0_ k_ ∨ w.heap.size ≤ k_) ∧ k_ ≠ gb258 ∧ k_ ≠ gb259) (.slice Ao11 t260.length co11) t260) ∧ Aside0 (wc.heap[gb258]? = some (.cells #[(.slice Ao11 t260.length co11), .int .i64 t263] 38 (0, 0))) ∧ Aside0 (wc.heap[gb259]? = some (.cells #[(.slice none 0 0), .int .i64 0] 38 (0, 0))) ∧ Aside0 (Below w.heap.size w wc))
  case first =>
    have H := HC5.out
    clear HC5
    replace H := Option.bind_eq_some_iff.mp H
    obtain ⟨t264, A130, H⟩ := H
    replace H : (if t264 = true then (if a2 < 0 then (psalteryref04_Write.j0 k l1 a2 true t260 t263) else (if a2 ≥ (l1.length : Int) then (psalteryref04_Write.j0 k l1 a2 true t260 t263) else (if 0 ≤ a2 then (if a2 < (l1.length : Int) then (psalteryref04_Write.j0 k l1 a2 ((rd l1 a2) == 0) t260 t263) else (none)) else (none)))) else (psalteryref04_Write.j0 k l1 a2 true t260 t263)) = some (r1, r2, r3) := H
    have A13 := Aside0.mk A130
    clear A130
    by_cases c14 : t264 = true
    · subst c14
      have H1 : (if a2 < 0 then (psalteryref04_Write.j0 k l1 a2 true t260 t263) else (if a2 ≥ (l1.length : Int) then (psalteryref04_Write.j0 k l1 a2 true t260 t263) else (if 0 ≤ a2 then (if a2 < (l1.length : Int) then (psalteryref04_Write.j0 k l1 a2 ((rd l1 a2) == 0) t260 t263) else (none)) else (none)))) = some (r1, r2, r3) := by rw [if_pos rfl] at H; exact H
      clear H
      have H := H1
      clear H1
      by_cases c15 : a2 < 0
      · rw [if_pos c15] at H
        have c15b0 : decide (a2 < 0) = true := decide_eq_true c15
        clear c15
        (first | rw [c15b0] | (simp only [i64_w, i32_w]; rw [c15b0]) | skip)
        have H' := Aside0.mk H
        clear H
        go_wp2_with (first | ((with_reducible refine gate_callee (f := 12) rfl ?_); refine goesL_ (some 13) rfl rfl Try.func12 (by kernel_rfl) rfl #[.slice A1 l1.length c1] rfl (by (try simp only [List.map_toArray, List.map_cons, List.map_nil]); first | done | rfl | (simp only [List.length_drop, List.length_take]; rfl)) ?_; (with_reducible refine (psalteryref04_Right.calls k _ _ l1 true _ ?side1 ?side2 A13.out).mono ?_); (case side1 => exact Kd.C_below HR1.out (by repeat (first | (with_reducible first | exact HB.out | apply below_alloc | apply pw_below_drewN | apply below_drew1 | refine below_set ?_ GE258.out | refine below_set ?_ GE259.out) | exact HB.out))); (case side2 => exact HC1.out); rintro e w' ⟨rfl, ⟨nd, rfl⟩⟩; refine ⟨_, rfl, ?_⟩))
        go_meet
        case rel => exact ⟨_, (true), (by first | rfl | (simp; done) | (simp [*]; done)), H', ⟨by first | omega | exact Nat.le_refl _⟩, ⟨by (with_reducible repeat (first | apply Kd.V_alloc | apply Kd.V_drewN | apply Kd.V_drew)); exact Kd.V_mono (Kd.V_far (p := ⟨gb258, 1, none⟩) (Kd.V_far (p := ⟨gb258, 0, none⟩) (Kd.V_mono HO262.out (fun k_ hk => (⟨hk, hk.2.1⟩ : _ ∧ k_ ≠ gb258))) (fun _ hk => hk.2) (.slice Ao11 t260.length co11)) (fun _ hk => hk.2) (.int .i64 t263)) (fun _ hk => ⟨hk.1.1, ⟨hk.1.2.1, hk.1.2.2⟩⟩)⟩, ⟨by (with_reducible repeat (first | refine blk_drewN ?_ _ | refine blk_drew ?_ | refine blk_alloc ?_ _)); refine blk_put (cs := #[.slice Ao11 t260.length co11, .int .i64 a0_1]) ?_ 1 _ rfl; (with_reducible repeat (first | refine blk_drewN ?_ _ | refine blk_drew ?_ | refine blk_alloc ?_ _)); refine blk_put (cs := #[.slice A0_0 l0_0.length c0_0, .int .i64 a0_1]) ?_ 0 _ rfl; (with_reducible repeat (first | refine blk_drewN ?_ _ | refine blk_drew ?_ | refine blk_alloc ?_ _)); exact BK258.out⟩, ⟨by (with_reducible repeat (first | refine blk_drewN ?_ _ | refine blk_drew ?_ | refine blk_alloc ?_ _)); refine blk_far ?_ NB259_258.out _; (with_reducible repeat (first | refine blk_drewN ?_ _ | refine blk_drew ?_ | refine blk_alloc ?_ _)); refine blk_far ?_ NB259_258.out _; (with_reducible repeat (first | refine blk_drewN ?_ _ | refine blk_drew ?_ | refine blk_alloc ?_ _)); exact BK259.out⟩, ⟨by repeat (first | (with_reducible first | exact HB.out | apply below_alloc | apply pw_below_drewN | apply below_drew1 | refine below_set ?_ GE258.out | refine below_set ?_ GE259.out) | exact HB.out)⟩⟩
      · rw [if_neg c15] at H
        have c15b0 : decide (a2 < 0) = false := decide_eq_false c15
        clear c15
        (first | rw [c15b0] | (simp only [i64_w, i32_w]; rw [c15b0]) | skip)
        by_cases c16 : a2 ≥ (l1.length : Int)
        · rw [if_pos c16] at H
          have c16b0 : decide ((l1.length : Int) ≤ a2) = true := decide_eq_true c16
          clear c16
          have H' := Aside0.mk H
          clear H
          go_wp2_with (first | ((with_reducible refine gate_callee (f := 12) rfl ?_); refine goesL_ (some 13) rfl rfl Try.func12 (by kernel_rfl) rfl #[.slice A1 l1.length c1] rfl (by (try simp only [List.map_toArray, List.map_cons, List.map_nil]); first | done | rfl | (simp only [List.length_drop, List.length_take]; rfl)) ?_; (with_reducible refine (psalteryref04_Right.calls k _ _ l1 true _ ?side1 ?side2 A13.out).mono ?_); (case side1 => exact Kd.C_below HR1.out (by repeat (first | (with_reducible first | exact HB.out | apply below_alloc | apply pw_below_drewN | apply below_drew1 | refine below_set ?_ GE258.out | refine below_set ?_ GE259.out) | exact HB.out))); (case side2 => exact HC1.out); rintro e w' ⟨rfl, ⟨nd, rfl⟩⟩; refine ⟨_, rfl, ?_⟩))
          go_meet
          case rel => exact ⟨_, (true), (by first | rfl | (simp; done) | (simp [*]; done)), H', ⟨by first | omega | exact Nat.le_refl _⟩, ⟨by (with_reducible repeat (first | apply Kd.V_alloc | apply Kd.V_drewN | apply Kd.V_drew)); exact Kd.V_mono (Kd.V_far (p := ⟨gb258, 1, none⟩) (Kd.V_far (p := ⟨gb258, 0, none⟩) (Kd.V_mono HO262.out (fun k_ hk => (⟨hk, hk.2.1⟩ : _ ∧ k_ ≠ gb258))) (fun _ hk => hk.2) (.slice Ao11 t260.length co11)) (fun _ hk => hk.2) (.int .i64 t263)) (fun _ hk => ⟨hk.1.1, ⟨hk.1.2.1, hk.1.2.2⟩⟩)⟩, ⟨by (with_reducible repeat (first | refine blk_drewN ?_ _ | refine blk_drew ?_ | refine blk_alloc ?_ _)); refine blk_put (cs := #[.slice Ao11 t260.length co11, .int .i64 a0_1]) ?_ 1 _ rfl; (with_reducible repeat (first | refine blk_drewN ?_ _ | refine blk_drew ?_ | refine blk_alloc ?_ _)); refine blk_put (cs := #[.slice A0_0 l0_0.length c0_0, .int .i64 a0_1]) ?_ 0 _ rfl; (with_reducible repeat (first | refine blk_drewN ?_ _ | refine blk_drew ?_ | refine blk_alloc ?_ _)); exact BK258.out⟩, ⟨by (with_reducible repeat (first | refine blk_drewN ?_ _ | refine blk_drew ?_ | refine blk_alloc ?_ _)); refine blk_far ?_ NB259_258.out _; (with_reducible repeat (first | refine blk_drewN ?_ _ | refine blk_drew ?_ | refine blk_alloc ?_ _)); refine blk_far ?_ NB259_258.out _; (with_reducible repeat (first | refine blk_drewN ?_ _ | refine blk_drew ?_ | refine blk_alloc ?_ _)); exact BK259.out⟩, ⟨by repeat (first | (with_reducible first | exact HB.out | apply below_alloc | apply pw_below_drewN | apply below_drew1 | refine below_set ?_ GE258.out | refine below_set ?_ GE259.out) | exact HB.out)⟩⟩
        · rw [if_neg c16] at H
          have c16b0 : decide ((l1.length : Int) ≤ a2) = false := decide_eq_false c16
          clear c16
          by_cases c17 : 0 ≤ a2
          · rw [if_pos c17] at H
            have c17b0 : decide (0 ≤ a2) = true := decide_eq_true c17
            clear c17
            by_cases c18 : a2 < (l1.length : Int)
            · rw [if_pos c18] at H
              have c18b0 : decide (a2 < (l1.length : Int)) = true := decide_eq_true c18
              clear c18
              have H' := Aside0.mk H
              clear H
              go_wp2_with (first | ((with_reducible refine gate_callee (f := 12) rfl ?_); refine goesL_ (some 13) rfl rfl Try.func12 (by kernel_rfl) rfl #[.slice A1 l1.length c1] rfl (by (try simp only [List.map_toArray, List.map_cons, List.map_nil]); first | done | rfl | (simp only [List.length_drop, List.length_take]; rfl)) ?_; (with_reducible refine (psalteryref04_Right.calls k _ _ l1 true _ ?side1 ?side2 A13.out).mono ?_); (case side1 => exact Kd.C_below HR1.out (by repeat (first | (with_reducible first | exact HB.out | apply below_alloc | apply pw_below_drewN | apply below_drew1 | refine below_set ?_ GE258.out | refine below_set ?_ GE259.out) | exact HB.out))); (case side2 => exact HC1.out); rintro e w' ⟨rfl, ⟨nd, rfl⟩⟩; refine ⟨_, rfl, ?_⟩; have p265 : 0 ≤ (a2 : Int) := of_decide_eq_true (by first | (with_reducible assumption) | assumption); have q265 : a2 < (l1.length : Int) := of_decide_eq_true (by first | (with_reducible assumption) | assumption); obtain ⟨ad265, e265, hx265_0⟩ := Kd.at_int HR1.out a2 p265 q265; cases e265; have hn265_0 : ad265.block ≠ gb258 := Nat.ne_of_lt (Nat.lt_of_lt_of_le (by have := World.block_lt_of_cell? _ _ hx265_0; first | rwa [add_block] at this | exact this) GW258.out); have hn265_1 : ad265.block ≠ gb258 := Nat.ne_of_lt (Nat.lt_of_lt_of_le (by have := World.block_lt_of_cell? _ _ hx265_0; first | rwa [add_block] at this | exact this) GW258.out); replace hx265_0 := (HB.out.cell (World.block_lt_of_cell? w _ hx265_0)).trans hx265_0; replace hx265_0 := (cell_far (p := ⟨gb258, 0, none⟩) (by first | (rw [add_block]; exact hn265_0) | (show (Addr.add _ _).block ≠ _; rw [add_block]; exact hn265_0) | exact hn265_0) (.slice Ao11 t260.length co11)).trans hx265_0; replace hx265_0 := (cell_far (p := ⟨gb258, 1, none⟩) (by first | (rw [add_block]; exact hn265_1) | (show (Addr.add _ _).block ≠ _; rw [add_block]; exact hn265_1) | exact hn265_1) (.int .i64 t263)).trans hx265_0; clear hn265_0; clear hn265_1; replace p265 := eq_true p265; replace q265 := eq_true q265))
              go_meet
              case rel => exact ⟨_, (((rd l1 a2) == 0)), (by first | rfl | (simp; done) | (simp [*]; done)), H', ⟨by first | omega | exact Nat.le_refl _⟩, ⟨by (with_reducible repeat (first | apply Kd.V_alloc | apply Kd.V_drewN | apply Kd.V_drew)); exact Kd.V_mono (Kd.V_far (p := ⟨gb258, 1, none⟩) (Kd.V_far (p := ⟨gb258, 0, none⟩) (Kd.V_mono HO262.out (fun k_ hk => (⟨hk, hk.2.1⟩ : _ ∧ k_ ≠ gb258))) (fun _ hk => hk.2) (.slice Ao11 t260.length co11)) (fun _ hk => hk.2) (.int .i64 t263)) (fun _ hk => ⟨hk.1.1, ⟨hk.1.2.1, hk.1.2.2⟩⟩)⟩, ⟨by (with_reducible repeat (first | refine blk_drewN ?_ _ | refine blk_drew ?_ | refine blk_alloc ?_ _)); refine blk_put (cs := #[.slice Ao11 t260.length co11, .int .i64 a0_1]) ?_ 1 _ rfl; (with_reducible repeat (first | refine blk_drewN ?_ _ | refine blk_drew ?_ | refine blk_alloc ?_ _)); refine blk_put (cs := #[.slice A0_0 l0_0.length c0_0, .int .i64 a0_1]) ?_ 0 _ rfl; (with_reducible repeat (first | refine blk_drewN ?_ _ | refine blk_drew ?_ | refine blk_alloc ?_ _)); exact BK258.out⟩, ⟨by (with_reducible repeat (first | refine blk_drewN ?_ _ | refine blk_drew ?_ | refine blk_alloc ?_ _)); refine blk_far ?_ NB259_258.out _; (with_reducible repeat (first | refine blk_drewN ?_ _ | refine blk_drew ?_ | refine blk_alloc ?_ _)); refine blk_far ?_ NB259_258.out _; (with_reducible repeat (first | refine blk_drewN ?_ _ | refine blk_drew ?_ | refine blk_alloc ?_ _)); exact BK259.out⟩, ⟨by repeat (first | (with_reducible first | exact HB.out | apply below_alloc | apply pw_below_drewN | apply below_drew1 | refine below_set ?_ GE258.out | refine below_set ?_ GE259.out) | exact HB.out)⟩⟩
            · rw [if_neg c18] at H
              exact absurd H (by simp)
          · rw [if_neg c17] at H
            exact absurd H (by simp)
    · replace c14 := Bool.eq_false_iff.mpr c14
      subst c14
      have H1 : (psalteryref04_Write.j0 k l1 a2 true t260 t263) = some (r1, r2, r3) := by rw [if_neg (show ¬ (false = true) by decide)] at H; exact H
      clear H
      have H := H1
      clear H1
      have H' := Aside0.mk H
      clear H
      go_wp2_with (first | ((with_reducible refine gate_callee (f := 12) rfl ?_); refine goesL_ (some 13) rfl rfl Try.func12 (by kernel_rfl) rfl #[.slice A1 l1.length c1] rfl (by (try simp only [List.map_toArray, List.map_cons, List.map_nil]); first | done | rfl | (simp only [List.length_drop, List.length_take]; rfl)) ?_; (with_reducible refine (psalteryref04_Right.calls k _ _ l1 false _ ?side1 ?side2 A13.out).mono ?_); (case side1 => exact Kd.C_below HR1.out (by repeat (first | (with_reducible first | exact HB.out | apply below_alloc | apply pw_below_drewN | apply below_drew1 | refine below_set ?_ GE258.out | refine below_set ?_ GE259.out) | exact HB.out))); (case side2 => exact HC1.out); rintro e w' ⟨rfl, ⟨nd, rfl⟩⟩; refine ⟨_, rfl, ?_⟩))
      go_meet
      case rel => exact ⟨_, (true), (by first | rfl | (simp; done) | (simp [*]; done)), H', ⟨by first | omega | exact Nat.le_refl _⟩, ⟨by (with_reducible repeat (first | apply Kd.V_alloc | apply Kd.V_drewN | apply Kd.V_drew)); exact Kd.V_mono (Kd.V_far (p := ⟨gb258, 1, none⟩) (Kd.V_far (p := ⟨gb258, 0, none⟩) (Kd.V_mono HO262.out (fun k_ hk => (⟨hk, hk.2.1⟩ : _ ∧ k_ ≠ gb258))) (fun _ hk => hk.2) (.slice Ao11 t260.length co11)) (fun _ hk => hk.2) (.int .i64 t263)) (fun _ hk => ⟨hk.1.1, ⟨hk.1.2.1, hk.1.2.2⟩⟩)⟩, ⟨by (with_reducible repeat (first | refine blk_drewN ?_ _ | refine blk_drew ?_ | refine blk_alloc ?_ _)); refine blk_put (cs := #[.slice Ao11 t260.length co11, .int .i64 a0_1]) ?_ 1 _ rfl; (with_reducible repeat (first | refine blk_drewN ?_ _ | refine blk_drew ?_ | refine blk_alloc ?_ _)); refine blk_put (cs := #[.slice A0_0 l0_0.length c0_0, .int .i64 a0_1]) ?_ 0 _ rfl; (with_reducible repeat (first | refine blk_drewN ?_ _ | refine blk_drew ?_ | refine blk_alloc ?_ _)); exact BK258.out⟩, ⟨by (with_reducible repeat (first | refine blk_drewN ?_ _ | refine blk_drew ?_ | refine blk_alloc ?_ _)); refine blk_far ?_ NB259_258.out _; (with_reducible repeat (first | refine blk_drewN ?_ _ | refine blk_drew ?_ | refine blk_alloc ?_ _)); refine blk_far ?_ NB259_258.out _; (with_reducible repeat (first | refine blk_drewN ?_ _ | refine blk_drew ?_ | refine blk_alloc ?_ _)); exact BK259.out⟩, ⟨by repeat (first | (with_reducible first | exact HB.out | apply below_alloc | apply pw_below_drewN | apply below_drew1 | refine below_set ?_ GE258.out | refine below_set ?_ GE259.out) | exact HB.out)⟩⟩
  case rest =>
    clear HC5
    try clear c1
    try clear c2
    try clear p2
    try clear q2
    try clear hx2
    try clear c8
    try clear c12
    try clear c14
    try clear c15
    try clear c15b0
    try clear c16
    try clear c16b0
    try clear c17
    try clear c17b0
    try clear c18
    try clear c18b0
    try clear hcz12_0
    try clear hcz12_1
    try clear hcz9_0
    try clear hcz9_1
    try clear hfz12_0
    try clear hfz12_1
    try clear hfz9_0
    try clear hfz9_1
    try clear hx265_0
    try clear p265
    try clear q265
    obtain ⟨kq, x31_4, rfl, HA, HJ4, HO_259000, BK258, BK259, HB⟩ := hcut
    cases kq with
    | zero => exact absurd HA.out (by simp [psalteryref04_Write.j0])
    | succ kj4 =>
      have H := HA.out
      clear HA
      simp only [psalteryref04_Write.j0] at H
      by_cases c19 : x31_4 = true
      · subst c19
        have H1 : (some (t260, t263, 1)) = some (r1, r2, r3) := by rw [if_pos rfl] at H; exact H
        clear H
        have H := H1
        clear H1
        simp only [Option.some.injEq, Prod.mk.injEq] at H
        obtain ⟨rfl, rfl, rfl⟩ := H
        have hnb20 := NB258_259.out
        have hnc20 := NB259_258.out
        have hcz21_0 : wc.cell? ⟨gb258, 0, none⟩ = some (.slice Ao11 t260.length co11) := (blk_cell BK258.out 0).trans rfl
        have hcz21_1 : wc.cell? ⟨gb258, 1, none⟩ = some (.int .i64 t263) := (blk_cell BK258.out 1).trans rfl
        have hfz21_0 := blk_frozen BK258.out 0
        have hfz21_1 := blk_frozen BK258.out 1
        have hcz22_0 : wc.cell? ⟨gb259, 0, none⟩ = some (.slice none 0 0) := (blk_cell BK259.out 0).trans rfl
        have hcz22_1 : wc.cell? ⟨gb259, 1, none⟩ = some (.int .i64 0) := (blk_cell BK259.out 1).trans rfl
        have hfz22_0 := blk_frozen BK259.out 0
        have hfz22_1 := blk_frozen BK259.out 1
        go_wp2
        refine bodyPost_ret (results_ct rfl _ _ gb259 38 #[.slice Ao11 t260.length co11, .int .i64 t263] (0, 0) _ rfl (by (with_reducible repeat (first | refine blk_drewN ?_ _ | refine blk_drew ?_ | refine blk_alloc ?_ _)); refine blk_put (cs := #[.slice Ao11 t260.length co11, .int .i64 0]) ?_ 1 _ rfl; (with_reducible repeat (first | refine blk_drewN ?_ _ | refine blk_drew ?_ | refine blk_alloc ?_ _)); refine blk_put (cs := #[.slice none 0 0, .int .i64 0]) ?_ 0 _ rfl; (with_reducible repeat (first | refine blk_drewN ?_ _ | refine blk_drew ?_ | refine blk_alloc ?_ _)); exact BK259.out) Try.underlying38 rfl (by kernel_rfl)) rfl ?_
        exact ⟨_, by first | rfl | (simp [errW_none, errW_some] <;> rfl) | (simp [*, errW_none, errW_some] <;> rfl), by (with_reducible repeat (first | apply Kd.V_alloc | apply Kd.V_drewN | apply Kd.V_drew)); exact Kd.V_mono (Kd.V_far (p := ⟨gb259, 1, none⟩) (Kd.V_far (p := ⟨gb259, 0, none⟩) (Kd.V_mono HO_259000.out (fun k_ hk => (⟨hk, hk.2.2⟩ : _ ∧ k_ ≠ gb259))) (fun _ hk => hk.2) (.slice Ao11 t260.length co11)) (fun _ hk => hk.2) (.int .i64 t263)) (fun _ hk => hk.1.1), by repeat (first | (with_reducible first | exact HB.out | apply below_alloc | apply pw_below_drewN | apply below_drew1 | refine below_set ?_ GE258.out | refine below_set ?_ GE259.out) | exact HB.out)⟩
      · replace c19 := Bool.eq_false_iff.mpr c19
        subst c19
        have H1 : ((psalteryref04_Code.f kj4 l1 a2).bind fun t266 => (if (wrap64 (t263 + (t266.length : Int))) > 32000 then (some (t260, t263, 3)) else ((some (([] : List Int) : List Int)).bind fun y269 => ((psalteryref01_Bits.f kj4 t260).bind fun t272 => (if 0 ≤ t263 then (if t263 ≤ (t272.length : Int) then ((some (t272.take (t263 : Int).toNat : List Int)).bind fun y275 => (if y269.length + y275.length < 17592186044416 then ((some (y269 ++ y275 : List Int)).bind fun y279 => (if y279.length + t266.length < 17592186044416 then ((some (y279 ++ t266 : List Int)).bind fun y282 => ((psalteryref01_Bytes.f kj4 y282).bind fun t285 => (some (t285, (y282.length : Int), 0)))) else (none))) else (none))) else (none)) else (none)))))) = some (r1, r2, r3) := by rw [if_neg (show ¬ (false = true) by decide)] at H; exact H
        clear H
        have H := H1
        clear H1
        replace H := Option.bind_eq_some_iff.mp H
        obtain ⟨t266, A230, H⟩ := H
        replace H : (if (wrap64 (t263 + (t266.length : Int))) > 32000 then (some (t260, t263, 3)) else ((some (([] : List Int) : List Int)).bind fun y269 => ((psalteryref01_Bits.f kj4 t260).bind fun t272 => (if 0 ≤ t263 then (if t263 ≤ (t272.length : Int) then ((some (t272.take (t263 : Int).toNat : List Int)).bind fun y275 => (if y269.length + y275.length < 17592186044416 then ((some (y269 ++ y275 : List Int)).bind fun y279 => (if y279.length + t266.length < 17592186044416 then ((some (y279 ++ t266 : List Int)).bind fun y282 => ((psalteryref01_Bytes.f kj4 y282).bind fun t285 => (some (t285, (y282.length : Int), 0)))) else (none))) else (none))) else (none)) else (none))))) = some (r1, r2, r3) := H
        have A23 := Aside0.mk A230
        clear A230
        by_cases c24 : (wrap64 (t263 + (t266.length : Int))) > 32000
        · rw [if_pos c24] at H
          have c24b0 : decide (32000 < (wrap64 (t263 + (t266.length : Int)))) = true := decide_eq_true c24
          clear c24
          simp only [Option.some.injEq, Prod.mk.injEq] at H
          obtain ⟨rfl, rfl, rfl⟩ := H
          go_wp2_with (first | ((with_reducible refine gate_callee (f := 15) rfl ?_); refine goesL_ (some 35) rfl rfl Try.func15 (by kernel_rfl) rfl #[.slice A1 l1.length c1, .int .i64 a2] rfl (by (try simp only [List.map_toArray, List.map_cons, List.map_nil]); first | done | rfl | (simp only [List.length_drop, List.length_take]; rfl)) ?_; (with_reducible refine (psalteryref04_Code.calls kj4 _ _ l1 a2 t266 _ ?side1 ?side2 A23.out).mono ?_); (case side1 => repeat (first | exact (Kd.C_below HR1.out HB.out) | (with_reducible refine Kd.C_alloc ?_ _) | (with_reducible refine Kd.C_drewN ?_ _) | (with_reducible refine Kd.C_drew ?_))); (case side2 => exact HC1.out); rintro e w25 ⟨v267, rfl, ho0, hb⟩; refine ⟨_, rfl, ?_⟩; have n0_ := Aside0.mk (Kd.V_elder' (by (with_reducible repeat (first | apply Kd.V_alloc | apply Kd.V_drewN | apply Kd.V_drew)); exact HO_259000.out) (Kd.R_base ho0) hb); have n1_ := Aside0.mk (Kd.R_lower (Kd.R_newM (M := fun k_ => (w.heap.size ≤ k_)) ho0 (below_size (by repeat (first | (with_reducible first | exact HB.out | apply below_alloc | apply pw_below_drewN | apply below_drew1 | refine below_set ?_ GE258.out | refine below_set ?_ GE259.out) | exact HB.out))) (fun k_ h_ => h_)) (below_size (by repeat (first | (with_reducible first | exact HB.out | apply below_alloc | apply pw_below_drewN | apply below_drew1 | refine below_set ?_ GE258.out | refine below_set ?_ GE259.out) | exact HB.out)))); have n2_ := Aside0.mk (blk_below (g := gb258) (o := .cells #[.slice Ao11 t260.length co11, .int .i64 t263] 38 (0, 0)) (by (with_reducible repeat (first | refine blk_drewN ?_ _ | refine blk_drew ?_ | refine blk_alloc ?_ _)); exact BK258.out) hb); have n3_ := Aside0.mk (blk_below (g := gb259) (o := .cells #[.slice none 0 0, .int .i64 0] 38 (0, 0)) (by (with_reducible repeat (first | refine blk_drewN ?_ _ | refine blk_drew ?_ | refine blk_alloc ?_ _)); exact BK259.out) hb); have n4_ := Aside0.mk (below_step (by repeat (first | (with_reducible first | exact HB.out | apply below_alloc | apply pw_below_drewN | apply below_drew1 | refine below_set ?_ GE258.out | refine below_set ?_ GE259.out) | exact HB.out)) hb); clear HO_259000; clear BK258; clear BK259; clear HB; have HO_259000 := n0_; have HO268 := n1_; have BK258 := n2_; have BK259 := n3_; have HB := n4_; clear n0_ n1_ n2_ n3_ n4_; (try clear hb); (try clear hb2); (try clear hk); (try clear hi); (try clear ho0); have hnb26 := NB258_259.out; have hnc26 := NB259_258.out; have hcz27_0 : w25.cell? ⟨gb258, 0, none⟩ = some (.slice Ao11 t260.length co11) := (blk_cell BK258.out 0).trans rfl; have hcz27_1 : w25.cell? ⟨gb258, 1, none⟩ = some (.int .i64 t263) := (blk_cell BK258.out 1).trans rfl; have hfz27_0 := blk_frozen BK258.out 0; have hfz27_1 := blk_frozen BK258.out 1; obtain ⟨Ao28, co28, eo28⟩ := Kd.R_slice HO268.out; subst eo28; have hcz29_0 : w25.cell? ⟨gb259, 0, none⟩ = some (.slice none 0 0) := (blk_cell BK259.out 0).trans rfl; have hcz29_1 : w25.cell? ⟨gb259, 1, none⟩ = some (.int .i64 0) := (blk_cell BK259.out 1).trans rfl; have hfz29_0 := blk_frozen BK259.out 0; have hfz29_1 := blk_frozen BK259.out 1))
          refine bodyPost_ret (results_ct rfl _ _ gb259 38 #[.slice Ao11 t260.length co11, .int .i64 t263] (0, 0) _ rfl (by (with_reducible repeat (first | refine blk_drewN ?_ _ | refine blk_drew ?_ | refine blk_alloc ?_ _)); refine blk_put (cs := #[.slice Ao11 t260.length co11, .int .i64 0]) ?_ 1 _ rfl; (with_reducible repeat (first | refine blk_drewN ?_ _ | refine blk_drew ?_ | refine blk_alloc ?_ _)); refine blk_put (cs := #[.slice none 0 0, .int .i64 0]) ?_ 0 _ rfl; (with_reducible repeat (first | refine blk_drewN ?_ _ | refine blk_drew ?_ | refine blk_alloc ?_ _)); exact BK259.out) Try.underlying38 rfl (by kernel_rfl)) rfl ?_
          exact ⟨_, by first | rfl | (simp [errW_none, errW_some] <;> rfl) | (simp [*, errW_none, errW_some] <;> rfl), by (with_reducible repeat (first | apply Kd.V_alloc | apply Kd.V_drewN | apply Kd.V_drew)); exact Kd.V_mono (Kd.V_far (p := ⟨gb259, 1, none⟩) (Kd.V_far (p := ⟨gb259, 0, none⟩) (Kd.V_mono HO_259000.out (fun k_ hk => (⟨hk, hk.1.2.2⟩ : _ ∧ k_ ≠ gb259))) (fun _ hk => hk.2) (.slice Ao11 t260.length co11)) (fun _ hk => hk.2) (.int .i64 t263)) (fun _ hk => hk.1.1.1), by repeat (first | (with_reducible first | exact HB.out | apply below_alloc | apply pw_below_drewN | apply below_drew1 | refine below_set ?_ GE258.out | refine below_set ?_ GE259.out) | exact HB.out)⟩
        · rw [if_neg c24] at H
          have c24b0 : decide (32000 < (wrap64 (t263 + (t266.length : Int)))) = false := decide_eq_false c24
          clear c24
          obtain ⟨y269, hy269⟩ : ∃ y_ : List Int, y_ = (([] : List Int)) := ⟨_, rfl⟩
          replace H : ((psalteryref01_Bits.f kj4 t260).bind fun t272 => (if 0 ≤ t263 then (if t263 ≤ (t272.length : Int) then ((some (t272.take (t263 : Int).toNat : List Int)).bind fun y275 => (if y269.length + y275.length < 17592186044416 then ((some (y269 ++ y275 : List Int)).bind fun y279 => (if y279.length + t266.length < 17592186044416 then ((some (y279 ++ t266 : List Int)).bind fun y282 => ((psalteryref01_Bytes.f kj4 y282).bind fun t285 => (some (t285, (y282.length : Int), 0)))) else (none))) else (none))) else (none)) else (none))) = some (r1, r2, r3) := by first | (rw [hy269]; with_reducible exact H) | (have H2_ := (Option.bind_some _ _).symm.trans H; rw [hy269]; with_reducible exact H2_) | (have H2_ := (Option.bind_some _ _).symm.trans H; with_reducible exact H2_) | with_reducible exact H | (rw [hy269]; exact H) | exact H
          have Ny269 := Aside0.mk hy269
          clear hy269
          replace H := Option.bind_eq_some_iff.mp H
          obtain ⟨t272, A300, H⟩ := H
          replace H : (if 0 ≤ t263 then (if t263 ≤ (t272.length : Int) then ((some (t272.take (t263 : Int).toNat : List Int)).bind fun y275 => (if y269.length + y275.length < 17592186044416 then ((some (y269 ++ y275 : List Int)).bind fun y279 => (if y279.length + t266.length < 17592186044416 then ((some (y279 ++ t266 : List Int)).bind fun y282 => ((psalteryref01_Bytes.f kj4 y282).bind fun t285 => (some (t285, (y282.length : Int), 0)))) else (none))) else (none))) else (none)) else (none)) = some (r1, r2, r3) := H
          have A30 := Aside0.mk A300
          clear A300
          by_cases c31 : 0 ≤ t263
          · rw [if_pos c31] at H
            have c31b0 := eq_true c31
            have c31b1 : decide (0 ≤ t263) = true := decide_eq_true c31
            clear c31
            by_cases c32 : t263 ≤ (t272.length : Int)
            · rw [if_pos c32] at H
              have c32b0 := eq_true c32
              have c32b1 : decide (t263 ≤ (t272.length : Int)) = true := decide_eq_true c32
              clear c32
              obtain ⟨y275, hy275⟩ : ∃ y_ : List Int, y_ = (t272.take (t263 : Int).toNat) := ⟨_, rfl⟩
              replace H : (if y269.length + y275.length < 17592186044416 then ((some (y269 ++ y275 : List Int)).bind fun y279 => (if y279.length + t266.length < 17592186044416 then ((some (y279 ++ t266 : List Int)).bind fun y282 => ((psalteryref01_Bytes.f kj4 y282).bind fun t285 => (some (t285, (y282.length : Int), 0)))) else (none))) else (none)) = some (r1, r2, r3) := by first | (rw [hy275]; with_reducible exact H) | (have H2_ := (Option.bind_some _ _).symm.trans H; rw [hy275]; with_reducible exact H2_) | (have H2_ := (Option.bind_some _ _).symm.trans H; with_reducible exact H2_) | with_reducible exact H | (rw [hy275]; exact H) | exact H
              have Ny275 := Aside0.mk hy275
              clear hy275
              by_cases c33 : y269.length + y275.length < 17592186044416
              · rw [if_pos c33] at H
                have LMc33 := Aside0.mk c33
                clear c33
                obtain ⟨y279, hy279⟩ : ∃ y_ : List Int, y_ = (y269 ++ y275) := ⟨_, rfl⟩
                replace H : (if y279.length + t266.length < 17592186044416 then ((some (y279 ++ t266 : List Int)).bind fun y282 => ((psalteryref01_Bytes.f kj4 y282).bind fun t285 => (some (t285, (y282.length : Int), 0)))) else (none)) = some (r1, r2, r3) := by first | (rw [hy279]; with_reducible exact H) | (have H2_ := (Option.bind_some _ _).symm.trans H; rw [hy279]; with_reducible exact H2_) | (have H2_ := (Option.bind_some _ _).symm.trans H; with_reducible exact H2_) | with_reducible exact H | (rw [hy279]; exact H) | exact H
                have Ny279 := Aside0.mk hy279
                clear hy279
                by_cases c34 : y279.length + t266.length < 17592186044416
                · rw [if_pos c34] at H
                  have LMc34 := Aside0.mk c34
                  clear c34
                  obtain ⟨y282, hy282⟩ : ∃ y_ : List Int, y_ = (y279 ++ t266) := ⟨_, rfl⟩
                  replace H : ((psalteryref01_Bytes.f kj4 y282).bind fun t285 => (some (t285, (y282.length : Int), 0))) = some (r1, r2, r3) := by first | (rw [hy282]; with_reducible exact H) | (have H2_ := (Option.bind_some _ _).symm.trans H; rw [hy282]; with_reducible exact H2_) | (have H2_ := (Option.bind_some _ _).symm.trans H; with_reducible exact H2_) | with_reducible exact H | (rw [hy282]; exact H) | exact H
                  have Ny282 := Aside0.mk hy282
                  clear hy282
                  replace H := Option.bind_eq_some_iff.mp H
                  obtain ⟨t285, A350, H⟩ := H
                  replace H : (some (t285, (y282.length : Int), 0)) = some (r1, r2, r3) := H
                  have A35 := Aside0.mk A350
                  clear A350
                  simp only [Option.some.injEq, Prod.mk.injEq] at H
                  obtain ⟨rfl, rfl, rfl⟩ := H
                  go_upto_region 7 with (first | ((with_reducible refine gate_callee (f := 15) rfl ?_); refine goesL_ (some 35) rfl rfl Try.func15 (by kernel_rfl) rfl #[.slice A1 l1.length c1, .int .i64 a2] rfl (by (try simp only [List.map_toArray, List.map_cons, List.map_nil]); first | done | rfl | (simp only [List.length_drop, List.length_take]; rfl)) ?_; (with_reducible refine (psalteryref04_Code.calls kj4 _ _ l1 a2 t266 _ ?side1 ?side2 A23.out).mono ?_); (case side1 => repeat (first | exact (Kd.C_below HR1.out HB.out) | (with_reducible refine Kd.C_alloc ?_ _) | (with_reducible refine Kd.C_drewN ?_ _) | (with_reducible refine Kd.C_drew ?_))); (case side2 => exact HC1.out); rintro e w36 ⟨v267, rfl, ho0, hb⟩; refine ⟨_, rfl, ?_⟩; have n0_ := Aside0.mk (Kd.V_elder' (by (with_reducible repeat (first | apply Kd.V_alloc | apply Kd.V_drewN | apply Kd.V_drew)); exact HO_259000.out) (Kd.R_base ho0) hb); have n1_ := Aside0.mk (Kd.R_lower (Kd.R_newM (M := fun k_ => (w.heap.size ≤ k_)) ho0 (below_size (by repeat (first | (with_reducible first | exact HB.out | apply below_alloc | apply pw_below_drewN | apply below_drew1 | refine below_set ?_ GE258.out | refine below_set ?_ GE259.out) | exact HB.out))) (fun k_ h_ => h_)) (below_size (by repeat (first | (with_reducible first | exact HB.out | apply below_alloc | apply pw_below_drewN | apply below_drew1 | refine below_set ?_ GE258.out | refine below_set ?_ GE259.out) | exact HB.out)))); have n2_ := Aside0.mk (blk_below (g := gb258) (o := .cells #[.slice Ao11 t260.length co11, .int .i64 t263] 38 (0, 0)) (by (with_reducible repeat (first | refine blk_drewN ?_ _ | refine blk_drew ?_ | refine blk_alloc ?_ _)); exact BK258.out) hb); have n3_ := Aside0.mk (blk_below (g := gb259) (o := .cells #[.slice none 0 0, .int .i64 0] 38 (0, 0)) (by (with_reducible repeat (first | refine blk_drewN ?_ _ | refine blk_drew ?_ | refine blk_alloc ?_ _)); exact BK259.out) hb); have n4_ := Aside0.mk (below_step (by repeat (first | (with_reducible first | exact HB.out | apply below_alloc | apply pw_below_drewN | apply below_drew1 | refine below_set ?_ GE258.out | refine below_set ?_ GE259.out) | exact HB.out)) hb); clear HO_259000; clear BK258; clear BK259; clear HB; have HO_259000 := n0_; have HO268 := n1_; have BK258 := n2_; have BK259 := n3_; have HB := n4_; clear n0_ n1_ n2_ n3_ n4_; (try clear hb); (try clear hb2); (try clear hk); (try clear hi); (try clear ho0); have hnb37 := NB258_259.out; have hnc37 := NB259_258.out; have hcz38_0 : w36.cell? ⟨gb258, 0, none⟩ = some (.slice Ao11 t260.length co11) := (blk_cell BK258.out 0).trans rfl; have hcz38_1 : w36.cell? ⟨gb258, 1, none⟩ = some (.int .i64 t263) := (blk_cell BK258.out 1).trans rfl; have hfz38_0 := blk_frozen BK258.out 0; have hfz38_1 := blk_frozen BK258.out 1; obtain ⟨Ao39, co39, eo39⟩ := Kd.R_slice HO268.out; subst eo39))
                  have n0_ := Aside0.mk (Kd.V_drew HO_259000.out)
                  have n1_ := Aside0.mk (Kd.R_drew HO268.out)
                  have n2_ := Aside0.mk (blk_drew BK258.out)
                  have n3_ := Aside0.mk (blk_drew BK259.out)
                  have n4_ := Aside0.mk (below_drew1 HB.out)
                  clear HO_259000 HO268 BK258 BK259 HB
                  have HV := n0_
                  have HC8 := n1_
                  have BK258 := n2_
                  have BK259 := n3_
                  have HB := n4_
                  clear n0_ n1_ n2_ n3_ n4_
                  refine start_ (n := 9) (S := fun w' => w'.cell? ⟨gb258, 0, none⟩ = some (.slice Ao11 t260.length co11) ∧ w'.cell? ⟨gb258, 1, none⟩ = some (.int .i64 t263)) (ds := []) #[false, false, false, false, false, false, false, false, false] (by kernel_rfl) rfl rfl ⟨(blk_cell BK258.out 0).trans rfl, (blk_cell BK258.out 1).trans rfl⟩ (fun hHeld => ?_)
                  generalize w36.drew = wd at HV HC8 BK258 BK259 HB hHeld ⊢
                  refine pure_ (i := 1) (N := some 44) (v := ?_) (a' := ?_) #[false, true, false, false, false, false, false, false, false] rfl rfl (by kernel_rfl) (fun _ _ _ h => h) (Or.inl ⟨by rfl, ?_⟩) ?_ ?_
                  rotate_left
                  · intro w'
                    go_simp
                    with_reducible rfl
                  rotate_left
                  · simp only [Act.put, List.setIfInBounds_toArray, List.set_cons_zero, List.set_cons_succ, i64_w, i32_w]
                    rfl
                  refine pure_ (i := 4) (N := some 47) (v := ?_) (a' := ?_) #[false, true, false, false, true, false, false, false, false] rfl rfl (by kernel_rfl) (fun _ _ _ h => h) (Or.inl ⟨by rfl, ?_⟩) ?_ ?_
                  rotate_left
                  · intro w'
                    go_simp
                    with_reducible rfl
                  rotate_left
                  · simp only [Act.put, List.setIfInBounds_toArray, List.set_cons_zero, List.set_cons_succ, i64_w, i32_w]
                    rfl
                  refine take_ (i := 2) (N := some 45) (v := ?_) (a' := ?_) #[false, true, true, false, true, false, false, false, false] rfl rfl (by kernel_rfl) (fun _ _ _ h => h) (Or.inl ⟨by rfl, ?_⟩) hHeld ?_ ?_
                  rotate_left
                  · rintro w' ⟨s0, s1⟩
                    go_simp
                    with_reducible rfl
                  rotate_left
                  · simp only [Act.put, List.setIfInBounds_toArray, List.set_cons_zero, List.set_cons_succ, i64_w, i32_w]
                    rfl
                  refine take_ (i := 5) (N := some 48) (v := ?_) (a' := ?_) #[false, true, true, false, true, true, false, false, false] rfl rfl (by kernel_rfl) (fun _ _ _ h => h) (Or.inl ⟨by rfl, ?_⟩) hHeld ?_ ?_
                  rotate_left
                  · rintro w' ⟨s0, s1⟩
                    go_simp
                    with_reducible rfl
                  rotate_left
                  · simp only [Act.put, List.setIfInBounds_toArray, List.set_cons_zero, List.set_cons_succ, i64_w, i32_w]
                    rfl
                  refine join_ (σ := Value × Value × Value) 2 #[true, true, true, true, true, true, true, false, false] (fun s_ => [(43, s_.1), (46, s_.2.1), (49, s_.2.2)]) ((fun s_ w' => (w'.cell? ⟨gb258, 0, none⟩ = some (.slice Ao11 t260.length co11) ∧ w'.cell? ⟨gb258, 1, none⟩ = some (.int .i64 t263)) ∧ (Kd.R (Kd.int .i64) 3 w' w.heap.size (fun k_ => (w.heap.size ≤ k_) ∧ some k_ ≠ (s_.1 : Value).ownBlock) (.slice Ao39 t266.length co39) t266) ∧ (Kd.R (Kd.int .i64) 3 w' w.heap.size (fun k_ => (w.heap.size ≤ k_)) s_.1 y269) ∧ (w'.heap[gb258]? = some (.cells #[.slice Ao11 t260.length co11, .int .i64 t263] 38 (0, 0))) ∧ (w'.heap[gb259]? = some (.cells #[.slice none 0 0, .int .i64 0] 38 (0, 0))) ∧ (Below w.heap.size w w') ∧ (∃ (A_ : Option Addr) (c_ : Nat), s_.2.2 = .slice A_ y275.length c_ ∧ y275.length ≤ c_ ∧ Kd.C (Kd.int .i64) w' A_ y275.length y275))) ?_ ?_
                  rotate_left
                  · intro hCont
                    refine two_ (i := 0) (j := 3) (Ni := some 43) (Nj := some 46) #[true, true, true, false, true, true, false, false, false] #[false, true, true, true, true, true, false, false, false] rfl rfl rfl rfl (by kernel_rfl) (by decide) (by decide) (fun K hK => ?_) (fun K hK => ?_)
                    · skip
                      refine Kd.R_lit_step (Kd.int .i64) (w0 := _) _ 3 (by rfl) (N := 43) rfl (xs := ([] : List Int)) (inner := []) (ok := fun _ => True) (okp := fun _ => True) ?hr ?hp (fun _ hk => hk) trivial (Below.refl _ _) (Nat.le_refl _) (by simp) ?_
                      (case hr => first | (go_simp; done) | (go_simp; rfl))
                      (case hp => exact (Reps.none _ _))
                      intro v270 wA ho hb hg_ hnew_
                      clear hg_ hnew_
                      rw [← Ny269.out] at ho
                      have n0_ := Aside0.mk (Kd.R_elder' HC8.out (Kd.R_base ho) hb)
                      have n1_ := Aside0.mk (Kd.R_mono (Kd.R_lower (Kd.R_newM (M := fun k_ => (w.heap.size ≤ k_)) ho (below_size HB.out) (fun k_ h_ => h_)) (below_size HB.out)) (fun _ hk => hk.1))
                      have n2_ := Aside0.mk (blk_below BK258.out hb)
                      have n3_ := Aside0.mk (blk_below BK259.out hb)
                      have n4_ := Aside0.mk (below_step HB.out hb)
                      have n5_ := Aside0.mk (Kd.V_below HV.out hb)
                      clear HV
                      have HV := n5_
                      clear n5_
                      clear HC8 BK258 BK259 HB
                      have HC8 := n0_
                      have HLIT := n1_
                      have BK258 := n2_
                      have BK259 := n3_
                      have HB := n4_
                      clear n0_ n1_ n2_ n3_ n4_
                      clear hb ho
                      refine hK.out _ _ ⟨(blk_cell BK258.out 0).trans rfl, (blk_cell BK258.out 1).trans rfl⟩ (fun hHeld => ?_)
                      clear hK K
                      refine norm_ (a' := ?_) ?_ ?_
                      rotate_left
                      · show Act.put _ (some 43) _ = _
                        simp only [Act.put, List.setIfInBounds_toArray, List.set_cons_zero, List.set_cons_succ, i64_w, i32_w]
                        rfl
                      refine one_ (i := 3) (N := some 46) #[true, true, true, true, true, true, false, false, false] rfl rfl (by kernel_rfl) (by decide) (fun K hK => ?_)
                      refine goes_ Try.func28 (by kernel_rfl) rfl #[.slice Ao11 t260.length co11] (by rfl) rfl rfl (by (try simp only [List.map_toArray, List.map_cons, List.map_nil]); first | done | rfl | (simp only [List.length_drop, List.length_take]; rfl)) ?_
                      with_reducible refine (psalteryref01_Bits.calls kj4 _ _ t260 t272 _ ?side1 ?side2 A30.out).mono ?_
                      (case side1 => exact (Kd.V_reads' HV.out).2.2)
                      (case side2 => exact (Kd.V_reads' HV.out).2.1)
                      rintro e wB ⟨v273, rfl, ho0, hb⟩
                      refine ⟨_, rfl, ?_⟩
                      have n0_ := Aside0.mk (Kd.R_below HC8.out hb)
                      have n1_ := Aside0.mk (Kd.R_below HLIT.out hb)
                      clear HLIT
                      have HLIT := n1_
                      clear n1_
                      have n2_ := Aside0.mk (blk_below BK258.out hb)
                      have n3_ := Aside0.mk (blk_below BK259.out hb)
                      have n4_ := Aside0.mk (below_step HB.out hb)
                      clear HC8 BK258 BK259 HB
                      have HC8 := n0_
                      have BK258 := n2_
                      have BK259 := n3_
                      have HB := n4_
                      clear n0_ n2_ n3_ n4_
                      obtain ⟨Ao46, co46, eo46⟩ := Kd.R_slice ho0
                      subst eo46
                      have q45 : (t263 : Int) ≤ ((t272.length : Int) : Int) := of_decide_eq_true (by first | (with_reducible assumption) | assumption)
                      obtain ⟨i045, hi045, _, hsz45, _⟩ := info_parts info3
                      have hroom45 : t272.length ≤ co46 := (Kd.R_reads' ho0).2.1
                      have hC45 : Kd.C (Kd.int .i64) _ Ao46 t272.length t272 := (Kd.R_reads' ho0).2.2
                      have hcut45 := cut_to (P := Try.prog) 22 3 .i64 Try.underlying22 hi045 Ao46 t272.length co46 t263 (of_decide_eq_true (by first | (with_reducible assumption) | assumption)) q45 hroom45
                      have hr45 := Kd.C_take (m := (t263 : Int).toNat) hC45 (by omega)
                      have hy45 : y275.length = (t263 : Int).toNat := (by rw [Ny275.out, List.length_take]; omega)
                      rw [← Ny275.out] at hr45
                      rw [← hy45] at hcut45
                      have HCUT := Aside0.mk hr45
                      have HCL := Aside0.mk (show y275.length ≤ co46 from by omega)
                      clear hr45 hC45 hroom45 hi045 hsz45 hy45 ho0 hb
                      replace q45 := eq_true q45
                      refine hK.out _ _ ⟨(blk_cell BK258.out 0).trans rfl, (blk_cell BK258.out 1).trans rfl⟩ (fun hHeld => ?_)
                      clear hK K
                      refine norm_ (a' := ?_) ?_ ?_
                      rotate_left
                      · show Act.put _ (some 46) _ = _
                        simp only [Act.put, List.setIfInBounds_toArray, List.set_cons_zero, List.set_cons_succ, i64_w, i32_w]
                        rfl
                      refine pure_ (i := 6) (N := some 49) (v := ?_) (a' := ?_) #[true, true, true, true, true, true, true, false, false] rfl rfl (by kernel_rfl) (fun _ _ _ h => h) (Or.inl ⟨by rfl, ?_⟩) ?_ ?_
                      rotate_left
                      · intro w'
                        go_simp
                        with_reducible rfl
                      rotate_left
                      · simp only [Act.put, List.setIfInBounds_toArray, List.set_cons_zero, List.set_cons_succ, i64_w, i32_w]
                        rfl
                      exact norm_ (by simp only [putAll, Act.put, List.setIfInBounds_toArray, List.set_cons_zero, List.set_cons_succ]) (hCont ⟨v270, .slice Ao46 t272.length co46, .slice Ao46 y275.length co46⟩ _ ⟨⟨(blk_cell BK258.out 0).trans rfl, (blk_cell BK258.out 1).trans rfl⟩, Kd.R_mono HC8.out (fun _ hk => ⟨hk.1.1, hk.2⟩), HLIT.out, BK258.out, BK259.out, HB.out, ⟨Ao46, co46, rfl, HCL.out, HCUT.out⟩⟩)
                    · skip
                      refine goes_ Try.func28 (by kernel_rfl) rfl #[.slice Ao11 t260.length co11] (by rfl) rfl rfl (by (try simp only [List.map_toArray, List.map_cons, List.map_nil]); first | done | rfl | (simp only [List.length_drop, List.length_take]; rfl)) ?_
                      with_reducible refine (psalteryref01_Bits.calls kj4 _ _ t260 t272 _ ?side1 ?side2 A30.out).mono ?_
                      (case side1 => exact (Kd.V_reads' HV.out).2.2)
                      (case side2 => exact (Kd.V_reads' HV.out).2.1)
                      rintro e wB ⟨v273, rfl, ho0, hb⟩
                      refine ⟨_, rfl, ?_⟩
                      have n0_ := Aside0.mk (Kd.R_below HC8.out hb)
                      have n2_ := Aside0.mk (blk_below BK258.out hb)
                      have n3_ := Aside0.mk (blk_below BK259.out hb)
                      have n4_ := Aside0.mk (below_step HB.out hb)
                      clear HC8 BK258 BK259 HB
                      have HC8 := n0_
                      have BK258 := n2_
                      have BK259 := n3_
                      have HB := n4_
                      clear n0_ n2_ n3_ n4_
                      obtain ⟨Ao46, co46, eo46⟩ := Kd.R_slice ho0
                      subst eo46
                      have q45 : (t263 : Int) ≤ ((t272.length : Int) : Int) := of_decide_eq_true (by first | (with_reducible assumption) | assumption)
                      obtain ⟨i045, hi045, _, hsz45, _⟩ := info_parts info3
                      have hroom45 : t272.length ≤ co46 := (Kd.R_reads' ho0).2.1
                      have hC45 : Kd.C (Kd.int .i64) _ Ao46 t272.length t272 := (Kd.R_reads' ho0).2.2
                      have hcut45 := cut_to (P := Try.prog) 22 3 .i64 Try.underlying22 hi045 Ao46 t272.length co46 t263 (of_decide_eq_true (by first | (with_reducible assumption) | assumption)) q45 hroom45
                      have hr45 := Kd.C_take (m := (t263 : Int).toNat) hC45 (by omega)
                      have hy45 : y275.length = (t263 : Int).toNat := (by rw [Ny275.out, List.length_take]; omega)
                      rw [← Ny275.out] at hr45
                      rw [← hy45] at hcut45
                      have HCUT := Aside0.mk hr45
                      have HCL := Aside0.mk (show y275.length ≤ co46 from by omega)
                      clear hr45 hC45 hroom45 hi045 hsz45 hy45 ho0 hb
                      replace q45 := eq_true q45
                      refine hK.out _ _ ⟨(blk_cell BK258.out 0).trans rfl, (blk_cell BK258.out 1).trans rfl⟩ (fun hHeld => ?_)
                      clear hK K
                      refine norm_ (a' := ?_) ?_ ?_
                      rotate_left
                      · show Act.put _ (some 46) _ = _
                        simp only [Act.put, List.setIfInBounds_toArray, List.set_cons_zero, List.set_cons_succ, i64_w, i32_w]
                        rfl
                      refine pure_ (i := 6) (N := some 49) (v := ?_) (a' := ?_) #[false, true, true, true, true, true, true, false, false] rfl rfl (by kernel_rfl) (fun _ _ _ h => h) (Or.inl ⟨by rfl, ?_⟩) ?_ ?_
                      rotate_left
                      · intro w'
                        go_simp
                        with_reducible rfl
                      rotate_left
                      · simp only [Act.put, List.setIfInBounds_toArray, List.set_cons_zero, List.set_cons_succ, i64_w, i32_w]
                        rfl
                      refine one_ (i := 0) (N := some 43) #[true, true, true, true, true, true, true, false, false] rfl rfl (by kernel_rfl) (by decide) (fun K hK => ?_)
                      refine Kd.R_lit_step (Kd.int .i64) (w0 := _) _ 3 (by rfl) (N := 43) rfl (xs := ([] : List Int)) (inner := []) (ok := fun _ => True) (okp := fun _ => True) ?hr ?hp (fun _ hk => hk) trivial (Below.refl _ _) (Nat.le_refl _) (by simp) ?_
                      (case hr => first | (go_simp; done) | (go_simp; rfl))
                      (case hp => exact (Reps.none _ _))
                      intro v270 wA ho hb hg_ hnew_
                      clear hg_ hnew_
                      rw [← Ny269.out] at ho
                      have n0_ := Aside0.mk (Kd.R_elder' HC8.out (Kd.R_base ho) hb)
                      have n1_ := Aside0.mk (Kd.R_mono (Kd.R_lower (Kd.R_newM (M := fun k_ => (w.heap.size ≤ k_)) ho (below_size HB.out) (fun k_ h_ => h_)) (below_size HB.out)) (fun _ hk => hk.1))
                      have n2_ := Aside0.mk (blk_below BK258.out hb)
                      have n3_ := Aside0.mk (blk_below BK259.out hb)
                      have n4_ := Aside0.mk (below_step HB.out hb)
                      have n5_ := Aside0.mk (Kd.C_below HCUT.out hb)
                      clear HCUT
                      have HCUT := n5_
                      clear n5_
                      clear HC8 BK258 BK259 HB
                      have HC8 := n0_
                      have HLIT := n1_
                      have BK258 := n2_
                      have BK259 := n3_
                      have HB := n4_
                      clear n0_ n1_ n2_ n3_ n4_
                      clear hb ho
                      refine hK.out _ _ ⟨(blk_cell BK258.out 0).trans rfl, (blk_cell BK258.out 1).trans rfl⟩ (fun hHeld => ?_)
                      clear hK K
                      refine norm_ (a' := ?_) ?_ ?_
                      rotate_left
                      · show Act.put _ (some 43) _ = _
                        simp only [Act.put, List.setIfInBounds_toArray, List.set_cons_zero, List.set_cons_succ, i64_w, i32_w]
                        rfl
                      exact norm_ (by simp only [putAll, Act.put, List.setIfInBounds_toArray, List.set_cons_zero, List.set_cons_succ]) (hCont ⟨v270, .slice Ao46 t272.length co46, .slice Ao46 y275.length co46⟩ _ ⟨⟨(blk_cell BK258.out 0).trans rfl, (blk_cell BK258.out 1).trans rfl⟩, Kd.R_mono HC8.out (fun _ hk => ⟨hk.1.1, hk.2⟩), HLIT.out, BK258.out, BK259.out, HB.out, ⟨Ao46, co46, rfl, HCL.out, HCUT.out⟩⟩)
                  rintro ⟨v270, v273, vc_⟩ w45 ⟨hHeld, g0_, g1_, g2_, g3_, g4_, ⟨Ac_, cc_, hvc_, g5_, g6_⟩⟩
                  dsimp only at hvc_
                  subst hvc_
                  dsimp only at g0_ g1_
                  have HC8 := Aside0.mk g0_
                  have HLIT := Aside0.mk g1_
                  have BK258 := Aside0.mk g2_
                  have BK259 := Aside0.mk g3_
                  have HB := Aside0.mk g4_
                  have HCUT := Aside0.mk g6_
                  clear g0_ g1_ g2_ g3_ g4_ g5_ g6_
                  refine norm_ (a' := ?_) ?_ ?_
                  rotate_left
                  · simp only [putAll, Act.put, List.setIfInBounds_toArray, List.set_cons_zero, List.set_cons_succ]
                    rfl
                  refine one_ (i := 7) (N := some 50) #[true, true, true, true, true, true, true, true, false] rfl rfl (by kernel_rfl) (by decide) (fun K hK => ?_)
                  refine Kd.R_append_rows_step (Kd.int .i64) (w0 := w) w.heap.size (by rfl) (.tmp 43) (.tmp 49) 22 3 (.int .i64 0) 8 rfl Try.underlying22 info3 rfl (by decide) (by omega) v270 y269 y275 _ _ _ (fun k_ => (w.heap.size ≤ k_)) (fun _ => False) rfl rfl ?aO ?aR (fun _ _ h => h) (fun _ h => h.elim) ?aF ?aB ?aS ?aL ?_
                  (case aR => exact HCUT.out)
                  (case aB => exact HB.out)
                  (case aF => exact (fun k_ hk => Nat.le_trans (below_size HB.out) hk))
                  (case aO => exact HLIT.out)
                  (case aS => exact (below_size HB.out))
                  (case aL => have := LMc33.out; omega)
                  intro v280 w47 ho hb hg hat
                  rw [← Ny279.out] at ho
                  have n0_ := Aside0.mk (Kd.R_grown HC8.out hg (fun _ hk => hk.2))
                  have n1_ := Aside0.mk (blk_grown BK258.out hg (Kd.R_ne HLIT.out BK258.out (by decide)))
                  have n2_ := Aside0.mk (blk_grown BK259.out hg (Kd.R_ne HLIT.out BK259.out (by decide)))
                  have n3_ := Aside0.mk hb
                  have n4_ := Aside0.mk ho
                  clear HC8 BK258 BK259 HB HLIT HCUT
                  have HO268 := n0_
                  have BK258 := n1_
                  have BK259 := n2_
                  have HB := n3_
                  have HO281 := n4_
                  clear n0_ n1_ n2_ n3_ n4_
                  clear ho hb hg hat
                  refine hK.out _ _ ⟨(blk_cell BK258.out 0).trans rfl, (blk_cell BK258.out 1).trans rfl⟩ (fun hHeld => ?_)
                  clear hK K
                  refine norm_ (a' := ?_) ?_ ?_
                  rotate_left
                  · show Act.put _ (some 50) _ = _
                    simp only [Act.put, List.setIfInBounds_toArray, List.set_cons_zero, List.set_cons_succ, i64_w, i32_w]
                    rfl
                  refine pure_ (i := 8) (N := some 9) (v := ?_) (a' := ?_) #[true, true, true, true, true, true, true, true, true] rfl rfl (by kernel_rfl) (fun _ _ _ h => h) (Or.inl ⟨by rfl, ?_⟩) ?_ ?_
                  rotate_left
                  · intro w'
                    go_simp
                    with_reducible rfl
                  rotate_left
                  · simp only [Act.put, List.setIfInBounds_toArray, List.set_cons_zero, List.set_cons_succ, i64_w, i32_w]
                    rfl
                  refine done_ (by kernel_rfl) ?_
                  go_wp2_with (first | ((with_reducible refine gate_builtin (b := .append) (xs := #[.tmp 51, .tmp 52]) rfl ?_); (try (refine gate_guard (by rfl) ?_; dsimp only)); at_builtin; refine Kd.R_append_rows (Kd.int .i64) (w0 := w) w.heap.size rfl (.tmp 51) (.tmp 52) 22 3 (.int .i64 0) 8 rfl Try.underlying22 info3 rfl (by decide) (by omega) v280 y279 t266 _ _ _ (fun k_ => (w.heap.size ≤ k_)) (fun _ => False) rfl rfl ?aO ?aR (fun _ _ h => h) (fun _ h => h.elim) ?aF ?aB ?aS ?aL ?_; (case aR => exact (Kd.R_reads' HO268.out).2.2); (case aB => exact HB.out); (case aF => exact (fun k_ hk => Nat.le_trans (below_size HB.out) hk)); (case aO => exact HO281.out); (case aS => exact (below_size HB.out)); (case aL => have := LMc34.out; omega); intro v283 w48 ho hb hg hat; rw [← Ny282.out] at ho; have n1_ := Aside0.mk (blk_grown BK258.out hg (Kd.R_ne HO281.out BK258.out (by decide))); have n2_ := Aside0.mk (blk_grown BK259.out hg (Kd.R_ne HO281.out BK259.out (by decide))); have n3_ := Aside0.mk hb; have n4_ := Aside0.mk ho; clear BK258 BK259 HO268 HB HO281; have BK258 := n1_; have BK259 := n2_; have HB := n3_; have HO284 := n4_; clear n1_ n2_ n3_ n4_; clear ho hb hg hat; obtain ⟨Ao49, co49, eo49⟩ := Kd.R_slice HO284.out; subst eo49) | ((with_reducible refine gate_callee (f := 29) rfl ?_); refine goesL_ (some 55) rfl rfl Try.func29 (by kernel_rfl) rfl #[.slice Ao49 y282.length co49] rfl (by (try simp only [List.map_toArray, List.map_cons, List.map_nil]); first | done | rfl | (simp only [List.length_drop, List.length_take]; rfl)) ?_; (with_reducible refine (psalteryref01_Bytes.calls kj4 _ _ y282 t285 _ ?side1 ?side2 A35.out).mono ?_); (case side1 => repeat (first | exact (Kd.R_reads' HO284.out).2.2 | (with_reducible refine Kd.C_alloc ?_ _) | (with_reducible refine Kd.C_drewN ?_ _) | (with_reducible refine Kd.C_drew ?_))); (case side2 => exact (Kd.R_reads' HO284.out).2.1); rintro e w50 ⟨v286, rfl, ho0, hb⟩; refine ⟨_, rfl, ?_⟩; have n3_ := Aside0.mk (Kd.R_below (by (with_reducible repeat (first | apply Kd.R_alloc | apply Kd.R_drewN | apply Kd.R_drew)); exact HO284.out) hb); have n4_ := Aside0.mk (Kd.R_lower (Kd.R_newM (M := fun k_ => (w.heap.size ≤ k_)) ho0 (below_size (by repeat (first | (with_reducible first | exact HB.out | apply below_alloc | apply pw_below_drewN | apply below_drew1 | refine below_set ?_ GE258.out | refine below_set ?_ GE259.out) | exact HB.out))) (fun k_ h_ => h_)) (below_size (by repeat (first | (with_reducible first | exact HB.out | apply below_alloc | apply pw_below_drewN | apply below_drew1 | refine below_set ?_ GE258.out | refine below_set ?_ GE259.out) | exact HB.out)))); have n5_ := Aside0.mk (blk_below (g := gb258) (o := .cells #[.slice Ao11 t260.length co11, .int .i64 t263] 38 (0, 0)) (by (with_reducible repeat (first | refine blk_drewN ?_ _ | refine blk_drew ?_ | refine blk_alloc ?_ _)); exact BK258.out) hb); have n6_ := Aside0.mk (blk_below (g := gb259) (o := .cells #[.slice none 0 0, .int .i64 0] 38 (0, 0)) (by (with_reducible repeat (first | refine blk_drewN ?_ _ | refine blk_drew ?_ | refine blk_alloc ?_ _)); exact BK259.out) hb); have n8_ := Aside0.mk (below_step (by repeat (first | (with_reducible first | exact HB.out | apply below_alloc | apply pw_below_drewN | apply below_drew1 | refine below_set ?_ GE258.out | refine below_set ?_ GE259.out) | exact HB.out)) hb); clear HO284; clear BK258; clear BK259; clear HB; have HO284 := n3_; have HO287 := n4_; have BK258 := n5_; have BK259 := n6_; have HB := n8_; clear n3_ n4_ n5_ n6_ n8_; (try clear hb); (try clear hb2); (try clear hk); (try clear hi); (try clear ho0); obtain ⟨Ao51, co51, eo51⟩ := Kd.R_slice HO287.out; subst eo51; have hcz52_0 : w50.cell? ⟨gb259, 0, none⟩ = some (.slice none 0 0) := (blk_cell BK259.out 0).trans rfl; have hcz52_1 : w50.cell? ⟨gb259, 1, none⟩ = some (.int .i64 0) := (blk_cell BK259.out 1).trans rfl; have hfz52_0 := blk_frozen BK259.out 0; have hfz52_1 := blk_frozen BK259.out 1))
                  refine bodyPost_ret (results_ct rfl _ _ gb259 38 #[.slice Ao51 t285.length co51, .int .i64 (y282.length : Int)] (0, 0) _ rfl (by (with_reducible repeat (first | refine blk_drewN ?_ _ | refine blk_drew ?_ | refine blk_alloc ?_ _)); refine blk_put (cs := #[.slice Ao51 t285.length co51, .int .i64 0]) ?_ 1 _ rfl; (with_reducible repeat (first | refine blk_drewN ?_ _ | refine blk_drew ?_ | refine blk_alloc ?_ _)); refine blk_put (cs := #[.slice none 0 0, .int .i64 0]) ?_ 0 _ rfl; (with_reducible repeat (first | refine blk_drewN ?_ _ | refine blk_drew ?_ | refine blk_alloc ?_ _)); exact BK259.out) Try.underlying38 rfl (by kernel_rfl)) rfl ?_
                  exact ⟨_, by first | rfl | (simp [errW_none, errW_some] <;> rfl) | (simp [*, errW_none, errW_some] <;> rfl), Kd.V_mono (Kd.R_V (by (with_reducible repeat (first | apply Kd.R_alloc | apply Kd.R_drewN | apply Kd.R_drew)); exact Kd.R_mono (Kd.R_far (p := ⟨gb259, 1, none⟩) (Kd.R_far (p := ⟨gb259, 0, none⟩) (Kd.R_types HO287.out BK259.out (by decide)) (fun _ hk => hk.2) (.slice Ao51 t285.length co51)) (fun _ hk => hk.2) (.int .i64 (y282.length : Int))) (fun _ hk => hk.1.1))) (fun k_ hk => by first | exact ⟨(.inr (hk.1)), hk.2⟩ | exact (.inr (hk))), by repeat (first | (with_reducible first | exact HB.out | apply below_alloc | apply pw_below_drewN | apply below_drew1 | refine below_set ?_ GE258.out | refine below_set ?_ GE259.out) | exact HB.out)⟩
                · rw [if_neg c34] at H
                  exact absurd H (by simp)
              · rw [if_neg c33] at H
                exact absurd H (by simp)
            · rw [if_neg c32] at H
              exact absurd H (by simp)
          · rw [if_neg c31] at H
            exact absurd H (by simp)

end Go.Proofs.Ytmocinhononfpaa.P
