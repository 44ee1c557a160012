-- PRINTED by print.py (a twelfth state) out of the translation. Not trusted: Lean checks it.
import Derived.Test.YtmocinhononfpaaPx0
import Derived.Test.YtmocinhononfpaaPx3
import Derived.Test.YtmocinhononfpaaPx6
namespace Go.Proofs.Ytmocinhononfpaa.P
open Go.RowKit Go.Proofs.YtmocinhononfpaaW.PrintWords Go.Proofs.YtmocinhononfpaaW.PrintLast Go.Proofs.YtmocinhononfpaaW.PrintMore
attribute [local go_sem] max2_int min2_int max_two min_two max_three min_three max_four min_four   -- for this text's walks alone
set_option linter.unusedVariables false
set_option linter.unusedSimpArgs false

theorem vor7_or {α : Type} {d : Kd α} {e : Nat} {W : World} {base : Nat} {P Q R : Nat → Prop} {v : Value} {xs : List α} (h : Kd.V d e W base (fun k => Q k ∧ R k) v xs) : Kd.V d e W base (fun k => (P k ∨ Q k) ∧ R k) v xs := Kd.V_mono h (fun _ hk => ⟨.inr hk.1, hk.2⟩)
theorem vor7_one {α : Type} {d : Kd α} {e : Nat} {W : World} {base : Nat} {P Q : Nat → Prop} {v : Value} {xs : List α} (h : Kd.V d e W base Q v xs) : Kd.V d e W base (fun k => P k ∨ Q k) v xs := Kd.V_mono h (fun _ hk => .inr hk)

/-! ### huff_Write: function 17 -/
mutual
def huff_Write.j0 : Nat → List Int → Int → List Int → Bool → List Int → Int → Option (List Int × Int × Int)
  | 0, _, _, _, _, _, _ => none
  | k + 1, x1, x2, x8, x37, x135000, x135001 => if x37 = true then ((bits_Put.f k x135000 x135001 0 0).bind fun bt141 => (some (bt141.1, bt141.2.1, 1))) else (if 0 ≤ x2 then (if x2 < (x1.length : Int) then (huff_Write.l0 k x2 x8 (wrap64 ((rd x1 x2) - 1)) x135000 x135001 x135000 x135001) else (none)) else (none))
def huff_Write.l0 : Nat → Int → List Int → Int → List Int → Int → List Int → Int → Option (List Int × Int × Int)
  | 0, _, _, _, _, _, _, _ => none
  | k + 1, x2, x8, x11, x135000, x135001, x147000, x147001 => if x11 ≥ 0 then (if 0 ≤ x2 then (if x2 < (x8.length : Int) then (if 0 ≤ x11 then ((bits_Put.f k x147000 x147001 (IntKind.u64.wrap (Go.bits .and .u32 (shr .u32 (rd x8 x2) x11) 1)) 1).bind fun bt149 => (if bt149.2.2 = 0 then (huff_Write.l0 k x2 x8 (wrap64 (x11 - 1)) x135000 x135001 bt149.1 bt149.2.1) else ((bits_Put.f k x135000 x135001 0 0).bind fun bt155 => (some (bt155.1, bt155.2.1, bt149.2.2))))) else (none)) else (none)) else (none)) else (some (x147000, x147001, 0))
end
def huff_Write.f (k : Nat) (l0_0 : List Int) (a0_1 : Int) (l1 : List Int) (a2 : Int) : Option (List Int × Int × Int) := (huff_Codes.f k l1).bind fun bt136 => (if bt136.2 = 0 then (if a2 < 0 then (huff_Write.j0 k l1 a2 bt136.1 true l0_0 a0_1) else (if a2 ≥ (l1.length : Int) then (huff_Write.j0 k l1 a2 bt136.1 true l0_0 a0_1) else (if 0 ≤ a2 then (if a2 < (l1.length : Int) then (huff_Write.j0 k l1 a2 bt136.1 ((rd l1 a2) == 0) l0_0 a0_1) else (none)) else (none)))) else (huff_Write.j0 k l1 a2 bt136.1 true l0_0 a0_1))
theorem huff_Write.mono_l : ∀ k, (∀ y0 y1 y2 y3 y4 y5, LeO (huff_Write.j0 k y0 y1 y2 y3 y4 y5) (huff_Write.j0 (k + 1) y0 y1 y2 y3 y4 y5)) ∧ (∀ y0 y1 y2 y3 y4 y5 y6, LeO (huff_Write.l0 k y0 y1 y2 y3 y4 y5 y6) (huff_Write.l0 (k + 1) y0 y1 y2 y3 y4 y5 y6))
  | 0 => ⟨fun _ _ _ _ _ _ r h => by simp [huff_Write.j0] at h, fun _ _ _ _ _ _ _ r h => by simp [huff_Write.l0] at h⟩
  | k + 1 => by
    obtain ⟨ih0, ih1⟩ := huff_Write.mono_l k
    refine ⟨?_, ?_⟩
    · intro y0 y1 y2 y3 y4 y5
      unfold huff_Write.j0
      repeat' first
      | (with_reducible exact ih0 _ _ _ _ _ _)
      | (with_reducible exact ih1 _ _ _ _ _ _ _)
      | (with_reducible exact bits_Put.mono _ _ _ _ _)
      | (with_reducible exact huff_Codes.mono _ _)
      | (with_reducible exact LeO.refl _)
      | (with_reducible exact LeO.none _)
      | (with_reducible refine LeO.ite ?_ ?_)
      | (with_reducible refine LeO.bind ?_ (fun _ => ?_))
      | exact ih0 _ _ _ _ _ _
      | exact ih1 _ _ _ _ _ _ _
      | exact bits_Put.mono _ _ _ _ _
      | exact huff_Codes.mono _ _
      | exact LeO.none _
      | refine LeO.ite ?_ ?_
      | refine LeO.bind ?_ (fun _ => ?_)
    · intro y0 y1 y2 y3 y4 y5 y6
      unfold huff_Write.l0
      repeat' first
      | (with_reducible exact ih0 _ _ _ _ _ _)
      | (with_reducible exact ih1 _ _ _ _ _ _ _)
      | (with_reducible exact bits_Put.mono _ _ _ _ _)
      | (with_reducible exact huff_Codes.mono _ _)
      | (with_reducible exact LeO.refl _)
      | (with_reducible exact LeO.none _)
      | (with_reducible refine LeO.ite ?_ ?_)
      | (with_reducible refine LeO.bind ?_ (fun _ => ?_))
      | exact ih0 _ _ _ _ _ _
      | exact ih1 _ _ _ _ _ _ _
      | exact bits_Put.mono _ _ _ _ _
      | exact huff_Codes.mono _ _
      | exact LeO.none _
      | refine LeO.ite ?_ ?_
      | refine LeO.bind ?_ (fun _ => ?_)
theorem huff_Write.mono : ∀ a0 a1 a2 a3 k, LeO (huff_Write.f k a0 a1 a2 a3) (huff_Write.f (k + 1) a0 a1 a2 a3) := by
  intro a0 a1 a2 a3 k
  obtain ⟨ih0, ih1⟩ := huff_Write.mono_l k
  unfold huff_Write.f
  repeat' first
      | (with_reducible exact ih0 _ _ _ _ _ _)
      | (with_reducible exact ih1 _ _ _ _ _ _ _)
      | (with_reducible exact bits_Put.mono _ _ _ _ _)
      | (with_reducible exact huff_Codes.mono _ _)
      | (with_reducible exact LeO.refl _)
      | (with_reducible exact LeO.none _)
      | (with_reducible refine LeO.ite ?_ ?_)
      | (with_reducible refine LeO.bind ?_ (fun _ => ?_))
      | exact ih0 _ _ _ _ _ _
      | exact ih1 _ _ _ _ _ _ _
      | exact bits_Put.mono _ _ _ _ _
      | exact huff_Codes.mono _ _
      | exact LeO.none _
      | refine LeO.ite ?_ ?_
      | refine LeO.bind ?_ (fun _ => ?_)
def huff_Write.T9 : Bool × List (List Nat × List Nat) := (true, [([], []), ([], []), ([], []), ([1, 2], [1, 2]), ([3], [3]), ([], []), ([4, 5], [4, 5]), ([6], [6]), ([7], [7]), ([0, 8], [0, 8]), ([9], [9]), ([10], [10]), ([10], [10]), ([], []), ([13, 11, 9, 0, 1, 2, 3, 4, 5, 6, 7, 8, 9, 10, 11, 13], [11, 13]), ([12, 14, 0, 1, 2, 3, 4, 5, 6, 7, 8, 9, 10, 11, 12, 13, 14], [12])])
def huff_Write.B9 : List Nat := [0, 0, 0, 6, 14, 0, 62, 126, 254, 511, 1023, 2047, 2047, 0, 12287, 32767]
theorem huff_Write.tab9 : rtab .any (opsOf Try.f17 9) = huff_Write.T9 := by kernel_rfl
theorem huff_Write.bits9 : waitsOk huff_Write.T9.2 huff_Write.B9 = true := by kernel_rfl
def huff_Write.y0 : Array Bool := #[false, false, false, false, false, false, false, false, false, false, false, false, false, false, false, false]
def huff_Write.y1 : Array Bool := #[false, true, false, false, false, false, false, false, false, false, false, false, false, false, false, false]
def huff_Write.y2 : Array Bool := #[false, true, true, false, false, false, false, false, false, false, false, false, false, false, false, false]
def huff_Write.y3 : Array Bool := #[false, true, true, true, false, false, false, false, false, false, false, false, false, false, false, false]
def huff_Write.y4 : Array Bool := #[false, true, true, true, false, true, false, false, false, false, false, false, false, false, false, false]
def huff_Write.y5 : Array Bool := #[true, true, true, true, false, true, false, false, false, false, false, false, false, false, false, false]
def huff_Write.y6 : Array Bool := #[true, true, true, true, true, true, false, false, false, false, false, false, false, false, false, false]
def huff_Write.y7 : Array Bool := #[true, true, true, true, true, true, true, false, false, false, false, false, false, false, false, false]
def huff_Write.y8 : Array Bool := #[true, true, true, true, true, true, true, true, false, false, false, false, false, false, false, false]
def huff_Write.y9 : Array Bool := #[true, true, true, true, true, true, true, true, true, false, false, false, false, false, false, false]
def huff_Write.y10 : Array Bool := #[true, true, true, true, true, true, true, true, true, true, true, true, true, true, false, false]
def huff_Write.y11 : Array Bool := #[true, true, true, true, true, true, true, true, true, true, false, false, false, false, false, false]
def huff_Write.y12 : Array Bool := #[true, true, true, true, true, true, true, true, true, false, false, false, false, true, false, false]
def huff_Write.y13 : Array Bool := #[true, true, true, true, true, true, true, true, true, true, true, false, false, false, false, false]
def huff_Write.y14 : Array Bool := #[true, true, true, true, true, true, true, true, true, true, true, true, false, false, false, false]
def huff_Write.y15 : Array Bool := #[true, true, true, true, true, true, true, true, true, true, true, true, true, false, false, false]
def huff_Write.y16 : Array Bool := #[true, true, true, true, true, true, true, true, true, true, false, false, false, true, false, false]
def huff_Write.y17 : Array Bool := #[true, true, true, true, true, true, true, true, true, true, true, false, false, true, false, false]
def huff_Write.y18 : Array Bool := #[true, true, true, true, true, true, true, true, true, true, true, true, false, true, false, false]
def huff_Write.y19 : Array Bool := #[true, true, true, true, true, true, true, true, true, true, true, true, true, true, true, false]
def huff_Write.y20 : Array Bool := #[true, true, true, true, true, true, true, true, true, true, true, true, true, true, true, true]
set_option maxHeartbeats 8000000 in
set_option maxRecDepth 100000 in
theorem huff_Write.calls (k : Nat) (P0_0_ : Nat → Prop) (A0_0 : Option Addr) (c0_0 : Nat) (l0_0 : List Int) (a0_1 : Int) (A1 : Option Addr) (c1 : Nat) (l1 : List Int) (a2 : Int) (r1 : List Int) (r2 : Int) (r3 : Int) (w : World) (hs0_0 : Kd.V (Kd.int .u8) 5 w w.heap.size (fun k_ => P0_0_ k_) (.slice A0_0 l0_0.length c0_0) l0_0) (hr1 : Kd.C (Kd.int .i64) w A1 l1.length l1) (hc1 : l1.length ≤ c1) (h : huff_Write.f k l0_0 a0_1 l1 a2 = some (r1, r2, r3)) :
  Calls Try.prog 17 #[.agg #[.slice A0_0 l0_0.length c0_0, .int .i64 a0_1], .slice A1 l1.length c1, .int .i64 a2] w fun e w' => ∃ v0_ : Value, e = .returned (.tuple #[.agg #[v0_, .int .i64 r2], .int .i64 r3]) ∧ Kd.V (Kd.int .u8) 5 w' w.heap.size (fun k_ => (P0_0_ k_ ∨ w.heap.size ≤ k_)) v0_ r1 ∧ Below w.heap.size w w' := by
 have hu34 := Try.underlying34
 have HO0_0 := Aside0.mk (show Kd.V (Kd.int .u8) 5 w w.heap.size (fun k_ => (P0_0_ k_ ∨ w.heap.size ≤ k_)) (.slice A0_0 l0_0.length c0_0) l0_0 from Kd.V_mono hs0_0 (fun k_ hk => .inl hk))
 have HR1 := Aside0.mk hr1
 have HC1 := Aside0.mk hc1
 clear hr1 hc1
 have HB := Aside0.mk (Below.refl w.heap.size w)
 have H : ((huff_Codes.f k l1).bind fun bt136 => (if bt136.2 = 0 then (if a2 < 0 then (huff_Write.j0 k l1 a2 bt136.1 true l0_0 a0_1) else (if a2 ≥ (l1.length : Int) then (huff_Write.j0 k l1 a2 bt136.1 true l0_0 a0_1) else (if 0 ≤ a2 then (if a2 < (l1.length : Int) then (huff_Write.j0 k l1 a2 bt136.1 ((rd l1 a2) == 0) l0_0 a0_1) else (none)) else (none)))) else (huff_Write.j0 k l1 a2 bt136.1 true l0_0 a0_1))) = some (r1, r2, r3) := h
 clear h
 replace H := Option.bind_eq_some_iff.mp H
 obtain ⟨⟨t136, t137⟩, A40, H⟩ := H
 replace H : (if t137 = 0 then (if a2 < 0 then (huff_Write.j0 k l1 a2 t136 true l0_0 a0_1) else (if a2 ≥ (l1.length : Int) then (huff_Write.j0 k l1 a2 t136 true l0_0 a0_1) else (if 0 ≤ a2 then (if a2 < (l1.length : Int) then (huff_Write.j0 k l1 a2 t136 ((rd l1 a2) == 0) l0_0 a0_1) else (none)) else (none)))) else (huff_Write.j0 k l1 a2 t136 true l0_0 a0_1)) = some (r1, r2, r3) := H
 have A4 := Aside0.mk A40
 clear A40
 have HC5 := Aside0.mk H
 clear H
 go_enter Try.func17, Try.ntmps17
 go_upto_region 2 with (first | ((with_reducible refine gate_dst (N := 3) rfl ?_); (try (refine gate_guard (by rfl) ?_; dsimp only)); refine box_event ?hg (N := 3) ?hd (cs := #[.slice A0_0 l0_0.length c0_0, .int .i64 a0_1]) (t := 34) ?hr ?_; (case hd => rfl); (case hg => rfl); (case hr => first | (go_simp; done) | (go_simp; rfl)); intro gb134 hg w6 hbox hb; have n0_ := Aside0.mk (Kd.V_below (Kd.V_elderB (by (with_reducible repeat (first | apply Kd.V_alloc | apply Kd.V_drewN | apply Kd.V_drew)); exact HO0_0.out) gb134 (Nat.le_of_eq hg.symm)) hb); have n1_ := Aside0.mk (below_step (by repeat (first | (with_reducible first | exact HB.out | apply below_alloc | apply pw_below_drewN | apply below_drew1) | exact HB.out)) hb); have n2_ := Aside0.mk (hbox); have n3_ := Aside0.mk ((by rw [hg]; exact (below_size (by repeat (first | (with_reducible first | exact HB.out | apply below_alloc | apply pw_below_drewN | apply below_drew1) | exact HB.out))) : w.heap.size ≤ gb134)); have n4_ := Aside0.mk ((by rw [hg]; exact (below_size (by repeat (first | (with_reducible first | exact HB.out | apply below_alloc | apply pw_below_drewN | apply below_drew1) | exact HB.out))) : w.heap.size ≤ gb134)); clear HO0_0; clear HB; have HO0_0 := n0_; have HB := n1_; have BK134 := n2_; have GW134 := n3_; have GE134 := n4_; clear n0_ n1_ n2_ n3_ n4_; clear hb hbox hg) | ((with_reducible refine gate_dst (N := 6) rfl ?_); (try (refine gate_guard (by rfl) ?_; dsimp only)); refine box_event ?hg (N := 6) ?hd (cs := #[.slice none 0 0, .int .i64 0]) (t := 34) ?hr ?_; (case hd => rfl); (case hg => rfl); (case hr => first | (go_simp; done) | (go_simp; rfl)); intro gb135 hg w7 hbox hb; have n0_ := Aside0.mk (Kd.V_below (Kd.V_elderB (by (with_reducible repeat (first | apply Kd.V_alloc | apply Kd.V_drewN | apply Kd.V_drew)); exact HO0_0.out) gb135 (Nat.le_of_eq hg.symm)) hb); have n1_ := Aside0.mk (blk_below (g := gb134) (o := .cells #[.slice A0_0 l0_0.length c0_0, .int .i64 a0_1] 34 (0, 0)) (by (with_reducible repeat (first | refine blk_drewN ?_ _ | refine blk_drew ?_ | refine blk_alloc ?_ _)); exact BK134.out) hb); have n2_ := Aside0.mk (below_step (by repeat (first | (with_reducible first | exact HB.out | apply below_alloc | apply pw_below_drewN | apply below_drew1 | refine below_set ?_ GE134.out) | exact HB.out)) hb); have n3_ := Aside0.mk (hbox); have n4_ := Aside0.mk ((by rw [hg]; exact (below_size (by repeat (first | (with_reducible first | exact HB.out | apply below_alloc | apply pw_below_drewN | apply below_drew1 | refine below_set ?_ GE134.out) | exact HB.out))) : w.heap.size ≤ gb135)); have n5_ := Aside0.mk ((by rw [hg]; exact (below_size (by repeat (first | (with_reducible first | exact HB.out | apply below_alloc | apply pw_below_drewN | apply below_drew1 | refine below_set ?_ GE134.out) | exact HB.out))) : w.heap.size ≤ gb135)); have n6_ := Aside0.mk ((by rw [hg]; exact Nat.ne_of_lt (blk_lt (g := gb134) (o := .cells #[.slice A0_0 l0_0.length c0_0, .int .i64 a0_1] 34 (0, 0)) (by (with_reducible repeat (first | refine blk_drewN ?_ _ | refine blk_drew ?_ | refine blk_alloc ?_ _)); exact BK134.out)) : gb134 ≠ gb135)); have n7_ := Aside0.mk ((by rw [hg]; exact Nat.ne_of_gt (blk_lt (g := gb134) (o := .cells #[.slice A0_0 l0_0.length c0_0, .int .i64 a0_1] 34 (0, 0)) (by (with_reducible repeat (first | refine blk_drewN ?_ _ | refine blk_drew ?_ | refine blk_alloc ?_ _)); exact BK134.out)) : gb135 ≠ gb134)); clear HO0_0; clear BK134; clear HB; have HO0_0 := n0_; have BK134 := n1_; have HB := n2_; have BK135 := n3_; have GW135 := n4_; have GE135 := n5_; have NB134_135 := n6_; have NB135_134 := n7_; clear n0_ n1_ n2_ n3_ n4_ n5_ n6_ n7_; clear hb hbox hg) | ((with_reducible refine gate_callee (f := 13) rfl ?_); refine goesL_ (some 16) rfl rfl Try.func13 (by kernel_rfl) rfl #[.slice A1 l1.length c1] rfl (by (try simp only [List.map_toArray, List.map_cons, List.map_nil]); first | done | rfl | (simp only [List.length_drop, List.length_take]; rfl)) ?_; (with_reducible refine (huff_Codes.calls k _ _ l1 t136 t137 _ ?side1 ?side2 A4.out).mono ?_); (case side1 => repeat (first | exact (Kd.C_below HR1.out HB.out) | (with_reducible refine Kd.C_alloc ?_ _) | (with_reducible refine Kd.C_drewN ?_ _) | (with_reducible refine Kd.C_drew ?_))); (case side2 => exact HC1.out); rintro e w8 ⟨v138, rfl, ho0, hb⟩; refine ⟨_, rfl, ?_⟩; have n0_ := Aside0.mk (Kd.V_elder' (by (with_reducible repeat (first | apply Kd.V_alloc | apply Kd.V_drewN | apply Kd.V_drew)); exact HO0_0.out) (Kd.R_base ho0) hb); have n1_ := Aside0.mk (Kd.R_lower (Kd.R_newM (M := fun k_ => (w.heap.size ≤ k_)) ho0 (below_size (by repeat (first | (with_reducible first | exact HB.out | apply below_alloc | apply pw_below_drewN | apply below_drew1 | refine below_set ?_ GE134.out | refine below_set ?_ GE135.out) | exact HB.out))) (fun k_ h_ => h_)) (below_size (by repeat (first | (with_reducible first | exact HB.out | apply below_alloc | apply pw_below_drewN | apply below_drew1 | refine below_set ?_ GE134.out | refine below_set ?_ GE135.out) | exact HB.out)))); have n2_ := Aside0.mk (blk_below (g := gb134) (o := .cells #[.slice A0_0 l0_0.length c0_0, .int .i64 a0_1] 34 (0, 0)) (by (with_reducible repeat (first | refine blk_drewN ?_ _ | refine blk_drew ?_ | refine blk_alloc ?_ _)); exact BK134.out) hb); have n3_ := Aside0.mk (blk_below (g := gb135) (o := .cells #[.slice none 0 0, .int .i64 0] 34 (0, 0)) (by (with_reducible repeat (first | refine blk_drewN ?_ _ | refine blk_drew ?_ | refine blk_alloc ?_ _)); exact BK135.out) hb); have n4_ := Aside0.mk (below_step (by repeat (first | (with_reducible first | exact HB.out | apply below_alloc | apply pw_below_drewN | apply below_drew1 | refine below_set ?_ GE134.out | refine below_set ?_ GE135.out) | exact HB.out)) hb); clear HO0_0; clear BK134; clear BK135; clear HB; have HO0_0 := n0_; have HO139 := n1_; have BK134 := n2_; have BK135 := n3_; have HB := n4_; clear n0_ n1_ n2_ n3_ n4_; (try clear hb); (try clear hb2); (try clear hk); (try clear hi); (try clear ho0)))
 (try simp only [Act.put, List.setIfInBounds_toArray, List.set_cons_zero, List.set_cons_succ])
 go_cut [37] (fun v37 wc => ∃ (kq : Nat) (x37_4 : Bool), v37 = .bool x37_4 ∧ Aside0 (huff_Write.j0 kq l1 a2 t136 x37_4 l0_0 a0_1 = some (r1, r2, r3)) ∧ Aside0 (kq ≤ k) ∧ Aside0 (Kd.R (Kd.int .u32) 29 wc w.heap.size (fun k_ => (w.heap.size ≤ k_)) v138 t136) ∧ Aside0 (Kd.V (Kd.int .u8) 5 wc w.heap.size (fun k_ => (P0_0_ k_ ∨ w.heap.size ≤ k_) ∧ some k_ ≠ (v138 : Value).ownBlock ∧ k_ ≠ gb134 ∧ k_ ≠ gb135) (.slice A0_0 l0_0.length c0_0) l0_0) ∧ Aside0 (wc.heap[gb134]? = some (.cells #[(.slice A0_0 l0_0.length c0_0), .int .i64 a0_1] 34 (0, 0))) ∧ Aside0 (wc.heap[gb135]? = some (.cells #[(.slice none 0 0), .int .i64 0] 34 (0, 0))) ∧ Aside0 (Below w.heap.size w wc))
 case first =>
  have H := HC5.out
  clear HC5
  by_cases c9 : t137 = 0
  ·rw [if_pos c9] at H
   have c9b0 : (t137 == 0) = true := beq_iff_eq.mpr c9
   have c9b1 : (t137 != 0) = false := bne_eq_false_iff_eq.mpr c9
   clear c9
   (first | rw [c9b0] | (simp only [i64_w, i32_w]; rw [c9b0]) | skip)
   by_cases c10 : a2 < 0
   ·rw [if_pos c10] at H
    have c10b0 : decide (a2 < 0) = true := decide_eq_true c10
    clear c10
    have H' := Aside0.mk H
    clear H
    go_wp2
    go_meet
    case rel => exact ⟨_, (true), (by first | rfl | (simp; done) | (simp [*]; done)), H', ⟨by first | omega | exact Nat.le_refl _⟩, ⟨by (with_reducible repeat (first | apply Kd.R_alloc | apply Kd.R_drewN | apply Kd.R_drew)); exact Kd.R_mono HO139.out (fun _ hk => hk.1)⟩, ⟨by (with_reducible repeat (first | apply Kd.V_alloc | apply Kd.V_drewN | apply Kd.V_drew)); exact Kd.V_mono HO0_0.out (fun _ hk => ⟨hk.1.1.1, ⟨hk.2, ⟨hk.1.1.2, hk.1.2⟩⟩⟩)⟩, ⟨by (with_reducible repeat (first | refine blk_drewN ?_ _ | refine blk_drew ?_ | refine blk_alloc ?_ _)); exact BK134.out⟩, ⟨by (with_reducible repeat (first | refine blk_drewN ?_ _ | refine blk_drew ?_ | refine blk_alloc ?_ _)); exact BK135.out⟩, ⟨by repeat (first | (with_reducible first | exact HB.out | apply below_alloc | apply pw_below_drewN | apply below_drew1 | refine below_set ?_ GE134.out | refine below_set ?_ GE135.out) | exact HB.out)⟩⟩
   ·rw [if_neg c10] at H
    have c10b0 : decide (a2 < 0) = false := decide_eq_false c10
    clear c10
    by_cases c11 : a2 ≥ (l1.length : Int)
    ·rw [if_pos c11] at H
     have c11b0 : decide ((l1.length : Int) ≤ a2) = true := decide_eq_true c11
     clear c11
     have H' := Aside0.mk H
     clear H
     go_wp2
     go_meet
     case rel => exact ⟨_, (true), (by first | rfl | (simp; done) | (simp [*]; done)), H', ⟨by first | omega | exact Nat.le_refl _⟩, ⟨by (with_reducible repeat (first | apply Kd.R_alloc | apply Kd.R_drewN | apply Kd.R_drew)); exact Kd.R_mono HO139.out (fun _ hk => hk.1)⟩, ⟨by (with_reducible repeat (first | apply Kd.V_alloc | apply Kd.V_drewN | apply Kd.V_drew)); exact Kd.V_mono HO0_0.out (fun _ hk => ⟨hk.1.1.1, ⟨hk.2, ⟨hk.1.1.2, hk.1.2⟩⟩⟩)⟩, ⟨by (with_reducible repeat (first | refine blk_drewN ?_ _ | refine blk_drew ?_ | refine blk_alloc ?_ _)); exact BK134.out⟩, ⟨by (with_reducible repeat (first | refine blk_drewN ?_ _ | refine blk_drew ?_ | refine blk_alloc ?_ _)); exact BK135.out⟩, ⟨by repeat (first | (with_reducible first | exact HB.out | apply below_alloc | apply pw_below_drewN | apply below_drew1 | refine below_set ?_ GE134.out | refine below_set ?_ GE135.out) | exact HB.out)⟩⟩
    ·rw [if_neg c11] at H
     have c11b0 : decide ((l1.length : Int) ≤ a2) = false := decide_eq_false c11
     clear c11
     by_cases c12 : 0 ≤ a2
     ·rw [if_pos c12] at H
      have c12b0 : decide (0 ≤ a2) = true := decide_eq_true c12
      clear c12
      by_cases c13 : a2 < (l1.length : Int)
      ·rw [if_pos c13] at H
       have c13b0 : decide (a2 < (l1.length : Int)) = true := decide_eq_true c13
       clear c13
       have H' := Aside0.mk H
       clear H
       have p140 : 0 ≤ (a2 : Int) := of_decide_eq_true (by first | (with_reducible assumption) | assumption)
       have q140 : a2 < (l1.length : Int) := of_decide_eq_true (by first | (with_reducible assumption) | assumption)
       obtain ⟨ad140, e140, hx140_0⟩ := Kd.at_int HR1.out a2 p140 q140
       cases e140
       replace hx140_0 := (HB.out.cell (World.block_lt_of_cell? w _ hx140_0)).trans hx140_0
       replace p140 := eq_true p140
       replace q140 := eq_true q140
       go_wp2
       go_meet
       case rel => exact ⟨_, (((rd l1 a2) == 0)), (by first | rfl | (simp; done) | (simp [*]; done)), H', ⟨by first | omega | exact Nat.le_refl _⟩, ⟨by (with_reducible repeat (first | apply Kd.R_alloc | apply Kd.R_drewN | apply Kd.R_drew)); exact Kd.R_mono HO139.out (fun _ hk => hk.1)⟩, ⟨by (with_reducible repeat (first | apply Kd.V_alloc | apply Kd.V_drewN | apply Kd.V_drew)); exact Kd.V_mono HO0_0.out (fun _ hk => ⟨hk.1.1.1, ⟨hk.2, ⟨hk.1.1.2, hk.1.2⟩⟩⟩)⟩, ⟨by (with_reducible repeat (first | refine blk_drewN ?_ _ | refine blk_drew ?_ | refine blk_alloc ?_ _)); exact BK134.out⟩, ⟨by (with_reducible repeat (first | refine blk_drewN ?_ _ | refine blk_drew ?_ | refine blk_alloc ?_ _)); exact BK135.out⟩, ⟨by repeat (first | (with_reducible first | exact HB.out | apply below_alloc | apply pw_below_drewN | apply below_drew1 | refine below_set ?_ GE134.out | refine below_set ?_ GE135.out) | exact HB.out)⟩⟩
      ·rw [if_neg c13] at H
       exact absurd H (by simp)
     ·rw [if_neg c12] at H
      exact absurd H (by simp)
  ·rw [if_neg c9] at H
   have c9b0 : (t137 == 0) = false := beq_eq_false_iff_ne.mpr c9
   have c9b1 : (t137 != 0) = true := bne_iff_ne.mpr c9
   (first | rw [c9b0] | (simp only [i64_w, i32_w]; rw [c9b0]) | skip)
   have H' := Aside0.mk H
   clear H
   go_wp2
   go_meet
   case rel => exact ⟨_, (true), (by first | rfl | (simp; done) | (simp [*]; done)), H', ⟨by first | omega | exact Nat.le_refl _⟩, ⟨by (with_reducible repeat (first | apply Kd.R_alloc | apply Kd.R_drewN | apply Kd.R_drew)); exact Kd.R_mono HO139.out (fun _ hk => hk.1)⟩, ⟨by (with_reducible repeat (first | apply Kd.V_alloc | apply Kd.V_drewN | apply Kd.V_drew)); exact Kd.V_mono HO0_0.out (fun _ hk => ⟨hk.1.1.1, ⟨hk.2, ⟨hk.1.1.2, hk.1.2⟩⟩⟩)⟩, ⟨by (with_reducible repeat (first | refine blk_drewN ?_ _ | refine blk_drew ?_ | refine blk_alloc ?_ _)); exact BK134.out⟩, ⟨by (with_reducible repeat (first | refine blk_drewN ?_ _ | refine blk_drew ?_ | refine blk_alloc ?_ _)); exact BK135.out⟩, ⟨by repeat (first | (with_reducible first | exact HB.out | apply below_alloc | apply pw_below_drewN | apply below_drew1 | refine below_set ?_ GE134.out | refine below_set ?_ GE135.out) | exact HB.out)⟩⟩
 case rest =>
  clear HC5
  try clear c1
  try clear p1
  try clear q1
  try clear hx1
  try clear p2
  try clear c9
  try clear c9b0
  try clear c9b1
  try clear c10
  try clear c10b0
  try clear c11
  try clear c11b0
  try clear c12
  try clear c12b0
  try clear c13
  try clear c13b0
  try clear hx140_0
  try clear p140
  try clear q140
  obtain ⟨kq, x37_4, rfl, HA, HJ4, HO_8, HO_135000, BK134, BK135, HB⟩ := hcut
  cases kq with
  | zero => exact absurd HA.out (by simp [huff_Write.j0])
  | succ kj4 =>
   have H := HA.out
   clear HA
   simp only [huff_Write.j0] at H
   by_cases c14 : x37_4 = true
   ·subst c14
    have H1 : ((bits_Put.f kj4 l0_0 a0_1 0 0).bind fun bt141 => (some (bt141.1, bt141.2.1, 1))) = some (r1, r2, r3) := by rw [if_pos rfl] at H; exact H
    clear H
    have H := H1
    clear H1
    replace H := Option.bind_eq_some_iff.mp H
    obtain ⟨⟨t141, t144, t145⟩, A150, H⟩ := H
    replace H : (some (t141, t144, 1)) = some (r1, r2, r3) := H
    have A15 := Aside0.mk A150
    clear A150
    simp only [Option.some.injEq, Prod.mk.injEq] at H
    obtain ⟨rfl, rfl, rfl⟩ := H
    have hnb16 := NB134_135.out
    have hnc16 := NB135_134.out
    have hcz17_0 : wc.cell? ⟨gb134, 0, none⟩ = some (.slice A0_0 l0_0.length c0_0) := (blk_cell BK134.out 0).trans rfl
    have hcz17_1 : wc.cell? ⟨gb134, 1, none⟩ = some (.int .i64 a0_1) := (blk_cell BK134.out 1).trans rfl
    have hfz17_0 := blk_frozen BK134.out 0
    have hfz17_1 := blk_frozen BK134.out 1
    go_wp2_with (first | ((with_reducible refine gate_callee (f := 26) rfl ?_); refine goesL_ (some 40) rfl rfl Try.func26 (by kernel_rfl) rfl #[.agg #[.slice A0_0 l0_0.length c0_0, .int .i64 a0_1], .int .u64 0, .int .i64 0] rfl (by (try simp only [List.map_toArray, List.map_cons, List.map_nil]); first | done | rfl | (simp only [List.length_drop, List.length_take]; rfl)) ?_; (with_reducible refine (bits_Put.calls kj4 _ _ l0_0 a0_1 0 0 t141 t144 t145 _ ?side1 ?side2 A15.out).mono ?_); (case side1 => repeat (first | exact (Kd.V_reads' HO_135000.out).2.2 | (with_reducible refine Kd.C_alloc ?_ _) | (with_reducible refine Kd.C_drewN ?_ _) | (with_reducible refine Kd.C_drew ?_))); (case side2 => exact (Kd.V_reads' HO_135000.out).2.1); rintro e w18 ⟨v142, rfl, ho0, hb⟩; refine ⟨_, rfl, ?_⟩; have n0_ := Aside0.mk (Kd.R_below (by (with_reducible repeat (first | apply Kd.R_alloc | apply Kd.R_drewN | apply Kd.R_drew)); exact HO_8.out) hb); have n1_ := Aside0.mk (Kd.V_elder' (by (with_reducible repeat (first | apply Kd.V_alloc | apply Kd.V_drewN | apply Kd.V_drew)); exact HO_135000.out) (Kd.R_base ho0) hb); have n2_ := Aside0.mk (Kd.R_lower (Kd.R_newM (M := fun k_ => (w.heap.size ≤ k_)) ho0 (below_size (by repeat (first | (with_reducible first | exact HB.out | apply below_alloc | apply pw_below_drewN | apply below_drew1 | refine below_set ?_ GE134.out | refine below_set ?_ GE135.out) | exact HB.out))) (fun k_ h_ => h_)) (below_size (by repeat (first | (with_reducible first | exact HB.out | apply below_alloc | apply pw_below_drewN | apply below_drew1 | refine below_set ?_ GE134.out | refine below_set ?_ GE135.out) | exact HB.out)))); have n3_ := Aside0.mk (blk_below (g := gb134) (o := .cells #[.slice A0_0 l0_0.length c0_0, .int .i64 a0_1] 34 (0, 0)) (by (with_reducible repeat (first | refine blk_drewN ?_ _ | refine blk_drew ?_ | refine blk_alloc ?_ _)); exact BK134.out) hb); have n4_ := Aside0.mk (blk_below (g := gb135) (o := .cells #[.slice none 0 0, .int .i64 0] 34 (0, 0)) (by (with_reducible repeat (first | refine blk_drewN ?_ _ | refine blk_drew ?_ | refine blk_alloc ?_ _)); exact BK135.out) hb); have n5_ := Aside0.mk (below_step (by repeat (first | (with_reducible first | exact HB.out | apply below_alloc | apply pw_below_drewN | apply below_drew1 | refine below_set ?_ GE134.out | refine below_set ?_ GE135.out) | exact HB.out)) hb); clear HO_8; clear HO_135000; clear BK134; clear BK135; clear HB; have HO_8 := n0_; have HO_135000 := n1_; have HO143 := n2_; have BK134 := n3_; have BK135 := n4_; have HB := n5_; clear n0_ n1_ n2_ n3_ n4_ n5_; (try clear hb); (try clear hb2); (try clear hk); (try clear hi); (try clear ho0); obtain ⟨Ao19, co19, eo19⟩ := Kd.R_slice HO143.out; subst eo19; have hcz20_0 : w18.cell? ⟨gb134, 0, none⟩ = some (.slice A0_0 l0_0.length c0_0) := (blk_cell BK134.out 0).trans rfl; have hcz20_1 : w18.cell? ⟨gb134, 1, none⟩ = some (.int .i64 a0_1) := (blk_cell BK134.out 1).trans rfl; have hfz20_0 := blk_frozen BK134.out 0; have hfz20_1 := blk_frozen BK134.out 1; have hcz21_0 : w18.cell? ⟨gb135, 0, none⟩ = some (.slice none 0 0) := (blk_cell BK135.out 0).trans rfl; have hcz21_1 : w18.cell? ⟨gb135, 1, none⟩ = some (.int .i64 0) := (blk_cell BK135.out 1).trans rfl; have hfz21_0 := blk_frozen BK135.out 0; have hfz21_1 := blk_frozen BK135.out 1))
    refine bodyPost_ret (results_ct rfl _ _ gb135 34 #[.slice Ao19 t141.length co19, .int .i64 t144] (0, 0) _ rfl (by (with_reducible repeat (first | refine blk_drewN ?_ _ | refine blk_drew ?_ | refine blk_alloc ?_ _)); refine blk_put (cs := #[.slice Ao19 t141.length co19, .int .i64 0]) ?_ 1 _ rfl; (with_reducible repeat (first | refine blk_drewN ?_ _ | refine blk_drew ?_ | refine blk_alloc ?_ _)); refine blk_put (cs := #[.slice none 0 0, .int .i64 0]) ?_ 0 _ rfl; (with_reducible repeat (first | refine blk_drewN ?_ _ | refine blk_drew ?_ | refine blk_alloc ?_ _)); refine blk_far ?_ NB135_134.out _; (with_reducible repeat (first | refine blk_drewN ?_ _ | refine blk_drew ?_ | refine blk_alloc ?_ _)); refine blk_far ?_ NB135_134.out _; (with_reducible repeat (first | refine blk_drewN ?_ _ | refine blk_drew ?_ | refine blk_alloc ?_ _)); exact BK135.out) Try.underlying34 rfl (by kernel_rfl)) rfl ?_
    exact ⟨_, by first | rfl | (simp [errW_none, errW_some] <;> rfl) | (simp [*, errW_none, errW_some] <;> rfl), Kd.V_mono (Kd.R_V (by (with_reducible repeat (first | apply Kd.R_alloc | apply Kd.R_drewN | apply Kd.R_drew)); exact Kd.R_mono (Kd.R_far (p := ⟨gb135, 1, none⟩) (Kd.R_far (p := ⟨gb135, 0, none⟩) (Kd.R_far (p := ⟨gb134, 1, none⟩) (Kd.R_far (p := ⟨gb134, 0, none⟩) (Kd.R_types (Kd.R_types HO143.out BK134.out (by decide)) BK135.out (by decide)) (fun _ hk => hk.1.2) (.slice Ao19 t141.length co19)) (fun _ hk => hk.1.2) (.int .i64 t144)) (fun _ hk => hk.2) (.slice Ao19 t141.length co19)) (fun _ hk => hk.2) (.int .i64 t144)) (fun _ hk => hk.1.1.1))) (fun k_ hk => by first | exact ⟨(.inr (hk.1)), hk.2⟩ | exact (.inr (hk))), by repeat (first | (with_reducible first | exact HB.out | apply below_alloc | apply pw_below_drewN | apply below_drew1 | refine below_set ?_ GE134.out | refine below_set ?_ GE135.out) | exact HB.out)⟩
   ·replace c14 := Bool.eq_false_iff.mpr c14
    subst c14
    have H1 : (if 0 ≤ a2 then (if a2 < (l1.length : Int) then (huff_Write.l0 kj4 a2 t136 (wrap64 ((rd l1 a2) - 1)) l0_0 a0_1 l0_0 a0_1) else (none)) else (none)) = some (r1, r2, r3) := by rw [if_neg (show ¬ (false = true) by decide)] at H; exact H
    clear H
    have H := H1
    clear H1
    by_cases c22 : 0 ≤ a2
    ·rw [if_pos c22] at H
     have c22b0 : decide (0 ≤ a2) = true := decide_eq_true c22
     clear c22
     by_cases c23 : a2 < (l1.length : Int)
     ·rw [if_pos c23] at H
      have c23b0 : decide (a2 < (l1.length : Int)) = true := decide_eq_true c23
      clear c23
      have H' := Aside0.mk H
      clear H
      have hnb24 := NB134_135.out
      have hnc24 := NB135_134.out
      have hcz25_0 : wc.cell? ⟨gb134, 0, none⟩ = some (.slice A0_0 l0_0.length c0_0) := (blk_cell BK134.out 0).trans rfl
      have hcz25_1 : wc.cell? ⟨gb134, 1, none⟩ = some (.int .i64 a0_1) := (blk_cell BK134.out 1).trans rfl
      have hfz25_0 := blk_frozen BK134.out 0
      have hfz25_1 := blk_frozen BK134.out 1
      go_wp2_with (first | ((with_reducible refine gate_dst (N := 10) rfl ?_); (try (refine gate_guard (by rfl) ?_; dsimp only)); refine box_event ?hg (N := 10) ?hd (cs := #[.slice none 0 0, .int .i64 0]) (t := 34) ?hr ?_; (case hd => rfl); (case hg => rfl); (case hr => first | (go_simp; done) | (go_simp; rfl)); intro gb146 hg w26 hbox hb; have n0_ := Aside0.mk (Kd.R_below (by (with_reducible repeat (first | apply Kd.R_alloc | apply Kd.R_drewN | apply Kd.R_drew)); exact HO_8.out) hb); have n1_ := Aside0.mk (Kd.V_below (Kd.V_elderB (by (with_reducible repeat (first | apply Kd.V_alloc | apply Kd.V_drewN | apply Kd.V_drew)); exact HO_135000.out) gb146 (Nat.le_of_eq hg.symm)) hb); have n2_ := Aside0.mk (blk_below (g := gb134) (o := .cells #[.slice A0_0 l0_0.length c0_0, .int .i64 a0_1] 34 (0, 0)) (by (with_reducible repeat (first | refine blk_drewN ?_ _ | refine blk_drew ?_ | refine blk_alloc ?_ _)); exact BK134.out) hb); have n3_ := Aside0.mk (blk_below (g := gb135) (o := .cells #[.slice none 0 0, .int .i64 0] 34 (0, 0)) (by (with_reducible repeat (first | refine blk_drewN ?_ _ | refine blk_drew ?_ | refine blk_alloc ?_ _)); exact BK135.out) hb); have n4_ := Aside0.mk (below_step (by repeat (first | (with_reducible first | exact HB.out | apply below_alloc | apply pw_below_drewN | apply below_drew1 | refine below_set ?_ GE134.out | refine below_set ?_ GE135.out) | exact HB.out)) hb); have n5_ := Aside0.mk (hbox); have n6_ := Aside0.mk ((by rw [hg]; exact (below_size (by repeat (first | (with_reducible first | exact HB.out | apply below_alloc | apply pw_below_drewN | apply below_drew1 | refine below_set ?_ GE134.out | refine below_set ?_ GE135.out) | exact HB.out))) : w.heap.size ≤ gb146)); have n7_ := Aside0.mk ((by rw [hg]; exact (below_size (by repeat (first | (with_reducible first | exact HB.out | apply below_alloc | apply pw_below_drewN | apply below_drew1 | refine below_set ?_ GE134.out | refine below_set ?_ GE135.out) | exact HB.out))) : w.heap.size ≤ gb146)); have n8_ := Aside0.mk ((by rw [hg]; exact Nat.ne_of_lt (blk_lt (g := gb134) (o := .cells #[.slice A0_0 l0_0.length c0_0, .int .i64 a0_1] 34 (0, 0)) (by (with_reducible repeat (first | refine blk_drewN ?_ _ | refine blk_drew ?_ | refine blk_alloc ?_ _)); exact BK134.out)) : gb134 ≠ gb146)); have n9_ := Aside0.mk ((by rw [hg]; exact Nat.ne_of_gt (blk_lt (g := gb134) (o := .cells #[.slice A0_0 l0_0.length c0_0, .int .i64 a0_1] 34 (0, 0)) (by (with_reducible repeat (first | refine blk_drewN ?_ _ | refine blk_drew ?_ | refine blk_alloc ?_ _)); exact BK134.out)) : gb146 ≠ gb134)); have n10_ := Aside0.mk ((by rw [hg]; exact Nat.ne_of_lt (blk_lt (g := gb135) (o := .cells #[.slice none 0 0, .int .i64 0] 34 (0, 0)) (by (with_reducible repeat (first | refine blk_drewN ?_ _ | refine blk_drew ?_ | refine blk_alloc ?_ _)); exact BK135.out)) : gb135 ≠ gb146)); have n11_ := Aside0.mk ((by rw [hg]; exact Nat.ne_of_gt (blk_lt (g := gb135) (o := .cells #[.slice none 0 0, .int .i64 0] 34 (0, 0)) (by (with_reducible repeat (first | refine blk_drewN ?_ _ | refine blk_drew ?_ | refine blk_alloc ?_ _)); exact BK135.out)) : gb146 ≠ gb135)); clear HO_8; clear HO_135000; clear BK134; clear BK135; clear HB; have HO_8 := n0_; have HO_135000 := n1_; have BK134 := n2_; have BK135 := n3_; have HB := n4_; have BK146 := n5_; have GW146 := n6_; have GE146 := n7_; have NB134_146 := n8_; have NB146_134 := n9_; have NB135_146 := n10_; have NB146_135 := n11_; clear n0_ n1_ n2_ n3_ n4_ n5_ n6_ n7_ n8_ n9_ n10_ n11_; clear hb hbox hg; have hnb27 := NB146_134.out; have hnc27 := NB134_146.out; have hnb28 := NB146_135.out; have hnc28 := NB135_146.out; have hcz29_0 : w26.cell? ⟨gb146, 0, none⟩ = some (.slice none 0 0) := (blk_cell BK146.out 0).trans rfl; have hcz29_1 : w26.cell? ⟨gb146, 1, none⟩ = some (.int .i64 0) := (blk_cell BK146.out 1).trans rfl; have hfz29_0 := blk_frozen BK146.out 0; have hfz29_1 := blk_frozen BK146.out 1; have p147 : 0 ≤ (a2 : Int) := of_decide_eq_true (by first | (with_reducible assumption) | assumption); have q147 : a2 < (l1.length : Int) := of_decide_eq_true (by first | (with_reducible assumption) | assumption); obtain ⟨ad147, e147, hx147_0⟩ := Kd.at_int HR1.out a2 p147 q147; cases e147; have hn147_0 : ad147.block ≠ gb146 := Nat.ne_of_lt (Nat.lt_of_lt_of_le (by have := World.block_lt_of_cell? _ _ hx147_0; first | rwa [add_block] at this | exact this) GW146.out); have hn147_1 : ad147.block ≠ gb146 := Nat.ne_of_lt (Nat.lt_of_lt_of_le (by have := World.block_lt_of_cell? _ _ hx147_0; first | rwa [add_block] at this | exact this) GW146.out); replace hx147_0 := (HB.out.cell (World.block_lt_of_cell? w _ hx147_0)).trans hx147_0; replace hx147_0 := (cell_far (p := ⟨gb146, 0, none⟩) (by first | (rw [add_block]; exact hn147_0) | (show (Addr.add _ _).block ≠ _; rw [add_block]; exact hn147_0) | exact hn147_0) (.slice A0_0 l0_0.length c0_0)).trans hx147_0; replace hx147_0 := (cell_far (p := ⟨gb146, 1, none⟩) (by first | (rw [add_block]; exact hn147_1) | (show (Addr.add _ _).block ≠ _; rw [add_block]; exact hn147_1) | exact hn147_1) (.int .i64 a0_1)).trans hx147_0; clear hn147_0; clear hn147_1; replace p147 := eq_true p147; replace q147 := eq_true q147))
      go_loopg [11] kj4 (fun kq v11 w' => ∃ (x11_2 : Int) (x135001_2 : Int) (x136001_2 : Int) (x147000_2 : List Int) (x147001_2 : Int) (u147000 : Value), v11 = .int .i64 x11_2 ∧ Aside0 (huff_Write.l0 kq a2 t136 x11_2 l0_0 x135001_2 x147000_2 x147001_2 = some (r1, r2, r3)) ∧ Aside0 (kq ≤ kj4) ∧ Aside0 (Kd.R (Kd.int .u32) 29 w' w.heap.size (fun k_ => (w.heap.size ≤ k_)) v138 t136) ∧ Aside0 (Kd.V (Kd.int .u8) 5 w' w.heap.size (fun k_ => (P0_0_ k_ ∨ w.heap.size ≤ k_) ∧ some k_ ≠ (v138 : Value).ownBlock ∧ k_ ≠ gb134 ∧ k_ ≠ gb135 ∧ k_ ≠ gb146) (.slice A0_0 l0_0.length c0_0) l0_0) ∧ Aside0 (Kd.V (Kd.int .u8) 5 w' w.heap.size (fun k_ => (P0_0_ k_ ∨ w.heap.size ≤ k_) ∧ some k_ ≠ (v138 : Value).ownBlock ∧ k_ ≠ gb134 ∧ k_ ≠ gb135 ∧ k_ ≠ gb146) u147000 x147000_2) ∧ Aside0 (w'.heap[gb134]? = some (.cells #[(.slice A0_0 l0_0.length c0_0), .int .i64 x135001_2] 34 (0, 0))) ∧ Aside0 (w'.heap[gb135]? = some (.cells #[(.slice none 0 0), .int .i64 x136001_2] 34 (0, 0))) ∧ Aside0 (w'.heap[gb146]? = some (.cells #[u147000, .int .i64 x147001_2] 34 (0, 0))) ∧ Aside0 (Below w.heap.size w w'))
      case atStart => exact ⟨(wrap64 ((rd l1 a2) - 1)), (a0_1), (0), (l0_0), (a0_1), (.slice A0_0 l0_0.length c0_0), (by first | rfl | (simp; done) | (simp [*]; done)), H', ⟨Nat.le_refl _⟩, ⟨by (with_reducible repeat (first | apply Kd.R_alloc | apply Kd.R_drewN | apply Kd.R_drew)); exact Kd.R_mono (Kd.R_far (p := ⟨gb146, 1, none⟩) (Kd.R_far (p := ⟨gb146, 0, none⟩) (Kd.R_types HO_8.out BK146.out (by decide)) (fun _ hk => hk.2) (.slice A0_0 l0_0.length c0_0)) (fun _ hk => hk.2) (.int .i64 a0_1)) (fun _ hk => hk.1)⟩, ⟨by (with_reducible repeat (first | apply Kd.V_alloc | apply Kd.V_drewN | apply Kd.V_drew)); exact Kd.V_mono (Kd.V_far (p := ⟨gb146, 1, none⟩) (Kd.V_far (p := ⟨gb146, 0, none⟩) (Kd.V_mono HO_135000.out (fun k_ hk => (⟨hk, hk.2⟩ : _ ∧ k_ ≠ gb146))) (fun _ hk => hk.2) (.slice A0_0 l0_0.length c0_0)) (fun _ hk => hk.2) (.int .i64 a0_1)) (fun _ hk => ⟨hk.1.1.1, ⟨hk.1.1.2.1, ⟨hk.1.1.2.2.1, ⟨hk.1.1.2.2.2, hk.1.2⟩⟩⟩⟩)⟩, ⟨by (with_reducible repeat (first | apply Kd.V_alloc | apply Kd.V_drewN | apply Kd.V_drew)); exact Kd.V_mono (Kd.V_far (p := ⟨gb146, 1, none⟩) (Kd.V_far (p := ⟨gb146, 0, none⟩) (Kd.V_mono HO_135000.out (fun k_ hk => (⟨hk, hk.2⟩ : _ ∧ k_ ≠ gb146))) (fun _ hk => hk.2) (.slice A0_0 l0_0.length c0_0)) (fun _ hk => hk.2) (.int .i64 a0_1)) (fun _ hk => ⟨hk.1.1.1, ⟨hk.1.1.2.1, ⟨hk.1.1.2.2.1, ⟨hk.1.1.2.2.2, hk.1.2⟩⟩⟩⟩)⟩, ⟨by (with_reducible repeat (first | refine blk_drewN ?_ _ | refine blk_drew ?_ | refine blk_alloc ?_ _)); refine blk_far ?_ NB134_146.out _; (with_reducible repeat (first | refine blk_drewN ?_ _ | refine blk_drew ?_ | refine blk_alloc ?_ _)); refine blk_far ?_ NB134_146.out _; (with_reducible repeat (first | refine blk_drewN ?_ _ | refine blk_drew ?_ | refine blk_alloc ?_ _)); exact BK134.out⟩, ⟨by (with_reducible repeat (first | refine blk_drewN ?_ _ | refine blk_drew ?_ | refine blk_alloc ?_ _)); refine blk_far ?_ NB135_146.out _; (with_reducible repeat (first | refine blk_drewN ?_ _ | refine blk_drew ?_ | refine blk_alloc ?_ _)); refine blk_far ?_ NB135_146.out _; (with_reducible repeat (first | refine blk_drewN ?_ _ | refine blk_drew ?_ | refine blk_alloc ?_ _)); exact BK135.out⟩, ⟨by (with_reducible repeat (first | refine blk_drewN ?_ _ | refine blk_drew ?_ | refine blk_alloc ?_ _)); refine blk_put (cs := #[.slice A0_0 l0_0.length c0_0, .int .i64 0]) ?_ 1 _ rfl; (with_reducible repeat (first | refine blk_drewN ?_ _ | refine blk_drew ?_ | refine blk_alloc ?_ _)); refine blk_put (cs := #[.slice none 0 0, .int .i64 0]) ?_ 0 _ rfl; (with_reducible repeat (first | refine blk_drewN ?_ _ | refine blk_drew ?_ | refine blk_alloc ?_ _)); exact BK146.out⟩, ⟨by repeat (first | (with_reducible first | exact HB.out | apply below_alloc | apply pw_below_drewN | apply below_drew1 | refine below_set ?_ GE134.out | refine below_set ?_ GE135.out | refine below_set ?_ GE146.out) | exact HB.out)⟩⟩
      case round =>
       clear H'
       try clear c1
       try clear p1
       try clear q1
       try clear hx1
       try clear c2
       try clear p2
       try clear p6
       try clear c9
       try clear c9b0
       try clear c9b1
       try clear c10
       try clear c10b0
       try clear c11
       try clear c11b0
       try clear c12
       try clear c12b0
       try clear c13
       try clear c13b0
       try clear c14
       try clear p14
       try clear q14
       try clear hx14
       try clear c16
       try clear c17
       try clear c22
       try clear c22b0
       try clear c23
       try clear c23b0
       try clear c24
       try clear c26
       try clear c27
       try clear c28
       try clear hcz17_0
       try clear hcz17_1
       try clear hcz20_0
       try clear hcz20_1
       try clear hcz21_0
       try clear hcz21_1
       try clear hcz25_0
       try clear hcz25_1
       try clear hcz29_0
       try clear hcz29_1
       try clear hfz17_0
       try clear hfz17_1
       try clear hfz20_0
       try clear hfz20_1
       try clear hfz21_0
       try clear hfz21_1
       try clear hfz25_0
       try clear hfz25_1
       try clear hfz29_0
       try clear hfz29_1
       try clear hx140_0
       try clear hx147_0
       try clear p1
       try clear p140
       try clear p147
       try clear p2
       try clear q1
       try clear q140
       try clear q147
       obtain ⟨x11_2, x135001_2, x136001_2, x147000_2, x147001_2, u147000, rfl, HA, HK2, HO_8, HO_135000, HO_147000, BK134, BK135, BK146, HB⟩ := hrel
       cases gk with
       | zero => exact absurd HA.out (by simp [huff_Write.l0])
       | succ k2 =>
        have H := HA.out
        clear HA
        simp only [huff_Write.l0] at H
        by_cases c30 : x11_2 ≥ 0
        ·rw [if_pos c30] at H
         have c30b0 : decide (0 ≤ x11_2) = true := decide_eq_true c30
         clear c30
         by_cases c31 : 0 ≤ a2
         ·rw [if_pos c31] at H
          have c31b0 : decide (0 ≤ a2) = true := decide_eq_true c31
          clear c31
          by_cases c32 : a2 < (t136.length : Int)
          ·rw [if_pos c32] at H
           have c32b0 : decide (a2 < (t136.length : Int)) = true := decide_eq_true c32
           clear c32
           by_cases c33 : 0 ≤ x11_2
           ·rw [if_pos c33] at H
            have c33b0 := eq_true c33
            have c33b1 : decide (0 ≤ x11_2) = true := decide_eq_true c33
            clear c33
            obtain ⟨ji34, hji34⟩ : ∃ j_ : Int, (shr .u32 (rd t136 a2) x11_2) = j_ := ⟨_, rfl⟩
            replace H : ((bits_Put.f k2 x147000_2 x147001_2 (IntKind.u64.wrap (Go.bits .and .u32 (ji34) 1)) 1).bind fun bt149 => (if bt149.2.2 = 0 then (huff_Write.l0 k2 a2 t136 (wrap64 (x11_2 - 1)) l0_0 x135001_2 bt149.1 bt149.2.1) else ((bits_Put.f k2 l0_0 x135001_2 0 0).bind fun bt155 => (some (bt155.1, bt155.2.1, bt149.2.2))))) = some (r1, r2, r3) := by first | (rw [hji34] at H; exact H) | (simp only [hji34] at H ⊢; exact H)
            have hji34_ : ((rd t136 a2) / 2 ^ min x11_2.toNat 32) = ji34 := hji34
            have hji34z : x11_2 ≤ 32 → ((rd t136 a2) / 2 ^ x11_2.toNat) = ji34 := shr_small hji34
            replace H := Option.bind_eq_some_iff.mp H
            obtain ⟨⟨t149, t152, t153⟩, A350, H⟩ := H
            replace H : (if t153 = 0 then (huff_Write.l0 k2 a2 t136 (wrap64 (x11_2 - 1)) l0_0 x135001_2 t149 t152) else ((bits_Put.f k2 l0_0 x135001_2 0 0).bind fun bt155 => (some (bt155.1, bt155.2.1, t153)))) = some (r1, r2, r3) := H
            have A35 := Aside0.mk A350
            clear A350
            by_cases c36 : t153 = 0
            ·rw [if_pos c36] at H
             have c36b0 : (t153 == 0) = true := beq_iff_eq.mpr c36
             have c36b1 : (t153 != 0) = false := bne_eq_false_iff_eq.mpr c36
             clear c36
             have H' := Aside0.mk H
             clear H
             obtain ⟨Ao37, co37, eo37⟩ := Kd.V_slice HO_147000.out
             subst eo37
             try go_wp2
             have n0_ := Aside0.mk (Kd.R_drew HO_8.out)
             have n1_ := Aside0.mk (Kd.V_drew HO_135000.out)
             have n2_ := Aside0.mk (Kd.V_drew HO_147000.out)
             have n3_ := Aside0.mk (blk_drew BK134.out)
             have n4_ := Aside0.mk (blk_drew BK135.out)
             have n5_ := Aside0.mk (blk_drew BK146.out)
             have n6_ := Aside0.mk (below_drew1 HB.out)
             clear HO_8
             clear HO_135000
             clear HO_147000
             clear BK134
             clear BK135
             clear BK146
             clear HB
             have HO_8 := n0_
             have HO_135000 := n1_
             have HO_147000 := n2_
             have BK134 := n3_
             have BK135 := n4_
             have BK146 := n5_
             have HB := n6_
             clear n0_ n1_ n2_ n3_ n4_ n5_ n6_
             obtain ⟨Ao39, co39, eo39⟩ := Kd.R_slice HO_8.out
             (first | subst eo39 | (injection eo39 with f1_ f2_ f3_; have f4_ := f1_.symm; have f5_ := f3_.symm; clear f1_ f2_ f3_; subst f4_; subst f5_))
             have p148 : 0 ≤ (a2 : Int) := of_decide_eq_true (by first | (with_reducible assumption) | assumption)
             have q148 : a2 < (t136.length : Int) := of_decide_eq_true (by first | (with_reducible assumption) | assumption)
             obtain ⟨ad148, e148, hx148_0⟩ := Kd.at_int (Kd.R_reads' HO_8.out).2.2 a2 p148 q148
             cases e148
             replace p148 := eq_true p148
             replace q148 := eq_true q148
             refine start_ (n := 16) (S := fun w' => w'.cell? ⟨gb146, 0, none⟩ = some (.slice Ao37 x147000_2.length co37) ∧ w'.cell? ⟨gb146, 1, none⟩ = some (.int .i64 x147001_2) ∧ w'.cell? (ad148.add (a2).toNat) = some (.int .u32 (rd t136 a2))) (ds := []) huff_Write.y0 (by kernel_rfl) rfl rfl ⟨(blk_cell BK146.out 0).trans rfl, (blk_cell BK146.out 1).trans rfl, hx148_0⟩ (fun hHeld => ?_); refine with_tabW huff_Write.tab9 huff_Write.bits9 (fun HT_ HW_ => ?_)
             generalize wr.drew = w38 at HO_8 HO_135000 HO_147000 BK134 BK135 BK146 HB hx148_0 hHeld ⊢
             refine pure_ (i := 1) (N := some 56) (v := ?_) (a' := ?_) huff_Write.y1 rfl rfl (any_of HT_.out (by kernel_rfl)) (fun _ _ _ h => h) (Or.inl ⟨by rfl, ?_⟩) ?_ ?_
             rotate_left
             ·intro w'
              go_simp
              with_reducible rfl
             rotate_left
             ·simp only [Act.put, List.setIfInBounds_toArray, List.set_cons_zero, List.set_cons_succ, i64_w, i32_w]
              rfl
             refine pure_ (i := 2) (N := some 57) (v := ?_) (a' := ?_) huff_Write.y2 rfl rfl (any_of HT_.out (by kernel_rfl)) (fun _ _ _ h => h) (Or.inl ⟨by rfl, ?_⟩) ?_ ?_
             rotate_left
             ·intro w'
              go_simp
              with_reducible rfl
             rotate_left
             ·simp only [Act.put, List.setIfInBounds_toArray, List.set_cons_zero, List.set_cons_succ, i64_w, i32_w]
              rfl
             refine pure_ (i := 3) (N := some 58) (v := ?_) (a' := ?_) huff_Write.y3 rfl rfl (any_of HT_.out (by kernel_rfl)) (fun _ _ _ h => h) (Or.inl ⟨by rfl, ?_⟩) ?_ ?_
             rotate_left
             ·intro w'
              go_simp
              with_reducible rfl
             rotate_left
             ·simp only [Act.put, List.setIfInBounds_toArray, List.set_cons_zero, List.set_cons_succ, i64_w, i32_w]
              rfl
             refine pure_ (i := 5) (N := some 60) (v := ?_) (a' := ?_) huff_Write.y4 rfl rfl (any_of HT_.out (by kernel_rfl)) (fun _ _ _ h => h) (Or.inl ⟨by rfl, ?_⟩) ?_ ?_
             rotate_left
             ·intro w'
              go_simp
              with_reducible rfl
             rotate_left
             ·simp only [Act.put, List.setIfInBounds_toArray, List.set_cons_zero, List.set_cons_succ, i64_w, i32_w]
              rfl
             refine take_ (i := 0) (N := some 55) (v := ?_) (a' := ?_) huff_Write.y5 rfl rfl (take_ofW HT_.out HW_.out (by kernel_rfl)) (fun _ _ _ h => h) (Or.inl ⟨by rfl, ?_⟩) hHeld ?_ ?_
             rotate_left
             ·rintro w' ⟨s0, s1, s2⟩
              go_simp
              with_reducible rfl
             rotate_left
             ·simp only [Act.put, List.setIfInBounds_toArray, List.set_cons_zero, List.set_cons_succ, i64_w, i32_w]
              rfl
             refine take_ (i := 4) (N := some 59) (v := ?_) (a' := ?_) huff_Write.y6 rfl rfl (take_ofW HT_.out HW_.out (by kernel_rfl)) (fun _ _ _ h => h) (Or.inl ⟨by rfl, ?_⟩) hHeld ?_ ?_
             rotate_left
             ·rintro w' ⟨s0, s1, s2⟩
              go_simp
              with_reducible rfl
             rotate_left
             ·simp only [Act.put, List.setIfInBounds_toArray, List.set_cons_zero, List.set_cons_succ, i64_w, i32_w]
              rfl
             refine pure_ (i := 6) (N := some 61) (v := ?_) (a' := ?_) huff_Write.y7 rfl rfl (any_of HT_.out (by kernel_rfl)) (fun _ _ _ h => h) (Or.inl ⟨by rfl, ?_⟩) ?_ ?_
             rotate_left
             ·intro w'
              go_simp
              with_reducible rfl
             rotate_left
             ·simp only [Act.put, List.setIfInBounds_toArray, List.set_cons_zero, List.set_cons_succ, i64_w, i32_w]
              rfl
             refine pure_ (i := 7) (N := some 62) (v := ?_) (a' := ?_) huff_Write.y8 rfl rfl (any_of HT_.out (by kernel_rfl)) (fun _ _ _ h => h) (Or.inl ⟨by rfl, ?_⟩) ?_ ?_
             rotate_left
             ·intro w'
              go_simp
              with_reducible rfl
             rotate_left
             ·simp only [Act.put, List.setIfInBounds_toArray, List.set_cons_zero, List.set_cons_succ, i64_w, i32_w]
              rfl
             refine pure_ (i := 8) (N := some 63) (v := ?_) (a' := ?_) huff_Write.y9 rfl rfl (any_of HT_.out (by kernel_rfl)) (fun _ _ _ h => h) (Or.inl ⟨by rfl, ?_⟩) ?_ ?_
             rotate_left
             ·intro w'
              go_simp
              with_reducible rfl
             rotate_left
             ·simp only [Act.put, List.setIfInBounds_toArray, List.set_cons_zero, List.set_cons_succ, i64_w, i32_w]
              rfl
             refine join_ (σ := Value × Nat) 2 huff_Write.y10 (fun s_ => [(64, .tuple #[.agg #[s_.1, .int .i64 t152], .int .i64 t153]), (12, .pointer (some ⟨s_.2, 0, none⟩)), (54, .tuple #[.agg #[s_.1, .int .i64 t152], .int .i64 t153]), (65, .agg #[s_.1, .int .i64 t152]), (66, .int .i64 t153)]) (fun s_ w' => (w'.cell? ⟨gb146, 0, none⟩ = some (.slice Ao37 x147000_2.length co37) ∧ w'.cell? ⟨gb146, 1, none⟩ = some (.int .i64 x147001_2) ∧ w'.cell? (ad148.add (a2).toNat) = some (.int .u32 (rd t136 a2))) ∧ (Kd.R (Kd.int .u8) 5 w' w.heap.size (fun k_ => (w.heap.size ≤ k_)) s_.1 t149) ∧ (Kd.V (Kd.int .u8) 5 w' w.heap.size (fun k_ => (P0_0_ k_ ∨ w.heap.size ≤ k_) ∧ some k_ ≠ (s_.1 : Value).ownBlock ∧ some k_ ≠ (.slice (some ad148) t136.length co39 : Value).ownBlock ∧ k_ ≠ gb134 ∧ k_ ≠ gb135 ∧ k_ ≠ gb146 ∧ k_ ≠ s_.2) (.slice A0_0 l0_0.length c0_0) l0_0) ∧ (Kd.V (Kd.int .u8) 5 w' w.heap.size (fun k_ => (P0_0_ k_ ∨ w.heap.size ≤ k_) ∧ some k_ ≠ (s_.1 : Value).ownBlock ∧ some k_ ≠ (.slice (some ad148) t136.length co39 : Value).ownBlock ∧ k_ ≠ gb134 ∧ k_ ≠ gb135 ∧ k_ ≠ gb146 ∧ k_ ≠ s_.2) (.slice Ao37 x147000_2.length co37) x147000_2) ∧ (Kd.R (Kd.int .u32) 29 w' w.heap.size (fun k_ => (w.heap.size ≤ k_)) (.slice (some ad148) t136.length co39) t136) ∧ (w'.heap[gb134]? = some (.cells #[.slice A0_0 l0_0.length c0_0, .int .i64 x135001_2] 34 (0, 0))) ∧ (w'.heap[gb135]? = some (.cells #[.slice none 0 0, .int .i64 x136001_2] 34 (0, 0))) ∧ (w'.heap[gb146]? = some (.cells #[.slice Ao37 x147000_2.length co37, .int .i64 x147001_2] 34 (0, 0))) ∧ (w'.heap[s_.2]? = some (.cells #[.slice none 0 0, .int .i64 0] 34 (0, 0))) ∧ (w.heap.size ≤ s_.2) ∧ (w.heap.size ≤ s_.2) ∧ (gb134 ≠ s_.2) ∧ (s_.2 ≠ gb134) ∧ (gb135 ≠ s_.2) ∧ (s_.2 ≠ gb135) ∧ (gb146 ≠ s_.2) ∧ (s_.2 ≠ gb146) ∧ (Below w.heap.size w w')) ?_ ?_
             rotate_left
             ·intro hCont
              refine two_ (i := 9) (j := 13) (Ni := some 64) (Nj := some 12) huff_Write.y11 huff_Write.y12 rfl rfl rfl rfl (two_of HT_.out (by kernel_rfl)) (by decide) (by decide) (fun K hK => ?_) (fun K hK => ?_)
              ·skip
               refine goes_ Try.func26 (by kernel_rfl) rfl #[.agg #[.slice Ao37 x147000_2.length co37, .int .i64 x147001_2], .int .u64 (IntKind.u64.wrap (Go.bits .and .u32 (ji34) 1)), .int .i64 1] (by rfl) rfl rfl (by (try simp only [List.map_toArray, List.map_cons, List.map_nil]); first | done | (simp only [hji34]; rfl) | rfl | (simp only [List.length_drop, List.length_take]; rfl)) ?_
               with_reducible refine (bits_Put.calls k2 _ _ x147000_2 x147001_2 (IntKind.u64.wrap (Go.bits .and .u32 (ji34) 1)) 1 t149 t152 t153 _ ?side1 ?side2 A35.out).mono ?_
               (case side1 => repeat (first | exact (Kd.V_reads' HO_147000.out).2.2 | (with_reducible refine Kd.C_alloc ?_ _) | (with_reducible refine Kd.C_drewN ?_ _) | (with_reducible refine Kd.C_drew ?_)))
               (case side2 => exact (Kd.V_reads' HO_147000.out).2.1)
               rintro e w40 ⟨v150, rfl, ho0, hb⟩
               have HS2_ := (hb.cell (World.block_lt_of_cell? _ _ (hHeld.2.2))).trans (hHeld.2.2)
               refine ⟨_, rfl, ?_⟩
               have n0_ := Aside0.mk (Kd.R_below (by (with_reducible repeat (first | apply Kd.R_alloc | apply Kd.R_drewN | apply Kd.R_drew)); exact HO_8.out) hb)
               have n1_ := Aside0.mk (Kd.V_elder' (by (with_reducible repeat (first | apply Kd.V_alloc | apply Kd.V_drewN | apply Kd.V_drew)); exact HO_135000.out) (Kd.R_base ho0) hb)
               have n2_ := Aside0.mk (Kd.V_elder' (by (with_reducible repeat (first | apply Kd.V_alloc | apply Kd.V_drewN | apply Kd.V_drew)); exact HO_147000.out) (Kd.R_base ho0) hb)
               have n3_ := Aside0.mk (Kd.R_lower (Kd.R_newM (M := fun k_ => (w.heap.size ≤ k_)) ho0 (below_size (by repeat (first | (with_reducible first | exact HB.out | apply below_alloc | apply pw_below_drewN | apply below_drew1 | refine below_set ?_ GE134.out | refine below_set ?_ GE135.out | refine below_set ?_ GE146.out) | exact HB.out))) (fun k_ h_ => h_)) (below_size (by repeat (first | (with_reducible first | exact HB.out | apply below_alloc | apply pw_below_drewN | apply below_drew1 | refine below_set ?_ GE134.out | refine below_set ?_ GE135.out | refine below_set ?_ GE146.out) | exact HB.out))))
               have n4_ := Aside0.mk (blk_below (g := gb134) (o := .cells #[.slice A0_0 l0_0.length c0_0, .int .i64 x135001_2] 34 (0, 0)) (by (with_reducible repeat (first | refine blk_drewN ?_ _ | refine blk_drew ?_ | refine blk_alloc ?_ _)); exact BK134.out) hb)
               have n5_ := Aside0.mk (blk_below (g := gb135) (o := .cells #[.slice none 0 0, .int .i64 x136001_2] 34 (0, 0)) (by (with_reducible repeat (first | refine blk_drewN ?_ _ | refine blk_drew ?_ | refine blk_alloc ?_ _)); exact BK135.out) hb)
               have n6_ := Aside0.mk (blk_below (g := gb146) (o := .cells #[.slice Ao37 x147000_2.length co37, .int .i64 x147001_2] 34 (0, 0)) (by (with_reducible repeat (first | refine blk_drewN ?_ _ | refine blk_drew ?_ | refine blk_alloc ?_ _)); exact BK146.out) hb)
               have n7_ := Aside0.mk (below_step (by repeat (first | (with_reducible first | exact HB.out | apply below_alloc | apply pw_below_drewN | apply below_drew1 | refine below_set ?_ GE134.out | refine below_set ?_ GE135.out | refine below_set ?_ GE146.out) | exact HB.out)) hb)
               clear HO_8
               clear HO_135000
               clear HO_147000
               clear BK134
               clear BK135
               clear BK146
               clear HB
               have HO_8 := n0_
               have HO_135000 := n1_
               have HO_147000 := n2_
               have HO151 := n3_
               have BK134 := n4_
               have BK135 := n5_
               have BK146 := n6_
               have HB := n7_
               clear n0_ n1_ n2_ n3_ n4_ n5_ n6_ n7_
               (try clear hb)
               (try clear hb2)
               (try clear hk)
               (try clear hi)
               (try clear ho0)
               refine hK.out _ _ ⟨(blk_cell BK146.out 0).trans rfl, (blk_cell BK146.out 1).trans rfl, HS2_⟩ (fun hHeld => ?_)
               clear hK K
               refine norm_ (a' := ?_) ?_ ?_
               rotate_left
               ·show Act.put _ (some 64) _ = _
                simp only [Act.put, List.setIfInBounds_toArray, List.set_cons_zero, List.set_cons_succ, i64_w, i32_w]
                rfl
               refine pure_ (i := 10) (N := some 54) (v := ?_) (a' := ?_) huff_Write.y13 rfl rfl (any_of HT_.out (by kernel_rfl)) (fun _ _ _ h => h) (Or.inl ⟨by rfl, ?_⟩) ?_ ?_
               rotate_left
               ·intro w'
                go_simp
                with_reducible rfl
               rotate_left
               ·simp only [Act.put, List.setIfInBounds_toArray, List.set_cons_zero, List.set_cons_succ, i64_w, i32_w]
                rfl
               refine pure_ (i := 11) (N := some 65) (v := ?_) (a' := ?_) huff_Write.y14 rfl rfl (any_of HT_.out (by kernel_rfl)) (fun _ _ _ h => h) (Or.inl ⟨by rfl, ?_⟩) ?_ ?_
               rotate_left
               ·intro w'
                go_simp
                with_reducible rfl
               rotate_left
               ·simp only [Act.put, List.setIfInBounds_toArray, List.set_cons_zero, List.set_cons_succ, i64_w, i32_w]
                rfl
               refine pure_ (i := 12) (N := some 66) (v := ?_) (a' := ?_) huff_Write.y15 rfl rfl (any_of HT_.out (by kernel_rfl)) (fun _ _ _ h => h) (Or.inl ⟨by rfl, ?_⟩) ?_ ?_
               rotate_left
               ·intro w'
                go_simp
                with_reducible rfl
               rotate_left
               ·simp only [Act.put, List.setIfInBounds_toArray, List.set_cons_zero, List.set_cons_succ, i64_w, i32_w]
                rfl
               refine one_ (i := 13) (N := some 12) huff_Write.y10 rfl rfl (one_of HT_.out (by kernel_rfl)) (by decide) (fun K hK => ?_)
               refine box_step ?hg (N := 12) ?hd (cs := #[.slice none 0 0, .int .i64 0]) (t := 34) ?hr ?_; (case hd => rfl); (case hg => rfl); (case hr => first | (go_simp; done) | (go_simp; rfl))
               intro gb154 hg w41 hbox hb
               have HS2_ := (hb.cell (World.block_lt_of_cell? _ _ (hHeld.2.2))).trans (hHeld.2.2)
               have n0_ := Aside0.mk (Kd.R_below (by (with_reducible repeat (first | apply Kd.R_alloc | apply Kd.R_drewN | apply Kd.R_drew)); exact HO_8.out) hb)
               have n1_ := Aside0.mk (Kd.V_below (Kd.V_elderB (by (with_reducible repeat (first | apply Kd.V_alloc | apply Kd.V_drewN | apply Kd.V_drew)); exact HO_135000.out) gb154 (Nat.le_of_eq hg.symm)) hb)
               have n2_ := Aside0.mk (Kd.V_below (Kd.V_elderB (by (with_reducible repeat (first | apply Kd.V_alloc | apply Kd.V_drewN | apply Kd.V_drew)); exact HO_147000.out) gb154 (Nat.le_of_eq hg.symm)) hb)
               have n3_ := Aside0.mk (Kd.R_below (by (with_reducible repeat (first | apply Kd.R_alloc | apply Kd.R_drewN | apply Kd.R_drew)); exact HO151.out) hb)
               have n4_ := Aside0.mk (blk_below (g := gb134) (o := .cells #[.slice A0_0 l0_0.length c0_0, .int .i64 x135001_2] 34 (0, 0)) (by (with_reducible repeat (first | refine blk_drewN ?_ _ | refine blk_drew ?_ | refine blk_alloc ?_ _)); exact BK134.out) hb)
               have n5_ := Aside0.mk (blk_below (g := gb135) (o := .cells #[.slice none 0 0, .int .i64 x136001_2] 34 (0, 0)) (by (with_reducible repeat (first | refine blk_drewN ?_ _ | refine blk_drew ?_ | refine blk_alloc ?_ _)); exact BK135.out) hb)
               have n6_ := Aside0.mk (blk_below (g := gb146) (o := .cells #[.slice Ao37 x147000_2.length co37, .int .i64 x147001_2] 34 (0, 0)) (by (with_reducible repeat (first | refine blk_drewN ?_ _ | refine blk_drew ?_ | refine blk_alloc ?_ _)); exact BK146.out) hb)
               have n7_ := Aside0.mk (below_step (by repeat (first | (with_reducible first | exact HB.out | apply below_alloc | apply pw_below_drewN | apply below_drew1 | refine below_set ?_ GE134.out | refine below_set ?_ GE135.out | refine below_set ?_ GE146.out) | exact HB.out)) hb)
               have n8_ := Aside0.mk (hbox)
               have n9_ := Aside0.mk ((by rw [hg]; exact (below_size (by repeat (first | (with_reducible first | exact HB.out | apply below_alloc | apply pw_below_drewN | apply below_drew1 | refine below_set ?_ GE134.out | refine below_set ?_ GE135.out | refine below_set ?_ GE146.out) | exact HB.out))) : w.heap.size ≤ gb154))
               have n10_ := Aside0.mk ((by rw [hg]; exact (below_size (by repeat (first | (with_reducible first | exact HB.out | apply below_alloc | apply pw_below_drewN | apply below_drew1 | refine below_set ?_ GE134.out | refine below_set ?_ GE135.out | refine below_set ?_ GE146.out) | exact HB.out))) : w.heap.size ≤ gb154))
               have n11_ := Aside0.mk ((by rw [hg]; exact Nat.ne_of_lt (blk_lt (g := gb134) (o := .cells #[.slice A0_0 l0_0.length c0_0, .int .i64 x135001_2] 34 (0, 0)) (by (with_reducible repeat (first | refine blk_drewN ?_ _ | refine blk_drew ?_ | refine blk_alloc ?_ _)); exact BK134.out)) : gb134 ≠ gb154))
               have n12_ := Aside0.mk ((by rw [hg]; exact Nat.ne_of_gt (blk_lt (g := gb134) (o := .cells #[.slice A0_0 l0_0.length c0_0, .int .i64 x135001_2] 34 (0, 0)) (by (with_reducible repeat (first | refine blk_drewN ?_ _ | refine blk_drew ?_ | refine blk_alloc ?_ _)); exact BK134.out)) : gb154 ≠ gb134))
               have n13_ := Aside0.mk ((by rw [hg]; exact Nat.ne_of_lt (blk_lt (g := gb135) (o := .cells #[.slice none 0 0, .int .i64 x136001_2] 34 (0, 0)) (by (with_reducible repeat (first | refine blk_drewN ?_ _ | refine blk_drew ?_ | refine blk_alloc ?_ _)); exact BK135.out)) : gb135 ≠ gb154))
               have n14_ := Aside0.mk ((by rw [hg]; exact Nat.ne_of_gt (blk_lt (g := gb135) (o := .cells #[.slice none 0 0, .int .i64 x136001_2] 34 (0, 0)) (by (with_reducible repeat (first | refine blk_drewN ?_ _ | refine blk_drew ?_ | refine blk_alloc ?_ _)); exact BK135.out)) : gb154 ≠ gb135))
               have n15_ := Aside0.mk ((by rw [hg]; exact Nat.ne_of_lt (blk_lt (g := gb146) (o := .cells #[.slice Ao37 x147000_2.length co37, .int .i64 x147001_2] 34 (0, 0)) (by (with_reducible repeat (first | refine blk_drewN ?_ _ | refine blk_drew ?_ | refine blk_alloc ?_ _)); exact BK146.out)) : gb146 ≠ gb154))
               have n16_ := Aside0.mk ((by rw [hg]; exact Nat.ne_of_gt (blk_lt (g := gb146) (o := .cells #[.slice Ao37 x147000_2.length co37, .int .i64 x147001_2] 34 (0, 0)) (by (with_reducible repeat (first | refine blk_drewN ?_ _ | refine blk_drew ?_ | refine blk_alloc ?_ _)); exact BK146.out)) : gb154 ≠ gb146))
               clear HO_8
               clear HO_135000
               clear HO_147000
               clear HO151
               clear BK134
               clear BK135
               clear BK146
               clear HB
               have HO_8 := n0_
               have HO_135000 := n1_
               have HO_147000 := n2_
               have HO151 := n3_
               have BK134 := n4_
               have BK135 := n5_
               have BK146 := n6_
               have HB := n7_
               have BK154 := n8_
               have GW154 := n9_
               have GE154 := n10_
               have NB134_154 := n11_
               have NB154_134 := n12_
               have NB135_154 := n13_
               have NB154_135 := n14_
               have NB146_154 := n15_
               have NB154_146 := n16_
               clear n0_ n1_ n2_ n3_ n4_ n5_ n6_ n7_ n8_ n9_ n10_ n11_ n12_ n13_ n14_ n15_ n16_
               clear hb hbox hg
               refine hK.out _ _ ⟨(blk_cell BK146.out 0).trans rfl, (blk_cell BK146.out 1).trans rfl, HS2_⟩ (fun hHeld => ?_)
               clear hK K
               refine norm_ (a' := ?_) ?_ ?_
               rotate_left
               ·show Act.put _ (some 12) _ = _
                simp only [Act.put, List.setIfInBounds_toArray, List.set_cons_zero, List.set_cons_succ, i64_w, i32_w]
                rfl
               exact norm_ (by simp only [putAll, Act.put, List.setIfInBounds_toArray, List.set_cons_zero, List.set_cons_succ]) (hCont (v150, gb154) _ ⟨hHeld, (by (with_reducible repeat (first | apply Kd.R_alloc | apply Kd.R_drewN | apply Kd.R_drew)); exact Kd.R_mono HO151.out (fun _ hk => hk.1)), (by (with_reducible repeat (first | apply Kd.V_alloc | apply Kd.V_drewN | apply Kd.V_drew)); exact Kd.V_mono HO_135000.out (fun _ hk => ⟨hk.1.1.1, ⟨hk.1.2, ⟨hk.1.1.2.1, ⟨hk.1.1.2.2.1, ⟨hk.1.1.2.2.2.1, ⟨hk.1.1.2.2.2.2, hk.2⟩⟩⟩⟩⟩⟩)), (by (with_reducible repeat (first | apply Kd.V_alloc | apply Kd.V_drewN | apply Kd.V_drew)); exact Kd.V_mono HO_147000.out (fun _ hk => ⟨hk.1.1.1, ⟨hk.1.2, ⟨hk.1.1.2.1, ⟨hk.1.1.2.2.1, ⟨hk.1.1.2.2.2.1, ⟨hk.1.1.2.2.2.2, hk.2⟩⟩⟩⟩⟩⟩)), (by (with_reducible repeat (first | apply Kd.R_alloc | apply Kd.R_drewN | apply Kd.R_drew)); exact HO_8.out), (by (with_reducible repeat (first | refine blk_drewN ?_ _ | refine blk_drew ?_ | refine blk_alloc ?_ _)); exact BK134.out), (by (with_reducible repeat (first | refine blk_drewN ?_ _ | refine blk_drew ?_ | refine blk_alloc ?_ _)); exact BK135.out), (by (with_reducible repeat (first | refine blk_drewN ?_ _ | refine blk_drew ?_ | refine blk_alloc ?_ _)); exact BK146.out), (by (with_reducible repeat (first | refine blk_drewN ?_ _ | refine blk_drew ?_ | refine blk_alloc ?_ _)); exact BK154.out), GW154.out, GE154.out, NB134_154.out, NB154_134.out, NB135_154.out, NB154_135.out, NB146_154.out, NB154_146.out, (by repeat (first | (with_reducible first | exact HB.out | apply below_alloc | apply pw_below_drewN | apply below_drew1 | refine below_set ?_ GE134.out | refine below_set ?_ GE135.out | refine below_set ?_ GE146.out | refine below_set ?_ GE154.out) | exact HB.out))⟩)
              ·skip
               refine box_step ?hg (N := 12) ?hd (cs := #[.slice none 0 0, .int .i64 0]) (t := 34) ?hr ?_; (case hd => rfl); (case hg => rfl); (case hr => first | (go_simp; done) | (go_simp; rfl))
               intro gb154 hg w40 hbox hb
               have HS2_ := (hb.cell (World.block_lt_of_cell? _ _ (hHeld.2.2))).trans (hHeld.2.2)
               have n0_ := Aside0.mk (Kd.R_below (by (with_reducible repeat (first | apply Kd.R_alloc | apply Kd.R_drewN | apply Kd.R_drew)); exact HO_8.out) hb)
               have n1_ := Aside0.mk (Kd.V_below (Kd.V_elderB (by (with_reducible repeat (first | apply Kd.V_alloc | apply Kd.V_drewN | apply Kd.V_drew)); exact HO_135000.out) gb154 (Nat.le_of_eq hg.symm)) hb)
               have n2_ := Aside0.mk (Kd.V_below (Kd.V_elderB (by (with_reducible repeat (first | apply Kd.V_alloc | apply Kd.V_drewN | apply Kd.V_drew)); exact HO_147000.out) gb154 (Nat.le_of_eq hg.symm)) hb)
               have n3_ := Aside0.mk (blk_below (g := gb134) (o := .cells #[.slice A0_0 l0_0.length c0_0, .int .i64 x135001_2] 34 (0, 0)) (by (with_reducible repeat (first | refine blk_drewN ?_ _ | refine blk_drew ?_ | refine blk_alloc ?_ _)); exact BK134.out) hb)
               have n4_ := Aside0.mk (blk_below (g := gb135) (o := .cells #[.slice none 0 0, .int .i64 x136001_2] 34 (0, 0)) (by (with_reducible repeat (first | refine blk_drewN ?_ _ | refine blk_drew ?_ | refine blk_alloc ?_ _)); exact BK135.out) hb)
               have n5_ := Aside0.mk (blk_below (g := gb146) (o := .cells #[.slice Ao37 x147000_2.length co37, .int .i64 x147001_2] 34 (0, 0)) (by (with_reducible repeat (first | refine blk_drewN ?_ _ | refine blk_drew ?_ | refine blk_alloc ?_ _)); exact BK146.out) hb)
               have n6_ := Aside0.mk (below_step (by repeat (first | (with_reducible first | exact HB.out | apply below_alloc | apply pw_below_drewN | apply below_drew1 | refine below_set ?_ GE134.out | refine below_set ?_ GE135.out | refine below_set ?_ GE146.out) | exact HB.out)) hb)
               have n7_ := Aside0.mk (hbox)
               have n8_ := Aside0.mk ((by rw [hg]; exact (below_size (by repeat (first | (with_reducible first | exact HB.out | apply below_alloc | apply pw_below_drewN | apply below_drew1 | refine below_set ?_ GE134.out | refine below_set ?_ GE135.out | refine below_set ?_ GE146.out) | exact HB.out))) : w.heap.size ≤ gb154))
               have n9_ := Aside0.mk ((by rw [hg]; exact (below_size (by repeat (first | (with_reducible first | exact HB.out | apply below_alloc | apply pw_below_drewN | apply below_drew1 | refine below_set ?_ GE134.out | refine below_set ?_ GE135.out | refine below_set ?_ GE146.out) | exact HB.out))) : w.heap.size ≤ gb154))
               have n10_ := Aside0.mk ((by rw [hg]; exact Nat.ne_of_lt (blk_lt (g := gb134) (o := .cells #[.slice A0_0 l0_0.length c0_0, .int .i64 x135001_2] 34 (0, 0)) (by (with_reducible repeat (first | refine blk_drewN ?_ _ | refine blk_drew ?_ | refine blk_alloc ?_ _)); exact BK134.out)) : gb134 ≠ gb154))
               have n11_ := Aside0.mk ((by rw [hg]; exact Nat.ne_of_gt (blk_lt (g := gb134) (o := .cells #[.slice A0_0 l0_0.length c0_0, .int .i64 x135001_2] 34 (0, 0)) (by (with_reducible repeat (first | refine blk_drewN ?_ _ | refine blk_drew ?_ | refine blk_alloc ?_ _)); exact BK134.out)) : gb154 ≠ gb134))
               have n12_ := Aside0.mk ((by rw [hg]; exact Nat.ne_of_lt (blk_lt (g := gb135) (o := .cells #[.slice none 0 0, .int .i64 x136001_2] 34 (0, 0)) (by (with_reducible repeat (first | refine blk_drewN ?_ _ | refine blk_drew ?_ | refine blk_alloc ?_ _)); exact BK135.out)) : gb135 ≠ gb154))
               have n13_ := Aside0.mk ((by rw [hg]; exact Nat.ne_of_gt (blk_lt (g := gb135) (o := .cells #[.slice none 0 0, .int .i64 x136001_2] 34 (0, 0)) (by (with_reducible repeat (first | refine blk_drewN ?_ _ | refine blk_drew ?_ | refine blk_alloc ?_ _)); exact BK135.out)) : gb154 ≠ gb135))
               have n14_ := Aside0.mk ((by rw [hg]; exact Nat.ne_of_lt (blk_lt (g := gb146) (o := .cells #[.slice Ao37 x147000_2.length co37, .int .i64 x147001_2] 34 (0, 0)) (by (with_reducible repeat (first | refine blk_drewN ?_ _ | refine blk_drew ?_ | refine blk_alloc ?_ _)); exact BK146.out)) : gb146 ≠ gb154))
               have n15_ := Aside0.mk ((by rw [hg]; exact Nat.ne_of_gt (blk_lt (g := gb146) (o := .cells #[.slice Ao37 x147000_2.length co37, .int .i64 x147001_2] 34 (0, 0)) (by (with_reducible repeat (first | refine blk_drewN ?_ _ | refine blk_drew ?_ | refine blk_alloc ?_ _)); exact BK146.out)) : gb154 ≠ gb146))
               clear HO_8
               clear HO_135000
               clear HO_147000
               clear BK134
               clear BK135
               clear BK146
               clear HB
               have HO_8 := n0_
               have HO_135000 := n1_
               have HO_147000 := n2_
               have BK134 := n3_
               have BK135 := n4_
               have BK146 := n5_
               have HB := n6_
               have BK154 := n7_
               have GW154 := n8_
               have GE154 := n9_
               have NB134_154 := n10_
               have NB154_134 := n11_
               have NB135_154 := n12_
               have NB154_135 := n13_
               have NB146_154 := n14_
               have NB154_146 := n15_
               clear n0_ n1_ n2_ n3_ n4_ n5_ n6_ n7_ n8_ n9_ n10_ n11_ n12_ n13_ n14_ n15_
               clear hb hbox hg
               refine hK.out _ _ ⟨(blk_cell BK146.out 0).trans rfl, (blk_cell BK146.out 1).trans rfl, HS2_⟩ (fun hHeld => ?_)
               clear hK K
               refine norm_ (a' := ?_) ?_ ?_
               rotate_left
               ·show Act.put _ (some 12) _ = _
                simp only [Act.put, List.setIfInBounds_toArray, List.set_cons_zero, List.set_cons_succ, i64_w, i32_w]
                rfl
               refine one_ (i := 9) (N := some 64) huff_Write.y16 rfl rfl (one_of HT_.out (by kernel_rfl)) (by decide) (fun K hK => ?_)
               refine goes_ Try.func26 (by kernel_rfl) rfl #[.agg #[.slice Ao37 x147000_2.length co37, .int .i64 x147001_2], .int .u64 (IntKind.u64.wrap (Go.bits .and .u32 (ji34) 1)), .int .i64 1] (by rfl) rfl rfl (by (try simp only [List.map_toArray, List.map_cons, List.map_nil]); first | done | (simp only [hji34]; rfl) | rfl | (simp only [List.length_drop, List.length_take]; rfl)) ?_
               with_reducible refine (bits_Put.calls k2 _ _ x147000_2 x147001_2 (IntKind.u64.wrap (Go.bits .and .u32 (ji34) 1)) 1 t149 t152 t153 _ ?side1 ?side2 A35.out).mono ?_
               (case side1 => repeat (first | exact (Kd.V_reads' HO_147000.out).2.2 | (with_reducible refine Kd.C_alloc ?_ _) | (with_reducible refine Kd.C_drewN ?_ _) | (with_reducible refine Kd.C_drew ?_)))
               (case side2 => exact (Kd.V_reads' HO_147000.out).2.1)
               rintro e w41 ⟨v150, rfl, ho0, hb⟩
               have HS2_ := (hb.cell (World.block_lt_of_cell? _ _ (hHeld.2.2))).trans (hHeld.2.2)
               refine ⟨_, rfl, ?_⟩
               have n0_ := Aside0.mk (Kd.R_below (by (with_reducible repeat (first | apply Kd.R_alloc | apply Kd.R_drewN | apply Kd.R_drew)); exact HO_8.out) hb)
               have n1_ := Aside0.mk (Kd.V_elder' (by (with_reducible repeat (first | apply Kd.V_alloc | apply Kd.V_drewN | apply Kd.V_drew)); exact HO_135000.out) (Kd.R_base ho0) hb)
               have n2_ := Aside0.mk (Kd.V_elder' (by (with_reducible repeat (first | apply Kd.V_alloc | apply Kd.V_drewN | apply Kd.V_drew)); exact HO_147000.out) (Kd.R_base ho0) hb)
               have n3_ := Aside0.mk (Kd.R_lower (Kd.R_newM (M := fun k_ => (w.heap.size ≤ k_)) ho0 (below_size (by repeat (first | (with_reducible first | exact HB.out | apply below_alloc | apply pw_below_drewN | apply below_drew1 | refine below_set ?_ GE134.out | refine below_set ?_ GE135.out | refine below_set ?_ GE146.out | refine below_set ?_ GE154.out) | exact HB.out))) (fun k_ h_ => h_)) (below_size (by repeat (first | (with_reducible first | exact HB.out | apply below_alloc | apply pw_below_drewN | apply below_drew1 | refine below_set ?_ GE134.out | refine below_set ?_ GE135.out | refine below_set ?_ GE146.out | refine below_set ?_ GE154.out) | exact HB.out))))
               have n4_ := Aside0.mk (blk_below (g := gb134) (o := .cells #[.slice A0_0 l0_0.length c0_0, .int .i64 x135001_2] 34 (0, 0)) (by (with_reducible repeat (first | refine blk_drewN ?_ _ | refine blk_drew ?_ | refine blk_alloc ?_ _)); exact BK134.out) hb)
               have n5_ := Aside0.mk (blk_below (g := gb135) (o := .cells #[.slice none 0 0, .int .i64 x136001_2] 34 (0, 0)) (by (with_reducible repeat (first | refine blk_drewN ?_ _ | refine blk_drew ?_ | refine blk_alloc ?_ _)); exact BK135.out) hb)
               have n6_ := Aside0.mk (blk_below (g := gb146) (o := .cells #[.slice Ao37 x147000_2.length co37, .int .i64 x147001_2] 34 (0, 0)) (by (with_reducible repeat (first | refine blk_drewN ?_ _ | refine blk_drew ?_ | refine blk_alloc ?_ _)); exact BK146.out) hb)
               have n7_ := Aside0.mk (blk_below (g := gb154) (o := .cells #[.slice none 0 0, .int .i64 0] 34 (0, 0)) (by (with_reducible repeat (first | refine blk_drewN ?_ _ | refine blk_drew ?_ | refine blk_alloc ?_ _)); exact BK154.out) hb)
               have n8_ := Aside0.mk (below_step (by repeat (first | (with_reducible first | exact HB.out | apply below_alloc | apply pw_below_drewN | apply below_drew1 | refine below_set ?_ GE134.out | refine below_set ?_ GE135.out | refine below_set ?_ GE146.out | refine below_set ?_ GE154.out) | exact HB.out)) hb)
               clear HO_8
               clear HO_135000
               clear HO_147000
               clear BK134
               clear BK135
               clear BK146
               clear BK154
               clear HB
               have HO_8 := n0_
               have HO_135000 := n1_
               have HO_147000 := n2_
               have HO151 := n3_
               have BK134 := n4_
               have BK135 := n5_
               have BK146 := n6_
               have BK154 := n7_
               have HB := n8_
               clear n0_ n1_ n2_ n3_ n4_ n5_ n6_ n7_ n8_
               (try clear hb)
               (try clear hb2)
               (try clear hk)
               (try clear hi)
               (try clear ho0)
               refine hK.out _ _ ⟨(blk_cell BK146.out 0).trans rfl, (blk_cell BK146.out 1).trans rfl, HS2_⟩ (fun hHeld => ?_)
               clear hK K
               refine norm_ (a' := ?_) ?_ ?_
               rotate_left
               ·show Act.put _ (some 64) _ = _
                simp only [Act.put, List.setIfInBounds_toArray, List.set_cons_zero, List.set_cons_succ, i64_w, i32_w]
                rfl
               refine pure_ (i := 10) (N := some 54) (v := ?_) (a' := ?_) huff_Write.y17 rfl rfl (any_of HT_.out (by kernel_rfl)) (fun _ _ _ h => h) (Or.inl ⟨by rfl, ?_⟩) ?_ ?_
               rotate_left
               ·intro w'
                go_simp
                with_reducible rfl
               rotate_left
               ·simp only [Act.put, List.setIfInBounds_toArray, List.set_cons_zero, List.set_cons_succ, i64_w, i32_w]
                rfl
               refine pure_ (i := 11) (N := some 65) (v := ?_) (a' := ?_) huff_Write.y18 rfl rfl (any_of HT_.out (by kernel_rfl)) (fun _ _ _ h => h) (Or.inl ⟨by rfl, ?_⟩) ?_ ?_
               rotate_left
               ·intro w'
                go_simp
                with_reducible rfl
               rotate_left
               ·simp only [Act.put, List.setIfInBounds_toArray, List.set_cons_zero, List.set_cons_succ, i64_w, i32_w]
                rfl
               refine pure_ (i := 12) (N := some 66) (v := ?_) (a' := ?_) huff_Write.y10 rfl rfl (any_of HT_.out (by kernel_rfl)) (fun _ _ _ h => h) (Or.inl ⟨by rfl, ?_⟩) ?_ ?_
               rotate_left
               ·intro w'
                go_simp
                with_reducible rfl
               rotate_left
               ·simp only [Act.put, List.setIfInBounds_toArray, List.set_cons_zero, List.set_cons_succ, i64_w, i32_w]
                rfl
               exact norm_ (by simp only [putAll, Act.put, List.setIfInBounds_toArray, List.set_cons_zero, List.set_cons_succ]) (hCont (v150, gb154) _ ⟨hHeld, (by (with_reducible repeat (first | apply Kd.R_alloc | apply Kd.R_drewN | apply Kd.R_drew)); exact Kd.R_mono HO151.out (fun _ hk => hk.1)), (by (with_reducible repeat (first | apply Kd.V_alloc | apply Kd.V_drewN | apply Kd.V_drew)); exact Kd.V_mono HO_135000.out (fun _ hk => ⟨hk.1.1.1, ⟨hk.2, ⟨hk.1.1.2.1, ⟨hk.1.1.2.2.1, ⟨hk.1.1.2.2.2.1, ⟨hk.1.1.2.2.2.2, hk.1.2⟩⟩⟩⟩⟩⟩)), (by (with_reducible repeat (first | apply Kd.V_alloc | apply Kd.V_drewN | apply Kd.V_drew)); exact Kd.V_mono HO_147000.out (fun _ hk => ⟨hk.1.1.1, ⟨hk.2, ⟨hk.1.1.2.1, ⟨hk.1.1.2.2.1, ⟨hk.1.1.2.2.2.1, ⟨hk.1.1.2.2.2.2, hk.1.2⟩⟩⟩⟩⟩⟩)), (by (with_reducible repeat (first | apply Kd.R_alloc | apply Kd.R_drewN | apply Kd.R_drew)); exact HO_8.out), (by (with_reducible repeat (first | refine blk_drewN ?_ _ | refine blk_drew ?_ | refine blk_alloc ?_ _)); exact BK134.out), (by (with_reducible repeat (first | refine blk_drewN ?_ _ | refine blk_drew ?_ | refine blk_alloc ?_ _)); exact BK135.out), (by (with_reducible repeat (first | refine blk_drewN ?_ _ | refine blk_drew ?_ | refine blk_alloc ?_ _)); exact BK146.out), (by (with_reducible repeat (first | refine blk_drewN ?_ _ | refine blk_drew ?_ | refine blk_alloc ?_ _)); exact BK154.out), GW154.out, GE154.out, NB134_154.out, NB154_134.out, NB135_154.out, NB154_135.out, NB146_154.out, NB154_146.out, (by repeat (first | (with_reducible first | exact HB.out | apply below_alloc | apply pw_below_drewN | apply below_drew1 | refine below_set ?_ GE134.out | refine below_set ?_ GE135.out | refine below_set ?_ GE146.out | refine below_set ?_ GE154.out) | exact HB.out))⟩)
             rintro ⟨v150, gb154⟩ w42 ⟨hS_, h0_, h1_, h2_, h3_, h4_, h5_, h6_, h7_, h8_, h9_, h10_, h11_, h12_, h13_, h14_, h15_, h16_⟩
             have n0_ : Aside0 (Kd.R (Kd.int .u8) 5 w42 w.heap.size (fun k_ => (w.heap.size ≤ k_)) v150 t149) := ⟨h0_⟩
             have n1_ : Aside0 (Kd.V (Kd.int .u8) 5 w42 w.heap.size (fun k_ => (P0_0_ k_ ∨ w.heap.size ≤ k_) ∧ some k_ ≠ (v150 : Value).ownBlock ∧ some k_ ≠ (.slice (some ad148) t136.length co39 : Value).ownBlock ∧ k_ ≠ gb134 ∧ k_ ≠ gb135 ∧ k_ ≠ gb146 ∧ k_ ≠ gb154) (.slice A0_0 l0_0.length c0_0) l0_0) := ⟨h1_⟩
             have n2_ : Aside0 (Kd.V (Kd.int .u8) 5 w42 w.heap.size (fun k_ => (P0_0_ k_ ∨ w.heap.size ≤ k_) ∧ some k_ ≠ (v150 : Value).ownBlock ∧ some k_ ≠ (.slice (some ad148) t136.length co39 : Value).ownBlock ∧ k_ ≠ gb134 ∧ k_ ≠ gb135 ∧ k_ ≠ gb146 ∧ k_ ≠ gb154) (.slice Ao37 x147000_2.length co37) x147000_2) := ⟨h2_⟩
             have n3_ : Aside0 (Kd.R (Kd.int .u32) 29 w42 w.heap.size (fun k_ => (w.heap.size ≤ k_)) (.slice (some ad148) t136.length co39) t136) := ⟨h3_⟩
             have n4_ : Aside0 (w42.heap[gb134]? = some (.cells #[.slice A0_0 l0_0.length c0_0, .int .i64 x135001_2] 34 (0, 0))) := ⟨h4_⟩
             have n5_ : Aside0 (w42.heap[gb135]? = some (.cells #[.slice none 0 0, .int .i64 x136001_2] 34 (0, 0))) := ⟨h5_⟩
             have n6_ : Aside0 (w42.heap[gb146]? = some (.cells #[.slice Ao37 x147000_2.length co37, .int .i64 x147001_2] 34 (0, 0))) := ⟨h6_⟩
             have n7_ : Aside0 (w42.heap[gb154]? = some (.cells #[.slice none 0 0, .int .i64 0] 34 (0, 0))) := ⟨h7_⟩
             have n8_ : Aside0 (w.heap.size ≤ gb154) := ⟨h8_⟩
             have n9_ : Aside0 (w.heap.size ≤ gb154) := ⟨h9_⟩
             have n10_ : Aside0 (gb134 ≠ gb154) := ⟨h10_⟩
             have n11_ : Aside0 (gb154 ≠ gb134) := ⟨h11_⟩
             have n12_ : Aside0 (gb135 ≠ gb154) := ⟨h12_⟩
             have n13_ : Aside0 (gb154 ≠ gb135) := ⟨h13_⟩
             have n14_ : Aside0 (gb146 ≠ gb154) := ⟨h14_⟩
             have n15_ : Aside0 (gb154 ≠ gb146) := ⟨h15_⟩
             have n16_ : Aside0 (Below w.heap.size w w42) := ⟨h16_⟩
             clear HO_8
             clear HO_135000
             clear HO_147000
             clear BK134
             clear BK135
             clear BK146
             clear HB
             clear h0_ h1_ h2_ h3_ h4_ h5_ h6_ h7_ h8_ h9_ h10_ h11_ h12_ h13_ h14_ h15_ h16_
             have HO151 := n0_
             have HO_135000 := n1_
             have HO_147000 := n2_
             have HO_8 := n3_
             have BK134 := n4_
             have BK135 := n5_
             have BK146 := n6_
             have BK154 := n7_
             have GW154 := n8_
             have GE154 := n9_
             have NB134_154 := n10_
             have NB154_134 := n11_
             have NB135_154 := n12_
             have NB154_135 := n13_
             have NB146_154 := n14_
             have NB154_146 := n15_
             have HB := n16_
             clear n0_ n1_ n2_ n3_ n4_ n5_ n6_ n7_ n8_ n9_ n10_ n11_ n12_ n13_ n14_ n15_ n16_
             have hHeld : w42.cell? ⟨gb146, 0, none⟩ = some (.slice Ao37 x147000_2.length co37) ∧ w42.cell? ⟨gb146, 1, none⟩ = some (.int .i64 x147001_2) ∧ w42.cell? (ad148.add (a2).toNat) = some (.int .u32 (rd t136 a2)) := hS_
             obtain ⟨Ao43, co43, eo43⟩ := Kd.R_slice HO151.out
             (first | subst eo43 | (injection eo43 with f1_ f2_ f3_; have f4_ := f1_.symm; have f5_ := f3_.symm; clear f1_ f2_ f3_; subst f4_; subst f5_))
             refine norm_ (a' := ?_) ?_ ?_
             rotate_left
             ·simp only [putAll, Act.put, List.setIfInBounds_toArray, List.set_cons_zero, List.set_cons_succ]
              rfl
             refine one_ (i := 14) (N := none) huff_Write.y19 rfl rfl (one_of HT_.out (by kernel_rfl)) (by decide) (fun K hK => ?_)
             have hs44 : w42.cell? ⟨gb154, 0, none⟩ = some (.slice none 0 0) := (blk_cell BK154.out 0).trans rfl
             have hfs44 := blk_frozen BK154.out 0
             have hns44_0 := NB134_154.out
             have hns44_1 := NB135_154.out
             have hns44_2 := NB146_154.out
             have hms44_0 := NB154_134.out
             have hms44_1 := NB154_135.out
             have hms44_2 := NB154_146.out
             have hs45 : w42.cell? ⟨gb154, 1, none⟩ = some (.int .i64 0) := (blk_cell BK154.out 1).trans rfl
             have hfs45 := blk_frozen BK154.out 1
             have hns45_0 := NB134_154.out
             have hns45_1 := NB135_154.out
             have hns45_2 := NB146_154.out
             have hms45_0 := NB154_134.out
             have hms45_1 := NB154_135.out
             have hms45_2 := NB154_146.out
             refine skip_ (w1 := ?_) (by rfl) rfl ?_ ?_
             rotate_left
             ·go_simp
              rfl
             refine hK.out _ _ ⟨((cell_far (p := ⟨gb154, _, none⟩) NB146_154.out _).trans (((cell_far (p := ⟨gb154, _, none⟩) NB146_154.out _).trans (hHeld.1)))), ((cell_far (p := ⟨gb154, _, none⟩) NB146_154.out _).trans (((cell_far (p := ⟨gb154, _, none⟩) NB146_154.out _).trans (hHeld.2.1)))), ((cell_far (p := ⟨gb154, _, none⟩) (by first | exact Kd.own_blk (Kd.R_ne HO_8.out BK154.out (by decide)) | (rw [add_block]; exact Kd.own_blk (Kd.R_ne HO_8.out BK154.out (by decide))) | (show (Addr.add _ _).block ≠ _; rw [add_block]; exact Kd.own_blk (Kd.R_ne HO_8.out BK154.out (by decide))) | (dsimp only; exact Kd.own_blk (Kd.R_ne HO_8.out BK154.out (by decide)))) _).trans (((cell_far (p := ⟨gb154, _, none⟩) (by first | exact Kd.own_blk (Kd.R_ne HO_8.out BK154.out (by decide)) | (rw [add_block]; exact Kd.own_blk (Kd.R_ne HO_8.out BK154.out (by decide))) | (show (Addr.add _ _).block ≠ _; rw [add_block]; exact Kd.own_blk (Kd.R_ne HO_8.out BK154.out (by decide))) | (dsimp only; exact Kd.own_blk (Kd.R_ne HO_8.out BK154.out (by decide)))) _).trans (hHeld.2.2))))⟩ (fun hHeld => ?_)
             clear hK K
             refine pure_ (i := 15) (N := some 13) (v := ?_) (a' := ?_) huff_Write.y20 rfl rfl (any_of HT_.out (by kernel_rfl)) (fun _ _ _ h => h) (Or.inl ⟨by rfl, ?_⟩) ?_ ?_
             rotate_left
             ·intro w'
              go_simp
              with_reducible rfl
             rotate_left
             ·simp only [Act.put, List.setIfInBounds_toArray, List.set_cons_zero, List.set_cons_succ, i64_w, i32_w]
              rfl
             refine done_ (done_of HT_.out (by kernel_rfl)) ?_
             have hnb46 := NB154_134.out
             have hnc46 := NB134_154.out
             have hnb47 := NB154_135.out
             have hnc47 := NB135_154.out
             have hnb48 := NB154_146.out
             have hnc48 := NB146_154.out
             have hcz49_0 : w42.cell? ⟨gb154, 0, none⟩ = some (.slice none 0 0) := (blk_cell BK154.out 0).trans rfl
             have hcz49_1 : w42.cell? ⟨gb154, 1, none⟩ = some (.int .i64 0) := (blk_cell BK154.out 1).trans rfl
             have hfz49_0 := blk_frozen BK154.out 0
             have hfz49_1 := blk_frozen BK154.out 1
             have hnb50 := NB146_134.out
             have hnc50 := NB134_146.out
             have hnb51 := NB146_135.out
             have hnc51 := NB135_146.out
             have hcz52_0 : w42.cell? ⟨gb146, 0, none⟩ = some (.slice Ao37 x147000_2.length co37) := (blk_cell BK146.out 0).trans rfl
             have hcz52_1 : w42.cell? ⟨gb146, 1, none⟩ = some (.int .i64 x147001_2) := (blk_cell BK146.out 1).trans rfl
             have hfz52_0 := blk_frozen BK146.out 0
             have hfz52_1 := blk_frozen BK146.out 1
             try go_wp2
             go_roundg k2
             case measure => have := HJ4.out; have := HK2.out; omega
             case rel => exact ⟨(wrap64 (x11_2 - 1)), (x135001_2), (x136001_2), (t149), (t152), (.slice Ao43 t149.length co43), (by first | rfl | (simp; done) | (simp [*]; done)), H', ⟨by have := HJ4.out; have := HK2.out; omega⟩, ⟨by (with_reducible repeat (first | apply Kd.R_alloc | apply Kd.R_drewN | apply Kd.R_drew)); exact Kd.R_mono (Kd.R_far (p := ⟨gb146, 1, none⟩) (Kd.R_far (p := ⟨gb146, 0, none⟩) (Kd.R_far (p := ⟨gb154, 1, none⟩) (Kd.R_far (p := ⟨gb154, 0, none⟩) (Kd.R_types (Kd.R_types HO_8.out BK154.out (by decide)) BK146.out (by decide)) (fun _ hk => hk.1.2) (.slice Ao43 t149.length co43)) (fun _ hk => hk.1.2) (.int .i64 t152)) (fun _ hk => hk.2) (.slice Ao43 t149.length co43)) (fun _ hk => hk.2) (.int .i64 t152)) (fun _ hk => hk.1.1)⟩, ⟨by (with_reducible repeat (first | apply Kd.V_alloc | apply Kd.V_drewN | apply Kd.V_drew)); exact Kd.V_mono (Kd.V_far (p := ⟨gb146, 1, none⟩) (Kd.V_far (p := ⟨gb146, 0, none⟩) (Kd.V_far (p := ⟨gb154, 1, none⟩) (Kd.V_far (p := ⟨gb154, 0, none⟩) (Kd.V_mono (Kd.V_mono HO_135000.out (fun k_ hk => (⟨hk, hk.2.2.2.2.2.2⟩ : _ ∧ k_ ≠ gb154))) (fun k_ hk => (⟨hk, hk.1.2.2.2.2.2.1⟩ : _ ∧ k_ ≠ gb146))) (fun _ hk => hk.1.2) (.slice Ao43 t149.length co43)) (fun _ hk => hk.1.2) (.int .i64 t152)) (fun _ hk => hk.2) (.slice Ao43 t149.length co43)) (fun _ hk => hk.2) (.int .i64 t152)) (fun _ hk => ⟨hk.1.1.1, ⟨hk.1.1.2.2.1, ⟨hk.1.1.2.2.2.1, ⟨hk.1.1.2.2.2.2.1, hk.1.1.2.2.2.2.2.1⟩⟩⟩⟩)⟩, ⟨vor7_or (Kd.R_V (by (with_reducible repeat (first | apply Kd.R_alloc | apply Kd.R_drewN | apply Kd.R_drew)); exact Kd.R_mono (Kd.R_far (p := ⟨gb146, 1, none⟩) (Kd.R_far (p := ⟨gb146, 0, none⟩) (Kd.R_far (p := ⟨gb154, 1, none⟩) (Kd.R_far (p := ⟨gb154, 0, none⟩) (Kd.R_types (Kd.R_types (Kd.R_types (Kd.R_types (Kd.R_types (Kd.R_apart' HO151.out (Kd.R_typed HO_8.out) (by decide)) BK134.out (by decide)) BK135.out (by decide)) BK146.out (by decide)) BK154.out (by decide)) BK146.out (by decide)) (fun _ hk => hk.1.2) (.slice Ao43 t149.length co43)) (fun _ hk => hk.1.2) (.int .i64 t152)) (fun _ hk => hk.2) (.slice Ao43 t149.length co43)) (fun _ hk => hk.2) (.int .i64 t152)) (fun _ hk => ⟨hk.1.1.1.1.1.1, ⟨hk.1.1.1.1.1.2, ⟨hk.1.1.1.1.2, ⟨hk.1.1.1.2, hk.1.1.2⟩⟩⟩⟩)))⟩, ⟨by (with_reducible repeat (first | refine blk_drewN ?_ _ | refine blk_drew ?_ | refine blk_alloc ?_ _)); refine blk_far ?_ NB134_146.out _; (with_reducible repeat (first | refine blk_drewN ?_ _ | refine blk_drew ?_ | refine blk_alloc ?_ _)); refine blk_far ?_ NB134_146.out _; (with_reducible repeat (first | refine blk_drewN ?_ _ | refine blk_drew ?_ | refine blk_alloc ?_ _)); refine blk_far ?_ NB134_154.out _; (with_reducible repeat (first | refine blk_drewN ?_ _ | refine blk_drew ?_ | refine blk_alloc ?_ _)); refine blk_far ?_ NB134_154.out _; (with_reducible repeat (first | refine blk_drewN ?_ _ | refine blk_drew ?_ | refine blk_alloc ?_ _)); exact BK134.out⟩, ⟨by (with_reducible repeat (first | refine blk_drewN ?_ _ | refine blk_drew ?_ | refine blk_alloc ?_ _)); refine blk_far ?_ NB135_146.out _; (with_reducible repeat (first | refine blk_drewN ?_ _ | refine blk_drew ?_ | refine blk_alloc ?_ _)); refine blk_far ?_ NB135_146.out _; (with_reducible repeat (first | refine blk_drewN ?_ _ | refine blk_drew ?_ | refine blk_alloc ?_ _)); refine blk_far ?_ NB135_154.out _; (with_reducible repeat (first | refine blk_drewN ?_ _ | refine blk_drew ?_ | refine blk_alloc ?_ _)); refine blk_far ?_ NB135_154.out _; (with_reducible repeat (first | refine blk_drewN ?_ _ | refine blk_drew ?_ | refine blk_alloc ?_ _)); exact BK135.out⟩, ⟨by (with_reducible repeat (first | refine blk_drewN ?_ _ | refine blk_drew ?_ | refine blk_alloc ?_ _)); refine blk_put (cs := #[.slice Ao43 t149.length co43, .int .i64 x147001_2]) ?_ 1 _ rfl; (with_reducible repeat (first | refine blk_drewN ?_ _ | refine blk_drew ?_ | refine blk_alloc ?_ _)); refine blk_put (cs := #[.slice Ao37 x147000_2.length co37, .int .i64 x147001_2]) ?_ 0 _ rfl; (with_reducible repeat (first | refine blk_drewN ?_ _ | refine blk_drew ?_ | refine blk_alloc ?_ _)); refine blk_far ?_ NB146_154.out _; (with_reducible repeat (first | refine blk_drewN ?_ _ | refine blk_drew ?_ | refine blk_alloc ?_ _)); refine blk_far ?_ NB146_154.out _; (with_reducible repeat (first | refine blk_drewN ?_ _ | refine blk_drew ?_ | refine blk_alloc ?_ _)); exact BK146.out⟩, ⟨by repeat (first | (with_reducible first | exact HB.out | apply below_alloc | apply pw_below_drewN | apply below_drew1 | refine below_set ?_ GE134.out | refine below_set ?_ GE135.out | refine below_set ?_ GE146.out | refine below_set ?_ GE154.out) | exact HB.out)⟩⟩
            ·rw [if_neg c36] at H
             have c36b0 : (t153 == 0) = false := beq_eq_false_iff_ne.mpr c36
             have c36b1 : (t153 != 0) = true := bne_iff_ne.mpr c36
             replace H := Option.bind_eq_some_iff.mp H
             obtain ⟨⟨t155, t158, t159⟩, A530, H⟩ := H
             replace H : (some (t155, t158, t153)) = some (r1, r2, r3) := H
             have A53 := Aside0.mk A530
             clear A530
             simp only [Option.some.injEq, Prod.mk.injEq] at H
             obtain ⟨rfl, rfl, rfl⟩ := H
             obtain ⟨Ao54, co54, eo54⟩ := Kd.V_slice HO_147000.out
             subst eo54
             try go_wp2
             have n0_ := Aside0.mk (Kd.R_drew HO_8.out)
             have n1_ := Aside0.mk (Kd.V_drew HO_135000.out)
             have n2_ := Aside0.mk (Kd.V_drew HO_147000.out)
             have n3_ := Aside0.mk (blk_drew BK134.out)
             have n4_ := Aside0.mk (blk_drew BK135.out)
             have n5_ := Aside0.mk (blk_drew BK146.out)
             have n6_ := Aside0.mk (below_drew1 HB.out)
             clear HO_8
             clear HO_135000
             clear HO_147000
             clear BK134
             clear BK135
             clear BK146
             clear HB
             have HO_8 := n0_
             have HO_135000 := n1_
             have HO_147000 := n2_
             have BK134 := n3_
             have BK135 := n4_
             have BK146 := n5_
             have HB := n6_
             clear n0_ n1_ n2_ n3_ n4_ n5_ n6_
             obtain ⟨Ao56, co56, eo56⟩ := Kd.R_slice HO_8.out
             (first | subst eo56 | (injection eo56 with f1_ f2_ f3_; have f4_ := f1_.symm; have f5_ := f3_.symm; clear f1_ f2_ f3_; subst f4_; subst f5_))
             have p148 : 0 ≤ (a2 : Int) := of_decide_eq_true (by first | (with_reducible assumption) | assumption)
             have q148 : a2 < (t136.length : Int) := of_decide_eq_true (by first | (with_reducible assumption) | assumption)
             obtain ⟨ad148, e148, hx148_0⟩ := Kd.at_int (Kd.R_reads' HO_8.out).2.2 a2 p148 q148
             cases e148
             replace p148 := eq_true p148
             replace q148 := eq_true q148
             refine start_ (n := 16) (S := fun w' => w'.cell? ⟨gb146, 0, none⟩ = some (.slice Ao54 x147000_2.length co54) ∧ w'.cell? ⟨gb146, 1, none⟩ = some (.int .i64 x147001_2) ∧ w'.cell? (ad148.add (a2).toNat) = some (.int .u32 (rd t136 a2))) (ds := []) huff_Write.y0 (by kernel_rfl) rfl rfl ⟨(blk_cell BK146.out 0).trans rfl, (blk_cell BK146.out 1).trans rfl, hx148_0⟩ (fun hHeld => ?_); refine with_tabW huff_Write.tab9 huff_Write.bits9 (fun HT_ HW_ => ?_)
             generalize wr.drew = w55 at HO_8 HO_135000 HO_147000 BK134 BK135 BK146 HB hx148_0 hHeld ⊢
             refine pure_ (i := 1) (N := some 56) (v := ?_) (a' := ?_) huff_Write.y1 rfl rfl (any_of HT_.out (by kernel_rfl)) (fun _ _ _ h => h) (Or.inl ⟨by rfl, ?_⟩) ?_ ?_
             rotate_left
             ·intro w'
              go_simp
              with_reducible rfl
             rotate_left
             ·simp only [Act.put, List.setIfInBounds_toArray, List.set_cons_zero, List.set_cons_succ, i64_w, i32_w]
              rfl
             refine pure_ (i := 2) (N := some 57) (v := ?_) (a' := ?_) huff_Write.y2 rfl rfl (any_of HT_.out (by kernel_rfl)) (fun _ _ _ h => h) (Or.inl ⟨by rfl, ?_⟩) ?_ ?_
             rotate_left
             ·intro w'
              go_simp
              with_reducible rfl
             rotate_left
             ·simp only [Act.put, List.setIfInBounds_toArray, List.set_cons_zero, List.set_cons_succ, i64_w, i32_w]
              rfl
             refine pure_ (i := 3) (N := some 58) (v := ?_) (a' := ?_) huff_Write.y3 rfl rfl (any_of HT_.out (by kernel_rfl)) (fun _ _ _ h => h) (Or.inl ⟨by rfl, ?_⟩) ?_ ?_
             rotate_left
             ·intro w'
              go_simp
              with_reducible rfl
             rotate_left
             ·simp only [Act.put, List.setIfInBounds_toArray, List.set_cons_zero, List.set_cons_succ, i64_w, i32_w]
              rfl
             refine pure_ (i := 5) (N := some 60) (v := ?_) (a' := ?_) huff_Write.y4 rfl rfl (any_of HT_.out (by kernel_rfl)) (fun _ _ _ h => h) (Or.inl ⟨by rfl, ?_⟩) ?_ ?_
             rotate_left
             ·intro w'
              go_simp
              with_reducible rfl
             rotate_left
             ·simp only [Act.put, List.setIfInBounds_toArray, List.set_cons_zero, List.set_cons_succ, i64_w, i32_w]
              rfl
             refine take_ (i := 0) (N := some 55) (v := ?_) (a' := ?_) huff_Write.y5 rfl rfl (take_ofW HT_.out HW_.out (by kernel_rfl)) (fun _ _ _ h => h) (Or.inl ⟨by rfl, ?_⟩) hHeld ?_ ?_
             rotate_left
             ·rintro w' ⟨s0, s1, s2⟩
              go_simp
              with_reducible rfl
             rotate_left
             ·simp only [Act.put, List.setIfInBounds_toArray, List.set_cons_zero, List.set_cons_succ, i64_w, i32_w]
              rfl
             refine take_ (i := 4) (N := some 59) (v := ?_) (a' := ?_) huff_Write.y6 rfl rfl (take_ofW HT_.out HW_.out (by kernel_rfl)) (fun _ _ _ h => h) (Or.inl ⟨by rfl, ?_⟩) hHeld ?_ ?_
             rotate_left
             ·rintro w' ⟨s0, s1, s2⟩
              go_simp
              with_reducible rfl
             rotate_left
             ·simp only [Act.put, List.setIfInBounds_toArray, List.set_cons_zero, List.set_cons_succ, i64_w, i32_w]
              rfl
             refine pure_ (i := 6) (N := some 61) (v := ?_) (a' := ?_) huff_Write.y7 rfl rfl (any_of HT_.out (by kernel_rfl)) (fun _ _ _ h => h) (Or.inl ⟨by rfl, ?_⟩) ?_ ?_
             rotate_left
             ·intro w'
              go_simp
              with_reducible rfl
             rotate_left
             ·simp only [Act.put, List.setIfInBounds_toArray, List.set_cons_zero, List.set_cons_succ, i64_w, i32_w]
              rfl
             refine pure_ (i := 7) (N := some 62) (v := ?_) (a' := ?_) huff_Write.y8 rfl rfl (any_of HT_.out (by kernel_rfl)) (fun _ _ _ h => h) (Or.inl ⟨by rfl, ?_⟩) ?_ ?_
             rotate_left
             ·intro w'
              go_simp
              with_reducible rfl
             rotate_left
             ·simp only [Act.put, List.setIfInBounds_toArray, List.set_cons_zero, List.set_cons_succ, i64_w, i32_w]
              rfl
             refine pure_ (i := 8) (N := some 63) (v := ?_) (a' := ?_) huff_Write.y9 rfl rfl (any_of HT_.out (by kernel_rfl)) (fun _ _ _ h => h) (Or.inl ⟨by rfl, ?_⟩) ?_ ?_
             rotate_left
             ·intro w'
              go_simp
              with_reducible rfl
             rotate_left
             ·simp only [Act.put, List.setIfInBounds_toArray, List.set_cons_zero, List.set_cons_succ, i64_w, i32_w]
              rfl
             refine join_ (σ := Value × Nat) 2 huff_Write.y10 (fun s_ => [(64, .tuple #[.agg #[s_.1, .int .i64 t152], .int .i64 t153]), (12, .pointer (some ⟨s_.2, 0, none⟩)), (54, .tuple #[.agg #[s_.1, .int .i64 t152], .int .i64 t153]), (65, .agg #[s_.1, .int .i64 t152]), (66, .int .i64 t153)]) (fun s_ w' => (w'.cell? ⟨gb146, 0, none⟩ = some (.slice Ao54 x147000_2.length co54) ∧ w'.cell? ⟨gb146, 1, none⟩ = some (.int .i64 x147001_2) ∧ w'.cell? (ad148.add (a2).toNat) = some (.int .u32 (rd t136 a2))) ∧ (Kd.R (Kd.int .u8) 5 w' w.heap.size (fun k_ => (w.heap.size ≤ k_)) s_.1 t149) ∧ (Kd.V (Kd.int .u8) 5 w' w.heap.size (fun k_ => (P0_0_ k_ ∨ w.heap.size ≤ k_) ∧ some k_ ≠ (s_.1 : Value).ownBlock ∧ some k_ ≠ (.slice (some ad148) t136.length co56 : Value).ownBlock ∧ k_ ≠ gb134 ∧ k_ ≠ gb135 ∧ k_ ≠ gb146 ∧ k_ ≠ s_.2) (.slice A0_0 l0_0.length c0_0) l0_0) ∧ (Kd.V (Kd.int .u8) 5 w' w.heap.size (fun k_ => (P0_0_ k_ ∨ w.heap.size ≤ k_) ∧ some k_ ≠ (s_.1 : Value).ownBlock ∧ some k_ ≠ (.slice (some ad148) t136.length co56 : Value).ownBlock ∧ k_ ≠ gb134 ∧ k_ ≠ gb135 ∧ k_ ≠ gb146 ∧ k_ ≠ s_.2) (.slice Ao54 x147000_2.length co54) x147000_2) ∧ (Kd.R (Kd.int .u32) 29 w' w.heap.size (fun k_ => (w.heap.size ≤ k_)) (.slice (some ad148) t136.length co56) t136) ∧ (w'.heap[gb134]? = some (.cells #[.slice A0_0 l0_0.length c0_0, .int .i64 x135001_2] 34 (0, 0))) ∧ (w'.heap[gb135]? = some (.cells #[.slice none 0 0, .int .i64 x136001_2] 34 (0, 0))) ∧ (w'.heap[gb146]? = some (.cells #[.slice Ao54 x147000_2.length co54, .int .i64 x147001_2] 34 (0, 0))) ∧ (w'.heap[s_.2]? = some (.cells #[.slice none 0 0, .int .i64 0] 34 (0, 0))) ∧ (w.heap.size ≤ s_.2) ∧ (w.heap.size ≤ s_.2) ∧ (gb134 ≠ s_.2) ∧ (s_.2 ≠ gb134) ∧ (gb135 ≠ s_.2) ∧ (s_.2 ≠ gb135) ∧ (gb146 ≠ s_.2) ∧ (s_.2 ≠ gb146) ∧ (Below w.heap.size w w')) ?_ ?_
             rotate_left
             ·intro hCont
              refine two_ (i := 9) (j := 13) (Ni := some 64) (Nj := some 12) huff_Write.y11 huff_Write.y12 rfl rfl rfl rfl (two_of HT_.out (by kernel_rfl)) (by decide) (by decide) (fun K hK => ?_) (fun K hK => ?_)
              ·skip
               refine goes_ Try.func26 (by kernel_rfl) rfl #[.agg #[.slice Ao54 x147000_2.length co54, .int .i64 x147001_2], .int .u64 (IntKind.u64.wrap (Go.bits .and .u32 (ji34) 1)), .int .i64 1] (by rfl) rfl rfl (by (try simp only [List.map_toArray, List.map_cons, List.map_nil]); first | done | (simp only [hji34]; rfl) | rfl | (simp only [List.length_drop, List.length_take]; rfl)) ?_
               with_reducible refine (bits_Put.calls k2 _ _ x147000_2 x147001_2 (IntKind.u64.wrap (Go.bits .and .u32 (ji34) 1)) 1 t149 t152 t153 _ ?side1 ?side2 A35.out).mono ?_
               (case side1 => repeat (first | exact (Kd.V_reads' HO_147000.out).2.2 | (with_reducible refine Kd.C_alloc ?_ _) | (with_reducible refine Kd.C_drewN ?_ _) | (with_reducible refine Kd.C_drew ?_)))
               (case side2 => exact (Kd.V_reads' HO_147000.out).2.1)
               rintro e w57 ⟨v150, rfl, ho0, hb⟩
               have HS2_ := (hb.cell (World.block_lt_of_cell? _ _ (hHeld.2.2))).trans (hHeld.2.2)
               refine ⟨_, rfl, ?_⟩
               have n0_ := Aside0.mk (Kd.R_below (by (with_reducible repeat (first | apply Kd.R_alloc | apply Kd.R_drewN | apply Kd.R_drew)); exact HO_8.out) hb)
               have n1_ := Aside0.mk (Kd.V_elder' (by (with_reducible repeat (first | apply Kd.V_alloc | apply Kd.V_drewN | apply Kd.V_drew)); exact HO_135000.out) (Kd.R_base ho0) hb)
               have n2_ := Aside0.mk (Kd.V_elder' (by (with_reducible repeat (first | apply Kd.V_alloc | apply Kd.V_drewN | apply Kd.V_drew)); exact HO_147000.out) (Kd.R_base ho0) hb)
               have n3_ := Aside0.mk (Kd.R_lower (Kd.R_newM (M := fun k_ => (w.heap.size ≤ k_)) ho0 (below_size (by repeat (first | (with_reducible first | exact HB.out | apply below_alloc | apply pw_below_drewN | apply below_drew1 | refine below_set ?_ GE134.out | refine below_set ?_ GE135.out | refine below_set ?_ GE146.out) | exact HB.out))) (fun k_ h_ => h_)) (below_size (by repeat (first | (with_reducible first | exact HB.out | apply below_alloc | apply pw_below_drewN | apply below_drew1 | refine below_set ?_ GE134.out | refine below_set ?_ GE135.out | refine below_set ?_ GE146.out) | exact HB.out))))
               have n4_ := Aside0.mk (blk_below (g := gb134) (o := .cells #[.slice A0_0 l0_0.length c0_0, .int .i64 x135001_2] 34 (0, 0)) (by (with_reducible repeat (first | refine blk_drewN ?_ _ | refine blk_drew ?_ | refine blk_alloc ?_ _)); exact BK134.out) hb)
               have n5_ := Aside0.mk (blk_below (g := gb135) (o := .cells #[.slice none 0 0, .int .i64 x136001_2] 34 (0, 0)) (by (with_reducible repeat (first | refine blk_drewN ?_ _ | refine blk_drew ?_ | refine blk_alloc ?_ _)); exact BK135.out) hb)
               have n6_ := Aside0.mk (blk_below (g := gb146) (o := .cells #[.slice Ao54 x147000_2.length co54, .int .i64 x147001_2] 34 (0, 0)) (by (with_reducible repeat (first | refine blk_drewN ?_ _ | refine blk_drew ?_ | refine blk_alloc ?_ _)); exact BK146.out) hb)
               have n7_ := Aside0.mk (below_step (by repeat (first | (with_reducible first | exact HB.out | apply below_alloc | apply pw_below_drewN | apply below_drew1 | refine below_set ?_ GE134.out | refine below_set ?_ GE135.out | refine below_set ?_ GE146.out) | exact HB.out)) hb)
               clear HO_8
               clear HO_135000
               clear HO_147000
               clear BK134
               clear BK135
               clear BK146
               clear HB
               have HO_8 := n0_
               have HO_135000 := n1_
               have HO_147000 := n2_
               have HO151 := n3_
               have BK134 := n4_
               have BK135 := n5_
               have BK146 := n6_
               have HB := n7_
               clear n0_ n1_ n2_ n3_ n4_ n5_ n6_ n7_
               (try clear hb)
               (try clear hb2)
               (try clear hk)
               (try clear hi)
               (try clear ho0)
               refine hK.out _ _ ⟨(blk_cell BK146.out 0).trans rfl, (blk_cell BK146.out 1).trans rfl, HS2_⟩ (fun hHeld => ?_)
               clear hK K
               refine norm_ (a' := ?_) ?_ ?_
               rotate_left
               ·show Act.put _ (some 64) _ = _
                simp only [Act.put, List.setIfInBounds_toArray, List.set_cons_zero, List.set_cons_succ, i64_w, i32_w]
                rfl
               refine pure_ (i := 10) (N := some 54) (v := ?_) (a' := ?_) huff_Write.y13 rfl rfl (any_of HT_.out (by kernel_rfl)) (fun _ _ _ h => h) (Or.inl ⟨by rfl, ?_⟩) ?_ ?_
               rotate_left
               ·intro w'
                go_simp
                with_reducible rfl
               rotate_left
               ·simp only [Act.put, List.setIfInBounds_toArray, List.set_cons_zero, List.set_cons_succ, i64_w, i32_w]
                rfl
               refine pure_ (i := 11) (N := some 65) (v := ?_) (a' := ?_) huff_Write.y14 rfl rfl (any_of HT_.out (by kernel_rfl)) (fun _ _ _ h => h) (Or.inl ⟨by rfl, ?_⟩) ?_ ?_
               rotate_left
               ·intro w'
                go_simp
                with_reducible rfl
               rotate_left
               ·simp only [Act.put, List.setIfInBounds_toArray, List.set_cons_zero, List.set_cons_succ, i64_w, i32_w]
                rfl
               refine pure_ (i := 12) (N := some 66) (v := ?_) (a' := ?_) huff_Write.y15 rfl rfl (any_of HT_.out (by kernel_rfl)) (fun _ _ _ h => h) (Or.inl ⟨by rfl, ?_⟩) ?_ ?_
               rotate_left
               ·intro w'
                go_simp
                with_reducible rfl
               rotate_left
               ·simp only [Act.put, List.setIfInBounds_toArray, List.set_cons_zero, List.set_cons_succ, i64_w, i32_w]
                rfl
               refine one_ (i := 13) (N := some 12) huff_Write.y10 rfl rfl (one_of HT_.out (by kernel_rfl)) (by decide) (fun K hK => ?_)
               refine box_step ?hg (N := 12) ?hd (cs := #[.slice none 0 0, .int .i64 0]) (t := 34) ?hr ?_; (case hd => rfl); (case hg => rfl); (case hr => first | (go_simp; done) | (go_simp; rfl))
               intro gb154 hg w58 hbox hb
               have HS2_ := (hb.cell (World.block_lt_of_cell? _ _ (hHeld.2.2))).trans (hHeld.2.2)
               have n0_ := Aside0.mk (Kd.R_below (by (with_reducible repeat (first | apply Kd.R_alloc | apply Kd.R_drewN | apply Kd.R_drew)); exact HO_8.out) hb)
               have n1_ := Aside0.mk (Kd.V_below (Kd.V_elderB (by (with_reducible repeat (first | apply Kd.V_alloc | apply Kd.V_drewN | apply Kd.V_drew)); exact HO_135000.out) gb154 (Nat.le_of_eq hg.symm)) hb)
               have n2_ := Aside0.mk (Kd.V_below (Kd.V_elderB (by (with_reducible repeat (first | apply Kd.V_alloc | apply Kd.V_drewN | apply Kd.V_drew)); exact HO_147000.out) gb154 (Nat.le_of_eq hg.symm)) hb)
               have n3_ := Aside0.mk (Kd.R_below (by (with_reducible repeat (first | apply Kd.R_alloc | apply Kd.R_drewN | apply Kd.R_drew)); exact HO151.out) hb)
               have n4_ := Aside0.mk (blk_below (g := gb134) (o := .cells #[.slice A0_0 l0_0.length c0_0, .int .i64 x135001_2] 34 (0, 0)) (by (with_reducible repeat (first | refine blk_drewN ?_ _ | refine blk_drew ?_ | refine blk_alloc ?_ _)); exact BK134.out) hb)
               have n5_ := Aside0.mk (blk_below (g := gb135) (o := .cells #[.slice none 0 0, .int .i64 x136001_2] 34 (0, 0)) (by (with_reducible repeat (first | refine blk_drewN ?_ _ | refine blk_drew ?_ | refine blk_alloc ?_ _)); exact BK135.out) hb)
               have n6_ := Aside0.mk (blk_below (g := gb146) (o := .cells #[.slice Ao54 x147000_2.length co54, .int .i64 x147001_2] 34 (0, 0)) (by (with_reducible repeat (first | refine blk_drewN ?_ _ | refine blk_drew ?_ | refine blk_alloc ?_ _)); exact BK146.out) hb)
               have n7_ := Aside0.mk (below_step (by repeat (first | (with_reducible first | exact HB.out | apply below_alloc | apply pw_below_drewN | apply below_drew1 | refine below_set ?_ GE134.out | refine below_set ?_ GE135.out | refine below_set ?_ GE146.out) | exact HB.out)) hb)
               have n8_ := Aside0.mk (hbox)
               have n9_ := Aside0.mk ((by rw [hg]; exact (below_size (by repeat (first | (with_reducible first | exact HB.out | apply below_alloc | apply pw_below_drewN | apply below_drew1 | refine below_set ?_ GE134.out | refine below_set ?_ GE135.out | refine below_set ?_ GE146.out) | exact HB.out))) : w.heap.size ≤ gb154))
               have n10_ := Aside0.mk ((by rw [hg]; exact (below_size (by repeat (first | (with_reducible first | exact HB.out | apply below_alloc | apply pw_below_drewN | apply below_drew1 | refine below_set ?_ GE134.out | refine below_set ?_ GE135.out | refine below_set ?_ GE146.out) | exact HB.out))) : w.heap.size ≤ gb154))
               have n11_ := Aside0.mk ((by rw [hg]; exact Nat.ne_of_lt (blk_lt (g := gb134) (o := .cells #[.slice A0_0 l0_0.length c0_0, .int .i64 x135001_2] 34 (0, 0)) (by (with_reducible repeat (first | refine blk_drewN ?_ _ | refine blk_drew ?_ | refine blk_alloc ?_ _)); exact BK134.out)) : gb134 ≠ gb154))
               have n12_ := Aside0.mk ((by rw [hg]; exact Nat.ne_of_gt (blk_lt (g := gb134) (o := .cells #[.slice A0_0 l0_0.length c0_0, .int .i64 x135001_2] 34 (0, 0)) (by (with_reducible repeat (first | refine blk_drewN ?_ _ | refine blk_drew ?_ | refine blk_alloc ?_ _)); exact BK134.out)) : gb154 ≠ gb134))
               have n13_ := Aside0.mk ((by rw [hg]; exact Nat.ne_of_lt (blk_lt (g := gb135) (o := .cells #[.slice none 0 0, .int .i64 x136001_2] 34 (0, 0)) (by (with_reducible repeat (first | refine blk_drewN ?_ _ | refine blk_drew ?_ | refine blk_alloc ?_ _)); exact BK135.out)) : gb135 ≠ gb154))
               have n14_ := Aside0.mk ((by rw [hg]; exact Nat.ne_of_gt (blk_lt (g := gb135) (o := .cells #[.slice none 0 0, .int .i64 x136001_2] 34 (0, 0)) (by (with_reducible repeat (first | refine blk_drewN ?_ _ | refine blk_drew ?_ | refine blk_alloc ?_ _)); exact BK135.out)) : gb154 ≠ gb135))
               have n15_ := Aside0.mk ((by rw [hg]; exact Nat.ne_of_lt (blk_lt (g := gb146) (o := .cells #[.slice Ao54 x147000_2.length co54, .int .i64 x147001_2] 34 (0, 0)) (by (with_reducible repeat (first | refine blk_drewN ?_ _ | refine blk_drew ?_ | refine blk_alloc ?_ _)); exact BK146.out)) : gb146 ≠ gb154))
               have n16_ := Aside0.mk ((by rw [hg]; exact Nat.ne_of_gt (blk_lt (g := gb146) (o := .cells #[.slice Ao54 x147000_2.length co54, .int .i64 x147001_2] 34 (0, 0)) (by (with_reducible repeat (first | refine blk_drewN ?_ _ | refine blk_drew ?_ | refine blk_alloc ?_ _)); exact BK146.out)) : gb154 ≠ gb146))
               clear HO_8
               clear HO_135000
               clear HO_147000
               clear HO151
               clear BK134
               clear BK135
               clear BK146
               clear HB
               have HO_8 := n0_
               have HO_135000 := n1_
               have HO_147000 := n2_
               have HO151 := n3_
               have BK134 := n4_
               have BK135 := n5_
               have BK146 := n6_
               have HB := n7_
               have BK154 := n8_
               have GW154 := n9_
               have GE154 := n10_
               have NB134_154 := n11_
               have NB154_134 := n12_
               have NB135_154 := n13_
               have NB154_135 := n14_
               have NB146_154 := n15_
               have NB154_146 := n16_
               clear n0_ n1_ n2_ n3_ n4_ n5_ n6_ n7_ n8_ n9_ n10_ n11_ n12_ n13_ n14_ n15_ n16_
               clear hb hbox hg
               refine hK.out _ _ ⟨(blk_cell BK146.out 0).trans rfl, (blk_cell BK146.out 1).trans rfl, HS2_⟩ (fun hHeld => ?_)
               clear hK K
               refine norm_ (a' := ?_) ?_ ?_
               rotate_left
               ·show Act.put _ (some 12) _ = _
                simp only [Act.put, List.setIfInBounds_toArray, List.set_cons_zero, List.set_cons_succ, i64_w, i32_w]
                rfl
               exact norm_ (by simp only [putAll, Act.put, List.setIfInBounds_toArray, List.set_cons_zero, List.set_cons_succ]) (hCont (v150, gb154) _ ⟨hHeld, (by (with_reducible repeat (first | apply Kd.R_alloc | apply Kd.R_drewN | apply Kd.R_drew)); exact Kd.R_mono HO151.out (fun _ hk => hk.1)), (by (with_reducible repeat (first | apply Kd.V_alloc | apply Kd.V_drewN | apply Kd.V_drew)); exact Kd.V_mono HO_135000.out (fun _ hk => ⟨hk.1.1.1, ⟨hk.1.2, ⟨hk.1.1.2.1, ⟨hk.1.1.2.2.1, ⟨hk.1.1.2.2.2.1, ⟨hk.1.1.2.2.2.2, hk.2⟩⟩⟩⟩⟩⟩)), (by (with_reducible repeat (first | apply Kd.V_alloc | apply Kd.V_drewN | apply Kd.V_drew)); exact Kd.V_mono HO_147000.out (fun _ hk => ⟨hk.1.1.1, ⟨hk.1.2, ⟨hk.1.1.2.1, ⟨hk.1.1.2.2.1, ⟨hk.1.1.2.2.2.1, ⟨hk.1.1.2.2.2.2, hk.2⟩⟩⟩⟩⟩⟩)), (by (with_reducible repeat (first | apply Kd.R_alloc | apply Kd.R_drewN | apply Kd.R_drew)); exact HO_8.out), (by (with_reducible repeat (first | refine blk_drewN ?_ _ | refine blk_drew ?_ | refine blk_alloc ?_ _)); exact BK134.out), (by (with_reducible repeat (first | refine blk_drewN ?_ _ | refine blk_drew ?_ | refine blk_alloc ?_ _)); exact BK135.out), (by (with_reducible repeat (first | refine blk_drewN ?_ _ | refine blk_drew ?_ | refine blk_alloc ?_ _)); exact BK146.out), (by (with_reducible repeat (first | refine blk_drewN ?_ _ | refine blk_drew ?_ | refine blk_alloc ?_ _)); exact BK154.out), GW154.out, GE154.out, NB134_154.out, NB154_134.out, NB135_154.out, NB154_135.out, NB146_154.out, NB154_146.out, (by repeat (first | (with_reducible first | exact HB.out | apply below_alloc | apply pw_below_drewN | apply below_drew1 | refine below_set ?_ GE134.out | refine below_set ?_ GE135.out | refine below_set ?_ GE146.out | refine below_set ?_ GE154.out) | exact HB.out))⟩)
              ·skip
               refine box_step ?hg (N := 12) ?hd (cs := #[.slice none 0 0, .int .i64 0]) (t := 34) ?hr ?_; (case hd => rfl); (case hg => rfl); (case hr => first | (go_simp; done) | (go_simp; rfl))
               intro gb154 hg w57 hbox hb
               have HS2_ := (hb.cell (World.block_lt_of_cell? _ _ (hHeld.2.2))).trans (hHeld.2.2)
               have n0_ := Aside0.mk (Kd.R_below (by (with_reducible repeat (first | apply Kd.R_alloc | apply Kd.R_drewN | apply Kd.R_drew)); exact HO_8.out) hb)
               have n1_ := Aside0.mk (Kd.V_below (Kd.V_elderB (by (with_reducible repeat (first | apply Kd.V_alloc | apply Kd.V_drewN | apply Kd.V_drew)); exact HO_135000.out) gb154 (Nat.le_of_eq hg.symm)) hb)
               have n2_ := Aside0.mk (Kd.V_below (Kd.V_elderB (by (with_reducible repeat (first | apply Kd.V_alloc | apply Kd.V_drewN | apply Kd.V_drew)); exact HO_147000.out) gb154 (Nat.le_of_eq hg.symm)) hb)
               have n3_ := Aside0.mk (blk_below (g := gb134) (o := .cells #[.slice A0_0 l0_0.length c0_0, .int .i64 x135001_2] 34 (0, 0)) (by (with_reducible repeat (first | refine blk_drewN ?_ _ | refine blk_drew ?_ | refine blk_alloc ?_ _)); exact BK134.out) hb)
               have n4_ := Aside0.mk (blk_below (g := gb135) (o := .cells #[.slice none 0 0, .int .i64 x136001_2] 34 (0, 0)) (by (with_reducible repeat (first | refine blk_drewN ?_ _ | refine blk_drew ?_ | refine blk_alloc ?_ _)); exact BK135.out) hb)
               have n5_ := Aside0.mk (blk_below (g := gb146) (o := .cells #[.slice Ao54 x147000_2.length co54, .int .i64 x147001_2] 34 (0, 0)) (by (with_reducible repeat (first | refine blk_drewN ?_ _ | refine blk_drew ?_ | refine blk_alloc ?_ _)); exact BK146.out) hb)
               have n6_ := Aside0.mk (below_step (by repeat (first | (with_reducible first | exact HB.out | apply below_alloc | apply pw_below_drewN | apply below_drew1 | refine below_set ?_ GE134.out | refine below_set ?_ GE135.out | refine below_set ?_ GE146.out) | exact HB.out)) hb)
               have n7_ := Aside0.mk (hbox)
               have n8_ := Aside0.mk ((by rw [hg]; exact (below_size (by repeat (first | (with_reducible first | exact HB.out | apply below_alloc | apply pw_below_drewN | apply below_drew1 | refine below_set ?_ GE134.out | refine below_set ?_ GE135.out | refine below_set ?_ GE146.out) | exact HB.out))) : w.heap.size ≤ gb154))
               have n9_ := Aside0.mk ((by rw [hg]; exact (below_size (by repeat (first | (with_reducible first | exact HB.out | apply below_alloc | apply pw_below_drewN | apply below_drew1 | refine below_set ?_ GE134.out | refine below_set ?_ GE135.out | refine below_set ?_ GE146.out) | exact HB.out))) : w.heap.size ≤ gb154))
               have n10_ := Aside0.mk ((by rw [hg]; exact Nat.ne_of_lt (blk_lt (g := gb134) (o := .cells #[.slice A0_0 l0_0.length c0_0, .int .i64 x135001_2] 34 (0, 0)) (by (with_reducible repeat (first | refine blk_drewN ?_ _ | refine blk_drew ?_ | refine blk_alloc ?_ _)); exact BK134.out)) : gb134 ≠ gb154))
               have n11_ := Aside0.mk ((by rw [hg]; exact Nat.ne_of_gt (blk_lt (g := gb134) (o := .cells #[.slice A0_0 l0_0.length c0_0, .int .i64 x135001_2] 34 (0, 0)) (by (with_reducible repeat (first | refine blk_drewN ?_ _ | refine blk_drew ?_ | refine blk_alloc ?_ _)); exact BK134.out)) : gb154 ≠ gb134))
               have n12_ := Aside0.mk ((by rw [hg]; exact Nat.ne_of_lt (blk_lt (g := gb135) (o := .cells #[.slice none 0 0, .int .i64 x136001_2] 34 (0, 0)) (by (with_reducible repeat (first | refine blk_drewN ?_ _ | refine blk_drew ?_ | refine blk_alloc ?_ _)); exact BK135.out)) : gb135 ≠ gb154))
               have n13_ := Aside0.mk ((by rw [hg]; exact Nat.ne_of_gt (blk_lt (g := gb135) (o := .cells #[.slice none 0 0, .int .i64 x136001_2] 34 (0, 0)) (by (with_reducible repeat (first | refine blk_drewN ?_ _ | refine blk_drew ?_ | refine blk_alloc ?_ _)); exact BK135.out)) : gb154 ≠ gb135))
               have n14_ := Aside0.mk ((by rw [hg]; exact Nat.ne_of_lt (blk_lt (g := gb146) (o := .cells #[.slice Ao54 x147000_2.length co54, .int .i64 x147001_2] 34 (0, 0)) (by (with_reducible repeat (first | refine blk_drewN ?_ _ | refine blk_drew ?_ | refine blk_alloc ?_ _)); exact BK146.out)) : gb146 ≠ gb154))
               have n15_ := Aside0.mk ((by rw [hg]; exact Nat.ne_of_gt (blk_lt (g := gb146) (o := .cells #[.slice Ao54 x147000_2.length co54, .int .i64 x147001_2] 34 (0, 0)) (by (with_reducible repeat (first | refine blk_drewN ?_ _ | refine blk_drew ?_ | refine blk_alloc ?_ _)); exact BK146.out)) : gb154 ≠ gb146))
               clear HO_8
               clear HO_135000
               clear HO_147000
               clear BK134
               clear BK135
               clear BK146
               clear HB
               have HO_8 := n0_
               have HO_135000 := n1_
               have HO_147000 := n2_
               have BK134 := n3_
               have BK135 := n4_
               have BK146 := n5_
               have HB := n6_
               have BK154 := n7_
               have GW154 := n8_
               have GE154 := n9_
               have NB134_154 := n10_
               have NB154_134 := n11_
               have NB135_154 := n12_
               have NB154_135 := n13_
               have NB146_154 := n14_
               have NB154_146 := n15_
               clear n0_ n1_ n2_ n3_ n4_ n5_ n6_ n7_ n8_ n9_ n10_ n11_ n12_ n13_ n14_ n15_
               clear hb hbox hg
               refine hK.out _ _ ⟨(blk_cell BK146.out 0).trans rfl, (blk_cell BK146.out 1).trans rfl, HS2_⟩ (fun hHeld => ?_)
               clear hK K
               refine norm_ (a' := ?_) ?_ ?_
               rotate_left
               ·show Act.put _ (some 12) _ = _
                simp only [Act.put, List.setIfInBounds_toArray, List.set_cons_zero, List.set_cons_succ, i64_w, i32_w]
                rfl
               refine one_ (i := 9) (N := some 64) huff_Write.y16 rfl rfl (one_of HT_.out (by kernel_rfl)) (by decide) (fun K hK => ?_)
               refine goes_ Try.func26 (by kernel_rfl) rfl #[.agg #[.slice Ao54 x147000_2.length co54, .int .i64 x147001_2], .int .u64 (IntKind.u64.wrap (Go.bits .and .u32 (ji34) 1)), .int .i64 1] (by rfl) rfl rfl (by (try simp only [List.map_toArray, List.map_cons, List.map_nil]); first | done | (simp only [hji34]; rfl) | rfl | (simp only [List.length_drop, List.length_take]; rfl)) ?_
               with_reducible refine (bits_Put.calls k2 _ _ x147000_2 x147001_2 (IntKind.u64.wrap (Go.bits .and .u32 (ji34) 1)) 1 t149 t152 t153 _ ?side1 ?side2 A35.out).mono ?_
               (case side1 => repeat (first | exact (Kd.V_reads' HO_147000.out).2.2 | (with_reducible refine Kd.C_alloc ?_ _) | (with_reducible refine Kd.C_drewN ?_ _) | (with_reducible refine Kd.C_drew ?_)))
               (case side2 => exact (Kd.V_reads' HO_147000.out).2.1)
               rintro e w58 ⟨v150, rfl, ho0, hb⟩
               have HS2_ := (hb.cell (World.block_lt_of_cell? _ _ (hHeld.2.2))).trans (hHeld.2.2)
               refine ⟨_, rfl, ?_⟩
               have n0_ := Aside0.mk (Kd.R_below (by (with_reducible repeat (first | apply Kd.R_alloc | apply Kd.R_drewN | apply Kd.R_drew)); exact HO_8.out) hb)
               have n1_ := Aside0.mk (Kd.V_elder' (by (with_reducible repeat (first | apply Kd.V_alloc | apply Kd.V_drewN | apply Kd.V_drew)); exact HO_135000.out) (Kd.R_base ho0) hb)
               have n2_ := Aside0.mk (Kd.V_elder' (by (with_reducible repeat (first | apply Kd.V_alloc | apply Kd.V_drewN | apply Kd.V_drew)); exact HO_147000.out) (Kd.R_base ho0) hb)
               have n3_ := Aside0.mk (Kd.R_lower (Kd.R_newM (M := fun k_ => (w.heap.size ≤ k_)) ho0 (below_size (by repeat (first | (with_reducible first | exact HB.out | apply below_alloc | apply pw_below_drewN | apply below_drew1 | refine below_set ?_ GE134.out | refine below_set ?_ GE135.out | refine below_set ?_ GE146.out | refine below_set ?_ GE154.out) | exact HB.out))) (fun k_ h_ => h_)) (below_size (by repeat (first | (with_reducible first | exact HB.out | apply below_alloc | apply pw_below_drewN | apply below_drew1 | refine below_set ?_ GE134.out | refine below_set ?_ GE135.out | refine below_set ?_ GE146.out | refine below_set ?_ GE154.out) | exact HB.out))))
               have n4_ := Aside0.mk (blk_below (g := gb134) (o := .cells #[.slice A0_0 l0_0.length c0_0, .int .i64 x135001_2] 34 (0, 0)) (by (with_reducible repeat (first | refine blk_drewN ?_ _ | refine blk_drew ?_ | refine blk_alloc ?_ _)); exact BK134.out) hb)
               have n5_ := Aside0.mk (blk_below (g := gb135) (o := .cells #[.slice none 0 0, .int .i64 x136001_2] 34 (0, 0)) (by (with_reducible repeat (first | refine blk_drewN ?_ _ | refine blk_drew ?_ | refine blk_alloc ?_ _)); exact BK135.out) hb)
               have n6_ := Aside0.mk (blk_below (g := gb146) (o := .cells #[.slice Ao54 x147000_2.length co54, .int .i64 x147001_2] 34 (0, 0)) (by (with_reducible repeat (first | refine blk_drewN ?_ _ | refine blk_drew ?_ | refine blk_alloc ?_ _)); exact BK146.out) hb)
               have n7_ := Aside0.mk (blk_below (g := gb154) (o := .cells #[.slice none 0 0, .int .i64 0] 34 (0, 0)) (by (with_reducible repeat (first | refine blk_drewN ?_ _ | refine blk_drew ?_ | refine blk_alloc ?_ _)); exact BK154.out) hb)
               have n8_ := Aside0.mk (below_step (by repeat (first | (with_reducible first | exact HB.out | apply below_alloc | apply pw_below_drewN | apply below_drew1 | refine below_set ?_ GE134.out | refine below_set ?_ GE135.out | refine below_set ?_ GE146.out | refine below_set ?_ GE154.out) | exact HB.out)) hb)
               clear HO_8
               clear HO_135000
               clear HO_147000
               clear BK134
               clear BK135
               clear BK146
               clear BK154
               clear HB
               have HO_8 := n0_
               have HO_135000 := n1_
               have HO_147000 := n2_
               have HO151 := n3_
               have BK134 := n4_
               have BK135 := n5_
               have BK146 := n6_
               have BK154 := n7_
               have HB := n8_
               clear n0_ n1_ n2_ n3_ n4_ n5_ n6_ n7_ n8_
               (try clear hb)
               (try clear hb2)
               (try clear hk)
               (try clear hi)
               (try clear ho0)
               refine hK.out _ _ ⟨(blk_cell BK146.out 0).trans rfl, (blk_cell BK146.out 1).trans rfl, HS2_⟩ (fun hHeld => ?_)
               clear hK K
               refine norm_ (a' := ?_) ?_ ?_
               rotate_left
               ·show Act.put _ (some 64) _ = _
                simp only [Act.put, List.setIfInBounds_toArray, List.set_cons_zero, List.set_cons_succ, i64_w, i32_w]
                rfl
               refine pure_ (i := 10) (N := some 54) (v := ?_) (a' := ?_) huff_Write.y17 rfl rfl (any_of HT_.out (by kernel_rfl)) (fun _ _ _ h => h) (Or.inl ⟨by rfl, ?_⟩) ?_ ?_
               rotate_left
               ·intro w'
                go_simp
                with_reducible rfl
               rotate_left
               ·simp only [Act.put, List.setIfInBounds_toArray, List.set_cons_zero, List.set_cons_succ, i64_w, i32_w]
                rfl
               refine pure_ (i := 11) (N := some 65) (v := ?_) (a' := ?_) huff_Write.y18 rfl rfl (any_of HT_.out (by kernel_rfl)) (fun _ _ _ h => h) (Or.inl ⟨by rfl, ?_⟩) ?_ ?_
               rotate_left
               ·intro w'
                go_simp
                with_reducible rfl
               rotate_left
               ·simp only [Act.put, List.setIfInBounds_toArray, List.set_cons_zero, List.set_cons_succ, i64_w, i32_w]
                rfl
               refine pure_ (i := 12) (N := some 66) (v := ?_) (a' := ?_) huff_Write.y10 rfl rfl (any_of HT_.out (by kernel_rfl)) (fun _ _ _ h => h) (Or.inl ⟨by rfl, ?_⟩) ?_ ?_
               rotate_left
               ·intro w'
                go_simp
                with_reducible rfl
               rotate_left
               ·simp only [Act.put, List.setIfInBounds_toArray, List.set_cons_zero, List.set_cons_succ, i64_w, i32_w]
                rfl
               exact norm_ (by simp only [putAll, Act.put, List.setIfInBounds_toArray, List.set_cons_zero, List.set_cons_succ]) (hCont (v150, gb154) _ ⟨hHeld, (by (with_reducible repeat (first | apply Kd.R_alloc | apply Kd.R_drewN | apply Kd.R_drew)); exact Kd.R_mono HO151.out (fun _ hk => hk.1)), (by (with_reducible repeat (first | apply Kd.V_alloc | apply Kd.V_drewN | apply Kd.V_drew)); exact Kd.V_mono HO_135000.out (fun _ hk => ⟨hk.1.1.1, ⟨hk.2, ⟨hk.1.1.2.1, ⟨hk.1.1.2.2.1, ⟨hk.1.1.2.2.2.1, ⟨hk.1.1.2.2.2.2, hk.1.2⟩⟩⟩⟩⟩⟩)), (by (with_reducible repeat (first | apply Kd.V_alloc | apply Kd.V_drewN | apply Kd.V_drew)); exact Kd.V_mono HO_147000.out (fun _ hk => ⟨hk.1.1.1, ⟨hk.2, ⟨hk.1.1.2.1, ⟨hk.1.1.2.2.1, ⟨hk.1.1.2.2.2.1, ⟨hk.1.1.2.2.2.2, hk.1.2⟩⟩⟩⟩⟩⟩)), (by (with_reducible repeat (first | apply Kd.R_alloc | apply Kd.R_drewN | apply Kd.R_drew)); exact HO_8.out), (by (with_reducible repeat (first | refine blk_drewN ?_ _ | refine blk_drew ?_ | refine blk_alloc ?_ _)); exact BK134.out), (by (with_reducible repeat (first | refine blk_drewN ?_ _ | refine blk_drew ?_ | refine blk_alloc ?_ _)); exact BK135.out), (by (with_reducible repeat (first | refine blk_drewN ?_ _ | refine blk_drew ?_ | refine blk_alloc ?_ _)); exact BK146.out), (by (with_reducible repeat (first | refine blk_drewN ?_ _ | refine blk_drew ?_ | refine blk_alloc ?_ _)); exact BK154.out), GW154.out, GE154.out, NB134_154.out, NB154_134.out, NB135_154.out, NB154_135.out, NB146_154.out, NB154_146.out, (by repeat (first | (with_reducible first | exact HB.out | apply below_alloc | apply pw_below_drewN | apply below_drew1 | refine below_set ?_ GE134.out | refine below_set ?_ GE135.out | refine below_set ?_ GE146.out | refine below_set ?_ GE154.out) | exact HB.out))⟩)
             rintro ⟨v150, gb154⟩ w59 ⟨hS_, h0_, h1_, h2_, h3_, h4_, h5_, h6_, h7_, h8_, h9_, h10_, h11_, h12_, h13_, h14_, h15_, h16_⟩
             have n0_ : Aside0 (Kd.R (Kd.int .u8) 5 w59 w.heap.size (fun k_ => (w.heap.size ≤ k_)) v150 t149) := ⟨h0_⟩
             have n1_ : Aside0 (Kd.V (Kd.int .u8) 5 w59 w.heap.size (fun k_ => (P0_0_ k_ ∨ w.heap.size ≤ k_) ∧ some k_ ≠ (v150 : Value).ownBlock ∧ some k_ ≠ (.slice (some ad148) t136.length co56 : Value).ownBlock ∧ k_ ≠ gb134 ∧ k_ ≠ gb135 ∧ k_ ≠ gb146 ∧ k_ ≠ gb154) (.slice A0_0 l0_0.length c0_0) l0_0) := ⟨h1_⟩
             have n2_ : Aside0 (Kd.V (Kd.int .u8) 5 w59 w.heap.size (fun k_ => (P0_0_ k_ ∨ w.heap.size ≤ k_) ∧ some k_ ≠ (v150 : Value).ownBlock ∧ some k_ ≠ (.slice (some ad148) t136.length co56 : Value).ownBlock ∧ k_ ≠ gb134 ∧ k_ ≠ gb135 ∧ k_ ≠ gb146 ∧ k_ ≠ gb154) (.slice Ao54 x147000_2.length co54) x147000_2) := ⟨h2_⟩
             have n3_ : Aside0 (Kd.R (Kd.int .u32) 29 w59 w.heap.size (fun k_ => (w.heap.size ≤ k_)) (.slice (some ad148) t136.length co56) t136) := ⟨h3_⟩
             have n4_ : Aside0 (w59.heap[gb134]? = some (.cells #[.slice A0_0 l0_0.length c0_0, .int .i64 x135001_2] 34 (0, 0))) := ⟨h4_⟩
             have n5_ : Aside0 (w59.heap[gb135]? = some (.cells #[.slice none 0 0, .int .i64 x136001_2] 34 (0, 0))) := ⟨h5_⟩
             have n6_ : Aside0 (w59.heap[gb146]? = some (.cells #[.slice Ao54 x147000_2.length co54, .int .i64 x147001_2] 34 (0, 0))) := ⟨h6_⟩
             have n7_ : Aside0 (w59.heap[gb154]? = some (.cells #[.slice none 0 0, .int .i64 0] 34 (0, 0))) := ⟨h7_⟩
             have n8_ : Aside0 (w.heap.size ≤ gb154) := ⟨h8_⟩
             have n9_ : Aside0 (w.heap.size ≤ gb154) := ⟨h9_⟩
             have n10_ : Aside0 (gb134 ≠ gb154) := ⟨h10_⟩
             have n11_ : Aside0 (gb154 ≠ gb134) := ⟨h11_⟩
             have n12_ : Aside0 (gb135 ≠ gb154) := ⟨h12_⟩
             have n13_ : Aside0 (gb154 ≠ gb135) := ⟨h13_⟩
             have n14_ : Aside0 (gb146 ≠ gb154) := ⟨h14_⟩
             have n15_ : Aside0 (gb154 ≠ gb146) := ⟨h15_⟩
             have n16_ : Aside0 (Below w.heap.size w w59) := ⟨h16_⟩
             clear HO_8
             clear HO_135000
             clear HO_147000
             clear BK134
             clear BK135
             clear BK146
             clear HB
             clear h0_ h1_ h2_ h3_ h4_ h5_ h6_ h7_ h8_ h9_ h10_ h11_ h12_ h13_ h14_ h15_ h16_
             have HO151 := n0_
             have HO_135000 := n1_
             have HO_147000 := n2_
             have HO_8 := n3_
             have BK134 := n4_
             have BK135 := n5_
             have BK146 := n6_
             have BK154 := n7_
             have GW154 := n8_
             have GE154 := n9_
             have NB134_154 := n10_
             have NB154_134 := n11_
             have NB135_154 := n12_
             have NB154_135 := n13_
             have NB146_154 := n14_
             have NB154_146 := n15_
             have HB := n16_
             clear n0_ n1_ n2_ n3_ n4_ n5_ n6_ n7_ n8_ n9_ n10_ n11_ n12_ n13_ n14_ n15_ n16_
             have hHeld : w59.cell? ⟨gb146, 0, none⟩ = some (.slice Ao54 x147000_2.length co54) ∧ w59.cell? ⟨gb146, 1, none⟩ = some (.int .i64 x147001_2) ∧ w59.cell? (ad148.add (a2).toNat) = some (.int .u32 (rd t136 a2)) := hS_
             obtain ⟨Ao60, co60, eo60⟩ := Kd.R_slice HO151.out
             (first | subst eo60 | (injection eo60 with f1_ f2_ f3_; have f4_ := f1_.symm; have f5_ := f3_.symm; clear f1_ f2_ f3_; subst f4_; subst f5_))
             refine norm_ (a' := ?_) ?_ ?_
             rotate_left
             ·simp only [putAll, Act.put, List.setIfInBounds_toArray, List.set_cons_zero, List.set_cons_succ]
              rfl
             refine one_ (i := 14) (N := none) huff_Write.y19 rfl rfl (one_of HT_.out (by kernel_rfl)) (by decide) (fun K hK => ?_)
             have hs61 : w59.cell? ⟨gb154, 0, none⟩ = some (.slice none 0 0) := (blk_cell BK154.out 0).trans rfl
             have hfs61 := blk_frozen BK154.out 0
             have hns61_0 := NB134_154.out
             have hns61_1 := NB135_154.out
             have hns61_2 := NB146_154.out
             have hms61_0 := NB154_134.out
             have hms61_1 := NB154_135.out
             have hms61_2 := NB154_146.out
             have hs62 : w59.cell? ⟨gb154, 1, none⟩ = some (.int .i64 0) := (blk_cell BK154.out 1).trans rfl
             have hfs62 := blk_frozen BK154.out 1
             have hns62_0 := NB134_154.out
             have hns62_1 := NB135_154.out
             have hns62_2 := NB146_154.out
             have hms62_0 := NB154_134.out
             have hms62_1 := NB154_135.out
             have hms62_2 := NB154_146.out
             refine skip_ (w1 := ?_) (by rfl) rfl ?_ ?_
             rotate_left
             ·go_simp
              rfl
             refine hK.out _ _ ⟨((cell_far (p := ⟨gb154, _, none⟩) NB146_154.out _).trans (((cell_far (p := ⟨gb154, _, none⟩) NB146_154.out _).trans (hHeld.1)))), ((cell_far (p := ⟨gb154, _, none⟩) NB146_154.out _).trans (((cell_far (p := ⟨gb154, _, none⟩) NB146_154.out _).trans (hHeld.2.1)))), ((cell_far (p := ⟨gb154, _, none⟩) (by first | exact Kd.own_blk (Kd.R_ne HO_8.out BK154.out (by decide)) | (rw [add_block]; exact Kd.own_blk (Kd.R_ne HO_8.out BK154.out (by decide))) | (show (Addr.add _ _).block ≠ _; rw [add_block]; exact Kd.own_blk (Kd.R_ne HO_8.out BK154.out (by decide))) | (dsimp only; exact Kd.own_blk (Kd.R_ne HO_8.out BK154.out (by decide)))) _).trans (((cell_far (p := ⟨gb154, _, none⟩) (by first | exact Kd.own_blk (Kd.R_ne HO_8.out BK154.out (by decide)) | (rw [add_block]; exact Kd.own_blk (Kd.R_ne HO_8.out BK154.out (by decide))) | (show (Addr.add _ _).block ≠ _; rw [add_block]; exact Kd.own_blk (Kd.R_ne HO_8.out BK154.out (by decide))) | (dsimp only; exact Kd.own_blk (Kd.R_ne HO_8.out BK154.out (by decide)))) _).trans (hHeld.2.2))))⟩ (fun hHeld => ?_)
             clear hK K
             refine pure_ (i := 15) (N := some 13) (v := ?_) (a' := ?_) huff_Write.y20 rfl rfl (any_of HT_.out (by kernel_rfl)) (fun _ _ _ h => h) (Or.inl ⟨by rfl, ?_⟩) ?_ ?_
             rotate_left
             ·intro w'
              go_simp
              with_reducible rfl
             rotate_left
             ·simp only [Act.put, List.setIfInBounds_toArray, List.set_cons_zero, List.set_cons_succ, i64_w, i32_w]
              rfl
             refine done_ (done_of HT_.out (by kernel_rfl)) ?_
             have hnb63 := NB134_135.out
             have hnc63 := NB135_134.out
             have hnb64 := NB134_146.out
             have hnc64 := NB146_134.out
             have hnb65 := NB134_154.out
             have hnc65 := NB154_134.out
             have hcz66_0 : w59.cell? ⟨gb134, 0, none⟩ = some (.slice A0_0 l0_0.length c0_0) := (blk_cell BK134.out 0).trans rfl
             have hcz66_1 : w59.cell? ⟨gb134, 1, none⟩ = some (.int .i64 x135001_2) := (blk_cell BK134.out 1).trans rfl
             have hfz66_0 := blk_frozen BK134.out 0
             have hfz66_1 := blk_frozen BK134.out 1
             try go_wp2_with (first | ((with_reducible refine gate_callee (f := 26) rfl ?_); refine goesL_ (some 71) rfl rfl Try.func26 (by kernel_rfl) rfl #[.agg #[.slice A0_0 l0_0.length c0_0, .int .i64 x135001_2], .int .u64 0, .int .i64 0] rfl (by (try simp only [List.map_toArray, List.map_cons, List.map_nil]); first | done | rfl | (simp only [List.length_drop, List.length_take]; rfl)) ?_; (with_reducible refine (bits_Put.calls k2 _ _ l0_0 x135001_2 0 0 t155 t158 t159 _ ?side1 ?side2 A53.out).mono ?_); (case side1 => refine (Kd.V_reads' (e := 5) (base := w.heap.size) (ok := fun k_ => ((P0_0_ k_ ∨ w.heap.size ≤ k_) ∧ (some k_ ≠ (.slice Ao60 t149.length co60 : Value).ownBlock ∧ (some k_ ≠ (.slice (some ad148) t136.length co56 : Value).ownBlock ∧ (k_ ≠ gb134 ∧ (k_ ≠ gb135 ∧ (k_ ≠ gb146 ∧ k_ ≠ gb154))))))) (n := l0_0.length) (c := c0_0) ?_).2.2; exact (by (with_reducible repeat (first | apply Kd.V_alloc | apply Kd.V_drewN | apply Kd.V_drew)); exact (Kd.V_mono (Kd.V_far (p := ⟨gb154, 1, none⟩) (Kd.V_far (p := ⟨gb154, 0, none⟩) (Kd.V_mono HO_135000.out (fun k_ hk => (⟨hk, hk.2.2.2.2.2.2⟩ : _ ∧ k_ ≠ gb154))) (fun _ hk => hk.2) (.slice Ao60 t149.length co60)) (fun _ hk => hk.2) (.int .i64 t152)) (fun _ h_ => h_.1)))); (case side2 => exact (Kd.V_reads' HO_135000.out).2.1); rintro e w67 ⟨v156, rfl, ho0, hb⟩; refine ⟨_, rfl, ?_⟩; have n0_ := Aside0.mk (Kd.R_below (by (with_reducible repeat (first | apply Kd.R_alloc | apply Kd.R_drewN | apply Kd.R_drew)); exact (Kd.R_mono (Kd.R_far (p := ⟨gb154, 1, none⟩) (Kd.R_far (p := ⟨gb154, 0, none⟩) (Kd.R_types HO_8.out BK154.out (by decide)) (fun _ hk => hk.2) (.slice Ao60 t149.length co60)) (fun _ hk => hk.2) (.int .i64 t152)) (fun _ h_ => h_.1))) hb); have n1_ := Aside0.mk (Kd.V_elder' (by (with_reducible repeat (first | apply Kd.V_alloc | apply Kd.V_drewN | apply Kd.V_drew)); exact (Kd.V_mono (Kd.V_far (p := ⟨gb154, 1, none⟩) (Kd.V_far (p := ⟨gb154, 0, none⟩) (Kd.V_mono HO_135000.out (fun k_ hk => (⟨hk, hk.2.2.2.2.2.2⟩ : _ ∧ k_ ≠ gb154))) (fun _ hk => hk.2) (.slice Ao60 t149.length co60)) (fun _ hk => hk.2) (.int .i64 t152)) (fun _ h_ => h_.1))) (Kd.R_base ho0) hb); have n2_ := Aside0.mk (Kd.V_elder' (by (with_reducible repeat (first | apply Kd.V_alloc | apply Kd.V_drewN | apply Kd.V_drew)); exact (Kd.V_mono (Kd.V_far (p := ⟨gb154, 1, none⟩) (Kd.V_far (p := ⟨gb154, 0, none⟩) (Kd.V_mono HO_147000.out (fun k_ hk => (⟨hk, hk.2.2.2.2.2.2⟩ : _ ∧ k_ ≠ gb154))) (fun _ hk => hk.2) (.slice Ao60 t149.length co60)) (fun _ hk => hk.2) (.int .i64 t152)) (fun _ h_ => h_.1))) (Kd.R_base ho0) hb); have n3_ := Aside0.mk (Kd.R_elder' (by (with_reducible repeat (first | apply Kd.R_alloc | apply Kd.R_drewN | apply Kd.R_drew)); exact (Kd.R_mono (Kd.R_far (p := ⟨gb154, 1, none⟩) (Kd.R_far (p := ⟨gb154, 0, none⟩) (Kd.R_types HO151.out BK154.out (by decide)) (fun _ hk => hk.2) (.slice Ao60 t149.length co60)) (fun _ hk => hk.2) (.int .i64 t152)) (fun _ h_ => h_.1))) (Kd.R_base ho0) hb); have n4_ := Aside0.mk (Kd.R_lower (Kd.R_new' (Kd.R_newM (M := fun k_ => (w.heap.size ≤ k_)) ho0 (below_size (by repeat (first | (with_reducible first | exact HB.out | apply below_alloc | apply pw_below_drewN | apply below_drew1 | refine below_set ?_ GE134.out | refine below_set ?_ GE135.out | refine below_set ?_ GE146.out | refine below_set ?_ GE154.out) | exact HB.out))) (fun k_ h_ => h_)) (Kd.R_lt (by (with_reducible repeat (first | apply Kd.R_alloc | apply Kd.R_drewN | apply Kd.R_drew)); exact (Kd.R_mono (Kd.R_far (p := ⟨gb154, 1, none⟩) (Kd.R_far (p := ⟨gb154, 0, none⟩) (Kd.R_types HO151.out BK154.out (by decide)) (fun _ hk => hk.2) (.slice Ao60 t149.length co60)) (fun _ hk => hk.2) (.int .i64 t152)) (fun _ h_ => h_.1))))) (below_size (by repeat (first | (with_reducible first | exact HB.out | apply below_alloc | apply pw_below_drewN | apply below_drew1 | refine below_set ?_ GE134.out | refine below_set ?_ GE135.out | refine below_set ?_ GE146.out | refine below_set ?_ GE154.out) | exact HB.out)))); have n5_ := Aside0.mk (blk_below (g := gb134) (o := .cells #[.slice A0_0 l0_0.length c0_0, .int .i64 x135001_2] 34 (0, 0)) (by (with_reducible repeat (first | refine blk_drewN ?_ _ | refine blk_drew ?_ | refine blk_alloc ?_ _)); refine blk_far ?_ NB134_154.out _; (with_reducible repeat (first | refine blk_drewN ?_ _ | refine blk_drew ?_ | refine blk_alloc ?_ _)); refine blk_far ?_ NB134_154.out _; (with_reducible repeat (first | refine blk_drewN ?_ _ | refine blk_drew ?_ | refine blk_alloc ?_ _)); exact BK134.out) hb); have n6_ := Aside0.mk (blk_below (g := gb135) (o := .cells #[.slice none 0 0, .int .i64 x136001_2] 34 (0, 0)) (by (with_reducible repeat (first | refine blk_drewN ?_ _ | refine blk_drew ?_ | refine blk_alloc ?_ _)); refine blk_far ?_ NB135_154.out _; (with_reducible repeat (first | refine blk_drewN ?_ _ | refine blk_drew ?_ | refine blk_alloc ?_ _)); refine blk_far ?_ NB135_154.out _; (with_reducible repeat (first | refine blk_drewN ?_ _ | refine blk_drew ?_ | refine blk_alloc ?_ _)); exact BK135.out) hb); have n7_ := Aside0.mk (blk_below (g := gb146) (o := .cells #[.slice Ao54 x147000_2.length co54, .int .i64 x147001_2] 34 (0, 0)) (by (with_reducible repeat (first | refine blk_drewN ?_ _ | refine blk_drew ?_ | refine blk_alloc ?_ _)); refine blk_far ?_ NB146_154.out _; (with_reducible repeat (first | refine blk_drewN ?_ _ | refine blk_drew ?_ | refine blk_alloc ?_ _)); refine blk_far ?_ NB146_154.out _; (with_reducible repeat (first | refine blk_drewN ?_ _ | refine blk_drew ?_ | refine blk_alloc ?_ _)); exact BK146.out) hb); have n8_ := Aside0.mk (blk_below (g := gb154) (o := .cells #[.slice Ao60 t149.length co60, .int .i64 t152] 34 (0, 0)) (by (with_reducible repeat (first | refine blk_drewN ?_ _ | refine blk_drew ?_ | refine blk_alloc ?_ _)); refine blk_put (cs := #[.slice Ao60 t149.length co60, .int .i64 0]) ?_ 1 _ rfl; (with_reducible repeat (first | refine blk_drewN ?_ _ | refine blk_drew ?_ | refine blk_alloc ?_ _)); refine blk_put (cs := #[.slice none 0 0, .int .i64 0]) ?_ 0 _ rfl; (with_reducible repeat (first | refine blk_drewN ?_ _ | refine blk_drew ?_ | refine blk_alloc ?_ _)); exact BK154.out) hb); have n9_ := Aside0.mk (below_step (by repeat (first | (with_reducible first | exact HB.out | apply below_alloc | apply pw_below_drewN | apply below_drew1 | refine below_set ?_ GE134.out | refine below_set ?_ GE135.out | refine below_set ?_ GE146.out | refine below_set ?_ GE154.out) | exact HB.out)) hb); clear HO_8; clear HO_135000; clear HO_147000; clear HO151; clear BK134; clear BK135; clear BK146; clear BK154; clear HB; have HO_8 := n0_; have HO_135000 := n1_; have HO_147000 := n2_; have HO151 := n3_; have HO157 := n4_; have BK134 := n5_; have BK135 := n6_; have BK146 := n7_; have BK154 := n8_; have HB := n9_; clear n0_ n1_ n2_ n3_ n4_ n5_ n6_ n7_ n8_ n9_; (try clear hb); (try clear hb2); (try clear hk); (try clear hi); (try clear ho0); obtain ⟨Ao68, co68, eo68⟩ := Kd.R_slice HO157.out; subst eo68; have hcz69_0 : w67.cell? ⟨gb134, 0, none⟩ = some (.slice A0_0 l0_0.length c0_0) := (blk_cell BK134.out 0).trans rfl; have hcz69_1 : w67.cell? ⟨gb134, 1, none⟩ = some (.int .i64 x135001_2) := (blk_cell BK134.out 1).trans rfl; have hfz69_0 := blk_frozen BK134.out 0; have hfz69_1 := blk_frozen BK134.out 1; have hnb70 := NB135_146.out; have hnc70 := NB146_135.out; have hnb71 := NB135_154.out; have hnc71 := NB154_135.out; have hcz72_0 : w67.cell? ⟨gb135, 0, none⟩ = some (.slice none 0 0) := (blk_cell BK135.out 0).trans rfl; have hcz72_1 : w67.cell? ⟨gb135, 1, none⟩ = some (.int .i64 x136001_2) := (blk_cell BK135.out 1).trans rfl; have hfz72_0 := blk_frozen BK135.out 0; have hfz72_1 := blk_frozen BK135.out 1))
             refine bodyPost_ret (results_ct rfl _ _ gb135 34 #[.slice Ao68 t155.length co68, .int .i64 t158] (0, 0) _ rfl (by (with_reducible repeat (first | refine blk_drewN ?_ _ | refine blk_drew ?_ | refine blk_alloc ?_ _)); refine blk_put (cs := #[.slice Ao68 t155.length co68, .int .i64 x136001_2]) ?_ 1 _ rfl; (with_reducible repeat (first | refine blk_drewN ?_ _ | refine blk_drew ?_ | refine blk_alloc ?_ _)); refine blk_put (cs := #[.slice none 0 0, .int .i64 x136001_2]) ?_ 0 _ rfl; (with_reducible repeat (first | refine blk_drewN ?_ _ | refine blk_drew ?_ | refine blk_alloc ?_ _)); refine blk_far ?_ NB135_134.out _; (with_reducible repeat (first | refine blk_drewN ?_ _ | refine blk_drew ?_ | refine blk_alloc ?_ _)); refine blk_far ?_ NB135_134.out _; (with_reducible repeat (first | refine blk_drewN ?_ _ | refine blk_drew ?_ | refine blk_alloc ?_ _)); exact BK135.out) Try.underlying34 rfl (by kernel_rfl)) rfl ?_
             exact ⟨_, by first | rfl | (simp [errW_none, errW_some] <;> rfl) | (simp only [← hji34]; first | rfl | (simp [errW_none, errW_some] <;> rfl)) | (simp [*, errW_none, errW_some] <;> rfl), Kd.V_mono (Kd.R_V (by (with_reducible repeat (first | apply Kd.R_alloc | apply Kd.R_drewN | apply Kd.R_drew)); exact Kd.R_mono (Kd.R_far (p := ⟨gb135, 1, none⟩) (Kd.R_far (p := ⟨gb135, 0, none⟩) (Kd.R_far (p := ⟨gb134, 1, none⟩) (Kd.R_far (p := ⟨gb134, 0, none⟩) (Kd.R_types (Kd.R_types HO157.out BK134.out (by decide)) BK135.out (by decide)) (fun _ hk => hk.1.2) (.slice Ao68 t155.length co68)) (fun _ hk => hk.1.2) (.int .i64 t158)) (fun _ hk => hk.2) (.slice Ao68 t155.length co68)) (fun _ hk => hk.2) (.int .i64 t158)) (fun _ hk => hk.1.1.1.1))) (fun k_ hk => by first | exact ⟨(.inr (hk.1)), hk.2⟩ | exact (.inr (hk))), by repeat (first | (with_reducible first | exact HB.out | apply below_alloc | apply pw_below_drewN | apply below_drew1 | refine below_set ?_ GE134.out | refine below_set ?_ GE135.out | refine below_set ?_ GE146.out | refine below_set ?_ GE154.out) | exact HB.out)⟩
           ·rw [if_neg c33] at H
            exact absurd H (by simp)
          ·rw [if_neg c32] at H
           exact absurd H (by simp)
         ·rw [if_neg c31] at H
          exact absurd H (by simp)
        ·rw [if_neg c30] at H
         have c30b0 : decide (0 ≤ x11_2) = false := decide_eq_false c30
         clear c30
         simp only [Option.some.injEq, Prod.mk.injEq] at H
         obtain ⟨rfl, rfl, rfl⟩ := H
         have hnb73 := NB146_134.out
         have hnc73 := NB134_146.out
         have hnb74 := NB146_135.out
         have hnc74 := NB135_146.out
         have hcz75_0 : wr.cell? ⟨gb146, 0, none⟩ = some (u147000) := (blk_cell BK146.out 0).trans rfl
         have hcz75_1 : wr.cell? ⟨gb146, 1, none⟩ = some (.int .i64 x147001_2) := (blk_cell BK146.out 1).trans rfl
         have hfz75_0 := blk_frozen BK146.out 0
         have hfz75_1 := blk_frozen BK146.out 1
         obtain ⟨Ao76, co76, eo76⟩ := Kd.V_slice HO_147000.out
         subst eo76
         have hnb77 := NB135_134.out
         have hnc77 := NB134_135.out
         have hcz78_0 : wr.cell? ⟨gb135, 0, none⟩ = some (.slice none 0 0) := (blk_cell BK135.out 0).trans rfl
         have hcz78_1 : wr.cell? ⟨gb135, 1, none⟩ = some (.int .i64 x136001_2) := (blk_cell BK135.out 1).trans rfl
         have hfz78_0 := blk_frozen BK135.out 0
         have hfz78_1 := blk_frozen BK135.out 1
         go_wp2
         refine bodyPost_ret (results_ct rfl _ _ gb135 34 #[.slice Ao76 x147000_2.length co76, .int .i64 x147001_2] (0, 0) _ rfl (by (with_reducible repeat (first | refine blk_drewN ?_ _ | refine blk_drew ?_ | refine blk_alloc ?_ _)); refine blk_put (cs := #[.slice Ao76 x147000_2.length co76, .int .i64 x136001_2]) ?_ 1 _ rfl; (with_reducible repeat (first | refine blk_drewN ?_ _ | refine blk_drew ?_ | refine blk_alloc ?_ _)); refine blk_put (cs := #[.slice none 0 0, .int .i64 x136001_2]) ?_ 0 _ rfl; (with_reducible repeat (first | refine blk_drewN ?_ _ | refine blk_drew ?_ | refine blk_alloc ?_ _)); exact BK135.out) Try.underlying34 rfl (by kernel_rfl)) rfl ?_
         exact ⟨_, by first | rfl | (simp [errW_none, errW_some] <;> rfl) | (simp [*, errW_none, errW_some] <;> rfl), by (with_reducible repeat (first | apply Kd.V_alloc | apply Kd.V_drewN | apply Kd.V_drew)); exact Kd.V_mono (Kd.V_far (p := ⟨gb135, 1, none⟩) (Kd.V_far (p := ⟨gb135, 0, none⟩) (Kd.V_mono HO_147000.out (fun k_ hk => (⟨hk, hk.2.2.2.1⟩ : _ ∧ k_ ≠ gb135))) (fun _ hk => hk.2) (.slice Ao76 x147000_2.length co76)) (fun _ hk => hk.2) (.int .i64 x147001_2)) (fun _ hk => hk.1.1), by repeat (first | (with_reducible first | exact HB.out | apply below_alloc | apply pw_below_drewN | apply below_drew1 | refine below_set ?_ GE134.out | refine below_set ?_ GE135.out | refine below_set ?_ GE146.out) | exact HB.out)⟩
     ·rw [if_neg c23] at H
      exact absurd H (by simp)
    ·rw [if_neg c22] at H
     exact absurd H (by simp)

end Go.Proofs.Ytmocinhononfpaa.P
