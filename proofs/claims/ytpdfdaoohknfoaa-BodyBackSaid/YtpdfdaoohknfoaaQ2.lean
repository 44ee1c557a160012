/- Walks and what they compute, shared by the laws of this chapter. -/
import Derived.Test.YtpdfdaoohknfoaaQ1
import Derived.Maps.OwnSet
import Derived.DeepKeys4
namespace Go.Proofs.Ytpdfdaoohknfoaa.P
open Go.RowKit Go.Proofs.YtpdfdaoohknfoaaW.PrintWords Go.Proofs.YtpdfdaoohknfoaaW.PrintLast Go.Proofs.YtpdfdaoohknfoaaW.PrintMore
attribute [local go_sem] max2_int min2_int max_two min_two max_three min_three max_four min_four   -- for this text's walks alone
set_option linter.unusedVariables false
set_option linter.unusedSimpArgs false

theorem vor43_or {α : Type} {d : Kd α} {e : Nat} {W : World} {base : Nat} {P Q R : Nat → Prop} {v : Value} {xs : List α} (h : Kd.V d e W base (fun k => Q k ∧ R k) v xs) : Kd.V d e W base (fun k => (P k ∨ Q k) ∧ R k) v xs := Kd.V_mono h (fun _ hk => ⟨.inr hk.1, hk.2⟩)
mutual
def huff_Write.j0 : Nat → List Int → Int → List Int → Bool → List Int → Int → Option (List Int × Int × Int)
  | 0, _, _, _, _, _, _ => none
  | k + 1, x1, x2, x8, x37, x465000, x465001 => if x37 = true then ((bits_Put.f k x465000 x465001 0 0).bind fun bt471 => (some (bt471.1, bt471.2.1, 1))) else (if 0 ≤ x2 then (if x2 < (x1.length : Int) then (huff_Write.l0 k x2 x8 (wrap64 ((rd x1 x2) - 1)) x465000 x465001 x465000 x465001) else (none)) else (none))
def huff_Write.l0 : Nat → Int → List Int → Int → List Int → Int → List Int → Int → Option (List Int × Int × Int)
  | 0, _, _, _, _, _, _, _ => none
  | k + 1, x2, x8, x11, x465000, x465001, x477000, x477001 => if x11 ≥ 0 then (if 0 ≤ x2 then (if x2 < (x8.length : Int) then (if 0 ≤ x11 then ((bits_Put.f k x477000 x477001 (IntKind.u64.wrap (Go.bits .and .u32 (shr .u32 (rd x8 x2) x11) 1)) 1).bind fun bt479 => (if bt479.2.2 = 0 then (huff_Write.l0 k x2 x8 (wrap64 (x11 - 1)) x465000 x465001 bt479.1 bt479.2.1) else ((bits_Put.f k x465000 x465001 0 0).bind fun bt485 => (some (bt485.1, bt485.2.1, bt479.2.2))))) else (none)) else (none)) else (none)) else (some (x477000, x477001, 0))
end
def huff_Write.f (k : Nat) (l0_0 : List Int) (a0_1 : Int) (l1 : List Int) (a2 : Int) : Option (List Int × Int × Int) := (huff_Codes.f k l1).bind fun bt466 => (if bt466.2 = 0 then (if a2 < 0 then (huff_Write.j0 k l1 a2 bt466.1 true l0_0 a0_1) else (if a2 ≥ (l1.length : Int) then (huff_Write.j0 k l1 a2 bt466.1 true l0_0 a0_1) else (if 0 ≤ a2 then (if a2 < (l1.length : Int) then (huff_Write.j0 k l1 a2 bt466.1 ((rd l1 a2) == 0) l0_0 a0_1) else (none)) else (none)))) else (huff_Write.j0 k l1 a2 bt466.1 true l0_0 a0_1))
theorem huff_Write.mono_l : ∀ k, (∀ y0 y1 y2 y3 y4 y5, LeO (huff_Write.j0 k y0 y1 y2 y3 y4 y5) (huff_Write.j0 (k + 1) y0 y1 y2 y3 y4 y5)) ∧ (∀ y0 y1 y2 y3 y4 y5 y6, LeO (huff_Write.l0 k y0 y1 y2 y3 y4 y5 y6) (huff_Write.l0 (k + 1) y0 y1 y2 y3 y4 y5 y6))
  | 0 => ⟨fun _ _ _ _ _ _ r h => by simp [huff_Write.j0] at h, fun _ _ _ _ _ _ _ r h => by simp [huff_Write.l0] at h⟩
  | k + 1 => by
    obtain ⟨ih0, ih1⟩ := huff_Write.mono_l k
    refine ⟨?_, ?_⟩
    all_goals (intros; first | unfold huff_Write.j0 | unfold huff_Write.l0)
    all_goals with_reducible repeat' first
     | exact ih0 _ _ _ _ _ _
     | exact ih1 _ _ _ _ _ _ _
     | exact bits_Put.mono _ _ _ _ _
     | exact huff_Codes.mono _ _
     | exact LeO.refl _
     | exact LeO.none _
     | refine LeO.ite ?_ ?_
     | refine LeO.bind ?_ (fun _ => ?_)
theorem huff_Write.mono : ∀ a0 a1 a2 a3 k, LeO (huff_Write.f k a0 a1 a2 a3) (huff_Write.f (k + 1) a0 a1 a2 a3) := by
  intro a0 a1 a2 a3 k
  obtain ⟨ih0, ih1⟩ := huff_Write.mono_l k
  unfold huff_Write.f
  with_reducible repeat' first
   | exact ih0 _ _ _ _ _ _
   | exact ih1 _ _ _ _ _ _ _
   | exact bits_Put.mono _ _ _ _ _
   | exact huff_Codes.mono _ _
   | exact LeO.refl _
   | exact LeO.none _
   | refine LeO.ite ?_ ?_
   | refine LeO.bind ?_ (fun _ => ?_)
def huff_Write.T9 : Bool × List (List Nat × List Nat) := (true, [([], []), ([], []), ([], []), ([1, 2], [1, 2]), ([3], [3]), ([], []), ([4, 5], [4, 5]), ([6], [6]), ([7], [7]), ([0, 8], [0, 8]), ([9], [9]), ([10], [10]), ([10], [10]), ([], []), ([13, 11, 9, 0, 1, 2, 3, 4, 5, 6, 7, 8, 9, 10, 11, 13], [11, 13]), ([12, 14, 0, 1, 2, 3, 4, 5, 6, 7, 8, 9, 10, 11, 12, 13, 14], [12])])
def huff_Write.B9 : List Nat := [0, 0, 0, 6, 14, 0, 62, 126, 254, 511, 1023, 2047, 2047, 0, 12287, 32767]
theorem huff_Write.tab9 : rtab .any (opsOf Try.f51 9) = huff_Write.T9 := by kernel_rfl
theorem huff_Write.bits9 : waitsOk huff_Write.T9.2 huff_Write.B9 = true := by kernel_rfl
set_option maxHeartbeats 8000000 in
set_option maxRecDepth 100000 in
theorem huff_Write.calls (k : Nat) (P0_0_ : Nat → Prop) (A0_0 : Option Addr) (c0_0 : Nat) (l0_0 : List Int) (a0_1 : Int) (A1 : Option Addr) (c1 : Nat) (l1 : List Int) (a2 : Int) (r1 : List Int) (r2 : Int) (r3 : Int) (w : World) (hs0_0 : Kd.V (Kd.int .u8) 5 w w.heap.size (fun k_ => P0_0_ k_) (.slice A0_0 l0_0.length c0_0) l0_0) (hr1 : Kd.C (Kd.int .i64) w A1 l1.length l1) (hc1 : l1.length ≤ c1) (h : huff_Write.f k l0_0 a0_1 l1 a2 = some (r1, r2, r3)) :
    Calls Try.prog 51 #[.agg #[.slice A0_0 l0_0.length c0_0, .int .i64 a0_1], .slice A1 l1.length c1, .int .i64 a2] w fun e w' => ∃ v0_ : Value, e = .returned (.tuple #[.agg #[v0_, .int .i64 r2], .int .i64 r3]) ∧ Kd.V (Kd.int .u8) 5 w' w.heap.size (fun k_ => (P0_0_ k_ ∨ w.heap.size ≤ k_)) v0_ r1 ∧ Below w.heap.size w w' := by
 have hu66 := Try.underlying66
 have HO0_0 := Aside0.mk (show Kd.V (Kd.int .u8) 5 w w.heap.size (fun k_ => (P0_0_ k_ ∨ w.heap.size ≤ k_)) (.slice A0_0 l0_0.length c0_0) l0_0 from Kd.V_mono hs0_0 (fun k_ hk => .inl hk))
 have HR1 := Aside0.mk hr1
 have HC1 := Aside0.mk hc1
 clear hr1 hc1
 have HB := Aside0.mk (Below.refl w.heap.size w)
 have H : ((huff_Codes.f k l1).bind fun bt466 => (if bt466.2 = 0 then (if a2 < 0 then (huff_Write.j0 k l1 a2 bt466.1 true l0_0 a0_1) else (if a2 ≥ (l1.length : Int) then (huff_Write.j0 k l1 a2 bt466.1 true l0_0 a0_1) else (if 0 ≤ a2 then (if a2 < (l1.length : Int) then (huff_Write.j0 k l1 a2 bt466.1 ((rd l1 a2) == 0) l0_0 a0_1) else (none)) else (none)))) else (huff_Write.j0 k l1 a2 bt466.1 true l0_0 a0_1))) = some (r1, r2, r3) := h
 clear h
 obtain ⟨⟨t466, t467⟩, A4, H⟩ := ob_ H
 (try dsimp only at H)
 have HC5 := Aside0.mk H
 clear H
 go_enter Try.func51, Try.ntmps51
 go_upto_region 2 with (first | ((with_reducible refine gate_dst (N := 3) rfl ?_); (try (refine gate_guard (by rfl) ?_; dsimp only)); refine box_ 3 #[.slice A0_0 l0_0.length c0_0, .int .i64 a0_1] 66 ?_; intro gb464 hg w6 hbox hb; replace HO0_0 := Aside0.mk (Kd.V_below (Kd.V_elderB (kV_ HO0_0) gb464 (Nat.le_of_eq hg.symm)) hb); have BK464 := Aside0.mk (hbox); have GW464 := GE_ HB hg; have GE464 := GE_ HB hg; replace HB := BS_ HB hb; clear hb hbox hg) | ((with_reducible refine gate_dst (N := 6) rfl ?_); (try (refine gate_guard (by rfl) ?_; dsimp only)); refine box_ 6 #[.slice none 0 0, .int .i64 0] 66 ?_; intro gb465 hg w7 hbox hb; replace HO0_0 := Aside0.mk (Kd.V_below (Kd.V_elderB (kV_ HO0_0) gb465 (Nat.le_of_eq hg.symm)) hb); have BK465 := Aside0.mk (hbox); have GW465 := GE_ HB hg; have GE465 := GE_ HB hg; replace HB := BS_ HB hb; obtain ⟨NB464_465, NB465_464⟩ := NN_ BK464 hg; replace BK464 := FB_ BK464 hb; clear hb hbox hg) | ((with_reducible refine gate_callee (f := 68) rfl ?_); refine gL_ (some 16) Try.func68 #[.slice A1 l1.length c1] ?_; (with_reducible refine (huff_Codes.calls k _ _ l1 t466 t467 _ ?side1 ?side2 A4.out).mono ?_); (case side1 => exact kC_ HR1 HB); (case side2 => exact HC1.out); rintro e w8 ⟨v468, rfl, ho0, hb⟩; refine ⟨_, rfl, ?_⟩; replace HO0_0 := Aside0.mk (Kd.V_elder' (kV_ HO0_0) (Kd.R_base ho0) hb); have HO469 := Aside0.mk (Kd.R_lower (Kd.R_newM (M := fun k_ => (w.heap.size ≤ k_)) ho0 (bs_ HB) (fun k_ h_ => h_)) (bs_ HB)); replace BK464 := FB_ BK464 hb; replace BK465 := FB_ BK465 hb; replace HB := BS_ HB hb; (try clear hb); (try clear ho0)))
 (try simp only [Act.put, List.setIfInBounds_toArray, List.set_cons_zero, List.set_cons_succ])
 go_cut [37] (fun v37 wc => ∃ (kq : Nat) (x37_4 : Bool), v37 = .bool x37_4 ∧ Aside0 (huff_Write.j0 kq l1 a2 t466 x37_4 l0_0 a0_1 = some (r1, r2, r3)) ∧ Aside0 (kq ≤ k) ∧ Aside0 (Kd.R (Kd.int .u32) 116 wc w.heap.size (fun k_ => (w.heap.size ≤ k_)) v468 t466) ∧ Aside0 (Kd.V (Kd.int .u8) 5 wc w.heap.size (fun k_ => (P0_0_ k_ ∨ w.heap.size ≤ k_) ∧ some k_ ≠ (v468 : Value).ownBlock ∧ k_ ≠ gb464 ∧ k_ ≠ gb465) (.slice A0_0 l0_0.length c0_0) l0_0) ∧ Aside0 (wc.heap[gb464]? = some (.cells #[(.slice A0_0 l0_0.length c0_0), .int .i64 a0_1] 66 (0, 0))) ∧ Aside0 (wc.heap[gb465]? = some (.cells #[(.slice none 0 0), .int .i64 0] 66 (0, 0))) ∧ Aside0 (Below w.heap.size w wc))
 case first => (
 have H := HC5.out
 clear HC5
 by_cases c9 : t467 = 0
 {
 rw [if_pos c9] at H
 have c9b0 : (t467 == 0) = true := beq_iff_eq.mpr c9
 have c9b1 : (t467 != 0) = false := bne_eq_false_iff_eq.mpr c9
 clear c9
 (first | rw [c9b0] | (simp only [i64_w, i32_w]; rw [c9b0]) | skip)
 by_cases c10 : a2 < 0
 {
 rw [if_pos c10] at H
 have c10b0 : decide (a2 < 0) = true := decide_eq_true c10
 clear c10
 have H' := Aside0.mk H
 clear H
 go_wp2
 go_meet
 case rel => exact ⟨_, (true), rs_, H', ⟨ol_⟩, ⟨by (with_reducible repeat (first | apply Kd.R_alloc | apply Kd.R_drewN | apply Kd.R_drew)); exact Kd.R_mono HO469.out (fun _ hk => hk.1)⟩, ⟨by (with_reducible repeat (first | apply Kd.V_alloc | apply Kd.V_drewN | apply Kd.V_drew)); exact Kd.V_mono HO0_0.out (fun _ hk => ⟨hk.1.1.1, ⟨hk.2, ⟨hk.1.1.2, hk.1.2⟩⟩⟩)⟩, ⟨bk_ BK464⟩, ⟨bk_ BK465⟩, ⟨bl_ HB⟩⟩}
 {
 rw [if_neg c10] at H
 have c10b0 : decide (a2 < 0) = false := decide_eq_false c10
 clear c10
 by_cases c11 : a2 ≥ (l1.length : Int)
 {
 rw [if_pos c11] at H
 have c11b0 : decide ((l1.length : Int) ≤ a2) = true := decide_eq_true c11
 clear c11
 have H' := Aside0.mk H
 clear H
 go_wp2
 go_meet
 case rel => exact ⟨_, (true), rs_, H', ⟨ol_⟩, ⟨by (with_reducible repeat (first | apply Kd.R_alloc | apply Kd.R_drewN | apply Kd.R_drew)); exact Kd.R_mono HO469.out (fun _ hk => hk.1)⟩, ⟨by (with_reducible repeat (first | apply Kd.V_alloc | apply Kd.V_drewN | apply Kd.V_drew)); exact Kd.V_mono HO0_0.out (fun _ hk => ⟨hk.1.1.1, ⟨hk.2, ⟨hk.1.1.2, hk.1.2⟩⟩⟩)⟩, ⟨bk_ BK464⟩, ⟨bk_ BK465⟩, ⟨bl_ HB⟩⟩}
 {
 rw [if_neg c11] at H
 have c11b0 : decide ((l1.length : Int) ≤ a2) = false := decide_eq_false c11
 clear c11
 by_cases c12 : 0 ≤ a2
 {
 rw [if_pos c12] at H
 have c12b0 : decide (0 ≤ a2) = true := decide_eq_true c12
 clear c12
 by_cases c13 : a2 < (l1.length : Int)
 {
 rw [if_pos c13] at H
 have c13b0 : decide (a2 < (l1.length : Int)) = true := decide_eq_true c13
 clear c13
 have H' := Aside0.mk H
 clear H
 have p470 : 0 ≤ (a2 : Int) := of_decide_eq_true am_
 have q470 : a2 < (l1.length : Int) := of_decide_eq_true am_
 obtain ⟨ad470, e470, hx470_0⟩ := Kd.at_int HR1.out a2 p470 q470
 cases e470
 replace hx470_0 := (HB.out.cell (World.block_lt_of_cell? w _ hx470_0)).trans hx470_0
 replace p470 := eq_true p470
 replace q470 := eq_true q470
 go_wp2
 go_meet
 case rel => exact ⟨_, (((rd l1 a2) == 0)), rs_, H', ⟨ol_⟩, ⟨by (with_reducible repeat (first | apply Kd.R_alloc | apply Kd.R_drewN | apply Kd.R_drew)); exact Kd.R_mono HO469.out (fun _ hk => hk.1)⟩, ⟨by (with_reducible repeat (first | apply Kd.V_alloc | apply Kd.V_drewN | apply Kd.V_drew)); exact Kd.V_mono HO0_0.out (fun _ hk => ⟨hk.1.1.1, ⟨hk.2, ⟨hk.1.1.2, hk.1.2⟩⟩⟩)⟩, ⟨bk_ BK464⟩, ⟨bk_ BK465⟩, ⟨bl_ HB⟩⟩}
 {
 rw [if_neg c13] at H
 exact absurd H (by simp)}}
 {
 rw [if_neg c12] at H
 exact absurd H (by simp)}}}}
 {
 rw [if_neg c9] at H
 have c9b0 : (t467 == 0) = false := beq_eq_false_iff_ne.mpr c9
 have c9b1 : (t467 != 0) = true := bne_iff_ne.mpr c9
 (first | rw [c9b0] | (simp only [i64_w, i32_w]; rw [c9b0]) | skip)
 have H' := Aside0.mk H
 clear H
 go_wp2
 go_meet
 case rel => exact ⟨_, (true), rs_, H', ⟨ol_⟩, ⟨by (with_reducible repeat (first | apply Kd.R_alloc | apply Kd.R_drewN | apply Kd.R_drew)); exact Kd.R_mono HO469.out (fun _ hk => hk.1)⟩, ⟨by (with_reducible repeat (first | apply Kd.V_alloc | apply Kd.V_drewN | apply Kd.V_drew)); exact Kd.V_mono HO0_0.out (fun _ hk => ⟨hk.1.1.1, ⟨hk.2, ⟨hk.1.1.2, hk.1.2⟩⟩⟩)⟩, ⟨bk_ BK464⟩, ⟨bk_ BK465⟩, ⟨bl_ HB⟩⟩})
 case rest => (
 clear HC5
 try clear c1
 obtain ⟨kq, x37_4, rfl, HA, HJ4, HO_8, HO_465000, BK464, BK465, HB⟩ := hcut
 cases kq with
 | zero => exact absurd HA.out (by simp [huff_Write.j0])
 | succ kj4 => (
 have H := HA.out
 clear HA
 simp only [huff_Write.j0] at H
 by_cases c14 : x37_4 = true
 {
 subst c14
 rw [if_pos rfl] at H
 obtain ⟨⟨t471, t474, t475⟩, A15, H⟩ := ob_ H
 (try dsimp only at H)
 simp only [Option.some.injEq, Prod.mk.injEq] at H
 obtain ⟨rfl, rfl, rfl⟩ := H
 have hnb16 := NB464_465.out
 have hnc16 := NB465_464.out
 obtain ⟨hcz17_0, hcz17_1, hfz17_0, hfz17_1⟩ := e2_ BK464
 go_wp2_with (first | ((with_reducible refine gate_callee (f := 64) rfl ?_); refine gL_ (some 40) Try.func64 #[.agg #[.slice A0_0 l0_0.length c0_0, .int .i64 a0_1], .int .u64 0, .int .i64 0] ?_; (with_reducible refine (bits_Put.calls kj4 _ _ l0_0 a0_1 0 0 t471 t474 t475 _ ?side1 ?side2 A15.out).mono ?_); (case side1 => exact kCt_ (Kd.V_reads' HO_465000.out).2.2); (case side2 => exact (Kd.V_reads' HO_465000.out).2.1); rintro e w18 ⟨v472, rfl, ho0, hb⟩; refine ⟨_, rfl, ?_⟩; replace HO_8 := FR_ HO_8 hb; replace HO_465000 := Aside0.mk (Kd.V_elder' (kV_ HO_465000) (Kd.R_base ho0) hb); have HO473 := Aside0.mk (Kd.R_lower (Kd.R_newM (M := fun k_ => (w.heap.size ≤ k_)) ho0 (bs_ HB) (fun k_ h_ => h_)) (bs_ HB)); replace BK464 := FB_ BK464 hb; replace BK465 := FB_ BK465 hb; replace HB := BS_ HB hb; (try clear hb); (try clear ho0); obtain ⟨Ao19, co19, eo19⟩ := Kd.R_slice HO473.out; subst eo19; obtain ⟨hcz20_0, hcz20_1, hfz20_0, hfz20_1⟩ := e2_ BK464; obtain ⟨hcz21_0, hcz21_1, hfz21_0, hfz21_1⟩ := e2_ BK465))
 refine bodyPost_ret (results_ct rfl _ _ gb465 66 #[.slice Ao19 t471.length co19, .int .i64 t474] (0, 0) _ rfl (bp_ BK465) Try.underlying66 rfl kf_) rfl ?_
 exact ⟨_, by first | rfl | (simp [errW_none, errW_some] <;> rfl) | (simp [*, errW_none, errW_some] <;> rfl), Kd.V_mono (Kd.R_V (by (with_reducible repeat (first | apply Kd.R_alloc | apply Kd.R_drewN | apply Kd.R_drew)); exact Kd.R_mono (Kd.R_far (p := ⟨gb465, 1, none⟩) (Kd.R_far (p := ⟨gb465, 0, none⟩) (Kd.R_far (p := ⟨gb464, 1, none⟩) (Kd.R_far (p := ⟨gb464, 0, none⟩) (Kd.R_types (Kd.R_types HO473.out BK464.out (by decide)) BK465.out (by decide)) (fun _ hk => hk.1.2) (.slice Ao19 t471.length co19)) (fun _ hk => hk.1.2) (.int .i64 t474)) (fun _ hk => hk.2) (.slice Ao19 t471.length co19)) (fun _ hk => hk.2) (.int .i64 t474)) (fun _ hk => hk.1.1.1))) (fun k_ hk => by first | exact ⟨(.inr (hk.1)), hk.2⟩ | exact (.inr (hk))), bl_ HB⟩}
 {
 replace c14 := Bool.eq_false_iff.mpr c14
 subst c14
 rw [if_neg (show ¬ (false = true) by decide)] at H
 by_cases c22 : 0 ≤ a2
 {
 rw [if_pos c22] at H
 have c22b0 : decide (0 ≤ a2) = true := decide_eq_true c22
 clear c22
 by_cases c23 : a2 < (l1.length : Int)
 {
 rw [if_pos c23] at H
 have c23b0 : decide (a2 < (l1.length : Int)) = true := decide_eq_true c23
 clear c23
 have H' := Aside0.mk H
 clear H
 have hnb24 := NB464_465.out
 have hnc24 := NB465_464.out
 obtain ⟨hcz25_0, hcz25_1, hfz25_0, hfz25_1⟩ := e2_ BK464
 go_wp2_with (first | ((with_reducible refine gate_dst (N := 10) rfl ?_); (try (refine gate_guard (by rfl) ?_; dsimp only)); refine box_ 10 #[.slice none 0 0, .int .i64 0] 66 ?_; intro gb476 hg w26 hbox hb; replace HO_8 := FR_ HO_8 hb; replace HO_465000 := Aside0.mk (Kd.V_below (Kd.V_elderB (kV_ HO_465000) gb476 (Nat.le_of_eq hg.symm)) hb); have BK476 := Aside0.mk (hbox); have GW476 := GE_ HB hg; have GE476 := GE_ HB hg; replace HB := BS_ HB hb; obtain ⟨NB464_476, NB476_464⟩ := NN_ BK464 hg; replace BK464 := FB_ BK464 hb; obtain ⟨NB465_476, NB476_465⟩ := NN_ BK465 hg; replace BK465 := FB_ BK465 hb; clear hb hbox hg; have hnb27 := NB476_464.out; have hnc27 := NB464_476.out; have hnb28 := NB476_465.out; have hnc28 := NB465_476.out; obtain ⟨hcz29_0, hcz29_1, hfz29_0, hfz29_1⟩ := e2_ BK476; have p477 : 0 ≤ (a2 : Int) := of_decide_eq_true am_; have q477 : a2 < (l1.length : Int) := of_decide_eq_true am_; obtain ⟨ad477, e477, hx477_0⟩ := Kd.at_int HR1.out a2 p477 q477; cases e477; have hn477_0 : ad477.block ≠ gb476 := Nat.ne_of_lt (Nat.lt_of_lt_of_le (by have := World.block_lt_of_cell? _ _ hx477_0; first | rwa [add_block] at this | exact this) GW476.out); have hn477_1 : ad477.block ≠ gb476 := Nat.ne_of_lt (Nat.lt_of_lt_of_le (by have := World.block_lt_of_cell? _ _ hx477_0; first | rwa [add_block] at this | exact this) GW476.out); replace hx477_0 := (HB.out.cell (World.block_lt_of_cell? w _ hx477_0)).trans hx477_0; replace hx477_0 := (cell_far (p := ⟨gb476, 0, none⟩) (by first | (rw [add_block]; exact hn477_0) | (show (Addr.add _ _).block ≠ _; rw [add_block]; exact hn477_0) | exact hn477_0) (.slice A0_0 l0_0.length c0_0)).trans hx477_0; replace hx477_0 := (cell_far (p := ⟨gb476, 1, none⟩) (by first | (rw [add_block]; exact hn477_1) | (show (Addr.add _ _).block ≠ _; rw [add_block]; exact hn477_1) | exact hn477_1) (.int .i64 a0_1)).trans hx477_0; clear hn477_0; clear hn477_1; replace p477 := eq_true p477; replace q477 := eq_true q477))
 go_loopg [11] kj4 (fun kq v11 w' => ∃ (x11_2 : Int) (x465001_2 : Int) (x466001_2 : Int) (x477000_2 : List Int) (x477001_2 : Int) (u477000 : Value), v11 = .int .i64 x11_2 ∧ Aside0 (huff_Write.l0 kq a2 t466 x11_2 l0_0 x465001_2 x477000_2 x477001_2 = some (r1, r2, r3)) ∧ Aside0 (kq ≤ kj4) ∧ Aside0 (Kd.R (Kd.int .u32) 116 w' w.heap.size (fun k_ => (w.heap.size ≤ k_)) v468 t466) ∧ Aside0 (Kd.V (Kd.int .u8) 5 w' w.heap.size (fun k_ => (P0_0_ k_ ∨ w.heap.size ≤ k_) ∧ some k_ ≠ (v468 : Value).ownBlock ∧ k_ ≠ gb464 ∧ k_ ≠ gb465 ∧ k_ ≠ gb476) (.slice A0_0 l0_0.length c0_0) l0_0) ∧ Aside0 (Kd.V (Kd.int .u8) 5 w' w.heap.size (fun k_ => (P0_0_ k_ ∨ w.heap.size ≤ k_) ∧ some k_ ≠ (v468 : Value).ownBlock ∧ k_ ≠ gb464 ∧ k_ ≠ gb465 ∧ k_ ≠ gb476) u477000 x477000_2) ∧ Aside0 (w'.heap[gb464]? = some (.cells #[(.slice A0_0 l0_0.length c0_0), .int .i64 x465001_2] 66 (0, 0))) ∧ Aside0 (w'.heap[gb465]? = some (.cells #[(.slice none 0 0), .int .i64 x466001_2] 66 (0, 0))) ∧ Aside0 (w'.heap[gb476]? = some (.cells #[u477000, .int .i64 x477001_2] 66 (0, 0))) ∧ Aside0 (Below w.heap.size w w'))
 case atStart => exact ⟨(wrap64 ((rd l1 a2) - 1)), (a0_1), (0), (l0_0), (a0_1), (.slice A0_0 l0_0.length c0_0), rs_, H', ⟨Nat.le_refl _⟩, ⟨kRk_ HO_8 BK476⟩, ⟨by (with_reducible repeat (first | apply Kd.V_alloc | apply Kd.V_drewN | apply Kd.V_drew)); exact Kd.V_mono (Kd.V_far (p := ⟨gb476, 1, none⟩) (Kd.V_far (p := ⟨gb476, 0, none⟩) (Kd.V_mono HO_465000.out (fun k_ hk => (⟨hk, hk.2⟩ : _ ∧ k_ ≠ gb476))) (fun _ hk => hk.2) (.slice A0_0 l0_0.length c0_0)) (fun _ hk => hk.2) (.int .i64 a0_1)) (fun _ hk => ⟨hk.1.1.1, ⟨hk.1.1.2.1, ⟨hk.1.1.2.2.1, ⟨hk.1.1.2.2.2, hk.1.2⟩⟩⟩⟩)⟩, ⟨by (with_reducible repeat (first | apply Kd.V_alloc | apply Kd.V_drewN | apply Kd.V_drew)); exact Kd.V_mono (Kd.V_far (p := ⟨gb476, 1, none⟩) (Kd.V_far (p := ⟨gb476, 0, none⟩) (Kd.V_mono HO_465000.out (fun k_ hk => (⟨hk, hk.2⟩ : _ ∧ k_ ≠ gb476))) (fun _ hk => hk.2) (.slice A0_0 l0_0.length c0_0)) (fun _ hk => hk.2) (.int .i64 a0_1)) (fun _ hk => ⟨hk.1.1.1, ⟨hk.1.1.2.1, ⟨hk.1.1.2.2.1, ⟨hk.1.1.2.2.2, hk.1.2⟩⟩⟩⟩)⟩, ⟨bk_ BK464⟩, ⟨bk_ BK465⟩, ⟨bp_ BK476⟩, ⟨bl_ HB⟩⟩
 case round => (
 clear H'
 try clear c1
 try clear c14
 try clear c22
 try clear c22b0
 try clear c23
 try clear c23b0
 try clear hcz25_0
 try clear hcz25_1
 try clear hcz29_0
 try clear hcz29_1
 try clear hfz25_0
 try clear hfz25_1
 try clear hfz29_0
 try clear hfz29_1
 try clear hx477_0
 try clear p477
 try clear q477
 obtain ⟨x11_2, x465001_2, x466001_2, x477000_2, x477001_2, u477000, rfl, HA, HK2, HO_8, HO_465000, HO_477000, BK464, BK465, BK476, HB⟩ := hrel
 cases gk with
 | zero => exact absurd HA.out (by simp [huff_Write.l0])
 | succ k2 => (
 have H := HA.out
 clear HA
 simp only [huff_Write.l0] at H
 by_cases c30 : x11_2 ≥ 0
 {
 rw [if_pos c30] at H
 have c30b0 : decide (0 ≤ x11_2) = true := decide_eq_true c30
 clear c30
 by_cases c31 : 0 ≤ a2
 {
 rw [if_pos c31] at H
 have c31b0 : decide (0 ≤ a2) = true := decide_eq_true c31
 clear c31
 by_cases c32 : a2 < (t466.length : Int)
 {
 rw [if_pos c32] at H
 have c32b0 : decide (a2 < (t466.length : Int)) = true := decide_eq_true c32
 clear c32
 by_cases c33 : 0 ≤ x11_2
 {
 rw [if_pos c33] at H
 have c33b0 := eq_true c33
 have c33b1 : decide (0 ≤ x11_2) = true := decide_eq_true c33
 clear c33
 obtain ⟨ji34, hji34⟩ : ∃ j_ : Int, (shr .u32 (rd t466 a2) x11_2) = j_ := ⟨_, rfl⟩
 replace H : ((bits_Put.f k2 x477000_2 x477001_2 (IntKind.u64.wrap (Go.bits .and .u32 (ji34) 1)) 1).bind fun bt479 => (if bt479.2.2 = 0 then (huff_Write.l0 k2 a2 t466 (wrap64 (x11_2 - 1)) l0_0 x465001_2 bt479.1 bt479.2.1) else ((bits_Put.f k2 l0_0 x465001_2 0 0).bind fun bt485 => (some (bt485.1, bt485.2.1, bt479.2.2))))) = some (r1, r2, r3) := by first | (rw [hji34] at H; exact H) | (simp only [hji34] at H ⊢; exact H)
 have hji34_ : ((rd t466 a2) / 2 ^ min x11_2.toNat 32) = ji34 := hji34
 have hji34z : x11_2 ≤ 32 → ((rd t466 a2) / 2 ^ x11_2.toNat) = ji34 := shr_small hji34
 obtain ⟨⟨t479, t482, t483⟩, A35, H⟩ := ob_ H
 (try dsimp only at H)
 by_cases c36 : t483 = 0
 {
 rw [if_pos c36] at H
 have c36b0 : (t483 == 0) = true := beq_iff_eq.mpr c36
 have c36b1 : (t483 != 0) = false := bne_eq_false_iff_eq.mpr c36
 clear c36
 have H' := Aside0.mk H
 clear H
 obtain ⟨Ao37, co37, eo37⟩ := Kd.V_slice HO_477000.out
 subst eo37
 try go_wp2
 replace HO_8 := Aside0.mk (Kd.R_drew HO_8.out)
 replace HO_465000 := Aside0.mk (Kd.V_drew HO_465000.out)
 replace HO_477000 := Aside0.mk (Kd.V_drew HO_477000.out)
 replace BK464 := Aside0.mk (blk_drew BK464.out)
 replace BK465 := Aside0.mk (blk_drew BK465.out)
 replace BK476 := Aside0.mk (blk_drew BK476.out)
 replace HB := Aside0.mk (below_drew1 HB.out)
 obtain ⟨Ao39, co39, eo39⟩ := Kd.R_slice HO_8.out
 (first | subst eo39 | (injection eo39 with f1_ f2_ f3_; have f4_ := f1_.symm; have f5_ := f3_.symm; clear f1_ f2_ f3_; subst f4_; subst f5_))
 have p478 : 0 ≤ (a2 : Int) := of_decide_eq_true am_
 have q478 : a2 < (t466.length : Int) := of_decide_eq_true am_
 obtain ⟨ad478, e478, hx478_0⟩ := Kd.at_int (Kd.R_reads' HO_8.out).2.2 a2 p478 q478
 cases e478
 replace p478 := eq_true p478
 replace q478 := eq_true q478
 refine start_ (n := 16) (S := fun w' => w'.cell? ⟨gb476, 0, none⟩ = some (.slice Ao37 x477000_2.length co37) ∧ w'.cell? ⟨gb476, 1, none⟩ = some (.int .i64 x477001_2) ∧ w'.cell? (ad478.add (a2).toNat) = some (.int .u32 (rd t466 a2))) (ds := []) (B_ 16 0) kf_ rfl rfl ⟨ce_ BK476 0, ce_ BK476 1, hx478_0⟩ (fun hHeld => ?_); refine with_tabW huff_Write.tab9 huff_Write.bits9 (fun HT_ HW_ => ?_)
 generalize wr.drew = w38 at HO_8 HO_465000 HO_477000 BK464 BK465 BK476 HB hx478_0 hHeld ⊢
 refine pu_ 1 (some 56) (B_ 16 2) HT_ ?_
 refine pu_ 2 (some 57) (B_ 16 6) HT_ ?_
 refine pu_ 3 (some 58) (B_ 16 14) HT_ ?_
 refine pu_ 5 (some 60) (B_ 16 46) HT_ ?_
 refine take_ (i := 0) (N := some 55) (v := ?_) (a' := ?_) (B_ 16 47) rfl rfl (take_ofW HT_.out HW_.out kf_) (fun _ _ _ h => h) (Or.inl ⟨by rfl, ?_⟩) hHeld ?_ ?_
 rotate_left
 {
 rintro w' ⟨s0, s1, s2⟩
 go_simp
 with_reducible rfl}
 rotate_left
 {
 exact sp_}
 refine take_ (i := 4) (N := some 59) (v := ?_) (a' := ?_) (B_ 16 63) rfl rfl (take_ofW HT_.out HW_.out kf_) (fun _ _ _ h => h) (Or.inl ⟨by rfl, ?_⟩) hHeld ?_ ?_
 rotate_left
 {
 rintro w' ⟨s0, s1, s2⟩
 go_simp
 with_reducible rfl}
 rotate_left
 {
 exact sp_}
 refine pu_ 6 (some 61) (B_ 16 127) HT_ ?_
 refine pu_ 7 (some 62) (B_ 16 255) HT_ ?_
 refine pu_ 8 (some 63) (B_ 16 511) HT_ ?_
 refine join_ (σ := Value × Nat) 2 (B_ 16 16383) (fun s_ => [(64, .tuple #[.agg #[s_.1, .int .i64 t482], .int .i64 t483]), (12, .pointer (some ⟨s_.2, 0, none⟩)), (54, .tuple #[.agg #[s_.1, .int .i64 t482], .int .i64 t483]), (65, .agg #[s_.1, .int .i64 t482]), (66, .int .i64 t483)]) (fun s_ w' => (w'.cell? ⟨gb476, 0, none⟩ = some (.slice Ao37 x477000_2.length co37) ∧ w'.cell? ⟨gb476, 1, none⟩ = some (.int .i64 x477001_2) ∧ w'.cell? (ad478.add (a2).toNat) = some (.int .u32 (rd t466 a2))) ∧ (Kd.R (Kd.int .u8) 5 w' w.heap.size (fun k_ => (w.heap.size ≤ k_)) s_.1 t479) ∧ (Kd.V (Kd.int .u8) 5 w' w.heap.size (fun k_ => (P0_0_ k_ ∨ w.heap.size ≤ k_) ∧ some k_ ≠ (s_.1 : Value).ownBlock ∧ some k_ ≠ (.slice (some ad478) t466.length co39 : Value).ownBlock ∧ k_ ≠ gb464 ∧ k_ ≠ gb465 ∧ k_ ≠ gb476 ∧ k_ ≠ s_.2) (.slice A0_0 l0_0.length c0_0) l0_0) ∧ (Kd.V (Kd.int .u8) 5 w' w.heap.size (fun k_ => (P0_0_ k_ ∨ w.heap.size ≤ k_) ∧ some k_ ≠ (s_.1 : Value).ownBlock ∧ some k_ ≠ (.slice (some ad478) t466.length co39 : Value).ownBlock ∧ k_ ≠ gb464 ∧ k_ ≠ gb465 ∧ k_ ≠ gb476 ∧ k_ ≠ s_.2) (.slice Ao37 x477000_2.length co37) x477000_2) ∧ (Kd.R (Kd.int .u32) 116 w' w.heap.size (fun k_ => (w.heap.size ≤ k_)) (.slice (some ad478) t466.length co39) t466) ∧ (w'.heap[gb464]? = some (.cells #[.slice A0_0 l0_0.length c0_0, .int .i64 x465001_2] 66 (0, 0))) ∧ (w'.heap[gb465]? = some (.cells #[.slice none 0 0, .int .i64 x466001_2] 66 (0, 0))) ∧ (w'.heap[gb476]? = some (.cells #[.slice Ao37 x477000_2.length co37, .int .i64 x477001_2] 66 (0, 0))) ∧ (w'.heap[s_.2]? = some (.cells #[.slice none 0 0, .int .i64 0] 66 (0, 0))) ∧ (w.heap.size ≤ s_.2) ∧ (w.heap.size ≤ s_.2) ∧ (gb464 ≠ s_.2) ∧ (s_.2 ≠ gb464) ∧ (gb465 ≠ s_.2) ∧ (s_.2 ≠ gb465) ∧ (gb476 ≠ s_.2) ∧ (s_.2 ≠ gb476) ∧ (Below w.heap.size w w')) ?_ ?_
 rotate_left
 {
 intro hCont
 refine two_ (i := 9) (j := 13) (Ni := some 64) (Nj := some 12) (B_ 16 1023) (B_ 16 8703) rfl rfl rfl rfl (two_of HT_.out kf_) (by decide) (by decide) (fun K hK => ?_) (fun K hK => ?_)
 {
 skip
 refine goes_ Try.func64 kf_ rfl #[.agg #[.slice Ao37 x477000_2.length co37, .int .i64 x477001_2], .int .u64 (IntKind.u64.wrap (Go.bits .and .u32 (ji34) 1)), .int .i64 1] (by rfl) rfl rfl (by (try simp only [List.map_toArray, List.map_cons, List.map_nil]); first | done | (simp only [hji34]; rfl) | rfl | (simp only [List.length_drop, List.length_take]; rfl)) ?_
 with_reducible refine (bits_Put.calls k2 _ _ x477000_2 x477001_2 (IntKind.u64.wrap (Go.bits .and .u32 (ji34) 1)) 1 t479 t482 t483 _ ?side1 ?side2 A35.out).mono ?_
 (case side1 => exact kCt_ (Kd.V_reads' HO_477000.out).2.2)
 (case side2 => exact (Kd.V_reads' HO_477000.out).2.1)
 rintro e w40 ⟨v480, rfl, ho0, hb⟩
 have HS2_ := (hb.cell (World.block_lt_of_cell? _ _ (hHeld.2.2))).trans (hHeld.2.2)
 refine ⟨_, rfl, ?_⟩
 replace HO_8 := FR_ HO_8 hb
 replace HO_465000 := Aside0.mk (Kd.V_elder' (kV_ HO_465000) (Kd.R_base ho0) hb)
 replace HO_477000 := Aside0.mk (Kd.V_elder' (kV_ HO_477000) (Kd.R_base ho0) hb)
 have HO481 := Aside0.mk (Kd.R_lower (Kd.R_newM (M := fun k_ => (w.heap.size ≤ k_)) ho0 (bs_ HB) (fun k_ h_ => h_)) (bs_ HB))
 replace BK464 := FB_ BK464 hb
 replace BK465 := FB_ BK465 hb
 replace BK476 := FB_ BK476 hb
 replace HB := BS_ HB hb
 (try clear hb)
 (try clear hk)
 (try clear ho0)
 refine hK.out _ _ ⟨ce_ BK476 0, ce_ BK476 1, HS2_⟩ (fun hHeld => ?_)
 clear hK K
 refine norm_ (a' := ?_) ?_ ?_
 rotate_left
 {
 show Act.put _ (some 64) _ = _
 exact sp_}
 refine pu_ 10 (some 54) (B_ 16 2047) HT_ ?_
 refine pu_ 11 (some 65) (B_ 16 4095) HT_ ?_
 refine pu_ 12 (some 66) (B_ 16 8191) HT_ ?_
 refine one_ (i := 13) (N := some 12) (B_ 16 16383) rfl rfl (one_of HT_.out kf_) (by decide) (fun K hK => ?_)
 refine box_step ?hg (N := 12) ?hd (cs := #[.slice none 0 0, .int .i64 0]) (t := 66) ?hr ?_; (case hd => rfl); (case hg => rfl); (case hr => first | (go_simp; done) | (go_simp; rfl))
 intro gb484 hg w41 hbox hb
 have HS2_ := (hb.cell (World.block_lt_of_cell? _ _ (hHeld.2.2))).trans (hHeld.2.2)
 replace HO_8 := FR_ HO_8 hb
 replace HO_465000 := Aside0.mk (Kd.V_below (Kd.V_elderB (kV_ HO_465000) gb484 (Nat.le_of_eq hg.symm)) hb)
 replace HO_477000 := Aside0.mk (Kd.V_below (Kd.V_elderB (kV_ HO_477000) gb484 (Nat.le_of_eq hg.symm)) hb)
 replace HO481 := FR_ HO481 hb
 have BK484 := Aside0.mk (hbox)
 have GW484 := GE_ HB hg
 have GE484 := GE_ HB hg
 replace HB := BS_ HB hb
 obtain ⟨NB464_484, NB484_464⟩ := NN_ BK464 hg
 replace BK464 := FB_ BK464 hb
 obtain ⟨NB465_484, NB484_465⟩ := NN_ BK465 hg
 replace BK465 := FB_ BK465 hb
 obtain ⟨NB476_484, NB484_476⟩ := NN_ BK476 hg
 replace BK476 := FB_ BK476 hb
 clear hb hbox hg
 refine hK.out _ _ ⟨ce_ BK476 0, ce_ BK476 1, HS2_⟩ (fun hHeld => ?_)
 clear hK K
 refine norm_ (a' := ?_) ?_ ?_
 rotate_left
 {
 show Act.put _ (some 12) _ = _
 exact sp_}
 exact norm_ pa_ (hCont (v480, gb484) _ ⟨hHeld, (by (with_reducible repeat (first | apply Kd.R_alloc | apply Kd.R_drewN | apply Kd.R_drew)); exact Kd.R_mono HO481.out (fun _ hk => hk.1)), (by (with_reducible repeat (first | apply Kd.V_alloc | apply Kd.V_drewN | apply Kd.V_drew)); exact Kd.V_mono HO_465000.out (fun _ hk => ⟨hk.1.1.1, ⟨hk.1.2, ⟨hk.1.1.2.1, ⟨hk.1.1.2.2.1, ⟨hk.1.1.2.2.2.1, ⟨hk.1.1.2.2.2.2, hk.2⟩⟩⟩⟩⟩⟩)), (by (with_reducible repeat (first | apply Kd.V_alloc | apply Kd.V_drewN | apply Kd.V_drew)); exact Kd.V_mono HO_477000.out (fun _ hk => ⟨hk.1.1.1, ⟨hk.1.2, ⟨hk.1.1.2.1, ⟨hk.1.1.2.2.1, ⟨hk.1.1.2.2.2.1, ⟨hk.1.1.2.2.2.2, hk.2⟩⟩⟩⟩⟩⟩)), (kR_ HO_8), (bk_ BK464), (bk_ BK465), (bk_ BK476), (bk_ BK484), GW484.out, GE484.out, NB464_484.out, NB484_464.out, NB465_484.out, NB484_465.out, NB476_484.out, NB484_476.out, (bl_ HB)⟩)}
 {
 skip
 refine box_step ?hg (N := 12) ?hd (cs := #[.slice none 0 0, .int .i64 0]) (t := 66) ?hr ?_; (case hd => rfl); (case hg => rfl); (case hr => first | (go_simp; done) | (go_simp; rfl))
 intro gb484 hg w40 hbox hb
 have HS2_ := (hb.cell (World.block_lt_of_cell? _ _ (hHeld.2.2))).trans (hHeld.2.2)
 replace HO_8 := FR_ HO_8 hb
 replace HO_465000 := Aside0.mk (Kd.V_below (Kd.V_elderB (kV_ HO_465000) gb484 (Nat.le_of_eq hg.symm)) hb)
 replace HO_477000 := Aside0.mk (Kd.V_below (Kd.V_elderB (kV_ HO_477000) gb484 (Nat.le_of_eq hg.symm)) hb)
 have BK484 := Aside0.mk (hbox)
 have GW484 := GE_ HB hg
 have GE484 := GE_ HB hg
 replace HB := BS_ HB hb
 obtain ⟨NB464_484, NB484_464⟩ := NN_ BK464 hg
 replace BK464 := FB_ BK464 hb
 obtain ⟨NB465_484, NB484_465⟩ := NN_ BK465 hg
 replace BK465 := FB_ BK465 hb
 obtain ⟨NB476_484, NB484_476⟩ := NN_ BK476 hg
 replace BK476 := FB_ BK476 hb
 clear hb hbox hg
 refine hK.out _ _ ⟨ce_ BK476 0, ce_ BK476 1, HS2_⟩ (fun hHeld => ?_)
 clear hK K
 refine norm_ (a' := ?_) ?_ ?_
 rotate_left
 {
 show Act.put _ (some 12) _ = _
 exact sp_}
 refine one_ (i := 9) (N := some 64) (B_ 16 9215) rfl rfl (one_of HT_.out kf_) (by decide) (fun K hK => ?_)
 refine goes_ Try.func64 kf_ rfl #[.agg #[.slice Ao37 x477000_2.length co37, .int .i64 x477001_2], .int .u64 (IntKind.u64.wrap (Go.bits .and .u32 (ji34) 1)), .int .i64 1] (by rfl) rfl rfl (by (try simp only [List.map_toArray, List.map_cons, List.map_nil]); first | done | (simp only [hji34]; rfl) | rfl | (simp only [List.length_drop, List.length_take]; rfl)) ?_
 with_reducible refine (bits_Put.calls k2 _ _ x477000_2 x477001_2 (IntKind.u64.wrap (Go.bits .and .u32 (ji34) 1)) 1 t479 t482 t483 _ ?side1 ?side2 A35.out).mono ?_
 (case side1 => exact kCt_ (Kd.V_reads' HO_477000.out).2.2)
 (case side2 => exact (Kd.V_reads' HO_477000.out).2.1)
 rintro e w41 ⟨v480, rfl, ho0, hb⟩
 have HS2_ := (hb.cell (World.block_lt_of_cell? _ _ (hHeld.2.2))).trans (hHeld.2.2)
 refine ⟨_, rfl, ?_⟩
 replace HO_8 := FR_ HO_8 hb
 replace HO_465000 := Aside0.mk (Kd.V_elder' (kV_ HO_465000) (Kd.R_base ho0) hb)
 replace HO_477000 := Aside0.mk (Kd.V_elder' (kV_ HO_477000) (Kd.R_base ho0) hb)
 have HO481 := Aside0.mk (Kd.R_lower (Kd.R_newM (M := fun k_ => (w.heap.size ≤ k_)) ho0 (bs_ HB) (fun k_ h_ => h_)) (bs_ HB))
 replace BK464 := FB_ BK464 hb
 replace BK465 := FB_ BK465 hb
 replace BK476 := FB_ BK476 hb
 replace BK484 := FB_ BK484 hb
 replace HB := BS_ HB hb
 (try clear hb)
 (try clear hk)
 (try clear ho0)
 refine hK.out _ _ ⟨ce_ BK476 0, ce_ BK476 1, HS2_⟩ (fun hHeld => ?_)
 clear hK K
 refine norm_ (a' := ?_) ?_ ?_
 rotate_left
 {
 show Act.put _ (some 64) _ = _
 exact sp_}
 refine pu_ 10 (some 54) (B_ 16 10239) HT_ ?_
 refine pu_ 11 (some 65) (B_ 16 12287) HT_ ?_
 refine pu_ 12 (some 66) (B_ 16 16383) HT_ ?_
 exact norm_ pa_ (hCont (v480, gb484) _ ⟨hHeld, (by (with_reducible repeat (first | apply Kd.R_alloc | apply Kd.R_drewN | apply Kd.R_drew)); exact Kd.R_mono HO481.out (fun _ hk => hk.1)), (by (with_reducible repeat (first | apply Kd.V_alloc | apply Kd.V_drewN | apply Kd.V_drew)); exact Kd.V_mono HO_465000.out (fun _ hk => ⟨hk.1.1.1, ⟨hk.2, ⟨hk.1.1.2.1, ⟨hk.1.1.2.2.1, ⟨hk.1.1.2.2.2.1, ⟨hk.1.1.2.2.2.2, hk.1.2⟩⟩⟩⟩⟩⟩)), (by (with_reducible repeat (first | apply Kd.V_alloc | apply Kd.V_drewN | apply Kd.V_drew)); exact Kd.V_mono HO_477000.out (fun _ hk => ⟨hk.1.1.1, ⟨hk.2, ⟨hk.1.1.2.1, ⟨hk.1.1.2.2.1, ⟨hk.1.1.2.2.2.1, ⟨hk.1.1.2.2.2.2, hk.1.2⟩⟩⟩⟩⟩⟩)), (kR_ HO_8), (bk_ BK464), (bk_ BK465), (bk_ BK476), (bk_ BK484), GW484.out, GE484.out, NB464_484.out, NB484_464.out, NB465_484.out, NB484_465.out, NB476_484.out, NB484_476.out, (bl_ HB)⟩)}}
 clear HO_8 HO_465000 HO_477000 BK464 BK465 BK476 HB
 rintro ⟨v480, gb484⟩ w42 ⟨hS_, h0_, h1_, h2_, h3_, h4_, h5_, h6_, h7_, h8_, h9_, h10_, h11_, h12_, h13_, h14_, h15_, h16_⟩
 (try dsimp only at h0_ h1_ h2_ h3_ h4_ h5_ h6_ h7_ h8_ h9_ h10_ h11_ h12_ h13_ h14_ h15_ h16_)
 have HO481 := Aside0.mk h0_
 have HO_465000 := Aside0.mk h1_
 have HO_477000 := Aside0.mk h2_
 have HO_8 := Aside0.mk h3_
 have BK464 := Aside0.mk h4_
 have BK465 := Aside0.mk h5_
 have BK476 := Aside0.mk h6_
 have BK484 := Aside0.mk h7_
 have GW484 := Aside0.mk h8_
 have GE484 := Aside0.mk h9_
 have NB464_484 := Aside0.mk h10_
 have NB484_464 := Aside0.mk h11_
 have NB465_484 := Aside0.mk h12_
 have NB484_465 := Aside0.mk h13_
 have NB476_484 := Aside0.mk h14_
 have NB484_476 := Aside0.mk h15_
 have HB := Aside0.mk h16_
 clear h0_ h1_ h2_ h3_ h4_ h5_ h6_ h7_ h8_ h9_ h10_ h11_ h12_ h13_ h14_ h15_ h16_
 have hHeld : w42.cell? ⟨gb476, 0, none⟩ = some (.slice Ao37 x477000_2.length co37) ∧ w42.cell? ⟨gb476, 1, none⟩ = some (.int .i64 x477001_2) ∧ w42.cell? (ad478.add (a2).toNat) = some (.int .u32 (rd t466 a2)) := hS_
 obtain ⟨Ao43, co43, eo43⟩ := Kd.R_slice HO481.out
 (first | subst eo43 | (injection eo43 with f1_ f2_ f3_; have f4_ := f1_.symm; have f5_ := f3_.symm; clear f1_ f2_ f3_; subst f4_; subst f5_))
 refine norm_ (a' := ?_) ?_ ?_
 rotate_left
 {
 simp only [putAll, Act.put, List.setIfInBounds_toArray, List.set_cons_zero, List.set_cons_succ]
 rfl}
 refine one_ (i := 14) (N := none) (B_ 16 32767) rfl rfl (one_of HT_.out kf_) (by decide) (fun K hK => ?_)
 have hs44 : w42.cell? ⟨gb484, 0, none⟩ = some (.slice none 0 0) := ce_ BK484 0
 have hfs44 := blk_frozen BK484.out 0
 have hns44_0 := NB464_484.out
 have hns44_1 := NB465_484.out
 have hns44_2 := NB476_484.out
 have hms44_0 := NB484_464.out
 have hms44_1 := NB484_465.out
 have hms44_2 := NB484_476.out
 have hs45 : w42.cell? ⟨gb484, 1, none⟩ = some (.int .i64 0) := ce_ BK484 1
 have hfs45 := blk_frozen BK484.out 1
 have hns45_0 := NB464_484.out
 have hns45_1 := NB465_484.out
 have hns45_2 := NB476_484.out
 have hms45_0 := NB484_464.out
 have hms45_1 := NB484_465.out
 have hms45_2 := NB484_476.out
 refine skip_ (w1 := ?_) (by rfl) rfl ?_ ?_
 rotate_left
 {
 go_simp
 rfl}
 refine hK.out _ _ ⟨((cell_far (p := ⟨gb484, _, none⟩) NB476_484.out _).trans (((cell_far (p := ⟨gb484, _, none⟩) NB476_484.out _).trans (hHeld.1)))), ((cell_far (p := ⟨gb484, _, none⟩) NB476_484.out _).trans (((cell_far (p := ⟨gb484, _, none⟩) NB476_484.out _).trans (hHeld.2.1)))), ((cell_far (p := ⟨gb484, _, none⟩) (by first | exact Kd.own_blk (Kd.R_ne HO_8.out BK484.out (by decide)) | (rw [add_block]; exact Kd.own_blk (Kd.R_ne HO_8.out BK484.out (by decide))) | (show (Addr.add _ _).block ≠ _; rw [add_block]; exact Kd.own_blk (Kd.R_ne HO_8.out BK484.out (by decide))) | (dsimp only; exact Kd.own_blk (Kd.R_ne HO_8.out BK484.out (by decide)))) _).trans (((cell_far (p := ⟨gb484, _, none⟩) (by first | exact Kd.own_blk (Kd.R_ne HO_8.out BK484.out (by decide)) | (rw [add_block]; exact Kd.own_blk (Kd.R_ne HO_8.out BK484.out (by decide))) | (show (Addr.add _ _).block ≠ _; rw [add_block]; exact Kd.own_blk (Kd.R_ne HO_8.out BK484.out (by decide))) | (dsimp only; exact Kd.own_blk (Kd.R_ne HO_8.out BK484.out (by decide)))) _).trans (hHeld.2.2))))⟩ (fun hHeld => ?_)
 clear hK K
 refine pu_ 15 (some 13) (B_ 16 65535) HT_ ?_
 refine done_ (done_of HT_.out kf_) ?_
 have hnb46 := NB484_464.out
 have hnc46 := NB464_484.out
 have hnb47 := NB484_465.out
 have hnc47 := NB465_484.out
 have hnb48 := NB484_476.out
 have hnc48 := NB476_484.out
 obtain ⟨hcz49_0, hcz49_1, hfz49_0, hfz49_1⟩ := e2_ BK484
 have hnb50 := NB476_464.out
 have hnc50 := NB464_476.out
 have hnb51 := NB476_465.out
 have hnc51 := NB465_476.out
 obtain ⟨hcz52_0, hcz52_1, hfz52_0, hfz52_1⟩ := e2_ BK476
 try go_wp2
 go_roundg k2
 case measure => have := HJ4.out; have := HK2.out; omega
 case rel => exact ⟨(wrap64 (x11_2 - 1)), (x465001_2), (x466001_2), (t479), (t482), (.slice Ao43 t479.length co43), rs_, H', ⟨by have := HJ4.out; have := HK2.out; omega⟩, ⟨by (with_reducible repeat (first | apply Kd.R_alloc | apply Kd.R_drewN | apply Kd.R_drew)); exact Kd.R_mono (Kd.R_far (p := ⟨gb476, 1, none⟩) (Kd.R_far (p := ⟨gb476, 0, none⟩) (Kd.R_far (p := ⟨gb484, 1, none⟩) (Kd.R_far (p := ⟨gb484, 0, none⟩) (Kd.R_types (Kd.R_types HO_8.out BK484.out (by decide)) BK476.out (by decide)) (fun _ hk => hk.1.2) (.slice Ao43 t479.length co43)) (fun _ hk => hk.1.2) (.int .i64 t482)) (fun _ hk => hk.2) (.slice Ao43 t479.length co43)) (fun _ hk => hk.2) (.int .i64 t482)) (fun _ hk => hk.1.1)⟩, ⟨by (with_reducible repeat (first | apply Kd.V_alloc | apply Kd.V_drewN | apply Kd.V_drew)); exact Kd.V_mono (Kd.V_far (p := ⟨gb476, 1, none⟩) (Kd.V_far (p := ⟨gb476, 0, none⟩) (Kd.V_far (p := ⟨gb484, 1, none⟩) (Kd.V_far (p := ⟨gb484, 0, none⟩) (Kd.V_mono (Kd.V_mono HO_465000.out (fun k_ hk => (⟨hk, hk.2.2.2.2.2.2⟩ : _ ∧ k_ ≠ gb484))) (fun k_ hk => (⟨hk, hk.1.2.2.2.2.2.1⟩ : _ ∧ k_ ≠ gb476))) (fun _ hk => hk.1.2) (.slice Ao43 t479.length co43)) (fun _ hk => hk.1.2) (.int .i64 t482)) (fun _ hk => hk.2) (.slice Ao43 t479.length co43)) (fun _ hk => hk.2) (.int .i64 t482)) (fun _ hk => ⟨hk.1.1.1, ⟨hk.1.1.2.2.1, ⟨hk.1.1.2.2.2.1, ⟨hk.1.1.2.2.2.2.1, hk.1.1.2.2.2.2.2.1⟩⟩⟩⟩)⟩, ⟨vor43_or (Kd.R_V (by (with_reducible repeat (first | apply Kd.R_alloc | apply Kd.R_drewN | apply Kd.R_drew)); exact Kd.R_mono (Kd.R_far (p := ⟨gb476, 1, none⟩) (Kd.R_far (p := ⟨gb476, 0, none⟩) (Kd.R_far (p := ⟨gb484, 1, none⟩) (Kd.R_far (p := ⟨gb484, 0, none⟩) (Kd.R_types (Kd.R_types (Kd.R_types (Kd.R_types (Kd.R_types (Kd.R_apart' HO481.out (Kd.R_typed HO_8.out) (by decide)) BK464.out (by decide)) BK465.out (by decide)) BK476.out (by decide)) BK484.out (by decide)) BK476.out (by decide)) (fun _ hk => hk.1.2) (.slice Ao43 t479.length co43)) (fun _ hk => hk.1.2) (.int .i64 t482)) (fun _ hk => hk.2) (.slice Ao43 t479.length co43)) (fun _ hk => hk.2) (.int .i64 t482)) (fun _ hk => ⟨hk.1.1.1.1.1.1, ⟨hk.1.1.1.1.1.2, ⟨hk.1.1.1.1.2, ⟨hk.1.1.1.2, hk.1.1.2⟩⟩⟩⟩)))⟩, ⟨bk_ BK464⟩, ⟨bk_ BK465⟩, ⟨bp_ BK476⟩, ⟨bl_ HB⟩⟩}
 {
 rw [if_neg c36] at H
 have c36b0 : (t483 == 0) = false := beq_eq_false_iff_ne.mpr c36
 have c36b1 : (t483 != 0) = true := bne_iff_ne.mpr c36
 obtain ⟨⟨t485, t488, t489⟩, A53, H⟩ := ob_ H
 (try dsimp only at H)
 simp only [Option.some.injEq, Prod.mk.injEq] at H
 obtain ⟨rfl, rfl, rfl⟩ := H
 obtain ⟨Ao54, co54, eo54⟩ := Kd.V_slice HO_477000.out
 subst eo54
 try go_wp2
 replace HO_8 := Aside0.mk (Kd.R_drew HO_8.out)
 replace HO_465000 := Aside0.mk (Kd.V_drew HO_465000.out)
 replace HO_477000 := Aside0.mk (Kd.V_drew HO_477000.out)
 replace BK464 := Aside0.mk (blk_drew BK464.out)
 replace BK465 := Aside0.mk (blk_drew BK465.out)
 replace BK476 := Aside0.mk (blk_drew BK476.out)
 replace HB := Aside0.mk (below_drew1 HB.out)
 obtain ⟨Ao56, co56, eo56⟩ := Kd.R_slice HO_8.out
 (first | subst eo56 | (injection eo56 with f1_ f2_ f3_; have f4_ := f1_.symm; have f5_ := f3_.symm; clear f1_ f2_ f3_; subst f4_; subst f5_))
 have p478 : 0 ≤ (a2 : Int) := of_decide_eq_true am_
 have q478 : a2 < (t466.length : Int) := of_decide_eq_true am_
 obtain ⟨ad478, e478, hx478_0⟩ := Kd.at_int (Kd.R_reads' HO_8.out).2.2 a2 p478 q478
 cases e478
 replace p478 := eq_true p478
 replace q478 := eq_true q478
 refine start_ (n := 16) (S := fun w' => w'.cell? ⟨gb476, 0, none⟩ = some (.slice Ao54 x477000_2.length co54) ∧ w'.cell? ⟨gb476, 1, none⟩ = some (.int .i64 x477001_2) ∧ w'.cell? (ad478.add (a2).toNat) = some (.int .u32 (rd t466 a2))) (ds := []) (B_ 16 0) kf_ rfl rfl ⟨ce_ BK476 0, ce_ BK476 1, hx478_0⟩ (fun hHeld => ?_); refine with_tabW huff_Write.tab9 huff_Write.bits9 (fun HT_ HW_ => ?_)
 generalize wr.drew = w55 at HO_8 HO_465000 HO_477000 BK464 BK465 BK476 HB hx478_0 hHeld ⊢
 refine pu_ 1 (some 56) (B_ 16 2) HT_ ?_
 refine pu_ 2 (some 57) (B_ 16 6) HT_ ?_
 refine pu_ 3 (some 58) (B_ 16 14) HT_ ?_
 refine pu_ 5 (some 60) (B_ 16 46) HT_ ?_
 refine take_ (i := 0) (N := some 55) (v := ?_) (a' := ?_) (B_ 16 47) rfl rfl (take_ofW HT_.out HW_.out kf_) (fun _ _ _ h => h) (Or.inl ⟨by rfl, ?_⟩) hHeld ?_ ?_
 rotate_left
 {
 rintro w' ⟨s0, s1, s2⟩
 go_simp
 with_reducible rfl}
 rotate_left
 {
 exact sp_}
 refine take_ (i := 4) (N := some 59) (v := ?_) (a' := ?_) (B_ 16 63) rfl rfl (take_ofW HT_.out HW_.out kf_) (fun _ _ _ h => h) (Or.inl ⟨by rfl, ?_⟩) hHeld ?_ ?_
 rotate_left
 {
 rintro w' ⟨s0, s1, s2⟩
 go_simp
 with_reducible rfl}
 rotate_left
 {
 exact sp_}
 refine pu_ 6 (some 61) (B_ 16 127) HT_ ?_
 refine pu_ 7 (some 62) (B_ 16 255) HT_ ?_
 refine pu_ 8 (some 63) (B_ 16 511) HT_ ?_
 refine join_ (σ := Value × Nat) 2 (B_ 16 16383) (fun s_ => [(64, .tuple #[.agg #[s_.1, .int .i64 t482], .int .i64 t483]), (12, .pointer (some ⟨s_.2, 0, none⟩)), (54, .tuple #[.agg #[s_.1, .int .i64 t482], .int .i64 t483]), (65, .agg #[s_.1, .int .i64 t482]), (66, .int .i64 t483)]) (fun s_ w' => (w'.cell? ⟨gb476, 0, none⟩ = some (.slice Ao54 x477000_2.length co54) ∧ w'.cell? ⟨gb476, 1, none⟩ = some (.int .i64 x477001_2) ∧ w'.cell? (ad478.add (a2).toNat) = some (.int .u32 (rd t466 a2))) ∧ (Kd.R (Kd.int .u8) 5 w' w.heap.size (fun k_ => (w.heap.size ≤ k_)) s_.1 t479) ∧ (Kd.V (Kd.int .u8) 5 w' w.heap.size (fun k_ => (P0_0_ k_ ∨ w.heap.size ≤ k_) ∧ some k_ ≠ (s_.1 : Value).ownBlock ∧ some k_ ≠ (.slice (some ad478) t466.length co56 : Value).ownBlock ∧ k_ ≠ gb464 ∧ k_ ≠ gb465 ∧ k_ ≠ gb476 ∧ k_ ≠ s_.2) (.slice A0_0 l0_0.length c0_0) l0_0) ∧ (Kd.V (Kd.int .u8) 5 w' w.heap.size (fun k_ => (P0_0_ k_ ∨ w.heap.size ≤ k_) ∧ some k_ ≠ (s_.1 : Value).ownBlock ∧ some k_ ≠ (.slice (some ad478) t466.length co56 : Value).ownBlock ∧ k_ ≠ gb464 ∧ k_ ≠ gb465 ∧ k_ ≠ gb476 ∧ k_ ≠ s_.2) (.slice Ao54 x477000_2.length co54) x477000_2) ∧ (Kd.R (Kd.int .u32) 116 w' w.heap.size (fun k_ => (w.heap.size ≤ k_)) (.slice (some ad478) t466.length co56) t466) ∧ (w'.heap[gb464]? = some (.cells #[.slice A0_0 l0_0.length c0_0, .int .i64 x465001_2] 66 (0, 0))) ∧ (w'.heap[gb465]? = some (.cells #[.slice none 0 0, .int .i64 x466001_2] 66 (0, 0))) ∧ (w'.heap[gb476]? = some (.cells #[.slice Ao54 x477000_2.length co54, .int .i64 x477001_2] 66 (0, 0))) ∧ (w'.heap[s_.2]? = some (.cells #[.slice none 0 0, .int .i64 0] 66 (0, 0))) ∧ (w.heap.size ≤ s_.2) ∧ (w.heap.size ≤ s_.2) ∧ (gb464 ≠ s_.2) ∧ (s_.2 ≠ gb464) ∧ (gb465 ≠ s_.2) ∧ (s_.2 ≠ gb465) ∧ (gb476 ≠ s_.2) ∧ (s_.2 ≠ gb476) ∧ (Below w.heap.size w w')) ?_ ?_
 rotate_left
 {
 intro hCont
 refine two_ (i := 9) (j := 13) (Ni := some 64) (Nj := some 12) (B_ 16 1023) (B_ 16 8703) rfl rfl rfl rfl (two_of HT_.out kf_) (by decide) (by decide) (fun K hK => ?_) (fun K hK => ?_)
 {
 skip
 refine goes_ Try.func64 kf_ rfl #[.agg #[.slice Ao54 x477000_2.length co54, .int .i64 x477001_2], .int .u64 (IntKind.u64.wrap (Go.bits .and .u32 (ji34) 1)), .int .i64 1] (by rfl) rfl rfl (by (try simp only [List.map_toArray, List.map_cons, List.map_nil]); first | done | (simp only [hji34]; rfl) | rfl | (simp only [List.length_drop, List.length_take]; rfl)) ?_
 with_reducible refine (bits_Put.calls k2 _ _ x477000_2 x477001_2 (IntKind.u64.wrap (Go.bits .and .u32 (ji34) 1)) 1 t479 t482 t483 _ ?side1 ?side2 A35.out).mono ?_
 (case side1 => exact kCt_ (Kd.V_reads' HO_477000.out).2.2)
 (case side2 => exact (Kd.V_reads' HO_477000.out).2.1)
 rintro e w57 ⟨v480, rfl, ho0, hb⟩
 have HS2_ := (hb.cell (World.block_lt_of_cell? _ _ (hHeld.2.2))).trans (hHeld.2.2)
 refine ⟨_, rfl, ?_⟩
 replace HO_8 := FR_ HO_8 hb
 replace HO_465000 := Aside0.mk (Kd.V_elder' (kV_ HO_465000) (Kd.R_base ho0) hb)
 replace HO_477000 := Aside0.mk (Kd.V_elder' (kV_ HO_477000) (Kd.R_base ho0) hb)
 have HO481 := Aside0.mk (Kd.R_lower (Kd.R_newM (M := fun k_ => (w.heap.size ≤ k_)) ho0 (bs_ HB) (fun k_ h_ => h_)) (bs_ HB))
 replace BK464 := FB_ BK464 hb
 replace BK465 := FB_ BK465 hb
 replace BK476 := FB_ BK476 hb
 replace HB := BS_ HB hb
 (try clear hb)
 (try clear hk)
 (try clear ho0)
 refine hK.out _ _ ⟨ce_ BK476 0, ce_ BK476 1, HS2_⟩ (fun hHeld => ?_)
 clear hK K
 refine norm_ (a' := ?_) ?_ ?_
 rotate_left
 {
 show Act.put _ (some 64) _ = _
 exact sp_}
 refine pu_ 10 (some 54) (B_ 16 2047) HT_ ?_
 refine pu_ 11 (some 65) (B_ 16 4095) HT_ ?_
 refine pu_ 12 (some 66) (B_ 16 8191) HT_ ?_
 refine one_ (i := 13) (N := some 12) (B_ 16 16383) rfl rfl (one_of HT_.out kf_) (by decide) (fun K hK => ?_)
 refine box_step ?hg (N := 12) ?hd (cs := #[.slice none 0 0, .int .i64 0]) (t := 66) ?hr ?_; (case hd => rfl); (case hg => rfl); (case hr => first | (go_simp; done) | (go_simp; rfl))
 intro gb484 hg w58 hbox hb
 have HS2_ := (hb.cell (World.block_lt_of_cell? _ _ (hHeld.2.2))).trans (hHeld.2.2)
 replace HO_8 := FR_ HO_8 hb
 replace HO_465000 := Aside0.mk (Kd.V_below (Kd.V_elderB (kV_ HO_465000) gb484 (Nat.le_of_eq hg.symm)) hb)
 replace HO_477000 := Aside0.mk (Kd.V_below (Kd.V_elderB (kV_ HO_477000) gb484 (Nat.le_of_eq hg.symm)) hb)
 replace HO481 := FR_ HO481 hb
 have BK484 := Aside0.mk (hbox)
 have GW484 := GE_ HB hg
 have GE484 := GE_ HB hg
 replace HB := BS_ HB hb
 obtain ⟨NB464_484, NB484_464⟩ := NN_ BK464 hg
 replace BK464 := FB_ BK464 hb
 obtain ⟨NB465_484, NB484_465⟩ := NN_ BK465 hg
 replace BK465 := FB_ BK465 hb
 obtain ⟨NB476_484, NB484_476⟩ := NN_ BK476 hg
 replace BK476 := FB_ BK476 hb
 clear hb hbox hg
 refine hK.out _ _ ⟨ce_ BK476 0, ce_ BK476 1, HS2_⟩ (fun hHeld => ?_)
 clear hK K
 refine norm_ (a' := ?_) ?_ ?_
 rotate_left
 {
 show Act.put _ (some 12) _ = _
 exact sp_}
 exact norm_ pa_ (hCont (v480, gb484) _ ⟨hHeld, (by (with_reducible repeat (first | apply Kd.R_alloc | apply Kd.R_drewN | apply Kd.R_drew)); exact Kd.R_mono HO481.out (fun _ hk => hk.1)), (by (with_reducible repeat (first | apply Kd.V_alloc | apply Kd.V_drewN | apply Kd.V_drew)); exact Kd.V_mono HO_465000.out (fun _ hk => ⟨hk.1.1.1, ⟨hk.1.2, ⟨hk.1.1.2.1, ⟨hk.1.1.2.2.1, ⟨hk.1.1.2.2.2.1, ⟨hk.1.1.2.2.2.2, hk.2⟩⟩⟩⟩⟩⟩)), (by (with_reducible repeat (first | apply Kd.V_alloc | apply Kd.V_drewN | apply Kd.V_drew)); exact Kd.V_mono HO_477000.out (fun _ hk => ⟨hk.1.1.1, ⟨hk.1.2, ⟨hk.1.1.2.1, ⟨hk.1.1.2.2.1, ⟨hk.1.1.2.2.2.1, ⟨hk.1.1.2.2.2.2, hk.2⟩⟩⟩⟩⟩⟩)), (kR_ HO_8), (bk_ BK464), (bk_ BK465), (bk_ BK476), (bk_ BK484), GW484.out, GE484.out, NB464_484.out, NB484_464.out, NB465_484.out, NB484_465.out, NB476_484.out, NB484_476.out, (bl_ HB)⟩)}
 {
 skip
 refine box_step ?hg (N := 12) ?hd (cs := #[.slice none 0 0, .int .i64 0]) (t := 66) ?hr ?_; (case hd => rfl); (case hg => rfl); (case hr => first | (go_simp; done) | (go_simp; rfl))
 intro gb484 hg w57 hbox hb
 have HS2_ := (hb.cell (World.block_lt_of_cell? _ _ (hHeld.2.2))).trans (hHeld.2.2)
 replace HO_8 := FR_ HO_8 hb
 replace HO_465000 := Aside0.mk (Kd.V_below (Kd.V_elderB (kV_ HO_465000) gb484 (Nat.le_of_eq hg.symm)) hb)
 replace HO_477000 := Aside0.mk (Kd.V_below (Kd.V_elderB (kV_ HO_477000) gb484 (Nat.le_of_eq hg.symm)) hb)
 have BK484 := Aside0.mk (hbox)
 have GW484 := GE_ HB hg
 have GE484 := GE_ HB hg
 replace HB := BS_ HB hb
 obtain ⟨NB464_484, NB484_464⟩ := NN_ BK464 hg
 replace BK464 := FB_ BK464 hb
 obtain ⟨NB465_484, NB484_465⟩ := NN_ BK465 hg
 replace BK465 := FB_ BK465 hb
 obtain ⟨NB476_484, NB484_476⟩ := NN_ BK476 hg
 replace BK476 := FB_ BK476 hb
 clear hb hbox hg
 refine hK.out _ _ ⟨ce_ BK476 0, ce_ BK476 1, HS2_⟩ (fun hHeld => ?_)
 clear hK K
 refine norm_ (a' := ?_) ?_ ?_
 rotate_left
 {
 show Act.put _ (some 12) _ = _
 exact sp_}
 refine one_ (i := 9) (N := some 64) (B_ 16 9215) rfl rfl (one_of HT_.out kf_) (by decide) (fun K hK => ?_)
 refine goes_ Try.func64 kf_ rfl #[.agg #[.slice Ao54 x477000_2.length co54, .int .i64 x477001_2], .int .u64 (IntKind.u64.wrap (Go.bits .and .u32 (ji34) 1)), .int .i64 1] (by rfl) rfl rfl (by (try simp only [List.map_toArray, List.map_cons, List.map_nil]); first | done | (simp only [hji34]; rfl) | rfl | (simp only [List.length_drop, List.length_take]; rfl)) ?_
 with_reducible refine (bits_Put.calls k2 _ _ x477000_2 x477001_2 (IntKind.u64.wrap (Go.bits .and .u32 (ji34) 1)) 1 t479 t482 t483 _ ?side1 ?side2 A35.out).mono ?_
 (case side1 => exact kCt_ (Kd.V_reads' HO_477000.out).2.2)
 (case side2 => exact (Kd.V_reads' HO_477000.out).2.1)
 rintro e w58 ⟨v480, rfl, ho0, hb⟩
 have HS2_ := (hb.cell (World.block_lt_of_cell? _ _ (hHeld.2.2))).trans (hHeld.2.2)
 refine ⟨_, rfl, ?_⟩
 replace HO_8 := FR_ HO_8 hb
 replace HO_465000 := Aside0.mk (Kd.V_elder' (kV_ HO_465000) (Kd.R_base ho0) hb)
 replace HO_477000 := Aside0.mk (Kd.V_elder' (kV_ HO_477000) (Kd.R_base ho0) hb)
 have HO481 := Aside0.mk (Kd.R_lower (Kd.R_newM (M := fun k_ => (w.heap.size ≤ k_)) ho0 (bs_ HB) (fun k_ h_ => h_)) (bs_ HB))
 replace BK464 := FB_ BK464 hb
 replace BK465 := FB_ BK465 hb
 replace BK476 := FB_ BK476 hb
 replace BK484 := FB_ BK484 hb
 replace HB := BS_ HB hb
 (try clear hb)
 (try clear hk)
 (try clear ho0)
 refine hK.out _ _ ⟨ce_ BK476 0, ce_ BK476 1, HS2_⟩ (fun hHeld => ?_)
 clear hK K
 refine norm_ (a' := ?_) ?_ ?_
 rotate_left
 {
 show Act.put _ (some 64) _ = _
 exact sp_}
 refine pu_ 10 (some 54) (B_ 16 10239) HT_ ?_
 refine pu_ 11 (some 65) (B_ 16 12287) HT_ ?_
 refine pu_ 12 (some 66) (B_ 16 16383) HT_ ?_
 exact norm_ pa_ (hCont (v480, gb484) _ ⟨hHeld, (by (with_reducible repeat (first | apply Kd.R_alloc | apply Kd.R_drewN | apply Kd.R_drew)); exact Kd.R_mono HO481.out (fun _ hk => hk.1)), (by (with_reducible repeat (first | apply Kd.V_alloc | apply Kd.V_drewN | apply Kd.V_drew)); exact Kd.V_mono HO_465000.out (fun _ hk => ⟨hk.1.1.1, ⟨hk.2, ⟨hk.1.1.2.1, ⟨hk.1.1.2.2.1, ⟨hk.1.1.2.2.2.1, ⟨hk.1.1.2.2.2.2, hk.1.2⟩⟩⟩⟩⟩⟩)), (by (with_reducible repeat (first | apply Kd.V_alloc | apply Kd.V_drewN | apply Kd.V_drew)); exact Kd.V_mono HO_477000.out (fun _ hk => ⟨hk.1.1.1, ⟨hk.2, ⟨hk.1.1.2.1, ⟨hk.1.1.2.2.1, ⟨hk.1.1.2.2.2.1, ⟨hk.1.1.2.2.2.2, hk.1.2⟩⟩⟩⟩⟩⟩)), (kR_ HO_8), (bk_ BK464), (bk_ BK465), (bk_ BK476), (bk_ BK484), GW484.out, GE484.out, NB464_484.out, NB484_464.out, NB465_484.out, NB484_465.out, NB476_484.out, NB484_476.out, (bl_ HB)⟩)}}
 clear HO_8 HO_465000 HO_477000 BK464 BK465 BK476 HB
 rintro ⟨v480, gb484⟩ w59 ⟨hS_, h0_, h1_, h2_, h3_, h4_, h5_, h6_, h7_, h8_, h9_, h10_, h11_, h12_, h13_, h14_, h15_, h16_⟩
 (try dsimp only at h0_ h1_ h2_ h3_ h4_ h5_ h6_ h7_ h8_ h9_ h10_ h11_ h12_ h13_ h14_ h15_ h16_)
 have HO481 := Aside0.mk h0_
 have HO_465000 := Aside0.mk h1_
 have HO_477000 := Aside0.mk h2_
 have HO_8 := Aside0.mk h3_
 have BK464 := Aside0.mk h4_
 have BK465 := Aside0.mk h5_
 have BK476 := Aside0.mk h6_
 have BK484 := Aside0.mk h7_
 have GW484 := Aside0.mk h8_
 have GE484 := Aside0.mk h9_
 have NB464_484 := Aside0.mk h10_
 have NB484_464 := Aside0.mk h11_
 have NB465_484 := Aside0.mk h12_
 have NB484_465 := Aside0.mk h13_
 have NB476_484 := Aside0.mk h14_
 have NB484_476 := Aside0.mk h15_
 have HB := Aside0.mk h16_
 clear h0_ h1_ h2_ h3_ h4_ h5_ h6_ h7_ h8_ h9_ h10_ h11_ h12_ h13_ h14_ h15_ h16_
 have hHeld : w59.cell? ⟨gb476, 0, none⟩ = some (.slice Ao54 x477000_2.length co54) ∧ w59.cell? ⟨gb476, 1, none⟩ = some (.int .i64 x477001_2) ∧ w59.cell? (ad478.add (a2).toNat) = some (.int .u32 (rd t466 a2)) := hS_
 obtain ⟨Ao60, co60, eo60⟩ := Kd.R_slice HO481.out
 (first | subst eo60 | (injection eo60 with f1_ f2_ f3_; have f4_ := f1_.symm; have f5_ := f3_.symm; clear f1_ f2_ f3_; subst f4_; subst f5_))
 refine norm_ (a' := ?_) ?_ ?_
 rotate_left
 {
 simp only [putAll, Act.put, List.setIfInBounds_toArray, List.set_cons_zero, List.set_cons_succ]
 rfl}
 refine one_ (i := 14) (N := none) (B_ 16 32767) rfl rfl (one_of HT_.out kf_) (by decide) (fun K hK => ?_)
 have hs61 : w59.cell? ⟨gb484, 0, none⟩ = some (.slice none 0 0) := ce_ BK484 0
 have hfs61 := blk_frozen BK484.out 0
 have hns61_0 := NB464_484.out
 have hns61_1 := NB465_484.out
 have hns61_2 := NB476_484.out
 have hms61_0 := NB484_464.out
 have hms61_1 := NB484_465.out
 have hms61_2 := NB484_476.out
 have hs62 : w59.cell? ⟨gb484, 1, none⟩ = some (.int .i64 0) := ce_ BK484 1
 have hfs62 := blk_frozen BK484.out 1
 have hns62_0 := NB464_484.out
 have hns62_1 := NB465_484.out
 have hns62_2 := NB476_484.out
 have hms62_0 := NB484_464.out
 have hms62_1 := NB484_465.out
 have hms62_2 := NB484_476.out
 refine skip_ (w1 := ?_) (by rfl) rfl ?_ ?_
 rotate_left
 {
 go_simp
 rfl}
 refine hK.out _ _ ⟨((cell_far (p := ⟨gb484, _, none⟩) NB476_484.out _).trans (((cell_far (p := ⟨gb484, _, none⟩) NB476_484.out _).trans (hHeld.1)))), ((cell_far (p := ⟨gb484, _, none⟩) NB476_484.out _).trans (((cell_far (p := ⟨gb484, _, none⟩) NB476_484.out _).trans (hHeld.2.1)))), ((cell_far (p := ⟨gb484, _, none⟩) (by first | exact Kd.own_blk (Kd.R_ne HO_8.out BK484.out (by decide)) | (rw [add_block]; exact Kd.own_blk (Kd.R_ne HO_8.out BK484.out (by decide))) | (show (Addr.add _ _).block ≠ _; rw [add_block]; exact Kd.own_blk (Kd.R_ne HO_8.out BK484.out (by decide))) | (dsimp only; exact Kd.own_blk (Kd.R_ne HO_8.out BK484.out (by decide)))) _).trans (((cell_far (p := ⟨gb484, _, none⟩) (by first | exact Kd.own_blk (Kd.R_ne HO_8.out BK484.out (by decide)) | (rw [add_block]; exact Kd.own_blk (Kd.R_ne HO_8.out BK484.out (by decide))) | (show (Addr.add _ _).block ≠ _; rw [add_block]; exact Kd.own_blk (Kd.R_ne HO_8.out BK484.out (by decide))) | (dsimp only; exact Kd.own_blk (Kd.R_ne HO_8.out BK484.out (by decide)))) _).trans (hHeld.2.2))))⟩ (fun hHeld => ?_)
 clear hK K
 refine pu_ 15 (some 13) (B_ 16 65535) HT_ ?_
 refine done_ (done_of HT_.out kf_) ?_
 have hnb63 := NB464_465.out
 have hnc63 := NB465_464.out
 have hnb64 := NB464_476.out
 have hnc64 := NB476_464.out
 have hnb65 := NB464_484.out
 have hnc65 := NB484_464.out
 obtain ⟨hcz66_0, hcz66_1, hfz66_0, hfz66_1⟩ := e2_ BK464
 try go_wp2_with (first | ((with_reducible refine gate_callee (f := 64) rfl ?_); refine gL_ (some 71) Try.func64 #[.agg #[.slice A0_0 l0_0.length c0_0, .int .i64 x465001_2], .int .u64 0, .int .i64 0] ?_; (with_reducible refine (bits_Put.calls k2 _ _ l0_0 x465001_2 0 0 t485 t488 t489 _ ?side1 ?side2 A53.out).mono ?_); (case side1 => refine (Kd.V_reads' (e := 5) (base := w.heap.size) (ok := fun k_ => ((P0_0_ k_ ∨ w.heap.size ≤ k_) ∧ (some k_ ≠ (.slice Ao60 t479.length co60 : Value).ownBlock ∧ (some k_ ≠ (.slice (some ad478) t466.length co56 : Value).ownBlock ∧ (k_ ≠ gb464 ∧ (k_ ≠ gb465 ∧ (k_ ≠ gb476 ∧ k_ ≠ gb484))))))) (n := l0_0.length) (c := c0_0) ?_).2.2; exact (by (with_reducible repeat (first | apply Kd.V_alloc | apply Kd.V_drewN | apply Kd.V_drew)); exact (Kd.V_mono (Kd.V_far (p := ⟨gb484, 1, none⟩) (Kd.V_far (p := ⟨gb484, 0, none⟩) (Kd.V_mono HO_465000.out (fun k_ hk => (⟨hk, hk.2.2.2.2.2.2⟩ : _ ∧ k_ ≠ gb484))) (fun _ hk => hk.2) (.slice Ao60 t479.length co60)) (fun _ hk => hk.2) (.int .i64 t482)) (fun _ h_ => h_.1)))); (case side2 => exact (Kd.V_reads' HO_465000.out).2.1); rintro e w67 ⟨v486, rfl, ho0, hb⟩; refine ⟨_, rfl, ?_⟩; replace HO_8 := Aside0.mk (Kd.R_below (kRk_ HO_8 BK484) hb); replace HO_465000 := Aside0.mk (Kd.V_elder' (by (with_reducible repeat (first | apply Kd.V_alloc | apply Kd.V_drewN | apply Kd.V_drew)); exact (Kd.V_mono (Kd.V_far (p := ⟨gb484, 1, none⟩) (Kd.V_far (p := ⟨gb484, 0, none⟩) (Kd.V_mono HO_465000.out (fun k_ hk => (⟨hk, hk.2.2.2.2.2.2⟩ : _ ∧ k_ ≠ gb484))) (fun _ hk => hk.2) (.slice Ao60 t479.length co60)) (fun _ hk => hk.2) (.int .i64 t482)) (fun _ h_ => h_.1))) (Kd.R_base ho0) hb); replace HO_477000 := Aside0.mk (Kd.V_elder' (by (with_reducible repeat (first | apply Kd.V_alloc | apply Kd.V_drewN | apply Kd.V_drew)); exact (Kd.V_mono (Kd.V_far (p := ⟨gb484, 1, none⟩) (Kd.V_far (p := ⟨gb484, 0, none⟩) (Kd.V_mono HO_477000.out (fun k_ hk => (⟨hk, hk.2.2.2.2.2.2⟩ : _ ∧ k_ ≠ gb484))) (fun _ hk => hk.2) (.slice Ao60 t479.length co60)) (fun _ hk => hk.2) (.int .i64 t482)) (fun _ h_ => h_.1))) (Kd.R_base ho0) hb); have HO487 := Aside0.mk (Kd.R_lower (Kd.R_new' (Kd.R_newM (M := fun k_ => (w.heap.size ≤ k_)) ho0 (bs_ HB) (fun k_ h_ => h_)) (Kd.R_lt (kRk_ HO481 BK484))) (bs_ HB)); replace HO481 := Aside0.mk (Kd.R_elder' (kRk_ HO481 BK484) (Kd.R_base ho0) hb); replace BK464 := FB_ BK464 hb; replace BK465 := FB_ BK465 hb; replace BK476 := FB_ BK476 hb; replace BK484 := Aside0.mk (blk_below (g := gb484) (o := .cells #[.slice Ao60 t479.length co60, .int .i64 t482] 66 (0, 0)) (bp_ BK484) hb); replace HB := BS_ HB hb; (try clear hb); (try clear hk); (try clear ho0); obtain ⟨Ao68, co68, eo68⟩ := Kd.R_slice HO487.out; subst eo68; obtain ⟨hcz69_0, hcz69_1, hfz69_0, hfz69_1⟩ := e2_ BK464; have hnb70 := NB465_476.out; have hnc70 := NB476_465.out; have hnb71 := NB465_484.out; have hnc71 := NB484_465.out; obtain ⟨hcz72_0, hcz72_1, hfz72_0, hfz72_1⟩ := e2_ BK465))
 refine bodyPost_ret (results_ct rfl _ _ gb465 66 #[.slice Ao68 t485.length co68, .int .i64 t488] (0, 0) _ rfl (bp_ BK465) Try.underlying66 rfl kf_) rfl ?_
 exact ⟨_, by first | rfl | (simp [errW_none, errW_some] <;> rfl) | (simp only [← hji34]; first | rfl | (simp [errW_none, errW_some] <;> rfl)) | (simp [*, errW_none, errW_some] <;> rfl), Kd.V_mono (Kd.R_V (by (with_reducible repeat (first | apply Kd.R_alloc | apply Kd.R_drewN | apply Kd.R_drew)); exact Kd.R_mono (Kd.R_far (p := ⟨gb465, 1, none⟩) (Kd.R_far (p := ⟨gb465, 0, none⟩) (Kd.R_far (p := ⟨gb464, 1, none⟩) (Kd.R_far (p := ⟨gb464, 0, none⟩) (Kd.R_types (Kd.R_types HO487.out BK464.out (by decide)) BK465.out (by decide)) (fun _ hk => hk.1.2) (.slice Ao68 t485.length co68)) (fun _ hk => hk.1.2) (.int .i64 t488)) (fun _ hk => hk.2) (.slice Ao68 t485.length co68)) (fun _ hk => hk.2) (.int .i64 t488)) (fun _ hk => hk.1.1.1.1))) (fun k_ hk => by first | exact ⟨(.inr (hk.1)), hk.2⟩ | exact (.inr (hk))), bl_ HB⟩}}
 {
 rw [if_neg c33] at H
 exact absurd H (by simp)}}
 {
 rw [if_neg c32] at H
 exact absurd H (by simp)}}
 {
 rw [if_neg c31] at H
 exact absurd H (by simp)}}
 {
 rw [if_neg c30] at H
 have c30b0 : decide (0 ≤ x11_2) = false := decide_eq_false c30
 clear c30
 simp only [Option.some.injEq, Prod.mk.injEq] at H
 obtain ⟨rfl, rfl, rfl⟩ := H
 have hnb73 := NB476_464.out
 have hnc73 := NB464_476.out
 have hnb74 := NB476_465.out
 have hnc74 := NB465_476.out
 obtain ⟨hcz75_0, hcz75_1, hfz75_0, hfz75_1⟩ := e2_ BK476
 obtain ⟨Ao76, co76, eo76⟩ := Kd.V_slice HO_477000.out
 subst eo76
 have hnb77 := NB465_464.out
 have hnc77 := NB464_465.out
 obtain ⟨hcz78_0, hcz78_1, hfz78_0, hfz78_1⟩ := e2_ BK465
 go_wp2
 refine bodyPost_ret (results_ct rfl _ _ gb465 66 #[.slice Ao76 x477000_2.length co76, .int .i64 x477001_2] (0, 0) _ rfl (bp_ BK465) Try.underlying66 rfl kf_) rfl ?_
 exact ⟨_, by first | rfl | (simp [errW_none, errW_some] <;> rfl) | (simp [*, errW_none, errW_some] <;> rfl), by (with_reducible repeat (first | apply Kd.V_alloc | apply Kd.V_drewN | apply Kd.V_drew)); exact Kd.V_mono (Kd.V_far (p := ⟨gb465, 1, none⟩) (Kd.V_far (p := ⟨gb465, 0, none⟩) (Kd.V_mono HO_477000.out (fun k_ hk => (⟨hk, hk.2.2.2.1⟩ : _ ∧ k_ ≠ gb465))) (fun _ hk => hk.2) (.slice Ao76 x477000_2.length co76)) (fun _ hk => hk.2) (.int .i64 x477001_2)) (fun _ hk => hk.1.1), bl_ HB⟩}))}
 {
 rw [if_neg c23] at H
 exact absurd H (by simp)}}
 {
 rw [if_neg c22] at H
 exact absurd H (by simp)}}))
end Go.Proofs.Ytpdfdaoohknfoaa.P
namespace Go.Proofs.Ytpdfdaoohknfoaa.P
open Go.RowKit Go.Proofs.YtpdfdaoohknfoaaW.PrintWords Go.Proofs.YtpdfdaoohknfoaaW.PrintLast Go.Proofs.YtpdfdaoohknfoaaW.PrintMore
attribute [local go_sem] max2_int min2_int max_two min_two max_three min_three max_four min_four   -- for this text's walks alone
set_option linter.unusedVariables false
set_option linter.unusedSimpArgs false

def vpack_residue.j0 : Nat → List Int → Int → Bool → List Int → Int → Option (List Int × Int)
  | 0, _, _, _, _, _ => none
  | k + 1, x1, x2, x21, x491000, x491001 => if x21 = true then ((huff_Write.f k x491000 x491001 x1 (wrap64 (x2 + 7))).bind fun bt493 => (some (bt493.1, bt493.2.1))) else ((huff_Write.f k x491000 x491001 x1 15).bind fun bt498 => (if x2 < 0 then ((vpack_put.f k bt498.1 bt498.2.1 1 1).bind fun bt503 => ((vpack_put.f k bt503.1 bt503.2 (IntKind.u64.wrap (mx x2 (wrap64 (-x2)))) 22).bind fun bt507 => (some (bt507.1, bt507.2)))) else ((vpack_put.f k bt498.1 bt498.2.1 0 1).bind fun bt511 => ((vpack_put.f k bt511.1 bt511.2 (IntKind.u64.wrap (mx x2 (wrap64 (-x2)))) 22).bind fun bt515 => (some (bt515.1, bt515.2))))))
def vpack_residue.f (k : Nat) (l0_0 : List Int) (a0_1 : Int) (l1 : List Int) (a2 : Int) : Option (List Int × Int) := if a2 ≥ (-7) then (if a2 ≤ 7 then (if 0 ≤ (wrap64 (a2 + 7)) then (if (wrap64 (a2 + 7)) < (l1.length : Int) then (vpack_residue.j0 k l1 a2 (decide ((rd l1 (wrap64 (a2 + 7))) > 0)) l0_0 a0_1) else (none)) else (none)) else (vpack_residue.j0 k l1 a2 false l0_0 a0_1)) else (vpack_residue.j0 k l1 a2 false l0_0 a0_1)
theorem vpack_residue.mono_l : ∀ k, (∀ y0 y1 y2 y3 y4, LeO (vpack_residue.j0 k y0 y1 y2 y3 y4) (vpack_residue.j0 (k + 1) y0 y1 y2 y3 y4))
  | 0 => fun _ _ _ _ _ r h => by simp [vpack_residue.j0] at h
  | k + 1 => by
    have ih0 := vpack_residue.mono_l k
    · intro y0 y1 y2 y3 y4
      unfold vpack_residue.j0
      with_reducible repeat' first
   | exact ih0 _ _ _ _ _
   | exact huff_Write.mono _ _ _ _ _
   | exact vpack_put.mono _ _ _ _ _
   | exact LeO.refl _
   | exact LeO.none _
   | refine LeO.ite ?_ ?_
   | refine LeO.bind ?_ (fun _ => ?_)
theorem vpack_residue.mono : ∀ a0 a1 a2 a3 k, LeO (vpack_residue.f k a0 a1 a2 a3) (vpack_residue.f (k + 1) a0 a1 a2 a3) := by
  intro a0 a1 a2 a3 k
  have ih0 := vpack_residue.mono_l k
  unfold vpack_residue.f
  with_reducible repeat' first
   | exact ih0 _ _ _ _ _
   | exact huff_Write.mono _ _ _ _ _
   | exact vpack_put.mono _ _ _ _ _
   | exact LeO.refl _
   | exact LeO.none _
   | refine LeO.ite ?_ ?_
   | refine LeO.bind ?_ (fun _ => ?_)
set_option maxHeartbeats 8000000 in
set_option maxRecDepth 100000 in
theorem vpack_residue.calls (k : Nat) (P0_0_ : Nat → Prop) (A0_0 : Option Addr) (c0_0 : Nat) (l0_0 : List Int) (a0_1 : Int) (A1 : Option Addr) (c1 : Nat) (l1 : List Int) (a2 : Int) (r1 : List Int) (r2 : Int) (w : World) (hs0_0 : Kd.V (Kd.int .u8) 5 w w.heap.size (fun k_ => P0_0_ k_) (.slice A0_0 l0_0.length c0_0) l0_0) (hr1 : Kd.C (Kd.int .i64) w A1 l1.length l1) (hc1 : l1.length ≤ c1) (h : vpack_residue.f k l0_0 a0_1 l1 a2 = some (r1, r2)) :
    Calls Try.prog 52 #[.agg #[.slice A0_0 l0_0.length c0_0, .int .i64 a0_1], .slice A1 l1.length c1, .int .i64 a2] w fun e w' => ∃ v0_ : Value, e = .returned (.agg #[v0_, .int .i64 r2]) ∧ Kd.V (Kd.int .u8) 5 w' w.heap.size (fun k_ => (P0_0_ k_ ∨ w.heap.size ≤ k_)) v0_ r1 ∧ Below w.heap.size w w' := by
 have hu66 := Try.underlying66
 have HO0_0 := Aside0.mk (show Kd.V (Kd.int .u8) 5 w w.heap.size (fun k_ => (P0_0_ k_ ∨ w.heap.size ≤ k_)) (.slice A0_0 l0_0.length c0_0) l0_0 from Kd.V_mono hs0_0 (fun k_ hk => .inl hk))
 have HR1 := Aside0.mk hr1
 have HC1 := Aside0.mk hc1
 clear hr1 hc1
 have HB := Aside0.mk (Below.refl w.heap.size w)
 have H : (if a2 ≥ (-7) then (if a2 ≤ 7 then (if 0 ≤ (wrap64 (a2 + 7)) then (if (wrap64 (a2 + 7)) < (l1.length : Int) then (vpack_residue.j0 k l1 a2 (decide ((rd l1 (wrap64 (a2 + 7))) > 0)) l0_0 a0_1) else (none)) else (none)) else (vpack_residue.j0 k l1 a2 false l0_0 a0_1)) else (vpack_residue.j0 k l1 a2 false l0_0 a0_1)) = some (r1, r2) := h
 clear h
 have HC4 := Aside0.mk H
 clear H
 go_enter Try.func52, Try.ntmps52
 go_upto_region 1 with (first | ((with_reducible refine gate_dst (N := 3) rfl ?_); refine box_ 3 #[.slice A0_0 l0_0.length c0_0, .int .i64 a0_1] 66 ?_; intro gb490 hg w5 hbox hb; replace HO0_0 := Aside0.mk (Kd.V_below (Kd.V_elderB (kV_ HO0_0) gb490 (Nat.le_of_eq hg.symm)) hb); have BK490 := Aside0.mk (hbox); have GW490 := GE_ HB hg; have GE490 := GE_ HB hg; replace HB := BS_ HB hb; clear hb hbox hg) | ((with_reducible refine gate_dst (N := 6) rfl ?_); refine box_ 6 #[.slice none 0 0, .int .i64 0] 66 ?_; intro gb491 hg w6 hbox hb; replace HO0_0 := Aside0.mk (Kd.V_below (Kd.V_elderB (kV_ HO0_0) gb491 (Nat.le_of_eq hg.symm)) hb); have BK491 := Aside0.mk (hbox); have GW491 := GE_ HB hg; have GE491 := GE_ HB hg; replace HB := BS_ HB hb; obtain ⟨NB490_491, NB491_490⟩ := NN_ BK490 hg; replace BK490 := FB_ BK490 hb; clear hb hbox hg))
 (try simp only [Act.put, List.setIfInBounds_toArray, List.set_cons_zero, List.set_cons_succ])
 go_cut [21] (fun v21 wc => ∃ (kq : Nat) (x21_3 : Bool), v21 = .bool x21_3 ∧ Aside0 (vpack_residue.j0 kq l1 a2 x21_3 l0_0 a0_1 = some (r1, r2)) ∧ Aside0 (kq ≤ k) ∧ Aside0 (Kd.V (Kd.int .u8) 5 wc w.heap.size (fun k_ => (P0_0_ k_ ∨ w.heap.size ≤ k_) ∧ k_ ≠ gb490 ∧ k_ ≠ gb491) (.slice A0_0 l0_0.length c0_0) l0_0) ∧ Aside0 (wc.heap[gb490]? = some (.cells #[(.slice A0_0 l0_0.length c0_0), .int .i64 a0_1] 66 (0, 0))) ∧ Aside0 (wc.heap[gb491]? = some (.cells #[(.slice none 0 0), .int .i64 0] 66 (0, 0))) ∧ Aside0 (Below w.heap.size w wc))
 case first => (
 have H := HC4.out
 clear HC4
 by_cases c7 : a2 ≥ (-7)
 {
 rw [if_pos c7] at H
 have c7b0 : decide ((-7) ≤ a2) = true := decide_eq_true c7
 clear c7
 (first | rw [c7b0] | (simp only [i64_w, i32_w]; rw [c7b0]) | skip)
 by_cases c8 : a2 ≤ 7
 {
 rw [if_pos c8] at H
 have c8b0 : decide (a2 ≤ 7) = true := decide_eq_true c8
 clear c8
 obtain ⟨ji9, hji9⟩ : ∃ j_ : Int, (wrap64 (a2 + 7)) = j_ := ⟨_, rfl⟩
 replace H : (if 0 ≤ (ji9) then (if (ji9) < (l1.length : Int) then (vpack_residue.j0 k l1 a2 (decide ((rd l1 (ji9)) > 0)) l0_0 a0_1) else (none)) else (none)) = some (r1, r2) := by first | (rw [hji9] at H; exact H) | (simp only [hji9] at H ⊢; exact H)
 have hji9w : (IntKind.i64.wrap (a2 + 7)) = ji9 := (i64_w _).trans hji9
 by_cases c10 : 0 ≤ (ji9)
 {
 rw [if_pos c10] at H
 have c10b0 : decide (0 ≤ (ji9)) = true := decide_eq_true c10
 clear c10
 by_cases c11 : (ji9) < (l1.length : Int)
 {
 rw [if_pos c11] at H
 have c11b0 : decide ((ji9) < (l1.length : Int)) = true := decide_eq_true c11
 clear c11
 have H' := Aside0.mk H
 clear H
 have p492 : 0 ≤ ((ji9) : Int) := of_decide_eq_true am_
 have q492 : (ji9) < (l1.length : Int) := of_decide_eq_true am_
 obtain ⟨ad492, e492, hx492_0⟩ := Kd.at_int HR1.out (ji9) p492 q492
 cases e492
 replace hx492_0 := (HB.out.cell (World.block_lt_of_cell? w _ hx492_0)).trans hx492_0
 replace p492 := eq_true p492
 replace q492 := eq_true q492
 go_wp2
 go_meet
 case rel => exact ⟨_, (decide ((rd l1 (ji9)) > 0)), (by first | rfl | (simp; done) | (simp only [← hji9] <;> (first | rfl | simp)) | (simp [*]; done)), H', ⟨ol_⟩, ⟨by (with_reducible repeat (first | apply Kd.V_alloc | apply Kd.V_drewN | apply Kd.V_drew)); exact Kd.V_mono HO0_0.out (fun _ hk => ⟨hk.1.1, ⟨hk.1.2, hk.2⟩⟩)⟩, ⟨bk_ BK490⟩, ⟨bk_ BK491⟩, ⟨bl_ HB⟩⟩}
 {
 rw [if_neg c11] at H
 exact absurd H (by simp)}}
 {
 rw [if_neg c10] at H
 exact absurd H (by simp)}}
 {
 rw [if_neg c8] at H
 have c8b0 : decide (a2 ≤ 7) = false := decide_eq_false c8
 clear c8
 have H' := Aside0.mk H
 clear H
 go_wp2
 go_meet
 case rel => exact ⟨_, (false), rs_, H', ⟨ol_⟩, ⟨by (with_reducible repeat (first | apply Kd.V_alloc | apply Kd.V_drewN | apply Kd.V_drew)); exact Kd.V_mono HO0_0.out (fun _ hk => ⟨hk.1.1, ⟨hk.1.2, hk.2⟩⟩)⟩, ⟨bk_ BK490⟩, ⟨bk_ BK491⟩, ⟨bl_ HB⟩⟩}}
 {
 rw [if_neg c7] at H
 have c7b0 : decide ((-7) ≤ a2) = false := decide_eq_false c7
 clear c7
 (first | rw [c7b0] | (simp only [i64_w, i32_w]; rw [c7b0]) | skip)
 have H' := Aside0.mk H
 clear H
 go_wp2
 go_meet
 case rel => exact ⟨_, (false), rs_, H', ⟨ol_⟩, ⟨by (with_reducible repeat (first | apply Kd.V_alloc | apply Kd.V_drewN | apply Kd.V_drew)); exact Kd.V_mono HO0_0.out (fun _ hk => ⟨hk.1.1, ⟨hk.1.2, hk.2⟩⟩)⟩, ⟨bk_ BK490⟩, ⟨bk_ BK491⟩, ⟨bl_ HB⟩⟩})
 case rest => (
 clear HC4
 obtain ⟨kq, x21_3, rfl, HA, HJ3, HO_491000, BK490, BK491, HB⟩ := hcut
 cases kq with
 | zero => exact absurd HA.out (by simp [vpack_residue.j0])
 | succ kj3 => (
 have H := HA.out
 clear HA
 simp only [vpack_residue.j0] at H
 by_cases c12 : x21_3 = true
 {
 subst c12
 rw [if_pos rfl] at H
 obtain ⟨⟨t493, t496, t497⟩, A13, H⟩ := ob_ H
 (try dsimp only at H)
 simp only [Option.some.injEq, Prod.mk.injEq] at H
 obtain ⟨rfl, rfl⟩ := H
 have hnb14 := NB490_491.out
 have hnc14 := NB491_490.out
 obtain ⟨hcz15_0, hcz15_1, hfz15_0, hfz15_1⟩ := e2_ BK490
 go_wp2_with (first | ((with_reducible refine gate_callee (f := 51) rfl ?_); refine gL_ (some 27) Try.func51 #[.agg #[.slice A0_0 l0_0.length c0_0, .int .i64 a0_1], .slice A1 l1.length c1, .int .i64 (wrap64 (a2 + 7))] ?_; (with_reducible refine (huff_Write.calls kj3 (fun k_ => ((P0_0_ k_ ∨ w.heap.size ≤ k_) ∧ (k_ ≠ gb490 ∧ k_ ≠ gb491))) _ _ l0_0 a0_1 _ _ l1 (wrap64 (a2 + 7)) t493 t496 t497 _ ?side1 ?side2 ?side3 A13.out).mono ?_); (case side1 => exact HO_491000.out); (case side2 => exact kC_ HR1 HB); (case side3 => exact HC1.out); rintro e w16 ⟨v494, rfl, ho0, hb⟩; refine ⟨_, rfl, ?_⟩; replace HO_491000 := FV_ HO_491000 hb; have HO495 := Aside0.mk (Kd.V_lower (Kd.V_mono (ok' := fun k_ => (P0_0_ k_ ∨ w.heap.size ≤ k_) ∧ k_ ≠ gb490 ∧ k_ ≠ gb491) ho0 (fun k_ hk_ => ⟨Or.elim hk_ (fun hs_ => hs_.1) (fun hn_ => (.inr (Nat.le_trans (bs_ HB) hn_))), Or.elim hk_ (fun hs_ => hs_.2.1) (fun hn_ => (Kd.freshB (g := gb490) (o := .cells #[.slice A0_0 l0_0.length c0_0, .int .i64 a0_1] 66 (0, 0)) (bk_ BK490) k_ hn_)), Or.elim hk_ (fun hs_ => hs_.2.2) (fun hn_ => (Kd.freshB (g := gb491) (o := .cells #[.slice none 0 0, .int .i64 0] 66 (0, 0)) (bk_ BK491) k_ hn_))⟩)) (bs_ HB)); replace BK490 := FB_ BK490 hb; replace BK491 := FB_ BK491 hb; replace HB := BS_ HB hb; (try clear hb); (try clear ho0); obtain ⟨Ao17, co17, eo17⟩ := Kd.V_slice HO495.out; subst eo17; obtain ⟨hcz18_0, hcz18_1, hfz18_0, hfz18_1⟩ := e2_ BK490; obtain ⟨hcz19_0, hcz19_1, hfz19_0, hfz19_1⟩ := e2_ BK491))
 refine bodyPost_ret (results_cell_row rfl _ _ gb491 66 #[.slice Ao17 t493.length co17, .int .i64 t496] (0, 0) _ rfl (bp_ BK491) Try.underlying66 rfl kf_) rfl ?_
 exact ⟨_, by first | rfl | (simp [errW_none, errW_some] <;> rfl) | (simp [*, errW_none, errW_some] <;> rfl), by (with_reducible repeat (first | apply Kd.V_alloc | apply Kd.V_drewN | apply Kd.V_drew)); exact Kd.V_mono (Kd.V_far (p := ⟨gb491, 1, none⟩) (Kd.V_far (p := ⟨gb491, 0, none⟩) (Kd.V_far (p := ⟨gb490, 1, none⟩) (Kd.V_far (p := ⟨gb490, 0, none⟩) (Kd.V_mono (Kd.V_mono HO495.out (fun k_ hk => (⟨hk, hk.2.1⟩ : _ ∧ k_ ≠ gb490))) (fun k_ hk => (⟨hk, hk.1.2.2⟩ : _ ∧ k_ ≠ gb491))) (fun _ hk => hk.1.2) (.slice Ao17 t493.length co17)) (fun _ hk => hk.1.2) (.int .i64 t496)) (fun _ hk => hk.2) (.slice Ao17 t493.length co17)) (fun _ hk => hk.2) (.int .i64 t496)) (fun _ hk => hk.1.1.1), bl_ HB⟩}
 {
 replace c12 := Bool.eq_false_iff.mpr c12
 subst c12
 rw [if_neg (show ¬ (false = true) by decide)] at H
 obtain ⟨⟨t498, t501, t502⟩, A20, H⟩ := ob_ H
 (try dsimp only at H)
 by_cases c21 : a2 < 0
 {
 rw [if_pos c21] at H
 have c21b0 : decide (a2 < 0) = true := decide_eq_true c21
 clear c21
 obtain ⟨⟨t503, t506⟩, A22, H⟩ := ob_ H
 (try dsimp only at H)
 obtain ⟨ji23, hji23⟩ : ∃ j_ : Int, (mx a2 (wrap64 (-a2))) = j_ := ⟨_, rfl⟩
 replace H : ((vpack_put.f kj3 t503 t506 (IntKind.u64.wrap (ji23)) 22).bind fun bt507 => (some (bt507.1, bt507.2))) = some (r1, r2) := by first | (rw [hji23] at H; exact H) | (simp only [hji23] at H ⊢; exact H)
 (try rw [hji23] at A20)
 (try rw [hji23] at A22)
 have hji23_ : (if a2 < (wrap64 (-a2)) then (wrap64 (-a2)) else a2) = ji23 := hji23
 obtain ⟨⟨t507, t510⟩, A24, H⟩ := ob_ H
 (try dsimp only at H)
 simp only [Option.some.injEq, Prod.mk.injEq] at H
 obtain ⟨rfl, rfl⟩ := H
 have hnb25 := NB490_491.out
 have hnc25 := NB491_490.out
 obtain ⟨hcz26_0, hcz26_1, hfz26_0, hfz26_1⟩ := e2_ BK490
 go_wp2_with (first | ((with_reducible refine gate_callee (f := 51) rfl ?_); refine gL_ (some 34) Try.func51 #[.agg #[.slice A0_0 l0_0.length c0_0, .int .i64 a0_1], .slice A1 l1.length c1, .int .i64 15] ?_; (with_reducible refine (huff_Write.calls kj3 (fun k_ => ((P0_0_ k_ ∨ w.heap.size ≤ k_) ∧ (k_ ≠ gb490 ∧ k_ ≠ gb491))) _ _ l0_0 a0_1 _ _ l1 15 t498 t501 t502 _ ?side1 ?side2 ?side3 A20.out).mono ?_); (case side1 => exact HO_491000.out); (case side2 => exact kC_ HR1 HB); (case side3 => exact HC1.out); rintro e w27 ⟨v499, rfl, ho0, hb⟩; refine ⟨_, rfl, ?_⟩; replace HO_491000 := FV_ HO_491000 hb; have HO500 := Aside0.mk (Kd.V_lower (Kd.V_mono (ok' := fun k_ => (P0_0_ k_ ∨ w.heap.size ≤ k_) ∧ k_ ≠ gb490 ∧ k_ ≠ gb491) ho0 (fun k_ hk_ => ⟨Or.elim hk_ (fun hs_ => hs_.1) (fun hn_ => (.inr (Nat.le_trans (bs_ HB) hn_))), Or.elim hk_ (fun hs_ => hs_.2.1) (fun hn_ => (Kd.freshB (g := gb490) (o := .cells #[.slice A0_0 l0_0.length c0_0, .int .i64 a0_1] 66 (0, 0)) (bk_ BK490) k_ hn_)), Or.elim hk_ (fun hs_ => hs_.2.2) (fun hn_ => (Kd.freshB (g := gb491) (o := .cells #[.slice none 0 0, .int .i64 0] 66 (0, 0)) (bk_ BK491) k_ hn_))⟩)) (bs_ HB)); replace BK490 := FB_ BK490 hb; replace BK491 := FB_ BK491 hb; replace HB := BS_ HB hb; (try clear hb); (try clear hk); (try clear ho0); obtain ⟨Ao28, co28, eo28⟩ := Kd.V_slice HO500.out; subst eo28; obtain ⟨hcz29_0, hcz29_1, hfz29_0, hfz29_1⟩ := e2_ BK490) | ((with_reducible refine gate_callee (f := 50) rfl ?_); refine gL_ (some 41) Try.func50 #[.agg #[.slice Ao28 t498.length co28, .int .i64 t501], .int .u64 1, .int .i64 1] ?_; (with_reducible refine (vpack_put.calls kj3 _ _ t498 t501 1 1 t503 t506 _ ?side1 ?side2 A22.out).mono ?_); (case side1 => refine (Kd.V_reads' (e := 5) (base := w.heap.size) (ok := fun k_ => ((P0_0_ k_ ∨ w.heap.size ≤ k_) ∧ (k_ ≠ gb490 ∧ k_ ≠ gb491))) (n := t498.length) (c := co28) ?_).2.2; exact (by (with_reducible repeat (first | apply Kd.V_alloc | apply Kd.V_drewN | apply Kd.V_drew)); exact (Kd.V_mono (Kd.V_far (p := ⟨gb490, 1, none⟩) (Kd.V_far (p := ⟨gb490, 0, none⟩) (Kd.V_mono HO500.out (fun k_ hk => (⟨hk, hk.2.1⟩ : _ ∧ k_ ≠ gb490))) (fun _ hk => hk.2) (.slice Ao28 t498.length co28)) (fun _ hk => hk.2) (.int .i64 t501)) (fun _ h_ => h_.1)))); (case side2 => exact (Kd.V_reads' HO500.out).2.1); rintro e w30 ⟨v504, rfl, ho0, hb⟩; refine ⟨_, rfl, ?_⟩; replace HO_491000 := Aside0.mk (Kd.V_elder' (by (with_reducible repeat (first | apply Kd.V_alloc | apply Kd.V_drewN | apply Kd.V_drew)); exact (Kd.V_mono (Kd.V_far (p := ⟨gb490, 1, none⟩) (Kd.V_far (p := ⟨gb490, 0, none⟩) (Kd.V_mono HO_491000.out (fun k_ hk => (⟨hk, hk.2.1⟩ : _ ∧ k_ ≠ gb490))) (fun _ hk => hk.2) (.slice Ao28 t498.length co28)) (fun _ hk => hk.2) (.int .i64 t501)) (fun _ h_ => h_.1))) (Kd.R_base ho0) hb); replace HO500 := Aside0.mk (Kd.V_elder' (by (with_reducible repeat (first | apply Kd.V_alloc | apply Kd.V_drewN | apply Kd.V_drew)); exact (Kd.V_mono (Kd.V_far (p := ⟨gb490, 1, none⟩) (Kd.V_far (p := ⟨gb490, 0, none⟩) (Kd.V_mono HO500.out (fun k_ hk => (⟨hk, hk.2.1⟩ : _ ∧ k_ ≠ gb490))) (fun _ hk => hk.2) (.slice Ao28 t498.length co28)) (fun _ hk => hk.2) (.int .i64 t501)) (fun _ h_ => h_.1))) (Kd.R_base ho0) hb); have HO505 := Aside0.mk (Kd.R_lower (Kd.R_newM (M := fun k_ => (w.heap.size ≤ k_)) ho0 (bs_ HB) (fun k_ h_ => h_)) (bs_ HB)); replace BK490 := Aside0.mk (blk_below (g := gb490) (o := .cells #[.slice Ao28 t498.length co28, .int .i64 t501] 66 (0, 0)) (bp_ BK490) hb); replace BK491 := FB_ BK491 hb; replace HB := BS_ HB hb; (try clear hb); (try clear hk); (try clear ho0); obtain ⟨Ao31, co31, eo31⟩ := Kd.R_slice HO505.out; subst eo31) | ((with_reducible refine gate_callee (f := 50) rfl ?_); refine goesL_ (some 47) rfl rfl Try.func50 kf_ rfl #[.agg #[.slice Ao31 t503.length co31, .int .i64 t506], .int .u64 (IntKind.u64.wrap (ji23)), .int .i64 22] rfl (by (try simp only [List.map_toArray, List.map_cons, List.map_nil]); first | done | (simp only [hji23]; rfl) | rfl | (simp only [List.length_drop, List.length_take]; rfl)) ?_; (with_reducible refine (vpack_put.calls kj3 _ _ t503 t506 (IntKind.u64.wrap (ji23)) 22 t507 t510 _ ?side1 ?side2 A24.out).mono ?_); (case side1 => exact kCt_ (Kd.R_reads' HO505.out).2.2); (case side2 => exact (Kd.R_reads' HO505.out).2.1); rintro e w32 ⟨v508, rfl, ho0, hb⟩; refine ⟨_, rfl, ?_⟩; replace HO_491000 := Aside0.mk (Kd.V_elder' (kV_ HO_491000) (Kd.R_base ho0) hb); replace HO500 := Aside0.mk (Kd.V_elder' (kV_ HO500) (Kd.R_base ho0) hb); have HO509 := Aside0.mk (Kd.R_lower (Kd.R_new' (Kd.R_newM (M := fun k_ => (w.heap.size ≤ k_)) ho0 (bs_ HB) (fun k_ h_ => h_)) (Kd.R_lt (kR_ HO505))) (bs_ HB)); replace HO505 := Aside0.mk (Kd.R_elder' (kR_ HO505) (Kd.R_base ho0) hb); replace BK490 := FB_ BK490 hb; replace BK491 := FB_ BK491 hb; replace HB := BS_ HB hb; (try clear hb); (try clear hk); (try clear ho0); obtain ⟨Ao33, co33, eo33⟩ := Kd.R_slice HO509.out; subst eo33; obtain ⟨hcz34_0, hcz34_1, hfz34_0, hfz34_1⟩ := e2_ BK491))
 refine bodyPost_ret (results_cell_row rfl _ _ gb491 66 #[.slice Ao33 t507.length co33, .int .i64 t510] (0, 0) _ rfl (bp_ BK491) Try.underlying66 rfl kf_) rfl ?_
 exact ⟨_, by first | rfl | (simp [errW_none, errW_some] <;> rfl) | (simp only [← hji23]; first | rfl | (simp [errW_none, errW_some] <;> rfl)) | (simp [*, errW_none, errW_some] <;> rfl), Kd.V_mono (Kd.R_V (by (with_reducible repeat (first | apply Kd.R_alloc | apply Kd.R_drewN | apply Kd.R_drew)); exact Kd.R_mono (Kd.R_far (p := ⟨gb491, 1, none⟩) (Kd.R_far (p := ⟨gb491, 0, none⟩) (Kd.R_types HO509.out BK491.out (by decide)) (fun _ hk => hk.2) (.slice Ao33 t507.length co33)) (fun _ hk => hk.2) (.int .i64 t510)) (fun _ hk => hk.1.1.1))) (fun k_ hk => by first | exact ⟨(.inr (hk.1)), hk.2⟩ | exact (.inr (hk))), bl_ HB⟩}
 {
 rw [if_neg c21] at H
 have c21b0 : decide (a2 < 0) = false := decide_eq_false c21
 clear c21
 obtain ⟨⟨t511, t514⟩, A35, H⟩ := ob_ H
 (try dsimp only at H)
 obtain ⟨ji36, hji36⟩ : ∃ j_ : Int, (mx a2 (wrap64 (-a2))) = j_ := ⟨_, rfl⟩
 replace H : ((vpack_put.f kj3 t511 t514 (IntKind.u64.wrap (ji36)) 22).bind fun bt515 => (some (bt515.1, bt515.2))) = some (r1, r2) := by first | (rw [hji36] at H; exact H) | (simp only [hji36] at H ⊢; exact H)
 (try rw [hji36] at A20)
 (try rw [hji36] at A35)
 have hji36_ : (if a2 < (wrap64 (-a2)) then (wrap64 (-a2)) else a2) = ji36 := hji36
 obtain ⟨⟨t515, t518⟩, A37, H⟩ := ob_ H
 (try dsimp only at H)
 simp only [Option.some.injEq, Prod.mk.injEq] at H
 obtain ⟨rfl, rfl⟩ := H
 have hnb38 := NB490_491.out
 have hnc38 := NB491_490.out
 obtain ⟨hcz39_0, hcz39_1, hfz39_0, hfz39_1⟩ := e2_ BK490
 go_wp2_with (first | ((with_reducible refine gate_callee (f := 51) rfl ?_); refine gL_ (some 34) Try.func51 #[.agg #[.slice A0_0 l0_0.length c0_0, .int .i64 a0_1], .slice A1 l1.length c1, .int .i64 15] ?_; (with_reducible refine (huff_Write.calls kj3 (fun k_ => ((P0_0_ k_ ∨ w.heap.size ≤ k_) ∧ (k_ ≠ gb490 ∧ k_ ≠ gb491))) _ _ l0_0 a0_1 _ _ l1 15 t498 t501 t502 _ ?side1 ?side2 ?side3 A20.out).mono ?_); (case side1 => exact HO_491000.out); (case side2 => exact kC_ HR1 HB); (case side3 => exact HC1.out); rintro e w40 ⟨v499, rfl, ho0, hb⟩; refine ⟨_, rfl, ?_⟩; replace HO_491000 := FV_ HO_491000 hb; have HO500 := Aside0.mk (Kd.V_lower (Kd.V_mono (ok' := fun k_ => (P0_0_ k_ ∨ w.heap.size ≤ k_) ∧ k_ ≠ gb490 ∧ k_ ≠ gb491) ho0 (fun k_ hk_ => ⟨Or.elim hk_ (fun hs_ => hs_.1) (fun hn_ => (.inr (Nat.le_trans (bs_ HB) hn_))), Or.elim hk_ (fun hs_ => hs_.2.1) (fun hn_ => (Kd.freshB (g := gb490) (o := .cells #[.slice A0_0 l0_0.length c0_0, .int .i64 a0_1] 66 (0, 0)) (bk_ BK490) k_ hn_)), Or.elim hk_ (fun hs_ => hs_.2.2) (fun hn_ => (Kd.freshB (g := gb491) (o := .cells #[.slice none 0 0, .int .i64 0] 66 (0, 0)) (bk_ BK491) k_ hn_))⟩)) (bs_ HB)); replace BK490 := FB_ BK490 hb; replace BK491 := FB_ BK491 hb; replace HB := BS_ HB hb; (try clear hb); (try clear hk); (try clear ho0); obtain ⟨Ao41, co41, eo41⟩ := Kd.V_slice HO500.out; subst eo41; obtain ⟨hcz42_0, hcz42_1, hfz42_0, hfz42_1⟩ := e2_ BK490) | ((with_reducible refine gate_callee (f := 50) rfl ?_); refine gL_ (some 41) Try.func50 #[.agg #[.slice Ao41 t498.length co41, .int .i64 t501], .int .u64 0, .int .i64 1] ?_; (with_reducible refine (vpack_put.calls kj3 _ _ t498 t501 0 1 t511 t514 _ ?side1 ?side2 A35.out).mono ?_); (case side1 => refine (Kd.V_reads' (e := 5) (base := w.heap.size) (ok := fun k_ => ((P0_0_ k_ ∨ w.heap.size ≤ k_) ∧ (k_ ≠ gb490 ∧ k_ ≠ gb491))) (n := t498.length) (c := co41) ?_).2.2; exact (by (with_reducible repeat (first | apply Kd.V_alloc | apply Kd.V_drewN | apply Kd.V_drew)); exact (Kd.V_mono (Kd.V_far (p := ⟨gb490, 1, none⟩) (Kd.V_far (p := ⟨gb490, 0, none⟩) (Kd.V_mono HO500.out (fun k_ hk => (⟨hk, hk.2.1⟩ : _ ∧ k_ ≠ gb490))) (fun _ hk => hk.2) (.slice Ao41 t498.length co41)) (fun _ hk => hk.2) (.int .i64 t501)) (fun _ h_ => h_.1)))); (case side2 => exact (Kd.V_reads' HO500.out).2.1); rintro e w43 ⟨v512, rfl, ho0, hb⟩; refine ⟨_, rfl, ?_⟩; replace HO_491000 := Aside0.mk (Kd.V_elder' (by (with_reducible repeat (first | apply Kd.V_alloc | apply Kd.V_drewN | apply Kd.V_drew)); exact (Kd.V_mono (Kd.V_far (p := ⟨gb490, 1, none⟩) (Kd.V_far (p := ⟨gb490, 0, none⟩) (Kd.V_mono HO_491000.out (fun k_ hk => (⟨hk, hk.2.1⟩ : _ ∧ k_ ≠ gb490))) (fun _ hk => hk.2) (.slice Ao41 t498.length co41)) (fun _ hk => hk.2) (.int .i64 t501)) (fun _ h_ => h_.1))) (Kd.R_base ho0) hb); replace HO500 := Aside0.mk (Kd.V_elder' (by (with_reducible repeat (first | apply Kd.V_alloc | apply Kd.V_drewN | apply Kd.V_drew)); exact (Kd.V_mono (Kd.V_far (p := ⟨gb490, 1, none⟩) (Kd.V_far (p := ⟨gb490, 0, none⟩) (Kd.V_mono HO500.out (fun k_ hk => (⟨hk, hk.2.1⟩ : _ ∧ k_ ≠ gb490))) (fun _ hk => hk.2) (.slice Ao41 t498.length co41)) (fun _ hk => hk.2) (.int .i64 t501)) (fun _ h_ => h_.1))) (Kd.R_base ho0) hb); have HO513 := Aside0.mk (Kd.R_lower (Kd.R_newM (M := fun k_ => (w.heap.size ≤ k_)) ho0 (bs_ HB) (fun k_ h_ => h_)) (bs_ HB)); replace BK490 := Aside0.mk (blk_below (g := gb490) (o := .cells #[.slice Ao41 t498.length co41, .int .i64 t501] 66 (0, 0)) (bp_ BK490) hb); replace BK491 := FB_ BK491 hb; replace HB := BS_ HB hb; (try clear hb); (try clear hk); (try clear ho0); obtain ⟨Ao44, co44, eo44⟩ := Kd.R_slice HO513.out; subst eo44) | ((with_reducible refine gate_callee (f := 50) rfl ?_); refine goesL_ (some 47) rfl rfl Try.func50 kf_ rfl #[.agg #[.slice Ao44 t511.length co44, .int .i64 t514], .int .u64 (IntKind.u64.wrap (ji36)), .int .i64 22] rfl (by (try simp only [List.map_toArray, List.map_cons, List.map_nil]); first | done | (simp only [hji36]; rfl) | rfl | (simp only [List.length_drop, List.length_take]; rfl)) ?_; (with_reducible refine (vpack_put.calls kj3 _ _ t511 t514 (IntKind.u64.wrap (ji36)) 22 t515 t518 _ ?side1 ?side2 A37.out).mono ?_); (case side1 => exact kCt_ (Kd.R_reads' HO513.out).2.2); (case side2 => exact (Kd.R_reads' HO513.out).2.1); rintro e w45 ⟨v516, rfl, ho0, hb⟩; refine ⟨_, rfl, ?_⟩; replace HO_491000 := Aside0.mk (Kd.V_elder' (kV_ HO_491000) (Kd.R_base ho0) hb); replace HO500 := Aside0.mk (Kd.V_elder' (kV_ HO500) (Kd.R_base ho0) hb); have HO517 := Aside0.mk (Kd.R_lower (Kd.R_new' (Kd.R_newM (M := fun k_ => (w.heap.size ≤ k_)) ho0 (bs_ HB) (fun k_ h_ => h_)) (Kd.R_lt (kR_ HO513))) (bs_ HB)); replace HO513 := Aside0.mk (Kd.R_elder' (kR_ HO513) (Kd.R_base ho0) hb); replace BK490 := FB_ BK490 hb; replace BK491 := FB_ BK491 hb; replace HB := BS_ HB hb; (try clear hb); (try clear hk); (try clear ho0); obtain ⟨Ao46, co46, eo46⟩ := Kd.R_slice HO517.out; subst eo46; obtain ⟨hcz47_0, hcz47_1, hfz47_0, hfz47_1⟩ := e2_ BK491))
 refine bodyPost_ret (results_cell_row rfl _ _ gb491 66 #[.slice Ao46 t515.length co46, .int .i64 t518] (0, 0) _ rfl (bp_ BK491) Try.underlying66 rfl kf_) rfl ?_
 exact ⟨_, by first | rfl | (simp [errW_none, errW_some] <;> rfl) | (simp only [← hji36]; first | rfl | (simp [errW_none, errW_some] <;> rfl)) | (simp [*, errW_none, errW_some] <;> rfl), Kd.V_mono (Kd.R_V (by (with_reducible repeat (first | apply Kd.R_alloc | apply Kd.R_drewN | apply Kd.R_drew)); exact Kd.R_mono (Kd.R_far (p := ⟨gb491, 1, none⟩) (Kd.R_far (p := ⟨gb491, 0, none⟩) (Kd.R_types HO517.out BK491.out (by decide)) (fun _ hk => hk.2) (.slice Ao46 t515.length co46)) (fun _ hk => hk.2) (.int .i64 t518)) (fun _ hk => hk.1.1.1))) (fun k_ hk => by first | exact ⟨(.inr (hk.1)), hk.2⟩ | exact (.inr (hk))), bl_ HB⟩}}))
end Go.Proofs.Ytpdfdaoohknfoaa.P
namespace Go.Proofs.Ytpdfdaoohknfoaa.P
open Go.RowKit Go.Proofs.YtpdfdaoohknfoaaW.PrintWords Go.Proofs.YtpdfdaoohknfoaaW.PrintLast Go.Proofs.YtpdfdaoohknfoaaW.PrintMore
attribute [local go_sem] max2_int min2_int max_two min_two max_three min_three max_four min_four   -- for this text's walks alone
set_option linter.unusedVariables false
set_option linter.unusedSimpArgs false

mutual
def vpack_Write.l0 : Nat → List (List Int) → Int → Int → Int → Int → List Int → List Int → List (List Int) → List (List Int) → List Int → Int → Option (List Int × Int)
  | 0, _, _, _, _, _, _, _, _, _, _, _ => none
  | k + 1, x20, x21, x22, x520000, x520001, x520002, x520003, x521000, x521001, x523000, x523001 => if x22 < x21 then (if 0 ≤ x22 then (if x22 < (x20.length : Int) then (if ((rd_L1 x20 x22).length : Int) = 0 then ((vpack_put.f k x523000 x523001 0 1).bind fun bt524 => (vpack_Write.l0 k x20 x21 (wrap64 (x22 + 1)) x520000 x520001 x520002 x520003 x521000 x521001 bt524.1 bt524.2)) else ((vpack_put.f k x523000 x523001 1 1).bind fun bt528 => (vpack_Write.l1 k x20 x21 x22 (rd_L1 x20 x22) ((rd_L1 x20 x22).length : Int) 0 x520000 x520001 x520002 x520003 x521000 x521001 bt528.1 bt528.2))) else (none)) else (none)) else (vpack_Write.l2 k x521001 (x521001.length : Int) 0 x520000 x520001 x520002 x520003 x523000 x523001)
def vpack_Write.l1 : Nat → List (List Int) → Int → Int → List Int → Int → Int → Int → Int → List Int → List Int → List (List Int) → List (List Int) → List Int → Int → Option (List Int × Int)
  | 0, _, _, _, _, _, _, _, _, _, _, _, _, _, _ => none
  | k + 1, x20, x21, x22, x33, x34, x35, x520000, x520001, x520002, x520003, x521000, x521001, x523000, x523001 => if x35 < x34 then (if 0 ≤ x35 then (if x35 < (x33.length : Int) then ((huff_Write.f k x523000 x523001 x520002 (rd x33 x35)).bind fun bt533 => (vpack_Write.l1 k x20 x21 x22 x33 x34 (wrap64 (x35 + 1)) x520000 x520001 x520002 x520003 x521000 x521001 bt533.1 bt533.2.1)) else (none)) else (none)) else (vpack_Write.l0 k x20 x21 (wrap64 (x22 + 1)) x520000 x520001 x520002 x520003 x521000 x521001 x523000 x523001)
def vpack_Write.l2 : Nat → List (List Int) → Int → Int → Int → Int → List Int → List Int → List Int → Int → Option (List Int × Int)
  | 0, _, _, _, _, _, _, _, _, _ => none
  | k + 1, x50, x51, x52, x520000, x520001, x520002, x520003, x523000, x523001 => if x52 < x51 then (if 0 ≤ x52 then (if x52 < (x50.length : Int) then (vpack_Write.l3 k x50 x51 x52 (rd_L5 x50 x52) ((rd_L5 x50 x52).length : Int) 0 x520000 x520001 x520002 x520003 x523000 x523001) else (none)) else (none)) else (some (x523000, 0))
def vpack_Write.l3 : Nat → List (List Int) → Int → Int → List Int → Int → Int → Int → Int → List Int → List Int → List Int → Int → Option (List Int × Int)
  | 0, _, _, _, _, _, _, _, _, _, _, _, _ => none
  | k + 1, x50, x51, x52, x56, x57, x58, x520000, x520001, x520002, x520003, x523000, x523001 => if x58 < x57 then (if 0 ≤ x58 then (if x58 < (x56.length : Int) then ((vpack_residue.f k x523000 x523001 x520003 (rd x56 x58)).bind fun bt540 => (vpack_Write.l3 k x50 x51 x52 x56 x57 (wrap64 (x58 + 1)) x520000 x520001 x520002 x520003 bt540.1 bt540.2)) else (none)) else (none)) else (vpack_Write.l2 k x50 x51 (wrap64 (x52 + 1)) x520000 x520001 x520002 x520003 x523000 x523001)
end
def vpack_Write.f (k : Nat) (a0_0 : Int) (a0_1 : Int) (l0_2 : List Int) (l0_3 : List Int) (l1_0 : List (List Int)) (l1_1 : List (List Int)) : Option (List Int × Int) := (vpack_Right.f k a0_0 a0_1 l0_2 l0_3 l1_0 l1_1).bind fun t521 => (if t521 = true then (vpack_Write.l0 k l1_0 (l1_0.length : Int) 0 a0_0 a0_1 l0_2 l0_3 l1_0 l1_1 ([] : List Int) 0) else (some (([] : List Int), 1)))
theorem vpack_Write.mono_l : ∀ k, (∀ y0 y1 y2 y3 y4 y5 y6 y7 y8 y9 y10, LeO (vpack_Write.l0 k y0 y1 y2 y3 y4 y5 y6 y7 y8 y9 y10) (vpack_Write.l0 (k + 1) y0 y1 y2 y3 y4 y5 y6 y7 y8 y9 y10)) ∧ (∀ y0 y1 y2 y3 y4 y5 y6 y7 y8 y9 y10 y11 y12 y13, LeO (vpack_Write.l1 k y0 y1 y2 y3 y4 y5 y6 y7 y8 y9 y10 y11 y12 y13) (vpack_Write.l1 (k + 1) y0 y1 y2 y3 y4 y5 y6 y7 y8 y9 y10 y11 y12 y13)) ∧ (∀ y0 y1 y2 y3 y4 y5 y6 y7 y8, LeO (vpack_Write.l2 k y0 y1 y2 y3 y4 y5 y6 y7 y8) (vpack_Write.l2 (k + 1) y0 y1 y2 y3 y4 y5 y6 y7 y8)) ∧ (∀ y0 y1 y2 y3 y4 y5 y6 y7 y8 y9 y10 y11, LeO (vpack_Write.l3 k y0 y1 y2 y3 y4 y5 y6 y7 y8 y9 y10 y11) (vpack_Write.l3 (k + 1) y0 y1 y2 y3 y4 y5 y6 y7 y8 y9 y10 y11))
  | 0 => ⟨fun _ _ _ _ _ _ _ _ _ _ _ r h => by simp [vpack_Write.l0] at h, fun _ _ _ _ _ _ _ _ _ _ _ _ _ _ r h => by simp [vpack_Write.l1] at h, fun _ _ _ _ _ _ _ _ _ r h => by simp [vpack_Write.l2] at h, fun _ _ _ _ _ _ _ _ _ _ _ _ r h => by simp [vpack_Write.l3] at h⟩
  | k + 1 => by
    obtain ⟨ih0, ih1, ih2, ih3⟩ := vpack_Write.mono_l k
    refine ⟨?_, ?_, ?_, ?_⟩
    all_goals (intros; first | unfold vpack_Write.l0 | unfold vpack_Write.l1 | unfold vpack_Write.l2 | unfold vpack_Write.l3)
    all_goals with_reducible repeat' first
     | exact ih0 _ _ _ _ _ _ _ _ _ _ _
     | exact ih1 _ _ _ _ _ _ _ _ _ _ _ _ _ _
     | exact ih2 _ _ _ _ _ _ _ _ _
     | exact ih3 _ _ _ _ _ _ _ _ _ _ _ _
     | exact huff_Write.mono _ _ _ _ _
     | exact vpack_Right.mono _ _ _ _ _ _ _
     | exact vpack_put.mono _ _ _ _ _
     | exact vpack_residue.mono _ _ _ _ _
     | exact LeO.refl _
     | exact LeO.none _
     | refine LeO.ite ?_ ?_
     | refine LeO.bind ?_ (fun _ => ?_)
theorem vpack_Write.mono : ∀ a0 a1 a2 a3 a4 a5 k, LeO (vpack_Write.f k a0 a1 a2 a3 a4 a5) (vpack_Write.f (k + 1) a0 a1 a2 a3 a4 a5) := by
  intro a0 a1 a2 a3 a4 a5 k
  obtain ⟨ih0, ih1, ih2, ih3⟩ := vpack_Write.mono_l k
  unfold vpack_Write.f
  with_reducible repeat' first
   | exact ih0 _ _ _ _ _ _ _ _ _ _ _
   | exact ih1 _ _ _ _ _ _ _ _ _ _ _ _ _ _
   | exact ih2 _ _ _ _ _ _ _ _ _
   | exact ih3 _ _ _ _ _ _ _ _ _ _ _ _
   | exact huff_Write.mono _ _ _ _ _
   | exact vpack_Right.mono _ _ _ _ _ _ _
   | exact vpack_put.mono _ _ _ _ _
   | exact vpack_residue.mono _ _ _ _ _
   | exact LeO.refl _
   | exact LeO.none _
   | refine LeO.ite ?_ ?_
   | refine LeO.bind ?_ (fun _ => ?_)
set_option maxHeartbeats 8000000 in
set_option maxRecDepth 100000 in
theorem vpack_Write.calls (k : Nat) (a0_0 : Int) (a0_1 : Int) (A0_2 : Option Addr) (c0_2 : Nat) (l0_2 : List Int) (A0_3 : Option Addr) (c0_3 : Nat) (l0_3 : List Int) (A1_0 : Option Addr) (c1_0 : Nat) (l1_0 : List (List Int)) (A1_1 : Option Addr) (c1_1 : Nat) (l1_1 : List (List Int)) (r1 : List Int) (r2 : Int) (w : World) (hr0_2 : Kd.C (Kd.int .i64) w A0_2 l0_2.length l0_2) (hc0_2 : l0_2.length ≤ c0_2) (hr0_3 : Kd.C (Kd.int .i64) w A0_3 l0_3.length l0_3) (hc0_3 : l0_3.length ≤ c0_3) (hr1_0 : Kd.C (Kd.slice 3 (Kd.int .i64)) w A1_0 l1_0.length l1_0) (hc1_0 : l1_0.length ≤ c1_0) (hr1_1 : Kd.C (Kd.slice 2 (Kd.int .i64)) w A1_1 l1_1.length l1_1) (hc1_1 : l1_1.length ≤ c1_1) (h : vpack_Write.f k a0_0 a0_1 l0_2 l0_3 l1_0 l1_1 = some (r1, r2)) :
    Calls Try.prog 32 #[.agg #[.int .i64 a0_0, .int .i64 a0_1, .slice A0_2 l0_2.length c0_2, .slice A0_3 l0_3.length c0_3], .agg #[.slice A1_0 l1_0.length c1_0, .slice A1_1 l1_1.length c1_1]] w fun e w' => ∃ v0_ : Value, e = .returned (.tuple #[v0_, .int .i64 r2]) ∧ Kd.V (Kd.int .u8) 5 w' w.heap.size (fun k_ => (w.heap.size ≤ k_)) v0_ r1 ∧ Below w.heap.size w w' := by
 have hu24 := Try.underlying24
 have hu48 := Try.underlying48
 have hu66 := Try.underlying66
 have HR0_2 := Aside0.mk hr0_2
 have HC0_2 := Aside0.mk hc0_2
 clear hr0_2 hc0_2
 have HR0_3 := Aside0.mk hr0_3
 have HC0_3 := Aside0.mk hc0_3
 clear hr0_3 hc0_3
 have HR1_0 := Aside0.mk hr1_0
 have HC1_0 := Aside0.mk hc1_0
 clear hr1_0 hc1_0
 have HR1_1 := Aside0.mk hr1_1
 have HC1_1 := Aside0.mk hc1_1
 clear hr1_1 hc1_1
 have HB := Aside0.mk (Below.refl w.heap.size w)
 have H : ((vpack_Right.f k a0_0 a0_1 l0_2 l0_3 l1_0 l1_1).bind fun t521 => (if t521 = true then (vpack_Write.l0 k l1_0 (l1_0.length : Int) 0 a0_0 a0_1 l0_2 l0_3 l1_0 l1_1 ([] : List Int) 0) else (some (([] : List Int), 1)))) = some (r1, r2) := h
 clear h
 obtain ⟨t521, A3, H⟩ := ob_ H
 (try dsimp only at H)
 by_cases c4 : t521 = true
 {
 subst c4
 rw [if_pos rfl] at H
 have H' := Aside0.mk H
 clear H
 go_enter Try.func32, Try.ntmps32
 go_wp2_with (first | ((with_reducible refine gate_dst (N := 2) rfl ?_); refine bx_ HB 2 #[.int .i64 a0_0, .int .i64 a0_1, .slice A0_2 l0_2.length c0_2, .slice A0_3 l0_3.length c0_3] 24 ?_; clear HB; intro gb519 hg w5 hb BK519 GE519 HB; have GW519 := GE519; clear hb hg) | ((with_reducible refine gate_dst (N := 3) rfl ?_); refine bx_ HB 3 #[.slice A1_0 l1_0.length c1_0, .slice A1_1 l1_1.length c1_1] 48 ?_; clear HB; intro gb520 hg w6 hb BK520 GE520 HB; have GW520 := GE520; obtain ⟨NB519_520, NB520_519⟩ := NN_ BK519 hg; replace BK519 := FB_ BK519 hb; clear hb hg; have hnb7 := NB519_520.out; have hnc7 := NB520_519.out; obtain ⟨hcz8_0, hcz8_1, hcz8_2, hcz8_3, hfz8_0, hfz8_1, hfz8_2, hfz8_3⟩ := e4_ BK519; obtain ⟨hcz9_0, hcz9_1, hfz9_0, hfz9_1⟩ := e2_ BK520) | ((with_reducible refine gate_callee (f := 29) rfl ?_); refine gL_ (some 17) Try.func29 #[.agg #[.int .i64 a0_0, .int .i64 a0_1, .slice A0_2 l0_2.length c0_2, .slice A0_3 l0_3.length c0_3], .agg #[.slice A1_0 l1_0.length c1_0, .slice A1_1 l1_1.length c1_1]] ?_; (with_reducible refine (vpack_Right.calls k a0_0 a0_1 _ _ l0_2 _ _ l0_3 _ _ l1_0 _ _ l1_1 true _ ?side1 ?side2 ?side3 ?side4 ?side5 ?side6 ?side7 ?side8 A3.out).mono ?_); (case side1 => exact kC_ HR0_2 HB); (case side2 => exact HC0_2.out); (case side3 => exact kC_ HR0_3 HB); (case side4 => exact HC0_3.out); (case side5 => exact kC_ HR1_0 HB); (case side6 => exact HC1_0.out); (case side7 => exact kC_ HR1_1 HB); (case side8 => exact HC1_1.out); rintro e w10 ⟨rfl, hb⟩; refine ⟨_, rfl, ?_⟩; replace BK519 := FB_ BK519 hb; replace BK520 := FB_ BK520 hb; replace HB := BS_ HB hb; (try clear hb)) | ((with_reducible refine gate_dst (N := 6) rfl ?_); refine bx_ HB 6 #[.slice none 0 0, .int .i64 0] 66 ?_; clear HB; intro gb522 hg w11 hb BK522 GE522 HB; have GW522 := GE522; obtain ⟨NB519_522, NB522_519⟩ := NN_ BK519 hg; replace BK519 := FB_ BK519 hb; obtain ⟨NB520_522, NB522_520⟩ := NN_ BK520 hg; replace BK520 := FB_ BK520 hb; clear hb hg; have hnb12 := NB520_522.out; have hnc12 := NB522_520.out; obtain ⟨hcz13_0, hcz13_1, hfz13_0, hfz13_1⟩ := e2_ BK520))
 go_loopg [22] k (fun kq v22 w' => ∃ (x22_1 : Int) (x523000_1 : List Int) (x523001_1 : Int) (u523000 : Value), v22 = .int .i64 x22_1 ∧ Aside0 (vpack_Write.l0 kq l1_0 (l1_0.length : Int) x22_1 a0_0 a0_1 l0_2 l0_3 l1_0 l1_1 x523000_1 x523001_1 = some (r1, r2)) ∧ Aside0 (kq ≤ k) ∧ Aside0 (Kd.V (Kd.int .u8) 5 w' w.heap.size (fun k_ => (w.heap.size ≤ k_) ∧ k_ ≠ gb519 ∧ k_ ≠ gb520 ∧ k_ ≠ gb522) u523000 x523000_1) ∧ Aside0 (w'.heap[gb519]? = some (.cells #[.int .i64 a0_0, .int .i64 a0_1, (.slice A0_2 l0_2.length c0_2), (.slice A0_3 l0_3.length c0_3)] 24 (0, 0))) ∧ Aside0 (w'.heap[gb520]? = some (.cells #[(.slice A1_0 l1_0.length c1_0), (.slice A1_1 l1_1.length c1_1)] 48 (0, 0))) ∧ Aside0 (w'.heap[gb522]? = some (.cells #[u523000, .int .i64 x523001_1] 66 (0, 0))) ∧ Aside0 (Below w.heap.size w w'))
 case atStart => exact ⟨(0), (([] : List Int)), (0), (.slice none 0 0), rs_, H', ⟨Nat.le_refl _⟩, ⟨Kd.V_nil _ _ _ _ _⟩, ⟨bk_ BK519⟩, ⟨bk_ BK520⟩, ⟨bk_ BK522⟩, ⟨bl_ HB⟩⟩
 case round => (
 clear H'
 try clear c4
 try clear hcz13_0
 try clear hcz13_1
 try clear hcz8_0
 try clear hcz8_1
 try clear hcz8_2
 try clear hcz8_3
 try clear hcz9_0
 try clear hcz9_1
 try clear hfz13_0
 try clear hfz13_1
 try clear hfz8_0
 try clear hfz8_1
 try clear hfz8_2
 try clear hfz8_3
 try clear hfz9_0
 try clear hfz9_1
 obtain ⟨x22_1, x523000_1, x523001_1, u523000, rfl, HA, HK1, HO_523000, BK519, BK520, BK522, HB⟩ := hrel
 cases gk with
 | zero => exact absurd HA.out (by simp [vpack_Write.l0])
 | succ k1 => (
 have H := HA.out
 clear HA
 simp only [vpack_Write.l0] at H
 by_cases c14 : x22_1 < (l1_0.length : Int)
 {
 rw [if_pos c14] at H
 have c14b0 : decide (x22_1 < (l1_0.length : Int)) = true := decide_eq_true c14
 clear c14
 by_cases c15 : 0 ≤ x22_1
 {
 rw [if_pos c15] at H
 have c15b0 : decide (0 ≤ x22_1) = true := decide_eq_true c15
 clear c15
 by_cases c16 : x22_1 < (l1_0.length : Int)
 {
 rw [if_pos c16] at H
 have c16b0 : decide (x22_1 < (l1_0.length : Int)) = true := decide_eq_true c16
 clear c16
 by_cases c17 : ((rd_L1 l1_0 x22_1).length : Int) = 0
 {
 rw [if_pos c17] at H
 have c17b0 : (((rd_L1 l1_0 x22_1).length : Int) == 0) = true := beq_iff_eq.mpr c17
 have c17b1 : (((rd_L1 l1_0 x22_1).length : Int) != 0) = false := bne_eq_false_iff_eq.mpr c17
 clear c17
 obtain ⟨⟨t524, t527⟩, A18, H⟩ := ob_ H
 (try dsimp only at H)
 have H' := Aside0.mk H
 clear H
 have p523 : 0 ≤ (x22_1 : Int) := of_decide_eq_true am_
 have q523 : x22_1 < (l1_0.length : Int) := of_decide_eq_true am_
 obtain ⟨ad523, A523_0, c523_0, e523, hx523_0, hl523_0, hi523_0⟩ := at_L1 HR1_0.out x22_1 p523 q523
 cases e523
 replace hx523_0 := (HB.out.cell (World.block_lt_of_cell? w _ hx523_0)).trans hx523_0
 have HR523_0 := Aside0.mk hi523_0
 have HC523_0 := Aside0.mk hl523_0
 clear hi523_0 hl523_0
 replace p523 := eq_true p523
 replace q523 := eq_true q523
 have hnb19 := NB522_519.out
 have hnc19 := NB519_522.out
 have hnb20 := NB522_520.out
 have hnc20 := NB520_522.out
 obtain ⟨hcz21_0, hcz21_1, hfz21_0, hfz21_1⟩ := e2_ BK522
 obtain ⟨Ao22, co22, eo22⟩ := Kd.V_slice HO_523000.out
 subst eo22
 go_wp2_with (first | ((with_reducible refine gate_callee (f := 50) rfl ?_); refine gL_ (some 30) Try.func50 #[.agg #[.slice Ao22 x523000_1.length co22, .int .i64 x523001_1], .int .u64 0, .int .i64 1] ?_; (with_reducible refine (vpack_put.calls k1 _ _ x523000_1 x523001_1 0 1 t524 t527 _ ?side1 ?side2 A18.out).mono ?_); (case side1 => exact kCt_ (Kd.V_reads' HO_523000.out).2.2); (case side2 => exact (Kd.V_reads' HO_523000.out).2.1); rintro e w23 ⟨v525, rfl, ho0, hb⟩; refine ⟨_, rfl, ?_⟩; replace HO_523000 := Aside0.mk (Kd.V_elder' (kV_ HO_523000) (Kd.R_base ho0) hb); have HO526 := Aside0.mk (Kd.R_lower (Kd.R_newM (M := fun k_ => (w.heap.size ≤ k_)) ho0 (bs_ HB) (fun k_ h_ => h_)) (bs_ HB)); replace BK519 := FB_ BK519 hb; replace BK520 := FB_ BK520 hb; replace BK522 := FB_ BK522 hb; replace HB := BS_ HB hb; (try clear hb); (try clear ho0); obtain ⟨Ao24, co24, eo24⟩ := Kd.R_slice HO526.out; subst eo24; obtain ⟨hcz25_0, hcz25_1, hfz25_0, hfz25_1⟩ := e2_ BK522))
 go_roundg k1
 case measure => have := HK1.out; omega
 case rel => exact ⟨(wrap64 (x22_1 + 1)), (t524), (t527), (.slice Ao24 t524.length co24), rs_, H', ⟨by have := HK1.out; omega⟩, ⟨Kd.R_V (by (with_reducible repeat (first | apply Kd.R_alloc | apply Kd.R_drewN | apply Kd.R_drew)); exact Kd.R_mono (Kd.R_far (p := ⟨gb522, 1, none⟩) (Kd.R_far (p := ⟨gb522, 0, none⟩) (Kd.R_types (Kd.R_types (Kd.R_types (Kd.R_types HO526.out BK519.out (by decide)) BK520.out (by decide)) BK522.out (by decide)) BK522.out (by decide)) (fun _ hk => hk.2) (.slice Ao24 t524.length co24)) (fun _ hk => hk.2) (.int .i64 t527)) (fun _ hk => ⟨hk.1.1.1.1.1, ⟨hk.1.1.1.2, ⟨hk.1.1.2, hk.1.2⟩⟩⟩))⟩, ⟨bk_ BK519⟩, ⟨bk_ BK520⟩, ⟨bp_ BK522⟩, ⟨bl_ HB⟩⟩}
 {
 rw [if_neg c17] at H
 have c17b0 : (((rd_L1 l1_0 x22_1).length : Int) == 0) = false := beq_eq_false_iff_ne.mpr c17
 have c17b1 : (((rd_L1 l1_0 x22_1).length : Int) != 0) = true := bne_iff_ne.mpr c17
 have c17b2 : ¬ ((rd_L1 l1_0 x22_1) = []) := fun h_ => c17 (by rw [h_]; rfl)
 obtain ⟨⟨t528, t531⟩, A26, H⟩ := ob_ H
 (try dsimp only at H)
 have H' := Aside0.mk H
 clear H
 have p523 : 0 ≤ (x22_1 : Int) := of_decide_eq_true am_
 have q523 : x22_1 < (l1_0.length : Int) := of_decide_eq_true am_
 obtain ⟨ad523, A523_0, c523_0, e523, hx523_0, hl523_0, hi523_0⟩ := at_L1 HR1_0.out x22_1 p523 q523
 cases e523
 replace hx523_0 := (HB.out.cell (World.block_lt_of_cell? w _ hx523_0)).trans hx523_0
 have HR523_0 := Aside0.mk hi523_0
 have HC523_0 := Aside0.mk hl523_0
 clear hi523_0 hl523_0
 replace p523 := eq_true p523
 replace q523 := eq_true q523
 have hnb27 := NB522_519.out
 have hnc27 := NB519_522.out
 have hnb28 := NB522_520.out
 have hnc28 := NB520_522.out
 obtain ⟨hcz29_0, hcz29_1, hfz29_0, hfz29_1⟩ := e2_ BK522
 obtain ⟨Ao30, co30, eo30⟩ := Kd.V_slice HO_523000.out
 subst eo30
 go_wp2_with (first | ((with_reducible refine gate_callee (f := 50) rfl ?_); refine gL_ (some 32) Try.func50 #[.agg #[.slice Ao30 x523000_1.length co30, .int .i64 x523001_1], .int .u64 1, .int .i64 1] ?_; (with_reducible refine (vpack_put.calls k1 _ _ x523000_1 x523001_1 1 1 t528 t531 _ ?side1 ?side2 A26.out).mono ?_); (case side1 => exact kCt_ (Kd.V_reads' HO_523000.out).2.2); (case side2 => exact (Kd.V_reads' HO_523000.out).2.1); rintro e w31 ⟨v529, rfl, ho0, hb⟩; refine ⟨_, rfl, ?_⟩; replace HO_523000 := Aside0.mk (Kd.V_elder' (kV_ HO_523000) (Kd.R_base ho0) hb); have HO530 := Aside0.mk (Kd.R_lower (Kd.R_newM (M := fun k_ => (w.heap.size ≤ k_)) ho0 (bs_ HB) (fun k_ h_ => h_)) (bs_ HB)); replace BK519 := FB_ BK519 hb; replace BK520 := FB_ BK520 hb; replace BK522 := FB_ BK522 hb; replace HB := BS_ HB hb; (try clear hb); (try clear ho0); obtain ⟨Ao32, co32, eo32⟩ := Kd.R_slice HO530.out; subst eo32; obtain ⟨hcz33_0, hcz33_1, hfz33_0, hfz33_1⟩ := e2_ BK522))
 go_loopg [35] k1 (fun kq v35 w' => ∃ (x35_2 : Int) (x523000_2 : List Int) (x523001_2 : Int) (u523000 : Value), v35 = .int .i64 x35_2 ∧ Aside0 (vpack_Write.l1 kq l1_0 (l1_0.length : Int) x22_1 (rd_L1 l1_0 x22_1) ((rd_L1 l1_0 x22_1).length : Int) x35_2 a0_0 a0_1 l0_2 l0_3 l1_0 l1_1 x523000_2 x523001_2 = some (r1, r2)) ∧ Aside0 (kq ≤ k1) ∧ Aside0 (Kd.V (Kd.int .u8) 5 w' w.heap.size (fun k_ => (w.heap.size ≤ k_) ∧ k_ ≠ gb519 ∧ k_ ≠ gb520 ∧ k_ ≠ gb522) u523000 x523000_2) ∧ Aside0 (w'.heap[gb519]? = some (.cells #[.int .i64 a0_0, .int .i64 a0_1, (.slice A0_2 l0_2.length c0_2), (.slice A0_3 l0_3.length c0_3)] 24 (0, 0))) ∧ Aside0 (w'.heap[gb520]? = some (.cells #[(.slice (some ad523) l1_0.length c1_0), (.slice A1_1 l1_1.length c1_1)] 48 (0, 0))) ∧ Aside0 (w'.heap[gb522]? = some (.cells #[u523000, .int .i64 x523001_2] 66 (0, 0))) ∧ Aside0 (Below w.heap.size w w'))
 case atStart => exact ⟨(0), (t528), (t531), (.slice Ao32 t528.length co32), rs_, H', ⟨Nat.le_refl _⟩, ⟨Kd.R_V (by (with_reducible repeat (first | apply Kd.R_alloc | apply Kd.R_drewN | apply Kd.R_drew)); exact Kd.R_mono (Kd.R_far (p := ⟨gb522, 1, none⟩) (Kd.R_far (p := ⟨gb522, 0, none⟩) (Kd.R_types (Kd.R_types (Kd.R_types (Kd.R_types HO530.out BK519.out (by decide)) BK520.out (by decide)) BK522.out (by decide)) BK522.out (by decide)) (fun _ hk => hk.2) (.slice Ao32 t528.length co32)) (fun _ hk => hk.2) (.int .i64 t531)) (fun _ hk => ⟨hk.1.1.1.1.1, ⟨hk.1.1.1.2, ⟨hk.1.1.2, hk.1.2⟩⟩⟩))⟩, ⟨bk_ BK519⟩, ⟨bk_ BK520⟩, ⟨bp_ BK522⟩, ⟨bl_ HB⟩⟩
 case round => (
 clear H'
 try clear c4
 try clear c14
 try clear c14b0
 try clear c15
 try clear c15b0
 try clear c16
 try clear c16b0
 try clear c17
 try clear c17b0
 try clear c17b1
 try clear c17b2
 try clear hcz13_0
 try clear hcz13_1
 try clear hcz29_0
 try clear hcz29_1
 try clear hcz33_0
 try clear hcz33_1
 try clear hcz8_0
 try clear hcz8_1
 try clear hcz8_2
 try clear hcz8_3
 try clear hcz9_0
 try clear hcz9_1
 try clear hfz13_0
 try clear hfz13_1
 try clear hfz29_0
 try clear hfz29_1
 try clear hfz33_0
 try clear hfz33_1
 try clear hfz8_0
 try clear hfz8_1
 try clear hfz8_2
 try clear hfz8_3
 try clear hfz9_0
 try clear hfz9_1
 try clear hx523_0
 try clear p523
 try clear q523
 obtain ⟨x35_2, x523000_2, x523001_2, u523000, rfl, HA, HK2, HO_523000, BK519, BK520, BK522, HB⟩ := hrel
 cases gk with
 | zero => exact absurd HA.out (by simp [vpack_Write.l1])
 | succ k2 => (
 have H := HA.out
 clear HA
 simp only [vpack_Write.l1] at H
 by_cases c34 : x35_2 < ((rd_L1 l1_0 x22_1).length : Int)
 {
 rw [if_pos c34] at H
 have c34b0 : decide (x35_2 < ((rd_L1 l1_0 x22_1).length : Int)) = true := decide_eq_true c34
 clear c34
 by_cases c35 : 0 ≤ x35_2
 {
 rw [if_pos c35] at H
 have c35b0 : decide (0 ≤ x35_2) = true := decide_eq_true c35
 clear c35
 by_cases c36 : x35_2 < ((rd_L1 l1_0 x22_1).length : Int)
 {
 rw [if_pos c36] at H
 have c36b0 : decide (x35_2 < ((rd_L1 l1_0 x22_1).length : Int)) = true := decide_eq_true c36
 clear c36
 obtain ⟨⟨t533, t536, t537⟩, A37, H⟩ := ob_ H
 (try dsimp only at H)
 have H' := Aside0.mk H
 clear H
 have p532 : 0 ≤ (x35_2 : Int) := of_decide_eq_true am_
 have q532 : x35_2 < ((rd_L1 l1_0 x22_1).length : Int) := of_decide_eq_true am_
 obtain ⟨ad532, e532, hx532_0⟩ := Kd.at_int HR523_0.out x35_2 p532 q532
 cases e532
 replace hx532_0 := (HB.out.cell (World.block_lt_of_cell? w _ hx532_0)).trans hx532_0
 replace p532 := eq_true p532
 replace q532 := eq_true q532
 have hnb38 := NB522_519.out
 have hnc38 := NB519_522.out
 have hnb39 := NB522_520.out
 have hnc39 := NB520_522.out
 obtain ⟨hcz40_0, hcz40_1, hfz40_0, hfz40_1⟩ := e2_ BK522
 have hnb41 := NB519_520.out
 have hnc41 := NB520_519.out
 obtain ⟨hcz42_0, hcz42_1, hcz42_2, hcz42_3, hfz42_0, hfz42_1, hfz42_2, hfz42_3⟩ := e4_ BK519
 obtain ⟨Ao43, co43, eo43⟩ := Kd.V_slice HO_523000.out
 subst eo43
 go_wp2_with (first | ((with_reducible refine gate_callee (f := 51) rfl ?_); refine gL_ (some 44) Try.func51 #[.agg #[.slice Ao43 x523000_2.length co43, .int .i64 x523001_2], .slice A0_2 l0_2.length c0_2, .int .i64 (rd (rd_L1 l1_0 x22_1) x35_2)] ?_; (with_reducible refine (huff_Write.calls k2 (fun k_ => ((w.heap.size ≤ k_) ∧ (k_ ≠ gb519 ∧ (k_ ≠ gb520 ∧ k_ ≠ gb522)))) _ _ x523000_2 x523001_2 _ _ l0_2 (rd (rd_L1 l1_0 x22_1) x35_2) t533 t536 t537 _ ?side1 ?side2 ?side3 A37.out).mono ?_); (case side1 => exact HO_523000.out); (case side2 => exact kC_ HR0_2 HB); (case side3 => exact HC0_2.out); rintro e w44 ⟨v534, rfl, ho0, hb⟩; refine ⟨_, rfl, ?_⟩; replace HO_523000 := FV_ HO_523000 hb; have HO535 := Aside0.mk (Kd.V_lower (Kd.V_mono (ok' := fun k_ => (w.heap.size ≤ k_) ∧ k_ ≠ gb519 ∧ k_ ≠ gb520 ∧ k_ ≠ gb522) ho0 (fun k_ hk_ => ⟨Or.elim hk_ (fun hs_ => hs_.1) (fun hn_ => (Nat.le_trans (bs_ HB) hn_)), Or.elim hk_ (fun hs_ => hs_.2.1) (fun hn_ => (Kd.freshB (g := gb519) (o := .cells #[.int .i64 a0_0, .int .i64 a0_1, .slice A0_2 l0_2.length c0_2, .slice A0_3 l0_3.length c0_3] 24 (0, 0)) (bk_ BK519) k_ hn_)), Or.elim hk_ (fun hs_ => hs_.2.2.1) (fun hn_ => (Kd.freshB (g := gb520) (o := .cells #[.slice (some ad523) l1_0.length c1_0, .slice A1_1 l1_1.length c1_1] 48 (0, 0)) (bk_ BK520) k_ hn_)), Or.elim hk_ (fun hs_ => hs_.2.2.2) (fun hn_ => (Kd.freshB (g := gb522) (o := .cells #[.slice Ao43 x523000_2.length co43, .int .i64 x523001_2] 66 (0, 0)) (bk_ BK522) k_ hn_))⟩)) (bs_ HB)); replace BK519 := FB_ BK519 hb; replace BK520 := FB_ BK520 hb; replace BK522 := FB_ BK522 hb; replace HB := BS_ HB hb; (try clear hb); (try clear ho0); obtain ⟨Ao45, co45, eo45⟩ := Kd.V_slice HO535.out; subst eo45; obtain ⟨hcz46_0, hcz46_1, hfz46_0, hfz46_1⟩ := e2_ BK522))
 go_roundg k2
 case measure => have := HK1.out; have := HK2.out; omega
 case rel => exact ⟨(wrap64 (x35_2 + 1)), (t533), (t536), (.slice Ao45 t533.length co45), rs_, H', ⟨by have := HK1.out; have := HK2.out; omega⟩, ⟨by (with_reducible repeat (first | apply Kd.V_alloc | apply Kd.V_drewN | apply Kd.V_drew)); exact Kd.V_mono (Kd.V_far (p := ⟨gb522, 1, none⟩) (Kd.V_far (p := ⟨gb522, 0, none⟩) (Kd.V_mono HO535.out (fun k_ hk => (⟨hk, hk.2.2.2⟩ : _ ∧ k_ ≠ gb522))) (fun _ hk => hk.2) (.slice Ao45 t533.length co45)) (fun _ hk => hk.2) (.int .i64 t536)) (fun _ hk => ⟨hk.1.1, ⟨hk.1.2.1, ⟨hk.1.2.2.1, hk.1.2.2.2⟩⟩⟩)⟩, ⟨bk_ BK519⟩, ⟨bk_ BK520⟩, ⟨bp_ BK522⟩, ⟨bl_ HB⟩⟩}
 {
 rw [if_neg c36] at H
 exact absurd H (by simp)}}
 {
 rw [if_neg c35] at H
 exact absurd H (by simp)}}
 {
 rw [if_neg c34] at H
 have c34b0 : decide (x35_2 < ((rd_L1 l1_0 x22_1).length : Int)) = false := decide_eq_false c34
 clear c34
 have H' := Aside0.mk H
 clear H
 go_wp2
 go_roundg k2
 case measure => have := HK1.out; have := HK2.out; omega
 case rel => exact ⟨(wrap64 (x22_1 + 1)), (x523000_2), (x523001_2), (u523000), rs_, H', ⟨by have := HK1.out; have := HK2.out; omega⟩, ⟨kV_ HO_523000⟩, ⟨bk_ BK519⟩, ⟨bk_ BK520⟩, ⟨bk_ BK522⟩, ⟨bl_ HB⟩⟩}))}}
 {
 rw [if_neg c16] at H
 exact absurd H (by simp)}}
 {
 rw [if_neg c15] at H
 exact absurd H (by simp)}}
 {
 rw [if_neg c14] at H
 have c14b0 : decide (x22_1 < (l1_0.length : Int)) = false := decide_eq_false c14
 clear c14
 have H' := Aside0.mk H
 clear H
 have hnb47 := NB520_519.out
 have hnc47 := NB519_520.out
 have hnb48 := NB520_522.out
 have hnc48 := NB522_520.out
 obtain ⟨hcz49_0, hcz49_1, hfz49_0, hfz49_1⟩ := e2_ BK520
 go_wp2
 go_loopg [52] k1 (fun kq v52 w' => ∃ (x52_2 : Int) (x523000_2 : List Int) (x523001_2 : Int) (u523000 : Value), v52 = .int .i64 x52_2 ∧ Aside0 (vpack_Write.l2 kq l1_1 (l1_1.length : Int) x52_2 a0_0 a0_1 l0_2 l0_3 x523000_2 x523001_2 = some (r1, r2)) ∧ Aside0 (kq ≤ k1) ∧ Aside0 (Kd.V (Kd.int .u8) 5 w' w.heap.size (fun k_ => (w.heap.size ≤ k_) ∧ k_ ≠ gb519 ∧ k_ ≠ gb520 ∧ k_ ≠ gb522) u523000 x523000_2) ∧ Aside0 (w'.heap[gb519]? = some (.cells #[.int .i64 a0_0, .int .i64 a0_1, (.slice A0_2 l0_2.length c0_2), (.slice A0_3 l0_3.length c0_3)] 24 (0, 0))) ∧ Aside0 (w'.heap[gb520]? = some (.cells #[(.slice A1_0 l1_0.length c1_0), (.slice A1_1 l1_1.length c1_1)] 48 (0, 0))) ∧ Aside0 (w'.heap[gb522]? = some (.cells #[u523000, .int .i64 x523001_2] 66 (0, 0))) ∧ Aside0 (Below w.heap.size w w'))
 case atStart => exact ⟨(0), (x523000_1), (x523001_1), (u523000), rs_, H', ⟨Nat.le_refl _⟩, ⟨kV_ HO_523000⟩, ⟨bk_ BK519⟩, ⟨bk_ BK520⟩, ⟨bk_ BK522⟩, ⟨bl_ HB⟩⟩
 case round => (
 clear H'
 try clear c4
 try clear c14
 try clear c14b0
 try clear hcz13_0
 try clear hcz13_1
 try clear hcz49_0
 try clear hcz49_1
 try clear hcz8_0
 try clear hcz8_1
 try clear hcz8_2
 try clear hcz8_3
 try clear hcz9_0
 try clear hcz9_1
 try clear hfz13_0
 try clear hfz13_1
 try clear hfz49_0
 try clear hfz49_1
 try clear hfz8_0
 try clear hfz8_1
 try clear hfz8_2
 try clear hfz8_3
 try clear hfz9_0
 try clear hfz9_1
 obtain ⟨x52_2, x523000_2, x523001_2, u523000, rfl, HA, HK2, HO_523000, BK519, BK520, BK522, HB⟩ := hrel
 cases gk with
 | zero => exact absurd HA.out (by simp [vpack_Write.l2])
 | succ k2 => (
 have H := HA.out
 clear HA
 simp only [vpack_Write.l2] at H
 by_cases c50 : x52_2 < (l1_1.length : Int)
 {
 rw [if_pos c50] at H
 have c50b0 : decide (x52_2 < (l1_1.length : Int)) = true := decide_eq_true c50
 clear c50
 by_cases c51 : 0 ≤ x52_2
 {
 rw [if_pos c51] at H
 have c51b0 : decide (0 ≤ x52_2) = true := decide_eq_true c51
 clear c51
 by_cases c52 : x52_2 < (l1_1.length : Int)
 {
 rw [if_pos c52] at H
 have c52b0 : decide (x52_2 < (l1_1.length : Int)) = true := decide_eq_true c52
 clear c52
 have H' := Aside0.mk H
 clear H
 have p538 : 0 ≤ (x52_2 : Int) := of_decide_eq_true am_
 have q538 : x52_2 < (l1_1.length : Int) := of_decide_eq_true am_
 obtain ⟨ad538, A538_0, c538_0, e538, hx538_0, hl538_0, hi538_0⟩ := at_L5 HR1_1.out x52_2 p538 q538
 cases e538
 replace hx538_0 := (HB.out.cell (World.block_lt_of_cell? w _ hx538_0)).trans hx538_0
 have HR538_0 := Aside0.mk hi538_0
 have HC538_0 := Aside0.mk hl538_0
 clear hi538_0 hl538_0
 replace p538 := eq_true p538
 replace q538 := eq_true q538
 go_wp2
 go_loopg [58] k2 (fun kq v58 w' => ∃ (x58_3 : Int) (x523000_3 : List Int) (x523001_3 : Int) (u523000 : Value), v58 = .int .i64 x58_3 ∧ Aside0 (vpack_Write.l3 kq l1_1 (l1_1.length : Int) x52_2 (rd_L5 l1_1 x52_2) ((rd_L5 l1_1 x52_2).length : Int) x58_3 a0_0 a0_1 l0_2 l0_3 x523000_3 x523001_3 = some (r1, r2)) ∧ Aside0 (kq ≤ k2) ∧ Aside0 (Kd.V (Kd.int .u8) 5 w' w.heap.size (fun k_ => (w.heap.size ≤ k_) ∧ k_ ≠ gb519 ∧ k_ ≠ gb520 ∧ k_ ≠ gb522) u523000 x523000_3) ∧ Aside0 (w'.heap[gb519]? = some (.cells #[.int .i64 a0_0, .int .i64 a0_1, (.slice A0_2 l0_2.length c0_2), (.slice A0_3 l0_3.length c0_3)] 24 (0, 0))) ∧ Aside0 (w'.heap[gb520]? = some (.cells #[(.slice A1_0 l1_0.length c1_0), (.slice (some ad538) l1_1.length c1_1)] 48 (0, 0))) ∧ Aside0 (w'.heap[gb522]? = some (.cells #[u523000, .int .i64 x523001_3] 66 (0, 0))) ∧ Aside0 (Below w.heap.size w w'))
 case atStart => exact ⟨(0), (x523000_2), (x523001_2), (u523000), rs_, H', ⟨Nat.le_refl _⟩, ⟨kV_ HO_523000⟩, ⟨bk_ BK519⟩, ⟨bk_ BK520⟩, ⟨bk_ BK522⟩, ⟨bl_ HB⟩⟩
 case round => (
 clear H'
 try clear c4
 try clear c14
 try clear c14b0
 try clear c50
 try clear c50b0
 try clear c51
 try clear c51b0
 try clear c52
 try clear c52b0
 try clear hcz13_0
 try clear hcz13_1
 try clear hcz49_0
 try clear hcz49_1
 try clear hcz8_0
 try clear hcz8_1
 try clear hcz8_2
 try clear hcz8_3
 try clear hcz9_0
 try clear hcz9_1
 try clear hfz13_0
 try clear hfz13_1
 try clear hfz49_0
 try clear hfz49_1
 try clear hfz8_0
 try clear hfz8_1
 try clear hfz8_2
 try clear hfz8_3
 try clear hfz9_0
 try clear hfz9_1
 try clear hx538_0
 try clear p538
 try clear q538
 obtain ⟨x58_3, x523000_3, x523001_3, u523000, rfl, HA, HK3, HO_523000, BK519, BK520, BK522, HB⟩ := hrel
 cases gk with
 | zero => exact absurd HA.out (by simp [vpack_Write.l3])
 | succ k3 => (
 have H := HA.out
 clear HA
 simp only [vpack_Write.l3] at H
 by_cases c53 : x58_3 < ((rd_L5 l1_1 x52_2).length : Int)
 {
 rw [if_pos c53] at H
 have c53b0 : decide (x58_3 < ((rd_L5 l1_1 x52_2).length : Int)) = true := decide_eq_true c53
 clear c53
 by_cases c54 : 0 ≤ x58_3
 {
 rw [if_pos c54] at H
 have c54b0 : decide (0 ≤ x58_3) = true := decide_eq_true c54
 clear c54
 by_cases c55 : x58_3 < ((rd_L5 l1_1 x52_2).length : Int)
 {
 rw [if_pos c55] at H
 have c55b0 : decide (x58_3 < ((rd_L5 l1_1 x52_2).length : Int)) = true := decide_eq_true c55
 clear c55
 obtain ⟨⟨t540, t543⟩, A56, H⟩ := ob_ H
 (try dsimp only at H)
 have H' := Aside0.mk H
 clear H
 have p539 : 0 ≤ (x58_3 : Int) := of_decide_eq_true am_
 have q539 : x58_3 < ((rd_L5 l1_1 x52_2).length : Int) := of_decide_eq_true am_
 obtain ⟨ad539, e539, hx539_0⟩ := Kd.at_int HR538_0.out x58_3 p539 q539
 cases e539
 replace hx539_0 := (HB.out.cell (World.block_lt_of_cell? w _ hx539_0)).trans hx539_0
 replace p539 := eq_true p539
 replace q539 := eq_true q539
 have hnb57 := NB522_519.out
 have hnc57 := NB519_522.out
 have hnb58 := NB522_520.out
 have hnc58 := NB520_522.out
 obtain ⟨hcz59_0, hcz59_1, hfz59_0, hfz59_1⟩ := e2_ BK522
 have hnb60 := NB519_520.out
 have hnc60 := NB520_519.out
 obtain ⟨hcz61_0, hcz61_1, hcz61_2, hcz61_3, hfz61_0, hfz61_1, hfz61_2, hfz61_3⟩ := e4_ BK519
 obtain ⟨Ao62, co62, eo62⟩ := Kd.V_slice HO_523000.out
 subst eo62
 go_wp2_with (first | ((with_reducible refine gate_callee (f := 52) rfl ?_); refine gL_ (some 66) Try.func52 #[.agg #[.slice Ao62 x523000_3.length co62, .int .i64 x523001_3], .slice A0_3 l0_3.length c0_3, .int .i64 (rd (rd_L5 l1_1 x52_2) x58_3)] ?_; (with_reducible refine (vpack_residue.calls k3 (fun k_ => ((w.heap.size ≤ k_) ∧ (k_ ≠ gb519 ∧ (k_ ≠ gb520 ∧ k_ ≠ gb522)))) _ _ x523000_3 x523001_3 _ _ l0_3 (rd (rd_L5 l1_1 x52_2) x58_3) t540 t543 _ ?side1 ?side2 ?side3 A56.out).mono ?_); (case side1 => exact HO_523000.out); (case side2 => exact kC_ HR0_3 HB); (case side3 => exact HC0_3.out); rintro e w63 ⟨v541, rfl, ho0, hb⟩; refine ⟨_, rfl, ?_⟩; replace HO_523000 := FV_ HO_523000 hb; have HO542 := Aside0.mk (Kd.V_lower (Kd.V_mono (ok' := fun k_ => (w.heap.size ≤ k_) ∧ k_ ≠ gb519 ∧ k_ ≠ gb520 ∧ k_ ≠ gb522) ho0 (fun k_ hk_ => ⟨Or.elim hk_ (fun hs_ => hs_.1) (fun hn_ => (Nat.le_trans (bs_ HB) hn_)), Or.elim hk_ (fun hs_ => hs_.2.1) (fun hn_ => (Kd.freshB (g := gb519) (o := .cells #[.int .i64 a0_0, .int .i64 a0_1, .slice A0_2 l0_2.length c0_2, .slice A0_3 l0_3.length c0_3] 24 (0, 0)) (bk_ BK519) k_ hn_)), Or.elim hk_ (fun hs_ => hs_.2.2.1) (fun hn_ => (Kd.freshB (g := gb520) (o := .cells #[.slice A1_0 l1_0.length c1_0, .slice (some ad538) l1_1.length c1_1] 48 (0, 0)) (bk_ BK520) k_ hn_)), Or.elim hk_ (fun hs_ => hs_.2.2.2) (fun hn_ => (Kd.freshB (g := gb522) (o := .cells #[.slice Ao62 x523000_3.length co62, .int .i64 x523001_3] 66 (0, 0)) (bk_ BK522) k_ hn_))⟩)) (bs_ HB)); replace BK519 := FB_ BK519 hb; replace BK520 := FB_ BK520 hb; replace BK522 := FB_ BK522 hb; replace HB := BS_ HB hb; (try clear hb); (try clear ho0); obtain ⟨Ao64, co64, eo64⟩ := Kd.V_slice HO542.out; subst eo64; obtain ⟨hcz65_0, hcz65_1, hfz65_0, hfz65_1⟩ := e2_ BK522))
 go_roundg k3
 case measure => have := HK1.out; have := HK2.out; have := HK3.out; omega
 case rel => exact ⟨(wrap64 (x58_3 + 1)), (t540), (t543), (.slice Ao64 t540.length co64), rs_, H', ⟨by have := HK1.out; have := HK2.out; have := HK3.out; omega⟩, ⟨by (with_reducible repeat (first | apply Kd.V_alloc | apply Kd.V_drewN | apply Kd.V_drew)); exact Kd.V_mono (Kd.V_far (p := ⟨gb522, 1, none⟩) (Kd.V_far (p := ⟨gb522, 0, none⟩) (Kd.V_mono HO542.out (fun k_ hk => (⟨hk, hk.2.2.2⟩ : _ ∧ k_ ≠ gb522))) (fun _ hk => hk.2) (.slice Ao64 t540.length co64)) (fun _ hk => hk.2) (.int .i64 t543)) (fun _ hk => ⟨hk.1.1, ⟨hk.1.2.1, ⟨hk.1.2.2.1, hk.1.2.2.2⟩⟩⟩)⟩, ⟨bk_ BK519⟩, ⟨bk_ BK520⟩, ⟨bp_ BK522⟩, ⟨bl_ HB⟩⟩}
 {
 rw [if_neg c55] at H
 exact absurd H (by simp)}}
 {
 rw [if_neg c54] at H
 exact absurd H (by simp)}}
 {
 rw [if_neg c53] at H
 have c53b0 : decide (x58_3 < ((rd_L5 l1_1 x52_2).length : Int)) = false := decide_eq_false c53
 clear c53
 have H' := Aside0.mk H
 clear H
 go_wp2
 go_roundg k3
 case measure => have := HK1.out; have := HK2.out; have := HK3.out; omega
 case rel => exact ⟨(wrap64 (x52_2 + 1)), (x523000_3), (x523001_3), (u523000), rs_, H', ⟨by have := HK1.out; have := HK2.out; have := HK3.out; omega⟩, ⟨kV_ HO_523000⟩, ⟨bk_ BK519⟩, ⟨bk_ BK520⟩, ⟨bk_ BK522⟩, ⟨bl_ HB⟩⟩}))}
 {
 rw [if_neg c52] at H
 exact absurd H (by simp)}}
 {
 rw [if_neg c51] at H
 exact absurd H (by simp)}}
 {
 rw [if_neg c50] at H
 have c50b0 : decide (x52_2 < (l1_1.length : Int)) = false := decide_eq_false c50
 clear c50
 simp only [Option.some.injEq, Prod.mk.injEq] at H
 obtain ⟨rfl, rfl⟩ := H
 have hnb66 := NB522_519.out
 have hnc66 := NB519_522.out
 have hnb67 := NB522_520.out
 have hnc67 := NB520_522.out
 obtain ⟨hcz68_0, hcz68_1, hfz68_0, hfz68_1⟩ := e2_ BK522
 go_wp2
 go_ret2
 exact ⟨_, by first | rfl | (simp [errW_none, errW_some] <;> rfl) | (simp [*, errW_none, errW_some] <;> rfl), by (with_reducible repeat (first | apply Kd.V_alloc | apply Kd.V_drewN | apply Kd.V_drew)); exact Kd.V_mono HO_523000.out (fun _ hk => hk.1), bl_ HB⟩}))}))}
 {
 replace c4 := Bool.eq_false_iff.mpr c4
 subst c4
 rw [if_neg (show ¬ (false = true) by decide)] at H
 simp only [Option.some.injEq, Prod.mk.injEq] at H
 obtain ⟨rfl, rfl⟩ := H
 go_enter Try.func32, Try.ntmps32
 go_wp2_with (first | ((with_reducible refine gate_dst (N := 2) rfl ?_); refine bx_ HB 2 #[.int .i64 a0_0, .int .i64 a0_1, .slice A0_2 l0_2.length c0_2, .slice A0_3 l0_3.length c0_3] 24 ?_; clear HB; intro gb519 hg w69 hb BK519 GE519 HB; have GW519 := GE519; clear hb hg) | ((with_reducible refine gate_dst (N := 3) rfl ?_); refine bx_ HB 3 #[.slice A1_0 l1_0.length c1_0, .slice A1_1 l1_1.length c1_1] 48 ?_; clear HB; intro gb520 hg w70 hb BK520 GE520 HB; have GW520 := GE520; obtain ⟨NB519_520, NB520_519⟩ := NN_ BK519 hg; replace BK519 := FB_ BK519 hb; clear hb hg; have hnb71 := NB519_520.out; have hnc71 := NB520_519.out; obtain ⟨hcz72_0, hcz72_1, hcz72_2, hcz72_3, hfz72_0, hfz72_1, hfz72_2, hfz72_3⟩ := e4_ BK519; obtain ⟨hcz73_0, hcz73_1, hfz73_0, hfz73_1⟩ := e2_ BK520) | ((with_reducible refine gate_callee (f := 29) rfl ?_); refine gL_ (some 17) Try.func29 #[.agg #[.int .i64 a0_0, .int .i64 a0_1, .slice A0_2 l0_2.length c0_2, .slice A0_3 l0_3.length c0_3], .agg #[.slice A1_0 l1_0.length c1_0, .slice A1_1 l1_1.length c1_1]] ?_; (with_reducible refine (vpack_Right.calls k a0_0 a0_1 _ _ l0_2 _ _ l0_3 _ _ l1_0 _ _ l1_1 false _ ?side1 ?side2 ?side3 ?side4 ?side5 ?side6 ?side7 ?side8 A3.out).mono ?_); (case side1 => exact kC_ HR0_2 HB); (case side2 => exact HC0_2.out); (case side3 => exact kC_ HR0_3 HB); (case side4 => exact HC0_3.out); (case side5 => exact kC_ HR1_0 HB); (case side6 => exact HC1_0.out); (case side7 => exact kC_ HR1_1 HB); (case side8 => exact HC1_1.out); rintro e w74 ⟨rfl, hb⟩; refine ⟨_, rfl, ?_⟩; replace BK519 := FB_ BK519 hb; replace BK520 := FB_ BK520 hb; replace HB := BS_ HB hb; (try clear hb)))
 go_ret2
 exact ⟨_, by first | rfl | (simp [errW_none, errW_some] <;> rfl) | (simp [*, errW_none, errW_some] <;> rfl), Kd.V_nil _ _ _ _ _, bl_ HB⟩}
end Go.Proofs.Ytpdfdaoohknfoaa.P
namespace Go.Proofs.Ytpdfdaoohknfoaa.P
open Go.RowKit Go.Proofs.YtpdfdaoohknfoaaW.PrintWords Go.Proofs.YtpdfdaoohknfoaaW.PrintLast Go.Proofs.YtpdfdaoohknfoaaW.PrintMore
attribute [local go_sem] max2_int min2_int max_two min_two max_three min_three max_four min_four   -- for this text's walks alone
set_option linter.unusedVariables false
set_option linter.unusedSimpArgs false

def bits_Left.f (l0_0 : List Int) (a0_1 : Int) : Option (Int) := if a0_1 < 0 then (some 0) else (if a0_1 > (wrap64 (8 * (l0_0.length : Int))) then (some 0) else (some (wrap64 ((wrap64 (8 * (l0_0.length : Int))) - a0_1))))
set_option maxHeartbeats 8000000 in
set_option maxRecDepth 100000 in
theorem bits_Left.calls (A0_0 : Option Addr) (c0_0 : Nat) (l0_0 : List Int) (a0_1 : Int) (r : Int) (w : World) (hr0_0 : Kd.C (Kd.int .u8) w A0_0 l0_0.length l0_0) (hc0_0 : l0_0.length ≤ c0_0) (h : bits_Left.f l0_0 a0_1 = some r) :
    Calls Try.prog 46 #[.agg #[.slice A0_0 l0_0.length c0_0, .int .i64 a0_1]] w fun e w' => e = .returned (.int .i64 r) ∧ Below w.heap.size w w' := by
 have hu77 := Try.underlying77
 have HR0_0 := Aside0.mk hr0_0
 have HC0_0 := Aside0.mk hc0_0
 clear hr0_0 hc0_0
 have HB := Aside0.mk (Below.refl w.heap.size w)
 have H : (if a0_1 < 0 then (some 0) else (if a0_1 > (wrap64 (8 * (l0_0.length : Int))) then (some 0) else (some (wrap64 ((wrap64 (8 * (l0_0.length : Int))) - a0_1))))) = some r := h
 clear h
 by_cases c2 : a0_1 < 0
 {
 rw [if_pos c2] at H
 have c2b0 : decide (a0_1 < 0) = true := decide_eq_true c2
 clear c2
 obtain rfl := Option.some.inj H
 go_enter Try.func46, Try.ntmps46
 go_wp2_with (first | ((with_reducible refine gate_dst (N := 1) rfl ?_); (try (refine gate_guard (by rfl) ?_; dsimp only)); refine bx_ HB 1 #[.slice A0_0 l0_0.length c0_0, .int .i64 a0_1] 77 ?_; clear HB; intro gb121 hg w3 hb BK121 GE121 HB; have GW121 := GE121; clear hb hg; obtain ⟨hcz4_0, hcz4_1, hfz4_0, hfz4_1⟩ := e2_ BK121))
 go_ret
 exact ⟨by first | rfl | (simp [errW_none, errW_some] <;> rfl) | (simp [*, errW_none, errW_some] <;> rfl), bl_ HB⟩}
 {
 rw [if_neg c2] at H
 have c2b0 : decide (a0_1 < 0) = false := decide_eq_false c2
 clear c2
 by_cases c5 : a0_1 > (wrap64 (8 * (l0_0.length : Int)))
 {
 rw [if_pos c5] at H
 have c5b0 : decide ((wrap64 (8 * (l0_0.length : Int))) < a0_1) = true := decide_eq_true c5
 clear c5
 obtain rfl := Option.some.inj H
 go_enter Try.func46, Try.ntmps46
 go_wp2_with (first | ((with_reducible refine gate_dst (N := 1) rfl ?_); (try (refine gate_guard (by rfl) ?_; dsimp only)); refine bx_ HB 1 #[.slice A0_0 l0_0.length c0_0, .int .i64 a0_1] 77 ?_; clear HB; intro gb121 hg w6 hb BK121 GE121 HB; have GW121 := GE121; clear hb hg; obtain ⟨hcz7_0, hcz7_1, hfz7_0, hfz7_1⟩ := e2_ BK121))
 go_ret
 exact ⟨by first | rfl | (simp [errW_none, errW_some] <;> rfl) | (simp [*, errW_none, errW_some] <;> rfl), bl_ HB⟩}
 {
 rw [if_neg c5] at H
 have c5b0 : decide ((wrap64 (8 * (l0_0.length : Int))) < a0_1) = false := decide_eq_false c5
 clear c5
 obtain rfl := Option.some.inj H
 go_enter Try.func46, Try.ntmps46
 go_wp2_with (first | ((with_reducible refine gate_dst (N := 1) rfl ?_); (try (refine gate_guard (by rfl) ?_; dsimp only)); refine bx_ HB 1 #[.slice A0_0 l0_0.length c0_0, .int .i64 a0_1] 77 ?_; clear HB; intro gb121 hg w8 hb BK121 GE121 HB; have GW121 := GE121; clear hb hg; obtain ⟨hcz9_0, hcz9_1, hfz9_0, hfz9_1⟩ := e2_ BK121))
 go_ret
 exact ⟨by first | rfl | (simp [errW_none, errW_some] <;> rfl) | (simp [*, errW_none, errW_some] <;> rfl), bl_ HB⟩}}
end Go.Proofs.Ytpdfdaoohknfoaa.P
namespace Go.Proofs.Ytpdfdaoohknfoaa.P
open Go.RowKit Go.Proofs.YtpdfdaoohknfoaaW.PrintWords Go.Proofs.YtpdfdaoohknfoaaW.PrintLast Go.Proofs.YtpdfdaoohknfoaaW.PrintMore
attribute [local go_sem] max2_int min2_int max_two min_two max_three min_three max_four min_four   -- for this text's walks alone
set_option linter.unusedVariables false
set_option linter.unusedSimpArgs false

mutual
def bits_Get.j0 : Nat → Int → Bool → List Int → Int → Option (Int × Int × Int)
  | 0, _, _, _, _ => none
  | k + 1, x1, x20, x123000, x123001 => if x20 = true then (some (x123001, 0, 1)) else (if x123001 > (wrap64 (8 * (x123000.length : Int))) then (bits_Get.j1 k x1 true x123000 x123001) else ((bits_Left.f x123000 x123001).bind fun t124 => (bits_Get.j1 k x1 (decide (t124 < x1)) x123000 x123001)))
def bits_Get.j1 : Nat → Int → Bool → List Int → Int → Option (Int × Int × Int)
  | 0, _, _, _, _ => none
  | k + 1, x1, x34, x123000, x123001 => if x34 = true then (some (x123001, 0, 4)) else (bits_Get.l0 k x1 0 x1 0 x123000 x123001)
def bits_Get.l0 : Nat → Int → Int → Int → Int → List Int → Int → Option (Int × Int × Int)
  | 0, _, _, _, _, _, _ => none
  | k + 1, x1, x7, x36, x37, x123000, x123001 => if x37 < x36 then (if 0 ≤ (wrap64 (Int.tdiv (wrap64 (x123001 + x37)) 8)) then (if (wrap64 (Int.tdiv (wrap64 (x123001 + x37)) 8)) < (x123000.length : Int) then (if 0 ≤ (Int.tmod (wrap64 (x123001 + x37)) 8) then (if 0 ≤ x37 then (bits_Get.l0 k x1 (Go.bits .or .u64 x7 (shl .u64 (IntKind.u64.wrap (Go.bits .and .u8 (shr .u8 (rd x123000 (wrap64 (Int.tdiv (wrap64 (x123001 + x37)) 8))) (Int.tmod (wrap64 (x123001 + x37)) 8)) 1)) x37)) x36 (wrap64 (x37 + 1)) x123000 x123001) else (none)) else (none)) else (none)) else (none)) else (some (wrap64 (x123001 + x1), x7, 0))
end
def bits_Get.f (k : Nat) (l0_0 : List Int) (a0_1 : Int) (a1 : Int) : Option (Int × Int × Int) := if a1 < 0 then (bits_Get.j0 k a1 true l0_0 a0_1) else (if a1 > 32 then (bits_Get.j0 k a1 true l0_0 a0_1) else (bits_Get.j0 k a1 (decide (a0_1 < 0)) l0_0 a0_1))
theorem bits_Get.mono_l : ∀ k, (∀ y0 y1 y2 y3, LeO (bits_Get.j0 k y0 y1 y2 y3) (bits_Get.j0 (k + 1) y0 y1 y2 y3)) ∧ (∀ y0 y1 y2 y3, LeO (bits_Get.j1 k y0 y1 y2 y3) (bits_Get.j1 (k + 1) y0 y1 y2 y3)) ∧ (∀ y0 y1 y2 y3 y4 y5, LeO (bits_Get.l0 k y0 y1 y2 y3 y4 y5) (bits_Get.l0 (k + 1) y0 y1 y2 y3 y4 y5))
  | 0 => ⟨fun _ _ _ _ r h => by simp [bits_Get.j0] at h, fun _ _ _ _ r h => by simp [bits_Get.j1] at h, fun _ _ _ _ _ _ r h => by simp [bits_Get.l0] at h⟩
  | k + 1 => by
    obtain ⟨ih0, ih1, ih2⟩ := bits_Get.mono_l k
    refine ⟨?_, ?_, ?_⟩
    all_goals (intros; first | unfold bits_Get.j0 | unfold bits_Get.j1 | unfold bits_Get.l0)
    all_goals with_reducible repeat' first
     | exact ih0 _ _ _ _
     | exact ih1 _ _ _ _
     | exact ih2 _ _ _ _ _ _
     | exact LeO.refl _
     | exact LeO.none _
     | refine LeO.ite ?_ ?_
     | refine LeO.bind ?_ (fun _ => ?_)
theorem bits_Get.mono : ∀ a0 a1 a2 k, LeO (bits_Get.f k a0 a1 a2) (bits_Get.f (k + 1) a0 a1 a2) := by
  intro a0 a1 a2 k
  obtain ⟨ih0, ih1, ih2⟩ := bits_Get.mono_l k
  unfold bits_Get.f
  with_reducible repeat' first
   | exact ih0 _ _ _ _
   | exact ih1 _ _ _ _
   | exact ih2 _ _ _ _ _ _
   | exact LeO.refl _
   | exact LeO.none _
   | refine LeO.ite ?_ ?_
   | refine LeO.bind ?_ (fun _ => ?_)
set_option maxHeartbeats 8000000 in
set_option maxRecDepth 100000 in
theorem bits_Get.calls (k : Nat) (A0_0 : Option Addr) (c0_0 : Nat) (l0_0 : List Int) (a0_1 : Int) (a1 : Int) (r1 : Int) (r2 : Int) (r3 : Int) (w : World) (hr0_0 : Kd.C (Kd.int .u8) w A0_0 l0_0.length l0_0) (hc0_0 : l0_0.length ≤ c0_0) (h : bits_Get.f k l0_0 a0_1 a1 = some (r1, r2, r3)) :
    Calls Try.prog 55 #[.agg #[.slice A0_0 l0_0.length c0_0, .int .i64 a0_1], .int .i64 a1] w fun e w' => e = .returned (.tuple #[.agg #[.slice A0_0 l0_0.length c0_0, .int .i64 r1], .int .u64 r2, .int .i64 r3]) ∧ Below w.heap.size w w' := by
 have hu77 := Try.underlying77
 have HR0_0 := Aside0.mk hr0_0
 have HC0_0 := Aside0.mk hc0_0
 clear hr0_0 hc0_0
 have HB := Aside0.mk (Below.refl w.heap.size w)
 have H : (if a1 < 0 then (bits_Get.j0 k a1 true l0_0 a0_1) else (if a1 > 32 then (bits_Get.j0 k a1 true l0_0 a0_1) else (bits_Get.j0 k a1 (decide (a0_1 < 0)) l0_0 a0_1))) = some (r1, r2, r3) := h
 clear h
 have HC3 := Aside0.mk H
 clear H
 go_enter Try.func55, Try.ntmps55
 go_upto_region 1 with (first | ((with_reducible refine gate_dst (N := 2) rfl ?_); refine bx_ HB 2 #[.slice A0_0 l0_0.length c0_0, .int .i64 a0_1] 77 ?_; clear HB; intro gb122 hg w4 hb BK122 GE122 HB; have GW122 := GE122; clear hb hg) | ((with_reducible refine gate_dst (N := 4) rfl ?_); refine bx_ HB 4 #[.slice none 0 0, .int .i64 0] 77 ?_; clear HB; intro gb123 hg w5 hb BK123 GE123 HB; have GW123 := GE123; obtain ⟨NB122_123, NB123_122⟩ := NN_ BK122 hg; replace BK122 := FB_ BK122 hb; clear hb hg))
 (try simp only [Act.put, List.setIfInBounds_toArray, List.set_cons_zero, List.set_cons_succ])
 go_cut [20] (fun v20 wc => ∃ (kq : Nat) (x20_2 : Bool), v20 = .bool x20_2 ∧ Aside0 (bits_Get.j0 kq a1 x20_2 l0_0 a0_1 = some (r1, r2, r3)) ∧ Aside0 (kq ≤ k) ∧ Aside0 (wc.heap[gb122]? = some (.cells #[(.slice A0_0 l0_0.length c0_0), .int .i64 a0_1] 77 (0, 0))) ∧ Aside0 (wc.heap[gb123]? = some (.cells #[(.slice none 0 0), .int .i64 0] 77 (0, 0))) ∧ Aside0 (Below w.heap.size w wc))
 case first => (
 have H := HC3.out
 clear HC3
 by_cases c6 : a1 < 0
 {
 rw [if_pos c6] at H
 have c6b0 : decide (a1 < 0) = true := decide_eq_true c6
 clear c6
 (first | rw [c6b0] | (simp only [i64_w, i32_w]; rw [c6b0]) | skip)
 have H' := Aside0.mk H
 clear H
 go_wp2
 go_meet
 case rel => exact ⟨_, (true), rs_, H', ⟨ol_⟩, ⟨bk_ BK122⟩, ⟨bk_ BK123⟩, ⟨bl_ HB⟩⟩}
 {
 rw [if_neg c6] at H
 have c6b0 : decide (a1 < 0) = false := decide_eq_false c6
 clear c6
 (first | rw [c6b0] | (simp only [i64_w, i32_w]; rw [c6b0]) | skip)
 by_cases c7 : a1 > 32
 {
 rw [if_pos c7] at H
 have c7b0 : decide (32 < a1) = true := decide_eq_true c7
 clear c7
 have H' := Aside0.mk H
 clear H
 go_wp2
 go_meet
 case rel => exact ⟨_, (true), rs_, H', ⟨ol_⟩, ⟨bk_ BK122⟩, ⟨bk_ BK123⟩, ⟨bl_ HB⟩⟩}
 {
 rw [if_neg c7] at H
 have c7b0 : decide (32 < a1) = false := decide_eq_false c7
 clear c7
 have H' := Aside0.mk H
 clear H
 have hnb8 := NB122_123.out
 have hnc8 := NB123_122.out
 obtain ⟨hcz9_0, hcz9_1, hfz9_0, hfz9_1⟩ := e2_ BK122
 go_wp2
 go_meet
 case rel => exact ⟨_, (decide (a0_1 < 0)), rs_, H', ⟨ol_⟩, ⟨bk_ BK122⟩, ⟨bk_ BK123⟩, ⟨bl_ HB⟩⟩}})
 case rest => (
 clear HC3
 obtain ⟨kq, x20_2, rfl, HA, HJ2, BK122, BK123, HB⟩ := hcut
 cases kq with
 | zero => exact absurd HA.out (by simp [bits_Get.j0])
 | succ kj2 => (
 have H := HA.out
 clear HA
 simp only [bits_Get.j0] at H
 by_cases c10 : x20_2 = true
 {
 subst c10
 rw [if_pos rfl] at H
 simp only [Option.some.injEq, Prod.mk.injEq] at H
 obtain ⟨rfl, rfl, rfl⟩ := H
 have hnb11 := NB122_123.out
 have hnc11 := NB123_122.out
 obtain ⟨hcz12_0, hcz12_1, hfz12_0, hfz12_1⟩ := e2_ BK122
 obtain ⟨hcz13_0, hcz13_1, hfz13_0, hfz13_1⟩ := e2_ BK123
 go_wp2
 refine bodyPost_ret (results_ctt rfl _ _ gb123 77 #[.slice A0_0 l0_0.length c0_0, .int .i64 a0_1] (0, 0) _ rfl (bp_ BK123) Try.underlying77 rfl kf_) rfl ?_
 exact ⟨by first | rfl | (simp [errW_none, errW_some] <;> rfl) | (simp [*, errW_none, errW_some] <;> rfl), bl_ HB⟩}
 {
 replace c10 := Bool.eq_false_iff.mpr c10
 subst c10
 rw [if_neg (show ¬ (false = true) by decide)] at H
 have HC14 := Aside0.mk H
 clear H
 go_upto_region 3 with (fail)
 go_cut [34] (fun v34 wc => ∃ (kq : Nat) (x34_13 : Bool), v34 = .bool x34_13 ∧ Aside0 (bits_Get.j1 kq a1 x34_13 l0_0 a0_1 = some (r1, r2, r3)) ∧ Aside0 (kq ≤ kj2) ∧ Aside0 (wc.heap[gb122]? = some (.cells #[(.slice A0_0 l0_0.length c0_0), .int .i64 a0_1] 77 (0, 0))) ∧ Aside0 (wc.heap[gb123]? = some (.cells #[(.slice none 0 0), .int .i64 0] 77 (0, 0))) ∧ Aside0 (Below w.heap.size w wc))
 case first => (
 have H := HC14.out
 clear HC14
 by_cases c15 : a0_1 > (wrap64 (8 * (l0_0.length : Int)))
 {
 rw [if_pos c15] at H
 have c15b0 : decide ((wrap64 (8 * (l0_0.length : Int))) < a0_1) = true := decide_eq_true c15
 clear c15
 (first | rw [c15b0] | (simp only [i64_w, i32_w]; rw [c15b0]) | skip)
 have H' := Aside0.mk H
 clear H
 have hnb16 := NB122_123.out
 have hnc16 := NB123_122.out
 obtain ⟨hcz17_0, hcz17_1, hfz17_0, hfz17_1⟩ := e2_ BK122
 go_wp2
 go_meet
 case rel => exact ⟨_, (true), rs_, H', ⟨by have := HJ2.out; first | omega | exact Nat.le_refl _⟩, ⟨bk_ BK122⟩, ⟨bk_ BK123⟩, ⟨bl_ HB⟩⟩}
 {
 rw [if_neg c15] at H
 have c15b0 : decide ((wrap64 (8 * (l0_0.length : Int))) < a0_1) = false := decide_eq_false c15
 clear c15
 (first | rw [c15b0] | (simp only [i64_w, i32_w]; rw [c15b0]) | skip)
 obtain ⟨t124, A18, H⟩ := ob_ H
 (try dsimp only at H)
 have H' := Aside0.mk H
 clear H
 have hnb19 := NB122_123.out
 have hnc19 := NB123_122.out
 obtain ⟨hcz20_0, hcz20_1, hfz20_0, hfz20_1⟩ := e2_ BK122
 go_wp2_with (first | (go_at_call 46; (with_reducible refine (bits_Left.calls _ _ l0_0 a0_1 t124 _ ?side1 ?side2 A18.out).mono ?_); (case side1 => exact kC_ HR0_0 HB); (case side2 => exact HC0_0.out); rintro e w21 ⟨rfl, hb⟩; replace BK122 := FB_ BK122 hb; replace BK123 := FB_ BK123 hb; replace HB := BS_ HB hb; (try clear hb)))
 go_meet
 case rel => exact ⟨_, (decide (t124 < a1)), rs_, H', ⟨by have := HJ2.out; first | omega | exact Nat.le_refl _⟩, ⟨bk_ BK122⟩, ⟨bk_ BK123⟩, ⟨bl_ HB⟩⟩})
 case rest => (
 clear HC14
 try clear c10
 obtain ⟨kq, x34_13, rfl, HA, HJ13, BK122, BK123, HB⟩ := hcut
 cases kq with
 | zero => exact absurd HA.out (by simp [bits_Get.j1])
 | succ kj13 => (
 have H := HA.out
 clear HA
 simp only [bits_Get.j1] at H
 by_cases c22 : x34_13 = true
 {
 subst c22
 rw [if_pos rfl] at H
 simp only [Option.some.injEq, Prod.mk.injEq] at H
 obtain ⟨rfl, rfl, rfl⟩ := H
 have hnb23 := NB122_123.out
 have hnc23 := NB123_122.out
 obtain ⟨hcz24_0, hcz24_1, hfz24_0, hfz24_1⟩ := e2_ BK122
 obtain ⟨hcz25_0, hcz25_1, hfz25_0, hfz25_1⟩ := e2_ BK123
 go_wp2
 refine bodyPost_ret (results_ctt rfl _ _ gb123 77 #[.slice A0_0 l0_0.length c0_0, .int .i64 a0_1] (0, 0) _ rfl (bp_ BK123) Try.underlying77 rfl kf_) rfl ?_
 exact ⟨by first | rfl | (simp [errW_none, errW_some] <;> rfl) | (simp [*, errW_none, errW_some] <;> rfl), bl_ HB⟩}
 {
 replace c22 := Bool.eq_false_iff.mpr c22
 subst c22
 rw [if_neg (show ¬ (false = true) by decide)] at H
 have H' := Aside0.mk H
 clear H
 go_wp2
 go_loopg [7, 37] kj13 (fun kq v7 v37 w' => ∃ (x7_3 : Int) (x37_3 : Int), v7 = .int .u64 x7_3 ∧ v37 = .int .i64 x37_3 ∧ Aside0 (bits_Get.l0 kq a1 x7_3 a1 x37_3 l0_0 a0_1 = some (r1, r2, r3)) ∧ Aside0 (kq ≤ kj13) ∧ Aside0 (w'.heap[gb122]? = some (.cells #[(.slice A0_0 l0_0.length c0_0), .int .i64 a0_1] 77 (0, 0))) ∧ Aside0 (w'.heap[gb123]? = some (.cells #[(.slice none 0 0), .int .i64 0] 77 (0, 0))) ∧ Aside0 (Below w.heap.size w w'))
 case atStart => exact ⟨(0), (0), rs_, rs_, H', ⟨Nat.le_refl _⟩, ⟨bk_ BK122⟩, ⟨bk_ BK123⟩, ⟨bl_ HB⟩⟩
 case round => (
 clear H'
 try clear c10
 try clear c22
 obtain ⟨x7_3, x37_3, rfl, rfl, HA, HK3, BK122, BK123, HB⟩ := hrel
 cases gk with
 | zero => exact absurd HA.out (by simp [bits_Get.l0])
 | succ k3 => (
 have H := HA.out
 clear HA
 simp only [bits_Get.l0] at H
 by_cases c26 : x37_3 < a1
 {
 rw [if_pos c26] at H
 have c26b0 : decide (x37_3 < a1) = true := decide_eq_true c26
 clear c26
 obtain ⟨ji27, hji27⟩ : ∃ j_ : Int, (wrap64 (Int.tdiv (wrap64 (a0_1 + x37_3)) 8)) = j_ := ⟨_, rfl⟩
 replace H : (if 0 ≤ (ji27) then (if (ji27) < (l0_0.length : Int) then (if 0 ≤ (Int.tmod (wrap64 (a0_1 + x37_3)) 8) then (if 0 ≤ x37_3 then (bits_Get.l0 k3 a1 (Go.bits .or .u64 x7_3 (shl .u64 (IntKind.u64.wrap (Go.bits .and .u8 (shr .u8 (rd l0_0 (ji27)) (Int.tmod (wrap64 (a0_1 + x37_3)) 8)) 1)) x37_3)) a1 (wrap64 (x37_3 + 1)) l0_0 a0_1) else (none)) else (none)) else (none)) else (none)) = some (r1, r2, r3) := by first | (rw [hji27] at H; exact H) | (simp only [hji27] at H ⊢; exact H)
 have hji27w : (IntKind.i64.wrap (Int.tdiv (wrap64 (a0_1 + x37_3)) 8)) = ji27 := (i64_w _).trans hji27
 by_cases c28 : 0 ≤ (ji27)
 {
 rw [if_pos c28] at H
 have c28b0 : decide (0 ≤ (ji27)) = true := decide_eq_true c28
 clear c28
 by_cases c29 : (ji27) < (l0_0.length : Int)
 {
 rw [if_pos c29] at H
 have c29b0 : decide ((ji27) < (l0_0.length : Int)) = true := decide_eq_true c29
 clear c29
 obtain ⟨ji30, hji30⟩ : ∃ j_ : Int, (Int.tmod (wrap64 (a0_1 + x37_3)) 8) = j_ := ⟨_, rfl⟩
 replace H : (if 0 ≤ (ji30) then (if 0 ≤ x37_3 then (bits_Get.l0 k3 a1 (Go.bits .or .u64 x7_3 (shl .u64 (IntKind.u64.wrap (Go.bits .and .u8 (shr .u8 (rd l0_0 (ji27)) (ji30)) 1)) x37_3)) a1 (wrap64 (x37_3 + 1)) l0_0 a0_1) else (none)) else (none)) = some (r1, r2, r3) := by first | (rw [hji30] at H; exact H) | (simp only [hji30] at H ⊢; exact H)
 have hji30b : ji30 ≤ 8 := by have h_ := Int.tmod_lt_of_pos (wrap64 (a0_1 + x37_3)) (show (0 : Int) < 8 by decide); rw [hji30] at h_; omega
 by_cases c31 : 0 ≤ (ji30)
 {
 rw [if_pos c31] at H
 have c31b0 := eq_true c31
 have c31b1 : decide (0 ≤ (ji30)) = true := decide_eq_true c31
 clear c31
 obtain ⟨ji32, hji32⟩ : ∃ j_ : Int, (shr .u8 (rd l0_0 (ji27)) (ji30)) = j_ := ⟨_, rfl⟩
 replace H : (if 0 ≤ x37_3 then (bits_Get.l0 k3 a1 (Go.bits .or .u64 x7_3 (shl .u64 (IntKind.u64.wrap (Go.bits .and .u8 (ji32) 1)) x37_3)) a1 (wrap64 (x37_3 + 1)) l0_0 a0_1) else (none)) = some (r1, r2, r3) := by first | (rw [hji32] at H; exact H) | (simp only [hji32] at H ⊢; exact H)
 have hji32_ : ((rd l0_0 (ji27)) / 2 ^ min (ji30).toNat 8) = ji32 := hji32
 have hji32z : (ji30) ≤ 8 → ((rd l0_0 (ji27)) / 2 ^ (ji30).toNat) = ji32 := shr_small hji32
 by_cases c33 : 0 ≤ x37_3
 {
 rw [if_pos c33] at H
 have c33b0 := eq_true c33
 have c33b1 : decide (0 ≤ x37_3) = true := decide_eq_true c33
 clear c33
 obtain ⟨ji34, hji34⟩ : ∃ j_ : Int, (shl .u64 (IntKind.u64.wrap (Go.bits .and .u8 (ji32) 1)) x37_3) = j_ := ⟨_, rfl⟩
 replace H : (bits_Get.l0 k3 a1 (Go.bits .or .u64 x7_3 (ji34)) a1 (wrap64 (x37_3 + 1)) l0_0 a0_1) = some (r1, r2, r3) := by first | (rw [hji34] at H; exact H) | (simp only [hji34] at H ⊢; exact H)
 have hji34_ : (IntKind.u64.wrap ((IntKind.u64.wrap (Go.bits .and .u8 (ji32) 1)) * 2 ^ min x37_3.toNat 64)) = ji34 := hji34
 have hji34z : x37_3 ≤ 64 → (IntKind.u64.wrap ((IntKind.u64.wrap (Go.bits .and .u8 (ji32) 1)) * 2 ^ x37_3.toNat)) = ji34 := shl_small hji34
 have H' := Aside0.mk H
 clear H
 have hnb35 := NB122_123.out
 have hnc35 := NB123_122.out
 obtain ⟨hcz36_0, hcz36_1, hfz36_0, hfz36_1⟩ := e2_ BK122
 have p125 : 0 ≤ ((ji27) : Int) := of_decide_eq_true am_
 have q125 : (ji27) < (l0_0.length : Int) := of_decide_eq_true am_
 obtain ⟨ad125, e125, hx125_0⟩ := Kd.at_int HR0_0.out (ji27) p125 q125
 cases e125
 replace hx125_0 := (HB.out.cell (World.block_lt_of_cell? w _ hx125_0)).trans hx125_0
 replace p125 := eq_true p125
 replace q125 := eq_true q125
 (try subst hji27)
 go_wp2
 first | go_roundg k3 | (subst hji27; go_roundg k3)
 case measure => have := HJ2.out; have := HJ13.out; have := HK3.out; omega
 case rel => exact ⟨(Go.bits .or .u64 x7_3 (ji34)), (wrap64 (x37_3 + 1)), (by first | rfl | (simp; done) | (simp only [← hji34] <;> (first | rfl | simp)) | (simp [*]; done)), rs_, H', ⟨by have := HJ2.out; have := HJ13.out; have := HK3.out; omega⟩, ⟨bk_ BK122⟩, ⟨bk_ BK123⟩, ⟨bl_ HB⟩⟩}
 {
 rw [if_neg c33] at H
 exact absurd H (by simp)}}
 {
 rw [if_neg c31] at H
 exact absurd H (by simp)}}
 {
 rw [if_neg c29] at H
 exact absurd H (by simp)}}
 {
 rw [if_neg c28] at H
 exact absurd H (by simp)}}
 {
 rw [if_neg c26] at H
 have c26b0 : decide (x37_3 < a1) = false := decide_eq_false c26
 clear c26
 simp only [Option.some.injEq, Prod.mk.injEq] at H
 obtain ⟨rfl, rfl, rfl⟩ := H
 have hnb37 := NB122_123.out
 have hnc37 := NB123_122.out
 obtain ⟨hcz38_0, hcz38_1, hfz38_0, hfz38_1⟩ := e2_ BK122
 obtain ⟨hcz39_0, hcz39_1, hfz39_0, hfz39_1⟩ := e2_ BK123
 go_wp2
 refine bodyPost_ret (results_ctt rfl _ _ gb123 77 #[.slice A0_0 l0_0.length c0_0, .int .i64 (wrap64 (a0_1 + a1))] (0, 0) _ rfl (bp_ BK123) Try.underlying77 rfl kf_) rfl ?_
 exact ⟨by first | rfl | (simp [errW_none, errW_some] <;> rfl) | (simp [*, errW_none, errW_some] <;> rfl), bl_ HB⟩}))}))}))
end Go.Proofs.Ytpdfdaoohknfoaa.P
namespace Go.Proofs.Ytpdfdaoohknfoaa.P
open Go.RowKit Go.Proofs.YtpdfdaoohknfoaaW.PrintWords Go.Proofs.YtpdfdaoohknfoaaW.PrintLast Go.Proofs.YtpdfdaoohknfoaaW.PrintMore
attribute [local go_sem] max2_int min2_int max_two min_two max_three min_three max_four min_four   -- for this text's walks alone
set_option linter.unusedVariables false
set_option linter.unusedSimpArgs false

def huff_Read.tab (c l : List Int) : Nat → List (Int × Int × Int)
  | 0 => []
  | j + 1 => if rd l (j : Int) > 0 then (rd c (j : Int), rd l (j : Int), (j : Int)) :: huff_Read.tab c l j else huff_Read.tab c l j
def huff_Read.look : List (Int × Int × Int) → Int → Int → Option Int
  | [], _, _ => none
  | x :: M, c, n => if x.1 = c ∧ x.2.1 = n then some x.2.2 else huff_Read.look M c n
def huff_Read.size : List (Int × Int × Int) → Nat
  | [] => 0
  | x :: M => if (huff_Read.look M x.1 x.2.1).isSome = true then huff_Read.size M else huff_Read.size M + 1
def huff_Read.fit (c l : List Int) : Bool := c.all (fun x => decide (0 ≤ x ∧ x < 4294967296)) && l.all (fun x => decide (-9223372036854775808 ≤ x ∧ x ≤ 9223372036854775807)) && decide (l.length ≤ c.length ∧ l.length ≤ 1000000)
def huff_Read.go (k : Nat) (l0_0 : List Int) (a0_1 : Int) (M : List (Int × Int × Int)) : Nat → Int → Int → Option (Int × Int × Int)
  | 0, _, _ => some (a0_1, 0, 2)
  | d + 1, x, m => (bits_Get.f k l0_0 x 1).bind fun g => if g.2.2 = 0 then
      (if 0 ≤ Go.bits .or .u32 (IntKind.u32.wrap (m * 2)) (IntKind.u32.wrap g.2.1) ∧ Go.bits .or .u32 (IntKind.u32.wrap (m * 2)) (IntKind.u32.wrap g.2.1) < 4294967296 then
        (if (huff_Read.look M (Go.bits .or .u32 (IntKind.u32.wrap (m * 2)) (IntKind.u32.wrap g.2.1)) (16 - (d : Int))).isSome = true then
          some (g.1, (huff_Read.look M (Go.bits .or .u32 (IntKind.u32.wrap (m * 2)) (IntKind.u32.wrap g.2.1)) (16 - (d : Int))).getD 0, 0)
        else if huff_Read.size M = 1 then some (a0_1, 0, 2)
        else huff_Read.go k l0_0 a0_1 M d g.1 (Go.bits .or .u32 (IntKind.u32.wrap (m * 2)) (IntKind.u32.wrap g.2.1)))
      else none) else some (a0_1, 0, g.2.2)
def huff_Read.f (k : Nat) (l0_0 : List Int) (a0_1 : Int) (l1 : List Int) : Option (Int × Int × Int) :=
  (huff_Codes.f k l1).bind fun c => if c.2 = 0 then (if a0_1 < 0 then some (a0_1, 0, 1) else if huff_Read.fit c.1 l1 = true then huff_Read.go k l0_0 a0_1 (huff_Read.tab c.1 l1 l1.length) 16 a0_1 0 else none) else some (a0_1, 0, 1)
theorem huff_Read.go_mono (l0_0 : List Int) (a0_1 : Int) (M : List (Int × Int × Int)) (k : Nat) : ∀ (d : Nat) (x m : Int), LeO (huff_Read.go k l0_0 a0_1 M d x m) (huff_Read.go (k + 1) l0_0 a0_1 M d x m)
  | 0, _, _ => LeO.refl _
  | d + 1, x, m => by
    unfold huff_Read.go
    exact LeO.bind (bits_Get.mono _ _ _ _) (fun _ => LeO.ite (LeO.ite (LeO.ite (LeO.refl _) (LeO.ite (LeO.refl _) (huff_Read.go_mono l0_0 a0_1 M k d _ _))) (LeO.refl _)) (LeO.refl _))
theorem huff_Read.mono : ∀ a0 a1 a2 k, LeO (huff_Read.f k a0 a1 a2) (huff_Read.f (k + 1) a0 a1 a2) := by
  intro a0 a1 a2 k
  unfold huff_Read.f
  exact LeO.bind (huff_Codes.mono _ _) (fun _ => LeO.ite (LeO.ite (LeO.refl _) (LeO.ite (huff_Read.go_mono _ _ _ _ _ _ _) (LeO.refl _))) (LeO.refl _))
theorem huff_Read.law : Go.Maps.Keyed Try.prog 119 := Go.Maps.Keyed.of_law (deep_law_laid (by kernel_rfl) (m := 2) (by omega) (by decide +kernel) (by kernel_rfl) (by kernel_rfl))
theorem huff_Read.zeroE (w : World) : (zeroValue 3).run Try.prog w = .ok (.int .i64 0) w := by kernel_rfl
theorem huff_Read.lits {c n : Int} (hc : (Lit.int .u32 c).wf = true) (hn : (Lit.int .i64 n).wf = true) (d : Nat) : Try.prog.keyLits (d + 2) 119 [.int .u32 c, .int .i64 n] = some [.int .u32 c, .int .i64 n] := by
  have e2 : Try.prog.cellsOf 119 = 2 := by kernel_rfl
  have e3 : Try.prog.cellsOf 116 = 1 := by kernel_rfl
  have e4 : Try.prog.cellsOf 3 = 1 := by kernel_rfl
  simp [Program.keyLits, Try.underlying119, Try.underlying116, Try.underlying3, hc, hn, e2, e3, e4]
theorem huff_Read.key {c n : Int} (hc : (Lit.int .u32 c).wf = true) (hn : (Lit.int .i64 n).wf = true) : ∃ kl, keyOf Try.prog 119 (.agg #[.int .u32 c, .int .i64 n]) = some kl := by
  have h1 : (keyOf Try.prog 119 (.agg #[.int .u32 c, .int .i64 n])).isSome = true := by
    simp [keyOf, Try.underlying119, Value.formed]
    rw [if_pos ⟨by kernel_rfl, by kernel_rfl⟩]
    have e := huff_Read.lits hc hn (Try.prog.types.size - 1)
    rw [show Try.prog.types.size - 1 + 2 = Try.prog.types.size + 1 by kernel_rfl] at e
    simp only [Value.cells]
    exact (congrArg (fun o => (Option.map (fun ls => Lit.string (keyBytes ls)) o).isSome) e).trans rfl
  exact Option.isSome_iff_exists.1 h1
def huff_Read.Tells (D : DataW Unit) (M : List (Int × Int × Int)) : Prop :=
  (∀ (c n : Int) (kl : Lit), keyOf Try.prog 119 (.agg #[.int .u32 c, .int .i64 n]) = some kl → Maps.has D kl = (huff_Read.look M c n).isSome ∧ D.atKey kl (.lit (.int .i64 0)) = .lit (.int .i64 ((huff_Read.look M c n).getD 0))) ∧ Maps.size D = huff_Read.size M
def huff_Read.Own (w : World) (b n : Nat) (M : List (Int × Int × Int)) : Prop :=
  ∃ D : DataW Unit, w.ownsMap Try.prog 119 (plainElem Try.prog 3) b n D ∧ huff_Read.Tells D M
theorem huff_Read.own_below {w w1 : World} {b n : Nat} {M : List (Int × Int × Int)} (h : huff_Read.Own w b n M) (hb : Below w.heap.size w w1) : huff_Read.Own w1 b n M := by
  obtain ⟨D, h, ht⟩ := h
  have hlt := h.lt
  obtain ⟨es, clock, hm, F, hs, hD⟩ := h
  exact ⟨D, ⟨es, clock, (hb.block b hlt).trans hm, F, hs, hD⟩, ht⟩
theorem huff_Read.own_lt {w : World} {b n : Nat} {M : List (Int × Int × Int)} (h : huff_Read.Own w b n M) : b < w.heap.size := by
  obtain ⟨D, h, ht⟩ := h; exact h.lt
theorem huff_Read.own_far {w : World} {b n : Nat} {M : List (Int × Int × Int)} (h : huff_Read.Own w b n M) {p : Addr} (hp : b ≠ p.block) (u : Value) : huff_Read.Own (w.setCell p u) b n M := by
  obtain ⟨D, ⟨es, clock, hm, F, hs, hD⟩, ht⟩ := h
  exact ⟨D, ⟨es, clock, (Below.heap_setCell w p u b hp).trans hm, F, hs, hD⟩, ht⟩
theorem huff_Read.own_drew {w : World} {b n : Nat} {M : List (Int × Int × Int)} (h : huff_Read.Own w b n M) : huff_Read.Own w.drew b n M := h
theorem huff_Read.own_made (w : World) : huff_Read.Own (w.alloc (.map #[] 0)) w.heap.size 0 [] :=
  ⟨.map [], World.ownsMap_made _ _ _ _, fun c n kl h => ⟨rfl, rfl⟩, rfl⟩
theorem huff_Read.tells_put {D : DataW Unit} {M : List (Int × Int × Int)} (h : huff_Read.Tells D M) (hD : Maps.Tidy D) {c n s : Int} {kl : Lit} (hk : keyOf Try.prog 119 (.agg #[.int .u32 c, .int .i64 n]) = some kl) :
    huff_Read.Tells (D.put kl (.lit (.int .i64 s))) ((c, n, s) :: M) := by
  have hkl := huff_Read.law.key hk
  refine ⟨fun c' n' kl' hk' => ?_, ?_⟩
  · by_cases e : c = c' ∧ n = n'
    · obtain ⟨rfl, rfl⟩ := e
      obtain rfl : kl = kl' := Option.some.inj (hk.symm.trans hk')
      rw [Maps.has_put_same hD.isMap hkl, Maps.atKey_put_same hD.isMap hkl]
      simp [huff_Read.look]
    · have hne : kl' ≠ kl := by
        rintro rfl
        have := huff_Read.law.inj hk hk'
        simp at this
        exact e this
      rw [Maps.has_put_other hne, Maps.atKey_put_other hne]
      have : huff_Read.look ((c, n, s) :: M) c' n' = huff_Read.look M c' n' := by simp only [huff_Read.look]; rw [if_neg e]
      rw [this]
      exact h.1 c' n' kl' hk'
  · rw [Maps.size_put hD, h.2, (h.1 c n kl hk).1]; rfl
theorem huff_Read.wf64 {x : Int} (h : -9223372036854775808 ≤ x ∧ x ≤ 9223372036854775807) : (Lit.int .i64 x).wf = true := by
  simp [Lit.wf, IntKind.min, IntKind.max, IntKind.bits, IntKind.signed]; omega
theorem huff_Read.wf32 {x : Int} (h : 0 ≤ x ∧ x < 4294967296) : (Lit.int .u32 x).wf = true := by
  simp [Lit.wf, IntKind.min, IntKind.max, IntKind.bits, IntKind.signed]; omega
theorem huff_Read.rd_all {p : Int → Bool} {l : List Int} (h : l.all p = true) (j : Nat) (hj : j < l.length) : p (rd l (j : Int)) = true := by
  have : rd l (j : Int) ∈ l := by simp [rd, List.getD_eq_getElem?_getD, hj]
  exact List.all_eq_true.1 h _ this
theorem huff_Read.fit_at {c l : List Int} (h : huff_Read.fit c l = true) : l.length ≤ c.length ∧ l.length ≤ 1000000 ∧ ∀ j : Nat, j < l.length → (Lit.int .u32 (rd c (j : Int))).wf = true ∧ (Lit.int .i64 (rd l (j : Int))).wf = true ∧ (Lit.int .i64 (j : Int)).wf = true := by
  simp only [huff_Read.fit, Bool.and_eq_true, decide_eq_true_eq] at h
  refine ⟨h.2.1, h.2.2, fun j hj => ⟨huff_Read.wf32 ?_, huff_Read.wf64 ?_, huff_Read.wf64 (by omega)⟩⟩
  · have := huff_Read.rd_all h.1.1 j (by omega); simpa using this
  · have := huff_Read.rd_all h.1.2 j hj; simpa using this
set_option maxHeartbeats 8000000 in
set_option maxRecDepth 100000 in
theorem huff_Read.calls (k : Nat) (A0_0 : Option Addr) (c0_0 : Nat) (l0_0 : List Int) (a0_1 : Int) (A1 : Option Addr) (c1 : Nat) (l1 : List Int) (r1 : Int) (r2 : Int) (r3 : Int) (w : World) (hr0_0 : Kd.C (Kd.int .u8) w A0_0 l0_0.length l0_0) (hc0_0 : l0_0.length ≤ c0_0) (hr1 : Kd.C (Kd.int .i64) w A1 l1.length l1) (hc1 : l1.length ≤ c1) (h : huff_Read.f k l0_0 a0_1 l1 = some (r1, r2, r3)) :
    Calls Try.prog 56 #[.agg #[.slice A0_0 l0_0.length c0_0, .int .i64 a0_1], .slice A1 l1.length c1] w fun e w' => e = .returned (.tuple #[.agg #[.slice A0_0 l0_0.length c0_0, .int .i64 r1], .int .i64 r2, .int .i64 r3]) ∧ Below w.heap.size w w' := by
 have hu45 := Try.underlying77
 have hu65 := Try.underlying119
 have hmm := @run_makeMap Try.prog
 have HR0_0 := Aside0.mk hr0_0
 have HC0_0 := Aside0.mk hc0_0
 have HR1 := Aside0.mk hr1
 have HC1 := Aside0.mk hc1
 clear hr0_0 hc0_0 hr1 hc1
 have HB := Aside0.mk (Below.refl w.heap.size w)
 unfold huff_Read.f at h
 replace h := Option.bind_eq_some_iff.mp h
 obtain ⟨⟨t1, t2⟩, A40, H⟩ := h
 have A4 := Aside0.mk A40
 clear A40
 have HC5 := Aside0.mk H
 clear H
 go_enter Try.func56, Try.ntmps56
 go_upto_region 2 with (first
   | ((with_reducible refine gate_dst (N := 2) rfl ?_); refine box_ 2 #[.slice A0_0 l0_0.length c0_0, .int .i64 a0_1] 77 ?_; intro gb2 hg w4 hbox hb; have n1_ := Aside0.mk (below_step HB.out hb); have n2_ := Aside0.mk hbox; have n3_ := Aside0.mk ((by rw [hg]; exact (below_size HB.out)) : w.heap.size ≤ gb2); clear HB; have HB := n1_; have BK2 := n2_; have GE2 := n3_; clear n1_ n2_ n3_; clear hb hbox hg)
   | ((with_reducible refine gate_dst (N := 4) rfl ?_); refine box_ 4 #[.slice none 0 0, .int .i64 0] 77 ?_; intro gb4 hg w5 hbox hb; have n0_ := Aside0.mk (blk_below BK2.out hb); have n1_ := Aside0.mk (below_step HB.out hb); have n2_ := Aside0.mk hbox; have n3_ := Aside0.mk ((by rw [hg]; exact (below_size HB.out)) : w.heap.size ≤ gb4); have n4_ := Aside0.mk ((by rw [hg]; exact Nat.ne_of_lt (blk_lt BK2.out)) : gb2 ≠ gb4); clear BK2 HB; have BK2 := n0_; have HB := n1_; have BK4 := n2_; have GE4 := n3_; have NB := n4_; clear n0_ n1_ n2_ n3_ n4_; clear hb hbox hg)
   | (go_at_call 68; (with_reducible refine (huff_Codes.calls k _ _ l1 t1 t2 _ ?side1 ?side2 A4.out).mono ?_); (case side1 => exact (Kd.C_below HR1.out HB.out)); (case side2 => exact HC1.out); rintro e w8 ⟨v138, rfl, ho0, hb⟩; have n1_ := Aside0.mk ho0; have n2_ := Aside0.mk (blk_below BK2.out hb); have n3_ := Aside0.mk (blk_below BK4.out hb); have n4_ := Aside0.mk (below_step HB.out hb); clear BK2; clear BK4; clear HB; have HO := n1_; have BK2 := n2_; have BK4 := n3_; have HB := n4_; clear n1_ n2_ n3_ n4_; clear hb ho0))
 (try simp only [Act.put, List.setIfInBounds_toArray, List.set_cons_zero, List.set_cons_succ])
 have H := HC5.out
 clear HC5
 have hcz2_0 : w8.cell? ⟨gb2, 0, none⟩ = some (.slice A0_0 l0_0.length c0_0) := ce_ BK2 0
 have hcz2_1 : w8.cell? ⟨gb2, 1, none⟩ = some (.int .i64 a0_1) := ce_ BK2 1
 have hnb4 := NB.out
 have hnc4 := NB.out.symm
 obtain ⟨hcz4_0, hcz4_1, hfz4_0, hfz4_1⟩ := e2_ BK4
 by_cases ce : t2 = 0
 {
 rw [if_pos ce] at H
 have ceb0 : (t2 == 0) = true := beq_iff_eq.mpr ce
 have ceb1 : (t2 != 0) = false := bne_eq_false_iff_eq.mpr ce
 clear ce
 by_cases ca : a0_1 < 0
 {
 rw [if_pos ca] at H
 have cab0 : decide (a0_1 < 0) = true := decide_eq_true ca
 clear ca
 simp only [Option.some.injEq, Prod.mk.injEq] at H
 obtain ⟨rfl, rfl, rfl⟩ := H
 go_wp2
 refine bodyPost_ret (results_ctt rfl _ _ gb4 77 #[.slice A0_0 l0_0.length c0_0, .int .i64 a0_1] (0, 0) _ rfl (bp_ BK4) Try.underlying77 rfl kf_) rfl ?_
 exact ⟨by first | rfl | (simp; done) | (simp [*]; done), bl_ HB⟩}
 {
 rw [if_neg ca] at H
 have cab0 : decide (a0_1 < 0) = false := decide_eq_false ca
 clear ca
 by_cases cf : huff_Read.fit t1 l1 = true
 {
 rw [if_pos cf] at H
 have HF := Aside0.mk cf
 have H' := Aside0.mk H
 clear H cf
 obtain ⟨Ao, co, eo⟩ := Kd.R_slice HO.out
 (first | subst eo | (injection eo with f1_ f2_ f3_; have f4_ := f1_.symm; have f5_ := f3_.symm; clear f1_ f2_ f3_; subst f4_; subst f5_))
 have HOC := Aside0.mk (Kd.R_reads' HO.out).2.2
 have hfit := huff_Read.fit_at HF.out
 have HFIT := Aside0.mk hfit
 clear hfit
 go_wp2
 go_loopg [35] l1.length (fun g s35 wr => ∃ j : Nat, j + g = l1.length ∧ s35 = .int .i64 (j : Int) ∧ Aside0 (huff_Read.Own wr w8.heap.size j (huff_Read.tab t1 l1 j)) ∧ Aside0 (Below w8.heap.size w8 wr))
 case atStart => exact ⟨0, by omega, rfl, ⟨huff_Read.own_made w8⟩, ⟨by repeat (first | exact Below.refl _ _ | apply below_alloc)⟩⟩
 case round => (
 obtain ⟨j, hj, rfl, HM, HB8⟩ := hrel
 have HBa := Aside0.mk (below_step HB.out HB8.out)
 cases gk with
 | zero => (
 have cjb : decide ((j : Int) < (l1.length : Int)) = false := decide_eq_false (by omega)
 obtain rfl : j = l1.length := by omega
 clear HFIT HF hj
 have n2_ := Aside0.mk (blk_below BK2.out HB8.out)
 have n3_ := Aside0.mk (blk_below BK4.out HB8.out)
 have HM2 := HM
 clear BK2 BK4 HB HB8 HM HO HOC hcz2_0 hcz2_1 hcz4_0 hcz4_1 hfz4_0 hfz4_1
 have BK2 := n2_
 have BK4 := n3_
 clear n2_ n3_
 have HB := HBa
 clear HBa
 have HB2 := Aside0.mk (Below.refl wr.heap.size wr)
 have hcz2_0 : wr.cell? ⟨gb2, 0, none⟩ = some (.slice A0_0 l0_0.length c0_0) := ce_ BK2 0
 have hcz2_1 : wr.cell? ⟨gb2, 1, none⟩ = some (.int .i64 a0_1) := ce_ BK2 1
 go_upto_region 12 with (first
   | ((with_reducible refine gate_dst (N := 12) rfl ?_); refine box_ 12 #[.slice none 0 0, .int .i64 0] 77 ?_; intro gb12 hg w10 hbox hb; have n1_ := Aside0.mk (below_step HB2.out hb); have n2_ := Aside0.mk hbox; have n3_ := Aside0.mk ((by rw [hg]; exact (below_size HB2.out)) : wr.heap.size ≤ gb12); clear HB2; have HB2 := n1_; have BK12 := n2_; have GE12 := n3_; clear n1_ n2_ n3_; clear hb hbox hg)
   | ((with_reducible refine gate_dst (N := 13) rfl ?_); refine box_ 13 #[.int .u32 0, .int .i64 0] 119 ?_; intro gb13 hg w11 hbox hb; have n0_ := Aside0.mk (blk_below BK12.out hb); have n1_ := Aside0.mk (below_step HB2.out hb); have n2_ := Aside0.mk hbox; have n3_ := Aside0.mk ((by rw [hg]; exact (below_size HB2.out)) : wr.heap.size ≤ gb13); have n4_ := Aside0.mk ((by rw [hg]; exact Nat.ne_of_gt (blk_lt BK12.out)) : gb13 ≠ gb12); clear BK12 HB2; have BK12 := n0_; have HB2 := n1_; have BK13 := n2_; have GE13 := n3_; have ND := n4_; clear n0_ n1_ n2_ n3_ n4_; clear hb hbox hg; have hnd := ND.out; have hne := ND.out.symm; have hcz12_0 : w11.cell? ⟨gb12, 0, none⟩ = some (.slice none 0 0) := ce_ BK12 0; have hcz12_1 : w11.cell? ⟨gb12, 1, none⟩ = some (.int .i64 0) := ce_ BK12 1; have hcz13_0 : w11.cell? ⟨gb13, 0, none⟩ = some (.int .u32 0) := ce_ BK13 0; have hcz13_1 : w11.cell? ⟨gb13, 1, none⟩ = some (.int .i64 0) := ce_ BK13 1; have hfz12_0 := blk_frozen BK12.out 0; have hfz12_1 := blk_frozen BK12.out 1; have hfz13_0 := blk_frozen BK13.out 0; have hfz13_1 := blk_frozen BK13.out 1))
 obtain ⟨W2, hW2⟩ : ∃ W2 : World, W2 = wr := ⟨_, rfl⟩
 subst hW2
 have LT2 := Aside0.mk (blk_lt BK2.out)
 have LT4 := Aside0.mk (blk_lt BK4.out)
 have LTM := Aside0.mk (huff_Read.own_lt HM2.out)
 clear hcz2_0 hcz2_1
 have n0_ : Aside0 ((((((w11.setCell ⟨gb12, 0, none⟩ (.slice A0_0 l0_0.length c0_0)).setCell ⟨gb12, 1, none⟩ (.int .i64 a0_1)).setCell ⟨gb13, 0, none⟩ (.int .u32 0)).setCell ⟨gb13, 1, none⟩ (.int .i64 0))).heap[gb12]? = some (.cells #[.slice A0_0 l0_0.length c0_0, .int .i64 a0_1] 77 (0, 0))) := ⟨by refine blk_far ?_ hne _; refine blk_far ?_ hne _; refine blk_put (cs := #[.slice A0_0 l0_0.length c0_0, .int .i64 0]) ?_ 1 _ rfl; refine blk_put (cs := #[.slice none 0 0, .int .i64 0]) ?_ 0 _ rfl; exact BK12.out⟩
 have n1_ : Aside0 ((((((w11.setCell ⟨gb12, 0, none⟩ (.slice A0_0 l0_0.length c0_0)).setCell ⟨gb12, 1, none⟩ (.int .i64 a0_1)).setCell ⟨gb13, 0, none⟩ (.int .u32 0)).setCell ⟨gb13, 1, none⟩ (.int .i64 0))).heap[gb13]? = some (.cells #[.int .u32 0, .int .i64 0] 119 (0, 0))) := ⟨by refine blk_put (cs := #[.int .u32 0, .int .i64 0]) ?_ 1 _ rfl; refine blk_put (cs := #[.int .u32 0, .int .i64 0]) ?_ 0 _ rfl; refine blk_far ?_ hnd _; refine blk_far ?_ hnd _; exact BK13.out⟩
 have n2_ : Aside0 (Below W2.heap.size W2 ((((w11.setCell ⟨gb12, 0, none⟩ (.slice A0_0 l0_0.length c0_0)).setCell ⟨gb12, 1, none⟩ (.int .i64 a0_1)).setCell ⟨gb13, 0, none⟩ (.int .u32 0)).setCell ⟨gb13, 1, none⟩ (.int .i64 0))) := ⟨by repeat (first | (with_reducible first | exact HB2.out | apply below_alloc | apply pw_below_drewN | apply below_drew1 | refine below_set ?_ GE12.out | refine below_set ?_ GE13.out) | exact HB2.out)⟩
 clear HB2 BK12 BK13
 clear hcz12_0 hcz12_1 hcz13_0 hcz13_1 hfz12_0 hfz12_1 hfz13_0 hfz13_1
 generalize (((w11.setCell ⟨gb12, 0, none⟩ (.slice A0_0 l0_0.length c0_0)).setCell ⟨gb12, 1, none⟩ (.int .i64 a0_1)).setCell ⟨gb13, 0, none⟩ (.int .u32 0)).setCell ⟨gb13, 1, none⟩ (.int .i64 0) = W3 at n0_ n1_ n2_ ⊢
 go_loopg [] 16 (fun g wr => ∃ (x m mm : Int), Aside0 (mm = 16 - (g : Int)) ∧ Aside0 (g ≤ 16) ∧ Aside0 (huff_Read.go k l0_0 a0_1 (huff_Read.tab t1 l1 l1.length) g x m = some (r1, r2, r3)) ∧ Aside0 (wr.heap[gb12]? = some (.cells #[.slice A0_0 l0_0.length c0_0, .int .i64 x] 77 (0, 0))) ∧ Aside0 (wr.heap[gb13]? = some (.cells #[.int .u32 m, .int .i64 mm] 119 (0, 0))) ∧ Aside0 (Below W2.heap.size W2 wr))
 case atStart => exact ⟨a0_1, 0, 0, ⟨by omega⟩, ⟨Nat.le_refl _⟩, H', n0_, n1_, n2_⟩
 case round => (
 clear H' n0_ n1_ n2_
 obtain ⟨x, m, mm, HMM, HD16, H', BK12, BK13, HB2⟩ := hrel
 have HBw := Aside0.mk (below_step HB.out HB2.out)
 have n2_ := Aside0.mk (blk_below BK2.out HB2.out)
 have n3_ := Aside0.mk (blk_below BK4.out HB2.out)
 have n4_ := Aside0.mk (huff_Read.own_below HM2.out HB2.out)
 clear BK2 BK4
 have BK2 := n2_
 have BK4 := n3_
 have HMw := n4_
 clear n2_ n3_ n4_
 have hcz2_0 : wr.cell? ⟨gb2, 0, none⟩ = some (.slice A0_0 l0_0.length c0_0) := ce_ BK2 0
 have hcz2_1 : wr.cell? ⟨gb2, 1, none⟩ = some (.int .i64 a0_1) := ce_ BK2 1
 obtain ⟨hcz4_0, hcz4_1, hfz4_0, hfz4_1⟩ := e2_ BK4
 have hcz12_0 : wr.cell? ⟨gb12, 0, none⟩ = some (.slice A0_0 l0_0.length c0_0) := ce_ BK12 0
 have hcz12_1 : wr.cell? ⟨gb12, 1, none⟩ = some (.int .i64 x) := ce_ BK12 1
 have hcz13_0 : wr.cell? ⟨gb13, 0, none⟩ = some (.int .u32 m) := ce_ BK13 0
 have hcz13_1 : wr.cell? ⟨gb13, 1, none⟩ = some (.int .i64 mm) := ce_ BK13 1
 have hfz12_0 := blk_frozen BK12.out 0
 have hfz12_1 := blk_frozen BK12.out 1
 have hfz13_0 := blk_frozen BK13.out 0
 have hfz13_1 := blk_frozen BK13.out 1
 cases gk with
 | zero => (
 have H := H'.out
 clear H'
 simp only [huff_Read.go, Option.some.injEq, Prod.mk.injEq] at H
 obtain ⟨rfl, rfl, rfl⟩ := H
 have cmb : decide (mm < 16) = false := decide_eq_false (by have := HMM.out; omega)
 go_wp2
 refine bodyPost_ret (results_ctt rfl _ _ gb4 77 #[.slice A0_0 l0_0.length c0_0, .int .i64 a0_1] (0, 0) _ rfl (bp_ BK4) Try.underlying77 rfl kf_) rfl ?_
 exact ⟨by first | rfl | (simp; done) | (simp [*]; done), by repeat (first | (with_reducible first | exact HBw.out | apply below_alloc | apply pw_below_drewN | apply below_drew1 | refine below_set ?_ GE2.out | refine below_set ?_ GE4.out) | exact HBw.out)⟩)
 | succ d => (
 have H := H'.out
 clear H'
 simp only [huff_Read.go] at H
 replace H := Option.bind_eq_some_iff.mp H
 obtain ⟨⟨t3, t4, t5⟩, A50, H⟩ := H
 have A5 := Aside0.mk A50
 have HC6 := Aside0.mk H
 clear A50 H
 have cmb : decide (mm < 16) = true := decide_eq_true (by have := HMM.out; omega)
 go_upto_region 14 with (first
   | (go_at_call 55; (with_reducible refine (bits_Get.calls k _ _ l0_0 x 1 t3 t4 t5 _ ?side1 ?side2 A5.out).mono ?_); (case side1 => repeat (first | exact (Kd.C_below HR0_0.out HBw.out) | (with_reducible refine Kd.C_alloc ?_ _) | (with_reducible refine Kd.C_drewN ?_ _) | (with_reducible refine Kd.C_drew ?_))); (case side2 => exact HC0_0.out); rintro e wg ⟨rfl, hb⟩; have n2_ := Aside0.mk (blk_below BK2.out hb); have n3_ := Aside0.mk (blk_below BK4.out hb); have n4_ := Aside0.mk (huff_Read.own_below HMw.out hb); have n5_ := Aside0.mk (blk_below BK12.out hb); have n6_ := Aside0.mk (blk_below BK13.out hb); have n7_ := Aside0.mk (below_step HB2.out hb); have n8_ := Aside0.mk (below_step HBw.out hb); clear BK2 BK4 HMw BK12 BK13 HB2 HBw hcz2_0 hcz2_1 hcz4_0 hcz4_1 hfz4_0 hfz4_1 hcz12_0 hcz12_1 hcz13_0 hcz13_1 hfz12_0 hfz12_1 hfz13_0 hfz13_1; have BK2 := n2_; have BK4 := n3_; have HMw := n4_; have BK12 := n5_; have BK13 := n6_; have HB2 := n7_; have HBw := n8_; clear n2_ n3_ n4_ n5_ n6_ n7_ n8_; clear hb)
   | ((with_reducible refine gate_dst (N := 14) rfl ?_); refine box_ 14 #[.slice none 0 0, .int .i64 0] 77 ?_; intro gb14 hg w14 hbox hb; have n2_ := Aside0.mk (blk_below BK2.out hb); have n3_ := Aside0.mk (blk_below BK4.out hb); have n4_ := Aside0.mk (huff_Read.own_below HMw.out hb); have n5_ := Aside0.mk (blk_below BK12.out hb); have n6_ := Aside0.mk (blk_below BK13.out hb); have n7_ := Aside0.mk (below_step HB2.out hb); have n8_ := Aside0.mk (below_step HBw.out hb); have n9_ := Aside0.mk hbox; have m1_ := Aside0.mk ((by rw [hg]; exact (below_size HBw.out)) : w.heap.size ≤ gb14); have m2_ := Aside0.mk ((by rw [hg]; exact Nat.ne_of_gt (blk_lt BK12.out)) : gb14 ≠ gb12); have m3_ := Aside0.mk ((by rw [hg]; exact Nat.ne_of_gt (blk_lt BK13.out)) : gb14 ≠ gb13); have m4_ := Aside0.mk ((by rw [hg]; exact Nat.ne_of_gt (blk_lt BK2.out)) : gb14 ≠ gb2); have m5_ := Aside0.mk ((by rw [hg]; exact Nat.ne_of_gt (blk_lt BK4.out)) : gb14 ≠ gb4); have m6_ := Aside0.mk ((by rw [hg]; exact (below_size HB2.out)) : W2.heap.size ≤ gb14); have m7_ := Aside0.mk hg; clear BK2 BK4 HMw BK12 BK13 HB2 HBw; have BK2 := n2_; have BK4 := n3_; have HMw := n4_; have BK12 := n5_; have BK13 := n6_; have HB2 := n7_; have HBw := n8_; have BK14 := n9_; have GE14 := m1_; have N12 := m2_; have N13 := m3_; have N2 := m4_; have N4 := m5_; have GF14 := m6_; clear n2_ n3_ n4_ n5_ n6_ n7_ n8_ n9_ m1_ m2_ m3_ m4_ m5_ m6_ m7_; clear hb hbox hg; obtain ⟨hcz14_0, hcz14_1, hfz14_0, hfz14_1⟩ := e2_ BK14))
 have hNM : w8.heap.size ≠ gb14 := Nat.ne_of_lt (Nat.lt_of_lt_of_le (huff_Read.own_lt HM2.out) GF14.out)
 have n1_ : Aside0 (((w14.setCell ⟨gb14, 0, none⟩ (.slice A0_0 l0_0.length c0_0)).setCell ⟨gb14, 1, none⟩ (.int .i64 t3)).heap[gb2]? = some (.cells #[.slice A0_0 l0_0.length c0_0, .int .i64 a0_1] 77 (0, 0))) := ⟨by refine blk_far ?_ N2.out.symm _; refine blk_far ?_ N2.out.symm _; exact BK2.out⟩
 have n2_ : Aside0 (((w14.setCell ⟨gb14, 0, none⟩ (.slice A0_0 l0_0.length c0_0)).setCell ⟨gb14, 1, none⟩ (.int .i64 t3)).heap[gb4]? = some (.cells #[.slice none 0 0, .int .i64 0] 77 (0, 0))) := ⟨by refine blk_far ?_ N4.out.symm _; refine blk_far ?_ N4.out.symm _; exact BK4.out⟩
 have n3_ : Aside0 (((w14.setCell ⟨gb14, 0, none⟩ (.slice A0_0 l0_0.length c0_0)).setCell ⟨gb14, 1, none⟩ (.int .i64 t3)).heap[gb12]? = some (.cells #[.slice A0_0 l0_0.length c0_0, .int .i64 x] 77 (0, 0))) := ⟨by refine blk_far ?_ N12.out.symm _; refine blk_far ?_ N12.out.symm _; exact BK12.out⟩
 have n4_ : Aside0 (((w14.setCell ⟨gb14, 0, none⟩ (.slice A0_0 l0_0.length c0_0)).setCell ⟨gb14, 1, none⟩ (.int .i64 t3)).heap[gb13]? = some (.cells #[.int .u32 m, .int .i64 mm] 119 (0, 0))) := ⟨by refine blk_far ?_ N13.out.symm _; refine blk_far ?_ N13.out.symm _; exact BK13.out⟩
 have n5_ : Aside0 (((w14.setCell ⟨gb14, 0, none⟩ (.slice A0_0 l0_0.length c0_0)).setCell ⟨gb14, 1, none⟩ (.int .i64 t3)).heap[gb14]? = some (.cells #[.slice A0_0 l0_0.length c0_0, .int .i64 t3] 77 (0, 0))) := ⟨by refine blk_put (cs := #[.slice A0_0 l0_0.length c0_0, .int .i64 0]) ?_ 1 _ rfl; refine blk_put (cs := #[.slice none 0 0, .int .i64 0]) ?_ 0 _ rfl; exact BK14.out⟩
 have n6_ : Aside0 (huff_Read.Own ((w14.setCell ⟨gb14, 0, none⟩ (.slice A0_0 l0_0.length c0_0)).setCell ⟨gb14, 1, none⟩ (.int .i64 t3)) w8.heap.size l1.length (huff_Read.tab t1 l1 l1.length)) := ⟨huff_Read.own_far (huff_Read.own_far HMw.out hNM _) hNM _⟩
 have n7_ : Aside0 (Below W2.heap.size W2 ((w14.setCell ⟨gb14, 0, none⟩ (.slice A0_0 l0_0.length c0_0)).setCell ⟨gb14, 1, none⟩ (.int .i64 t3))) := ⟨below_set (below_set HB2.out GF14.out) GF14.out⟩
 have n8_ : Aside0 (Below w.heap.size w ((w14.setCell ⟨gb14, 0, none⟩ (.slice A0_0 l0_0.length c0_0)).setCell ⟨gb14, 1, none⟩ (.int .i64 t3))) := ⟨below_set (below_set HBw.out GE14.out) GE14.out⟩
 clear BK2 BK4 BK12 BK13 BK14 HMw HB2 HBw hcz14_0 hcz14_1 hfz14_0 hfz14_1 hNM
 have BK2 := n1_
 have BK4 := n2_
 have BK12 := n3_
 have BK13 := n4_
 have BK14 := n5_
 have HMw := n6_
 have HB2 := n7_
 have HBw := n8_
 clear n1_ n2_ n3_ n4_ n5_ n6_ n7_ n8_
 generalize ((w14.setCell ⟨gb14, 0, none⟩ (.slice A0_0 l0_0.length c0_0)).setCell ⟨gb14, 1, none⟩ (.int .i64 t3)) = wr2 at BK2 BK4 BK12 BK13 BK14 HMw HB2 HBw ⊢
 have H := HC6.out
 clear HC6
 have hcz2_0 : wr2.cell? ⟨gb2, 0, none⟩ = some (.slice A0_0 l0_0.length c0_0) := ce_ BK2 0
 have hcz2_1 : wr2.cell? ⟨gb2, 1, none⟩ = some (.int .i64 a0_1) := ce_ BK2 1
 obtain ⟨hcz4_0, hcz4_1, hfz4_0, hfz4_1⟩ := e2_ BK4
 by_cases c5 : t5 = 0
 {
 subst c5
 have c5b0 : ((0 : Int) == 0) = true := rfl
 have c5b1 : ((0 : Int) != 0) = false := rfl
 rw [if_pos rfl] at H
 by_cases cn : 0 ≤ Go.bits .or .u32 (IntKind.u32.wrap (m * 2)) (IntKind.u32.wrap t4) ∧ Go.bits .or .u32 (IntKind.u32.wrap (m * 2)) (IntKind.u32.wrap t4) < 4294967296
 {
 rw [if_pos cn] at H
 have CN := Aside0.mk cn
 have HC7 := Aside0.mk H
 clear H cn
 clear hcz2_0 hcz2_1 hcz4_0 hcz4_1 hfz4_0 hfz4_1
 go_upto_region 16 with (fail)
 have n1_ := Aside0.mk (blk_drew BK2.out)
 have n2_ := Aside0.mk (blk_drew BK4.out)
 have n3_ := Aside0.mk (blk_drew BK12.out)
 have n4_ := Aside0.mk (blk_drew BK13.out)
 have n5_ := Aside0.mk (blk_drew BK14.out)
 have n6_ := Aside0.mk (huff_Read.own_drew HMw.out)
 have n7_ := Aside0.mk (below_drew1 HB2.out)
 have n8_ := Aside0.mk (below_drew1 HBw.out)
 clear BK2 BK4 BK12 BK13 BK14 HMw HB2 HBw
 have BK2 := n1_
 have BK4 := n2_
 have BK12 := n3_
 have BK13 := n4_
 have BK14 := n5_
 have HMw := n6_
 have HB2 := n7_
 have HBw := n8_
 clear n1_ n2_ n3_ n4_ n5_ n6_ n7_ n8_
 have hne : gb14 ≠ gb12 := N12.out
 have hnd : gb13 ≠ gb12 := ND.out
 have hnd' : gb12 ≠ gb13 := ND.out.symm
 refine start_ (n := 13) (S := fun w' => w'.cell? ⟨gb14, 0, none⟩ = some (.slice A0_0 l0_0.length c0_0) ∧ w'.cell? ⟨gb14, 1, none⟩ = some (.int .i64 t3) ∧ w'.cell? ⟨gb13, 0, none⟩ = some (.int .u32 m) ∧ w'.cell? ⟨gb13, 1, none⟩ = some (.int .i64 mm)) (ds := [12]) (B_ 13 0) kf_ rfl rfl ⟨ce_ BK14 0, ce_ BK14 1, ce_ BK13 0, ce_ BK13 1⟩ (fun hHeld => ?_)
 generalize wr2.drew = w38 at BK2 BK4 BK12 BK13 BK14 HB2 HBw hHeld HMw ⊢
 have hcz12_0 : w38.cell? ⟨gb12, 0, none⟩ = some (.slice A0_0 l0_0.length c0_0) := ce_ BK12 0
 have hcz12_1 : w38.cell? ⟨gb12, 1, none⟩ = some (.int .i64 x) := ce_ BK12 1
 have hcz13_0 : w38.cell? ⟨gb13, 0, none⟩ = some (.int .u32 m) := ce_ BK13 0
 have hcz13_1 : w38.cell? ⟨gb13, 1, none⟩ = some (.int .i64 mm) := ce_ BK13 1
 have hfz12_0 := blk_frozen BK12.out 0
 have hfz12_1 := blk_frozen BK12.out 1
 have hfz13_0 := blk_frozen BK13.out 0
 have hfz13_1 := blk_frozen BK13.out 1
 refine pure_ (i := 1) (N := some 67) (v := ?_) (a' := ?_) (B_ 13 2) rfl rfl kf_ (fun _ _ _ h => h) (Or.inl ⟨by rfl, ?_⟩) ?_ ?_
 rotate_left
 {
 intro w'
 go_simp
 with_reducible rfl}
 rotate_left
 {
 exact sp_}
 refine pure_ (i := 4) (N := some 70) (v := ?_) (a' := ?_) (B_ 13 18) rfl rfl kf_ (fun _ _ _ h => h) (Or.inl ⟨by rfl, ?_⟩) ?_ ?_
 rotate_left
 {
 intro w'
 go_simp
 with_reducible rfl}
 rotate_left
 {
 exact sp_}
 refine pure_ (i := 5) (N := some 71) (v := ?_) (a' := ?_) (B_ 13 50) rfl rfl kf_ (fun _ _ _ h => h) (Or.inl ⟨by rfl, ?_⟩) ?_ ?_
 rotate_left
 {
 intro w'
 go_simp
 with_reducible rfl}
 rotate_left
 {
 exact sp_}
 refine pure_ (i := 7) (N := some 73) (v := ?_) (a' := ?_) (B_ 13 178) rfl rfl kf_ (fun _ _ _ h => h) (Or.inl ⟨by rfl, ?_⟩) ?_ ?_
 rotate_left
 {
 intro w'
 go_simp
 with_reducible rfl}
 rotate_left
 {
 exact sp_}
 refine take_ (i := 0) (N := some 66) (v := ?_) (a' := ?_) (B_ 13 179) rfl rfl kf_ (fun _ _ _ h => h) (Or.inl ⟨by rfl, ?_⟩) hHeld ?_ ?_
 rotate_left
 {
 rintro w' ⟨s0, s1, s2, s3⟩
 go_simp
 with_reducible rfl}
 rotate_left
 {
 exact sp_}
 refine take_ (i := 2) (N := some 68) (v := ?_) (a' := ?_) (B_ 13 183) rfl rfl kf_ (fun _ _ _ h => h) (Or.inl ⟨by rfl, ?_⟩) hHeld ?_ ?_
 rotate_left
 {
 rintro w' ⟨s0, s1, s2, s3⟩
 go_simp
 with_reducible rfl}
 rotate_left
 {
 exact sp_}
 refine pure_ (i := 3) (N := some 69) (v := ?_) (a' := ?_) (B_ 13 191) rfl rfl kf_ (fun _ _ _ h => h) (Or.inl ⟨by rfl, ?_⟩) ?_ ?_
 rotate_left
 {
 intro w'
 go_simp
 with_reducible rfl}
 rotate_left
 {
 exact sp_}
 refine pure_ (i := 6) (N := some 72) (v := ?_) (a' := ?_) (B_ 13 255) rfl rfl kf_ (fun _ _ _ h => h) (Or.inl ⟨by rfl, ?_⟩) ?_ ?_
 rotate_left
 {
 intro w'
 go_simp
 with_reducible rfl}
 rotate_left
 {
 exact sp_}
 refine take_ (i := 8) (N := some 74) (v := ?_) (a' := ?_) (B_ 13 511) rfl rfl kf_ (fun _ _ _ h => h) (Or.inl ⟨by rfl, ?_⟩) hHeld ?_ ?_
 rotate_left
 {
 rintro w' ⟨s0, s1, s2, s3⟩
 go_simp
 with_reducible rfl}
 rotate_left
 {
 exact sp_}
 refine pure_ (i := 9) (N := some 75) (v := ?_) (a' := ?_) (B_ 13 1023) rfl rfl kf_ (fun _ _ _ h => h) (Or.inl ⟨by rfl, ?_⟩) ?_ ?_
 rotate_left
 {
 intro w'
 go_simp
 with_reducible rfl}
 rotate_left
 {
 exact sp_}
 refine pure_ (i := 10) (N := some 76) (v := ?_) (a' := ?_) (B_ 13 2047) rfl rfl kf_ (fun _ _ _ h => h) (Or.inl ⟨by rfl, ?_⟩) ?_ ?_
 rotate_left
 {
 intro w'
 go_simp
 with_reducible rfl}
 rotate_left
 {
 exact sp_}
 refine one_ (i := 11) (N := none) (B_ 13 4095) rfl rfl kf_ (by decide) (fun K hK => ?_)
 refine skip_ (w1 := ?_) (by rfl) rfl ?_ ?_
 rotate_left
 {
 go_simp
 rfl}
 refine hK.out _ _ ⟨((cell_far (p := ⟨gb12, 1, none⟩) (show gb14 ≠ gb12 from hne) _).trans ((cell_far (p := ⟨gb12, 0, none⟩) (show gb14 ≠ gb12 from hne) _).trans hHeld.1)), ((cell_far (p := ⟨gb12, 1, none⟩) (show gb14 ≠ gb12 from hne) _).trans ((cell_far (p := ⟨gb12, 0, none⟩) (show gb14 ≠ gb12 from hne) _).trans hHeld.2.1)), ((cell_far (p := ⟨gb12, 1, none⟩) (show gb13 ≠ gb12 from hnd) _).trans ((cell_far (p := ⟨gb12, 0, none⟩) (show gb13 ≠ gb12 from hnd) _).trans hHeld.2.2.1)), ((cell_far (p := ⟨gb12, 1, none⟩) (show gb13 ≠ gb12 from hnd) _).trans ((cell_far (p := ⟨gb12, 0, none⟩) (show gb13 ≠ gb12 from hnd) _).trans hHeld.2.2.2))⟩ (fun hHeld => ?_)
 clear hK K
 refine last_ (i := 12) (N := none) (B_ 13 8191) rfl rfl kf_ (by decide) (fun K hK => ?_)
 refine skip_ (w1 := ?_) (by rfl) rfl ?_ ?_
 rotate_left
 {
 go_simp
 rfl}
 refine hK.out _ _ ?_
 clear hK K
 refine done_ kf_ ?_
 have n1_ : Aside0 (((((w38.setCell ⟨gb12, 0, none⟩ (.slice A0_0 l0_0.length c0_0)).setCell ⟨gb12, 1, none⟩ (.int .i64 t3)).setCell ⟨gb13, 0, none⟩ (.int .u32 (Go.bits .or .u32 (IntKind.u32.wrap (m * 2)) (IntKind.u32.wrap t4)))).setCell ⟨gb13, 1, none⟩ (.int .i64 (wrap64 (mm + 1)))).heap[gb2]? = some (.cells #[.slice A0_0 l0_0.length c0_0, .int .i64 a0_1] 77 (0, 0))) := ⟨by have q2_ := Nat.ne_of_lt (Nat.lt_of_lt_of_le LT2.out GE12.out); have q3_ := Nat.ne_of_lt (Nat.lt_of_lt_of_le LT2.out GE13.out); refine blk_far ?_ q3_ _; refine blk_far ?_ q3_ _; refine blk_far ?_ q2_ _; refine blk_far ?_ q2_ _; exact BK2.out⟩
 have n2_ : Aside0 (((((w38.setCell ⟨gb12, 0, none⟩ (.slice A0_0 l0_0.length c0_0)).setCell ⟨gb12, 1, none⟩ (.int .i64 t3)).setCell ⟨gb13, 0, none⟩ (.int .u32 (Go.bits .or .u32 (IntKind.u32.wrap (m * 2)) (IntKind.u32.wrap t4)))).setCell ⟨gb13, 1, none⟩ (.int .i64 (wrap64 (mm + 1)))).heap[gb4]? = some (.cells #[.slice none 0 0, .int .i64 0] 77 (0, 0))) := ⟨by have q2_ := Nat.ne_of_lt (Nat.lt_of_lt_of_le LT4.out GE12.out); have q3_ := Nat.ne_of_lt (Nat.lt_of_lt_of_le LT4.out GE13.out); refine blk_far ?_ q3_ _; refine blk_far ?_ q3_ _; refine blk_far ?_ q2_ _; refine blk_far ?_ q2_ _; exact BK4.out⟩
 have n3_ : Aside0 (((((w38.setCell ⟨gb12, 0, none⟩ (.slice A0_0 l0_0.length c0_0)).setCell ⟨gb12, 1, none⟩ (.int .i64 t3)).setCell ⟨gb13, 0, none⟩ (.int .u32 (Go.bits .or .u32 (IntKind.u32.wrap (m * 2)) (IntKind.u32.wrap t4)))).setCell ⟨gb13, 1, none⟩ (.int .i64 (wrap64 (mm + 1)))).heap[gb12]? = some (.cells #[.slice A0_0 l0_0.length c0_0, .int .i64 t3] 77 (0, 0))) := ⟨by refine blk_far ?_ hnd' _; refine blk_far ?_ hnd' _; refine blk_put (cs := #[.slice A0_0 l0_0.length c0_0, .int .i64 x]) ?_ 1 _ rfl; refine blk_put (cs := #[.slice A0_0 l0_0.length c0_0, .int .i64 x]) ?_ 0 _ rfl; exact BK12.out⟩
 have n4_ : Aside0 (((((w38.setCell ⟨gb12, 0, none⟩ (.slice A0_0 l0_0.length c0_0)).setCell ⟨gb12, 1, none⟩ (.int .i64 t3)).setCell ⟨gb13, 0, none⟩ (.int .u32 (Go.bits .or .u32 (IntKind.u32.wrap (m * 2)) (IntKind.u32.wrap t4)))).setCell ⟨gb13, 1, none⟩ (.int .i64 (wrap64 (mm + 1)))).heap[gb13]? = some (.cells #[.int .u32 (Go.bits .or .u32 (IntKind.u32.wrap (m * 2)) (IntKind.u32.wrap t4)), .int .i64 (wrap64 (mm + 1))] 119 (0, 0))) := ⟨by refine blk_put (cs := #[.int .u32 (Go.bits .or .u32 (IntKind.u32.wrap (m * 2)) (IntKind.u32.wrap t4)), .int .i64 mm]) ?_ 1 _ rfl; refine blk_put (cs := #[.int .u32 m, .int .i64 mm]) ?_ 0 _ rfl; refine blk_far ?_ hnd _; refine blk_far ?_ hnd _; exact BK13.out⟩
 have n6_ : Aside0 (huff_Read.Own ((((w38.setCell ⟨gb12, 0, none⟩ (.slice A0_0 l0_0.length c0_0)).setCell ⟨gb12, 1, none⟩ (.int .i64 t3)).setCell ⟨gb13, 0, none⟩ (.int .u32 (Go.bits .or .u32 (IntKind.u32.wrap (m * 2)) (IntKind.u32.wrap t4)))).setCell ⟨gb13, 1, none⟩ (.int .i64 (wrap64 (mm + 1)))) w8.heap.size l1.length (huff_Read.tab t1 l1 l1.length)) := ⟨by have q2_ := Nat.ne_of_lt (Nat.lt_of_lt_of_le LTM.out GE12.out); have q3_ := Nat.ne_of_lt (Nat.lt_of_lt_of_le LTM.out GE13.out); refine huff_Read.own_far ?_ q3_ _; refine huff_Read.own_far ?_ q3_ _; refine huff_Read.own_far ?_ q2_ _; refine huff_Read.own_far ?_ q2_ _; exact HMw.out⟩
 have n7_ : Aside0 (Below W2.heap.size W2 ((((w38.setCell ⟨gb12, 0, none⟩ (.slice A0_0 l0_0.length c0_0)).setCell ⟨gb12, 1, none⟩ (.int .i64 t3)).setCell ⟨gb13, 0, none⟩ (.int .u32 (Go.bits .or .u32 (IntKind.u32.wrap (m * 2)) (IntKind.u32.wrap t4)))).setCell ⟨gb13, 1, none⟩ (.int .i64 (wrap64 (mm + 1))))) := ⟨below_set (below_set (below_set (below_set HB2.out GE12.out) GE12.out) GE13.out) GE13.out⟩
 have n8_ : Aside0 (Below w.heap.size w ((((w38.setCell ⟨gb12, 0, none⟩ (.slice A0_0 l0_0.length c0_0)).setCell ⟨gb12, 1, none⟩ (.int .i64 t3)).setCell ⟨gb13, 0, none⟩ (.int .u32 (Go.bits .or .u32 (IntKind.u32.wrap (m * 2)) (IntKind.u32.wrap t4)))).setCell ⟨gb13, 1, none⟩ (.int .i64 (wrap64 (mm + 1))))) := ⟨by have q2_ := Nat.le_trans (below_size HB.out) GE12.out; have q3_ := Nat.le_trans (below_size HB.out) GE13.out; exact below_set (below_set (below_set (below_set HBw.out q2_) q2_) q3_) q3_⟩
 clear BK2 BK4 BK12 BK13 BK14 HMw HB2 HBw hcz12_0 hcz12_1 hcz13_0 hcz13_1 hfz12_0 hfz12_1 hfz13_0 hfz13_1 hHeld
 have BK2 := n1_
 have BK4 := n2_
 have BK12 := n3_
 have BK13 := n4_
 have HMw := n6_
 have HB2 := n7_
 have HBw := n8_
 clear n1_ n2_ n3_ n4_ n6_ n7_ n8_
 generalize ((((w38.setCell ⟨gb12, 0, none⟩ (.slice A0_0 l0_0.length c0_0)).setCell ⟨gb12, 1, none⟩ (.int .i64 t3)).setCell ⟨gb13, 0, none⟩ (.int .u32 (Go.bits .or .u32 (IntKind.u32.wrap (m * 2)) (IntKind.u32.wrap t4)))).setCell ⟨gb13, 1, none⟩ (.int .i64 (wrap64 (mm + 1)))) = wv at BK2 BK4 BK12 BK13 HMw HB2 HBw ⊢
 have hmw : wrap64 (mm + 1) = 16 - (d : Int) := by (
 have := HMM.out
 have := HD16.out
 unfold wrap64; omega)
 rw [hmw] at BK13
 have H := HC7.out
 clear HC7
 obtain ⟨nb, hnb_⟩ : ∃ nb : Int, (Go.bits .or .u32 (IntKind.u32.wrap (m * 2)) (IntKind.u32.wrap t4)) = nb := ⟨_, rfl⟩
 have CN' := CN.out
 rw [hnb_] at H BK13 CN'
 have CNb := Aside0.mk CN'
 clear CN CN'
 obtain ⟨q, hq⟩ : ∃ q : Int, 16 - (d : Int) = q := ⟨_, rfl⟩
 rw [hq] at H BK13
 have HQ := Aside0.mk hq
 clear hmw hq
 obtain ⟨kl, hkl⟩ := huff_Read.key (huff_Read.wf32 CNb.out) (huff_Read.wf64 (x := q) (by have := HD16.out; have := HQ.out; omega))
 obtain ⟨D, hown, htell⟩ := HMw.out
 have HOW := Aside0.mk hown
 have HKL := Aside0.mk hkl
 have HT := Aside0.mk htell
 clear hown hkl htell
 have hcz12_0 : wv.cell? ⟨gb12, 0, none⟩ = some (.slice A0_0 l0_0.length c0_0) := ce_ BK12 0
 have hcz12_1 : wv.cell? ⟨gb12, 1, none⟩ = some (.int .i64 t3) := ce_ BK12 1
 have hcz13_0 : wv.cell? ⟨gb13, 0, none⟩ = some (.int .u32 nb) := ce_ BK13 0
 have hcz13_1 : wv.cell? ⟨gb13, 1, none⟩ = some (.int .i64 q) := ce_ BK13 1
 have hcz2_0 : wv.cell? ⟨gb2, 0, none⟩ = some (.slice A0_0 l0_0.length c0_0) := ce_ BK2 0
 have hcz2_1 : wv.cell? ⟨gb2, 1, none⟩ = some (.int .i64 a0_1) := ce_ BK2 1
 obtain ⟨hcz4_0, hcz4_1, hfz4_0, hfz4_1⟩ := e2_ BK4
 by_cases cl : (huff_Read.look (huff_Read.tab t1 l1 l1.length) nb q).isSome = true
 {
 rw [if_pos cl] at H
 have hhas : Maps.has D kl = true := (HT.out.1 nb q kl HKL.out).1.trans cl
 have HAT := Aside0.mk (HT.out.1 nb q kl HKL.out).2
 simp only [Option.some.injEq, Prod.mk.injEq] at H
 obtain ⟨rfl, rfl, rfl⟩ := H
 clear cl
 go_wp2_with (first | (at_lookup; refine wpList_lookup_own_ok_int _ rfl _ _ 117 rfl 119 3 .i64 huff_Read.law Try.underlying117 Try.underlying3 (huff_Read.zeroE _) w8.heap.size l1.length D rfl HOW.out _ kl rfl HKL.out ?_; intro c hat hwc; obtain rfl : (huff_Read.look (huff_Read.tab t1 l1 l1.length) nb q).getD 0 = c := (by have h_ := HAT.out.symm.trans hat; simpa using h_); clear hat hwc) | go_in)
 refine bodyPost_ret (results_ctt rfl _ _ gb4 77 #[.slice A0_0 l0_0.length c0_0, .int .i64 t3] (0, 0) _ rfl (bp_ BK4) Try.underlying77 rfl kf_) rfl ?_
 exact ⟨by first | rfl | (simp; done) | (simp [*]; done), by repeat (first | (with_reducible first | exact HBw.out | apply below_alloc | apply pw_below_drewN | apply below_drew1 | refine below_set ?_ GE2.out | refine below_set ?_ GE4.out) | exact HBw.out)⟩}
 {
 rw [if_neg cl] at H
 have hhas : Maps.has D kl = false := (HT.out.1 nb q kl HKL.out).1.trans (by simpa using cl)
 by_cases cz : huff_Read.size (huff_Read.tab t1 l1 l1.length) = 1
 {
 rw [if_pos cz] at H
 have czb : (((Maps.size D : Nat) : Int) == 1) = true := by rw [HT.out.2, cz]; rfl
 simp only [Option.some.injEq, Prod.mk.injEq] at H
 obtain ⟨rfl, rfl, rfl⟩ := H
 clear cl cz
 go_wp2_with (first | (at_lookup; refine wpList_lookup_own_ok_int _ rfl _ _ 117 rfl 119 3 .i64 huff_Read.law Try.underlying117 Try.underlying3 (huff_Read.zeroE _) w8.heap.size l1.length D rfl HOW.out _ kl rfl HKL.out ?_; intro c hat hwc; clear hat hwc) | (at_len; refine wpList_len_own _ rfl _ 117 rfl 119 3 Try.underlying117 (plainElem Try.prog 3) w8.heap.size l1.length D rfl HOW.out ?_) | go_in)
 refine bodyPost_ret (results_ctt rfl _ _ gb4 77 #[.slice A0_0 l0_0.length c0_0, .int .i64 a0_1] (0, 0) _ rfl (bp_ BK4) Try.underlying77 rfl kf_) rfl ?_
 exact ⟨by first | rfl | (simp; done) | (simp [*]; done), by repeat (first | (with_reducible first | exact HBw.out | apply below_alloc | apply pw_below_drewN | apply below_drew1 | refine below_set ?_ GE2.out | refine below_set ?_ GE4.out) | exact HBw.out)⟩}
 {
 rw [if_neg cz] at H
 have czb : (((Maps.size D : Nat) : Int) == 1) = false := by rw [beq_eq_false_iff_ne, HT.out.2]; omega
 have HGO := Aside0.mk H
 clear H cl cz
 go_wp2_with (first | (at_lookup; refine wpList_lookup_own_ok_int _ rfl _ _ 117 rfl 119 3 .i64 huff_Read.law Try.underlying117 Try.underlying3 (huff_Read.zeroE _) w8.heap.size l1.length D rfl HOW.out _ kl rfl HKL.out ?_; intro c hat hwc; clear hat hwc) | (at_len; refine wpList_len_own _ rfl _ 117 rfl 119 3 Try.underlying117 (plainElem Try.prog 3) w8.heap.size l1.length D rfl HOW.out ?_) | go_in)
 go_roundg d
 case measure => omega
 case rel => exact ⟨t3, nb, q, ⟨HQ.out.symm⟩, ⟨by have := HD16.out; omega⟩, HGO, ⟨by repeat (first | exact BK12.out | apply blk_drew)⟩, ⟨by repeat (first | exact BK13.out | apply blk_drew)⟩, ⟨by repeat (first | exact HB2.out | apply below_drew1)⟩⟩}}}
 {
 rw [if_neg cn] at H
 exact absurd H (by simp)}}
 {
 rw [if_neg c5] at H
 have c5b0 : (t5 == 0) = false := beq_eq_false_iff_ne.mpr c5
 have c5b1 : (t5 != 0) = true := bne_iff_ne.mpr c5
 simp only [Option.some.injEq, Prod.mk.injEq] at H
 obtain ⟨rfl, rfl, rfl⟩ := H
 go_wp2
 refine bodyPost_ret (results_ctt rfl _ _ gb4 77 #[.slice A0_0 l0_0.length c0_0, .int .i64 a0_1] (0, 0) _ rfl (bp_ BK4) Try.underlying77 rfl kf_) rfl ?_
 exact ⟨by first | rfl | (simp; done) | (simp [*]; done), by repeat (first | (with_reducible first | exact HBw.out | apply below_alloc | apply pw_below_drewN | apply below_drew1 | refine below_set ?_ GE2.out | refine below_set ?_ GE4.out) | exact HBw.out)⟩})))
 | succ g => (
 have cjb : decide ((j : Int) < (l1.length : Int)) = true := decide_eq_true (by omega)
 obtain ⟨hfc, hfl, hfj⟩ := HFIT.out
 have p1 : 0 ≤ (j : Int) := by omega
 have q1 : (j : Int) < (l1.length : Int) := by omega
 have q2 : (j : Int) < (t1.length : Int) := by omega
 obtain ⟨hwc, hwn, hwj⟩ := hfj j (by omega)
 clear hfc hfl hfj
 obtain ⟨kl, hkl⟩ := huff_Read.key hwc hwn
 obtain ⟨D, hown, htell⟩ := HM.out
 have HT := Aside0.mk htell
 have HOW := Aside0.mk hown
 have HKL := Aside0.mk hkl
 have HWJ := Aside0.mk hwj
 clear htell hown hkl hwc hwn hwj
 have hjm : j < maxLen := by have := HFIT.out.2.1; unfold maxLen; omega
 have HJM := Aside0.mk hjm
 clear hjm
 obtain ⟨ad1, e1, hx1⟩ := Kd.at_int HR1.out (j : Int) p1 q1
 cases e1
 obtain ⟨ad2, e2, hx2⟩ := Kd.at_int HOC.out (j : Int) p1 q2
 cases e2
 replace hx1 := (HBa.out.cell (World.block_lt_of_cell? w _ hx1)).trans hx1
 replace hx2 := (HB8.out.cell (World.block_lt_of_cell? w8 _ hx2)).trans hx2
 rw [Int.toNat_natCast] at hx1 hx2
 replace p1 := eq_true p1
 replace q1 := eq_true q1
 replace q2 := eq_true q2
 by_cases cu : rd l1 (j : Int) > 0
 {
 have cub : decide (0 < rd l1 (j : Int)) = true := decide_eq_true cu
 have HCU := Aside0.mk cu
 clear cu
 go_wp2_with (first | (at_mapUpdate; refine wpList_mapUpdate_own _ rfl _ _ _ 117 rfl 119 3 huff_Read.law Try.underlying117 (plainElem Try.prog 3) w8.heap.size j D rfl HOW.out HJM.out _ _ kl rfl rfl HKL.out (.lit (.int .i64 (j : Int))) [] (plainElem_int Try.underlying3 HWJ.out) ?_; intro w9 hown1 hgrow1) | go_in)
 go_roundg g
 case measure => omega
 case rel => (
 refine ⟨j + 1, by omega, by (have := HFIT.out.2.1; simp; unfold wrap64; omega), ⟨⟨_, hown1, ?_⟩⟩, ⟨HB8.out.grown hgrow1 (below_size HB8.out) (fun k_ hk => by cases hk; exact Nat.le_refl _)⟩⟩
 have e : huff_Read.tab t1 l1 (j + 1) = (rd t1 (j : Int), rd l1 (j : Int), (j : Int)) :: huff_Read.tab t1 l1 j := if_pos HCU.out
 rw [e]
 exact huff_Read.tells_put HT.out (HOW.out.tidy huff_Read.law) HKL.out)}
 {
 have cub : decide (0 < rd l1 (j : Int)) = false := decide_eq_false cu
 have HCU := Aside0.mk cu
 clear cu
 go_wp2
 go_roundg g
 case measure => omega
 case rel => (
 have e : huff_Read.tab t1 l1 (j + 1) = huff_Read.tab t1 l1 j := if_neg (by have := HCU.out; omega)
 refine ⟨j + 1, by omega, by (have := HFIT.out.2.1; simp; unfold wrap64; omega), ⟨⟨D, HOW.out.mono (Nat.le_succ j), by rw [e]; exact HT.out⟩⟩, ⟨by repeat (first | exact HB8.out | apply pw_below_drewN | apply below_drew1)⟩⟩)}))}
 {
 rw [if_neg cf] at H
 exact absurd H (by simp)}}}
 {
 rw [if_neg ce] at H
 have ceb0 : (t2 == 0) = false := beq_eq_false_iff_ne.mpr ce
 have ceb1 : (t2 != 0) = true := bne_iff_ne.mpr ce
 simp only [Option.some.injEq, Prod.mk.injEq] at H
 obtain ⟨rfl, rfl, rfl⟩ := H
 go_wp2
 refine bodyPost_ret (results_ctt rfl _ _ gb4 77 #[.slice A0_0 l0_0.length c0_0, .int .i64 a0_1] (0, 0) _ rfl (bp_ BK4) Try.underlying77 rfl kf_) rfl ?_
 exact ⟨by first | rfl | (simp; done) | (simp [*]; done), bl_ HB⟩}
end Go.Proofs.Ytpdfdaoohknfoaa.P
namespace Go.Proofs.Ytpdfdaoohknfoaa.P
open Go.RowKit Go.Proofs.YtpdfdaoohknfoaaW.PrintWords Go.Proofs.YtpdfdaoohknfoaaW.PrintLast Go.Proofs.YtpdfdaoohknfoaaW.PrintMore
attribute [local go_sem] max2_int min2_int max_two min_two max_three min_three max_four min_four   -- for this text's walks alone
set_option linter.unusedVariables false
set_option linter.unusedSimpArgs false

mutual
def vpack_taken.j0 : Nat → Int → Int → Bool → List Int → Int → Option (Int × Int × Int)
  | 0, _, _, _, _, _ => none
  | k + 1, x7, x8, x24, x545000, x545001 => if x24 = true then (some (x545001, wrap64 (x7 - 7), x8)) else ((bits_Get.f k x545000 x545001 1).bind fun bt549 => ((bits_Get.f k x545000 bt549.1 22).bind fun bt552 => (if bt549.2.2 = 0 then (if bt552.2.2 = 0 then (if bt549.2.1 = 1 then (vpack_taken.j1 k bt549.2.1 bt552.2.1 (bt552.2.1 == 0) x545000 bt552.1) else (vpack_taken.j1 k bt549.2.1 bt552.2.1 false x545000 bt552.1)) else (some (bt552.1, 0, bt552.2.2))) else (some (bt552.1, 0, bt549.2.2)))))
def vpack_taken.j1 : Nat → Int → Int → Bool → List Int → Int → Option (Int × Int × Int)
  | 0, _, _, _, _, _ => none
  | k + 1, x9, x10, x51, x545000, x545001 => if x51 = true then (some (x545001, 0, 2)) else (if x9 = 1 then (some (x545001, wrap64 (-(wrap64 (x10))), 0)) else (some (x545001, wrap64 (x10), 0)))
end
def vpack_taken.f (k : Nat) (l0_0 : List Int) (a0_1 : Int) (l1 : List Int) : Option (Int × Int × Int) := (huff_Read.f k l0_0 a0_1 l1).bind fun bt546 => (if bt546.2.2 = 0 then (vpack_taken.j0 k bt546.2.1 bt546.2.2 (bt546.2.1 != 15) l0_0 bt546.1) else (vpack_taken.j0 k bt546.2.1 bt546.2.2 true l0_0 bt546.1))
theorem vpack_taken.mono_l : ∀ k, (∀ y0 y1 y2 y3 y4, LeO (vpack_taken.j0 k y0 y1 y2 y3 y4) (vpack_taken.j0 (k + 1) y0 y1 y2 y3 y4)) ∧ (∀ y0 y1 y2 y3 y4, LeO (vpack_taken.j1 k y0 y1 y2 y3 y4) (vpack_taken.j1 (k + 1) y0 y1 y2 y3 y4))
  | 0 => ⟨fun _ _ _ _ _ r h => by simp [vpack_taken.j0] at h, fun _ _ _ _ _ r h => by simp [vpack_taken.j1] at h⟩
  | k + 1 => by
    obtain ⟨ih0, ih1⟩ := vpack_taken.mono_l k
    refine ⟨?_, ?_⟩
    all_goals (intros; first | unfold vpack_taken.j0 | unfold vpack_taken.j1)
    all_goals with_reducible repeat' first
     | exact ih0 _ _ _ _ _
     | exact ih1 _ _ _ _ _
     | exact bits_Get.mono _ _ _ _
     | exact huff_Read.mono _ _ _ _
     | exact LeO.refl _
     | exact LeO.none _
     | refine LeO.ite ?_ ?_
     | refine LeO.bind ?_ (fun _ => ?_)
theorem vpack_taken.mono : ∀ a0 a1 a2 k, LeO (vpack_taken.f k a0 a1 a2) (vpack_taken.f (k + 1) a0 a1 a2) := by
  intro a0 a1 a2 k
  obtain ⟨ih0, ih1⟩ := vpack_taken.mono_l k
  unfold vpack_taken.f
  with_reducible repeat' first
   | exact ih0 _ _ _ _ _
   | exact ih1 _ _ _ _ _
   | exact bits_Get.mono _ _ _ _
   | exact huff_Read.mono _ _ _ _
   | exact LeO.refl _
   | exact LeO.none _
   | refine LeO.ite ?_ ?_
   | refine LeO.bind ?_ (fun _ => ?_)
set_option maxHeartbeats 8000000 in
set_option maxRecDepth 100000 in
theorem vpack_taken.calls (k : Nat) (A0_0 : Option Addr) (c0_0 : Nat) (l0_0 : List Int) (a0_1 : Int) (A1 : Option Addr) (c1 : Nat) (l1 : List Int) (r1 : Int) (r2 : Int) (r3 : Int) (w : World) (hr0_0 : Kd.C (Kd.int .u8) w A0_0 l0_0.length l0_0) (hc0_0 : l0_0.length ≤ c0_0) (hr1 : Kd.C (Kd.int .i64) w A1 l1.length l1) (hc1 : l1.length ≤ c1) (h : vpack_taken.f k l0_0 a0_1 l1 = some (r1, r2, r3)) :
    Calls Try.prog 57 #[.agg #[.slice A0_0 l0_0.length c0_0, .int .i64 a0_1], .slice A1 l1.length c1] w fun e w' => e = .returned (.tuple #[.agg #[.slice A0_0 l0_0.length c0_0, .int .i64 r1], .int .i64 r2, .int .i64 r3]) ∧ Below w.heap.size w w' := by
 have hu77 := Try.underlying77
 have HR0_0 := Aside0.mk hr0_0
 have HC0_0 := Aside0.mk hc0_0
 clear hr0_0 hc0_0
 have HR1 := Aside0.mk hr1
 have HC1 := Aside0.mk hc1
 clear hr1 hc1
 have HB := Aside0.mk (Below.refl w.heap.size w)
 have H : ((huff_Read.f k l0_0 a0_1 l1).bind fun bt546 => (if bt546.2.2 = 0 then (vpack_taken.j0 k bt546.2.1 bt546.2.2 (bt546.2.1 != 15) l0_0 bt546.1) else (vpack_taken.j0 k bt546.2.1 bt546.2.2 true l0_0 bt546.1))) = some (r1, r2, r3) := h
 clear h
 obtain ⟨⟨t546, t547, t548⟩, A3, H⟩ := ob_ H
 (try dsimp only at H)
 have HC4 := Aside0.mk H
 clear H
 go_enter Try.func57, Try.ntmps57
 go_upto_region 2 with (first | ((with_reducible refine gate_dst (N := 2) rfl ?_); refine bx_ HB 2 #[.slice A0_0 l0_0.length c0_0, .int .i64 a0_1] 77 ?_; clear HB; intro gb544 hg w5 hb BK544 GE544 HB; have GW544 := GE544; clear hb hg) | ((with_reducible refine gate_dst (N := 4) rfl ?_); refine bx_ HB 4 #[.slice none 0 0, .int .i64 0] 77 ?_; clear HB; intro gb545 hg w6 hb BK545 GE545 HB; have GW545 := GE545; obtain ⟨NB544_545, NB545_544⟩ := NN_ BK544 hg; replace BK544 := FB_ BK544 hb; clear hb hg; have hnb7 := NB544_545.out; have hnc7 := NB545_544.out; obtain ⟨hcz8_0, hcz8_1, hfz8_0, hfz8_1⟩ := e2_ BK544) | ((with_reducible refine gate_callee (f := 56) rfl ?_); refine gL_ (some 15) Try.func56 #[.agg #[.slice A0_0 l0_0.length c0_0, .int .i64 a0_1], .slice A1 l1.length c1] ?_; (with_reducible refine (huff_Read.calls k _ _ l0_0 a0_1 _ _ l1 t546 t547 t548 _ ?side1 ?side2 ?side3 ?side4 A3.out).mono ?_); (case side1 => exact kC_ HR0_0 HB); (case side2 => exact HC0_0.out); (case side3 => exact kC_ HR1 HB); (case side4 => exact HC1.out); rintro e w9 ⟨rfl, hb⟩; refine ⟨_, rfl, ?_⟩; replace BK544 := FB_ BK544 hb; replace BK545 := FB_ BK545 hb; replace HB := BS_ HB hb; (try clear hb); obtain ⟨hcz10_0, hcz10_1, hfz10_0, hfz10_1⟩ := e2_ BK544))
 (try simp only [Act.put, List.setIfInBounds_toArray, List.set_cons_zero, List.set_cons_succ])
 go_cut [24] (fun v24 wc => ∃ (kq : Nat) (x24_3 : Bool), v24 = .bool x24_3 ∧ Aside0 (vpack_taken.j0 kq t547 t548 x24_3 l0_0 t546 = some (r1, r2, r3)) ∧ Aside0 (kq ≤ k) ∧ Aside0 (wc.heap[gb544]? = some (.cells #[(.slice A0_0 l0_0.length c0_0), .int .i64 t546] 77 (0, 0))) ∧ Aside0 (wc.heap[gb545]? = some (.cells #[(.slice none 0 0), .int .i64 0] 77 (0, 0))) ∧ Aside0 (Below w.heap.size w wc))
 case first => (
 have H := HC4.out
 clear HC4
 by_cases c11 : t548 = 0
 {
 rw [if_pos c11] at H
 have c11b0 : (t548 == 0) = true := beq_iff_eq.mpr c11
 have c11b1 : (t548 != 0) = false := bne_eq_false_iff_eq.mpr c11
 clear c11
 (first | rw [c11b0] | (simp only [i64_w, i32_w]; rw [c11b0]) | skip)
 have H' := Aside0.mk H
 clear H
 go_wp2
 go_meet
 case rel => exact ⟨_, ((t547 != 15)), rs_, H', ⟨ol_⟩, ⟨bp_ BK544⟩, ⟨bk_ BK545⟩, ⟨bl_ HB⟩⟩}
 {
 rw [if_neg c11] at H
 have c11b0 : (t548 == 0) = false := beq_eq_false_iff_ne.mpr c11
 have c11b1 : (t548 != 0) = true := bne_iff_ne.mpr c11
 (first | rw [c11b0] | (simp only [i64_w, i32_w]; rw [c11b0]) | skip)
 have H' := Aside0.mk H
 clear H
 go_wp2
 go_meet
 case rel => exact ⟨_, (true), rs_, H', ⟨ol_⟩, ⟨bp_ BK544⟩, ⟨bk_ BK545⟩, ⟨bl_ HB⟩⟩})
 case rest => (
 clear HC4
 try clear c1
 try clear hcz10_0
 try clear hcz10_1
 try clear hcz8_0
 try clear hcz8_1
 try clear hfz10_0
 try clear hfz10_1
 try clear hfz8_0
 try clear hfz8_1
 obtain ⟨kq, x24_3, rfl, HA, HJ3, BK544, BK545, HB⟩ := hcut
 cases kq with
 | zero => exact absurd HA.out (by simp [vpack_taken.j0])
 | succ kj3 => (
 have H := HA.out
 clear HA
 simp only [vpack_taken.j0] at H
 by_cases c12 : x24_3 = true
 {
 subst c12
 rw [if_pos rfl] at H
 simp only [Option.some.injEq, Prod.mk.injEq] at H
 obtain ⟨rfl, rfl, rfl⟩ := H
 have hnb13 := NB544_545.out
 have hnc13 := NB545_544.out
 obtain ⟨hcz14_0, hcz14_1, hfz14_0, hfz14_1⟩ := e2_ BK544
 obtain ⟨hcz15_0, hcz15_1, hfz15_0, hfz15_1⟩ := e2_ BK545
 go_wp2
 refine bodyPost_ret (results_ctt rfl _ _ gb545 77 #[.slice A0_0 l0_0.length c0_0, .int .i64 t546] (0, 0) _ rfl (bp_ BK545) Try.underlying77 rfl kf_) rfl ?_
 exact ⟨by first | rfl | (simp [errW_none, errW_some] <;> rfl) | (simp [*, errW_none, errW_some] <;> rfl), bl_ HB⟩}
 {
 replace c12 := Bool.eq_false_iff.mpr c12
 subst c12
 rw [if_neg (show ¬ (false = true) by decide)] at H
 obtain ⟨⟨t549, t550, t551⟩, A16, H⟩ := ob_ H
 (try dsimp only at H)
 obtain ⟨⟨t552, t553, t554⟩, A17, H⟩ := ob_ H
 (try dsimp only at H)
 by_cases c18 : t551 = 0
 {
 rw [if_pos c18] at H
 have c18b0 : (t551 == 0) = true := beq_iff_eq.mpr c18
 have c18b1 : (t551 != 0) = false := bne_eq_false_iff_eq.mpr c18
 clear c18
 by_cases c19 : t554 = 0
 {
 rw [if_pos c19] at H
 have c19b0 : (t554 == 0) = true := beq_iff_eq.mpr c19
 have c19b1 : (t554 != 0) = false := bne_eq_false_iff_eq.mpr c19
 clear c19
 have HC20 := Aside0.mk H
 clear H
 have hnb21 := NB544_545.out
 have hnc21 := NB545_544.out
 obtain ⟨hcz22_0, hcz22_1, hfz22_0, hfz22_1⟩ := e2_ BK544
 go_upto_region 10 with (first | ((with_reducible refine gate_callee (f := 55) rfl ?_); refine gL_ (some 31) Try.func55 #[.agg #[.slice A0_0 l0_0.length c0_0, .int .i64 t546], .int .i64 1] ?_; (with_reducible refine (bits_Get.calls kj3 _ _ l0_0 t546 1 t549 t550 t551 _ ?side1 ?side2 A16.out).mono ?_); (case side1 => exact kC_ HR0_0 HB); (case side2 => exact HC0_0.out); rintro e w23 ⟨rfl, hb⟩; refine ⟨_, rfl, ?_⟩; replace BK544 := FB_ BK544 hb; replace BK545 := FB_ BK545 hb; replace HB := BS_ HB hb; (try clear hb); obtain ⟨hcz24_0, hcz24_1, hfz24_0, hfz24_1⟩ := e2_ BK544) | ((with_reducible refine gate_callee (f := 55) rfl ?_); refine gL_ (some 37) Try.func55 #[.agg #[.slice A0_0 l0_0.length c0_0, .int .i64 t549], .int .i64 22] ?_; (with_reducible refine (bits_Get.calls kj3 _ _ l0_0 t549 22 t552 t553 t554 _ ?side1 ?side2 A17.out).mono ?_); (case side1 => exact Kd.C_below HR0_0.out (bl_ HB)); (case side2 => exact HC0_0.out); rintro e w25 ⟨rfl, hb⟩; refine ⟨_, rfl, ?_⟩; replace BK544 := Aside0.mk (blk_below (g := gb544) (o := .cells #[.slice A0_0 l0_0.length c0_0, .int .i64 t549] 77 (0, 0)) (bp_ BK544) hb); replace BK545 := FB_ BK545 hb; replace HB := BS_ HB hb; (try clear hb); obtain ⟨hcz26_0, hcz26_1, hfz26_0, hfz26_1⟩ := e2_ BK544))
 (try simp only [Act.put, List.setIfInBounds_toArray, List.set_cons_zero, List.set_cons_succ])
 go_cut [51] (fun v51 wc => ∃ (kq : Nat) (x51_19 : Bool), v51 = .bool x51_19 ∧ Aside0 (vpack_taken.j1 kq t550 t553 x51_19 l0_0 t552 = some (r1, r2, r3)) ∧ Aside0 (kq ≤ kj3) ∧ Aside0 (wc.heap[gb544]? = some (.cells #[(.slice A0_0 l0_0.length c0_0), .int .i64 t552] 77 (0, 0))) ∧ Aside0 (wc.heap[gb545]? = some (.cells #[(.slice none 0 0), .int .i64 0] 77 (0, 0))) ∧ Aside0 (Below w.heap.size w wc))
 case first => (
 have H := HC20.out
 clear HC20
 by_cases c27 : t550 = 1
 {
 rw [if_pos c27] at H
 have c27b0 : (t550 == 1) = true := beq_iff_eq.mpr c27
 have c27b1 : (t550 != 1) = false := bne_eq_false_iff_eq.mpr c27
 clear c27
 (first | rw [c27b0] | (simp only [i64_w, i32_w]; rw [c27b0]) | skip)
 have H' := Aside0.mk H
 clear H
 go_wp2
 go_meet
 case rel => exact ⟨_, ((t553 == 0)), rs_, H', ⟨by have := HJ3.out; first | omega | exact Nat.le_refl _⟩, ⟨bp_ BK544⟩, ⟨bk_ BK545⟩, ⟨bl_ HB⟩⟩}
 {
 rw [if_neg c27] at H
 have c27b0 : (t550 == 1) = false := beq_eq_false_iff_ne.mpr c27
 have c27b1 : (t550 != 1) = true := bne_iff_ne.mpr c27
 (first | rw [c27b0] | (simp only [i64_w, i32_w]; rw [c27b0]) | skip)
 have H' := Aside0.mk H
 clear H
 go_wp2
 go_meet
 case rel => exact ⟨_, (false), rs_, H', ⟨by have := HJ3.out; first | omega | exact Nat.le_refl _⟩, ⟨bp_ BK544⟩, ⟨bk_ BK545⟩, ⟨bl_ HB⟩⟩})
 case rest => (
 clear HC20
 try clear c1
 try clear c12
 try clear c18
 try clear c18b0
 try clear c18b1
 try clear c19
 try clear c19b0
 try clear c19b1
 try clear hcz10_0
 try clear hcz10_1
 try clear hcz22_0
 try clear hcz22_1
 try clear hcz24_0
 try clear hcz24_1
 try clear hcz26_0
 try clear hcz26_1
 try clear hcz8_0
 try clear hcz8_1
 try clear hfz10_0
 try clear hfz10_1
 try clear hfz22_0
 try clear hfz22_1
 try clear hfz24_0
 try clear hfz24_1
 try clear hfz26_0
 try clear hfz26_1
 try clear hfz8_0
 try clear hfz8_1
 obtain ⟨kq, x51_19, rfl, HA, HJ19, BK544, BK545, HB⟩ := hcut
 cases kq with
 | zero => exact absurd HA.out (by simp [vpack_taken.j1])
 | succ kj19 => (
 have H := HA.out
 clear HA
 simp only [vpack_taken.j1] at H
 by_cases c28 : x51_19 = true
 {
 subst c28
 rw [if_pos rfl] at H
 simp only [Option.some.injEq, Prod.mk.injEq] at H
 obtain ⟨rfl, rfl, rfl⟩ := H
 have hnb29 := NB544_545.out
 have hnc29 := NB545_544.out
 obtain ⟨hcz30_0, hcz30_1, hfz30_0, hfz30_1⟩ := e2_ BK544
 obtain ⟨hcz31_0, hcz31_1, hfz31_0, hfz31_1⟩ := e2_ BK545
 go_wp2
 refine bodyPost_ret (results_ctt rfl _ _ gb545 77 #[.slice A0_0 l0_0.length c0_0, .int .i64 t552] (0, 0) _ rfl (bp_ BK545) Try.underlying77 rfl kf_) rfl ?_
 exact ⟨by first | rfl | (simp [errW_none, errW_some] <;> rfl) | (simp [*, errW_none, errW_some] <;> rfl), bl_ HB⟩}
 {
 replace c28 := Bool.eq_false_iff.mpr c28
 subst c28
 rw [if_neg (show ¬ (false = true) by decide)] at H
 by_cases c32 : t550 = 1
 {
 rw [if_pos c32] at H
 have c32b0 : (t550 == 1) = true := beq_iff_eq.mpr c32
 have c32b1 : (t550 != 1) = false := bne_eq_false_iff_eq.mpr c32
 clear c32
 simp only [Option.some.injEq, Prod.mk.injEq] at H
 obtain ⟨rfl, rfl, rfl⟩ := H
 have hnb33 := NB544_545.out
 have hnc33 := NB545_544.out
 obtain ⟨hcz34_0, hcz34_1, hfz34_0, hfz34_1⟩ := e2_ BK544
 obtain ⟨hcz35_0, hcz35_1, hfz35_0, hfz35_1⟩ := e2_ BK545
 go_wp2
 refine bodyPost_ret (results_ctt rfl _ _ gb545 77 #[.slice A0_0 l0_0.length c0_0, .int .i64 t552] (0, 0) _ rfl (bp_ BK545) Try.underlying77 rfl kf_) rfl ?_
 exact ⟨by first | rfl | (simp [errW_none, errW_some] <;> rfl) | (simp [*, errW_none, errW_some] <;> rfl), bl_ HB⟩}
 {
 rw [if_neg c32] at H
 have c32b0 : (t550 == 1) = false := beq_eq_false_iff_ne.mpr c32
 have c32b1 : (t550 != 1) = true := bne_iff_ne.mpr c32
 simp only [Option.some.injEq, Prod.mk.injEq] at H
 obtain ⟨rfl, rfl, rfl⟩ := H
 have hnb36 := NB544_545.out
 have hnc36 := NB545_544.out
 obtain ⟨hcz37_0, hcz37_1, hfz37_0, hfz37_1⟩ := e2_ BK544
 obtain ⟨hcz38_0, hcz38_1, hfz38_0, hfz38_1⟩ := e2_ BK545
 go_wp2
 refine bodyPost_ret (results_ctt rfl _ _ gb545 77 #[.slice A0_0 l0_0.length c0_0, .int .i64 t552] (0, 0) _ rfl (bp_ BK545) Try.underlying77 rfl kf_) rfl ?_
 exact ⟨by first | rfl | (simp [errW_none, errW_some] <;> rfl) | (simp [*, errW_none, errW_some] <;> rfl), bl_ HB⟩}}))}
 {
 rw [if_neg c19] at H
 have c19b0 : (t554 == 0) = false := beq_eq_false_iff_ne.mpr c19
 have c19b1 : (t554 != 0) = true := bne_iff_ne.mpr c19
 simp only [Option.some.injEq, Prod.mk.injEq] at H
 obtain ⟨rfl, rfl, rfl⟩ := H
 have hnb39 := NB544_545.out
 have hnc39 := NB545_544.out
 obtain ⟨hcz40_0, hcz40_1, hfz40_0, hfz40_1⟩ := e2_ BK544
 go_wp2_with (first | ((with_reducible refine gate_callee (f := 55) rfl ?_); refine gL_ (some 31) Try.func55 #[.agg #[.slice A0_0 l0_0.length c0_0, .int .i64 t546], .int .i64 1] ?_; (with_reducible refine (bits_Get.calls kj3 _ _ l0_0 t546 1 t549 t550 t551 _ ?side1 ?side2 A16.out).mono ?_); (case side1 => exact kC_ HR0_0 HB); (case side2 => exact HC0_0.out); rintro e w41 ⟨rfl, hb⟩; refine ⟨_, rfl, ?_⟩; replace BK544 := FB_ BK544 hb; replace BK545 := FB_ BK545 hb; replace HB := BS_ HB hb; (try clear hb); obtain ⟨hcz42_0, hcz42_1, hfz42_0, hfz42_1⟩ := e2_ BK544) | ((with_reducible refine gate_callee (f := 55) rfl ?_); refine gL_ (some 37) Try.func55 #[.agg #[.slice A0_0 l0_0.length c0_0, .int .i64 t549], .int .i64 22] ?_; (with_reducible refine (bits_Get.calls kj3 _ _ l0_0 t549 22 t552 t553 t554 _ ?side1 ?side2 A17.out).mono ?_); (case side1 => exact Kd.C_below HR0_0.out (bl_ HB)); (case side2 => exact HC0_0.out); rintro e w43 ⟨rfl, hb⟩; refine ⟨_, rfl, ?_⟩; replace BK544 := Aside0.mk (blk_below (g := gb544) (o := .cells #[.slice A0_0 l0_0.length c0_0, .int .i64 t549] 77 (0, 0)) (bp_ BK544) hb); replace BK545 := FB_ BK545 hb; replace HB := BS_ HB hb; (try clear hb); obtain ⟨hcz44_0, hcz44_1, hfz44_0, hfz44_1⟩ := e2_ BK544; obtain ⟨hcz45_0, hcz45_1, hfz45_0, hfz45_1⟩ := e2_ BK545))
 refine bodyPost_ret (results_ctt rfl _ _ gb545 77 #[.slice A0_0 l0_0.length c0_0, .int .i64 t552] (0, 0) _ rfl (bp_ BK545) Try.underlying77 rfl kf_) rfl ?_
 exact ⟨by first | rfl | (simp [errW_none, errW_some] <;> rfl) | (simp [*, errW_none, errW_some] <;> rfl), bl_ HB⟩}}
 {
 rw [if_neg c18] at H
 have c18b0 : (t551 == 0) = false := beq_eq_false_iff_ne.mpr c18
 have c18b1 : (t551 != 0) = true := bne_iff_ne.mpr c18
 simp only [Option.some.injEq, Prod.mk.injEq] at H
 obtain ⟨rfl, rfl, rfl⟩ := H
 have hnb46 := NB544_545.out
 have hnc46 := NB545_544.out
 obtain ⟨hcz47_0, hcz47_1, hfz47_0, hfz47_1⟩ := e2_ BK544
 go_wp2_with (first | ((with_reducible refine gate_callee (f := 55) rfl ?_); refine gL_ (some 31) Try.func55 #[.agg #[.slice A0_0 l0_0.length c0_0, .int .i64 t546], .int .i64 1] ?_; (with_reducible refine (bits_Get.calls kj3 _ _ l0_0 t546 1 t549 t550 t551 _ ?side1 ?side2 A16.out).mono ?_); (case side1 => exact kC_ HR0_0 HB); (case side2 => exact HC0_0.out); rintro e w48 ⟨rfl, hb⟩; refine ⟨_, rfl, ?_⟩; replace BK544 := FB_ BK544 hb; replace BK545 := FB_ BK545 hb; replace HB := BS_ HB hb; (try clear hb); obtain ⟨hcz49_0, hcz49_1, hfz49_0, hfz49_1⟩ := e2_ BK544) | ((with_reducible refine gate_callee (f := 55) rfl ?_); refine gL_ (some 37) Try.func55 #[.agg #[.slice A0_0 l0_0.length c0_0, .int .i64 t549], .int .i64 22] ?_; (with_reducible refine (bits_Get.calls kj3 _ _ l0_0 t549 22 t552 t553 t554 _ ?side1 ?side2 A17.out).mono ?_); (case side1 => exact Kd.C_below HR0_0.out (bl_ HB)); (case side2 => exact HC0_0.out); rintro e w50 ⟨rfl, hb⟩; refine ⟨_, rfl, ?_⟩; replace BK544 := Aside0.mk (blk_below (g := gb544) (o := .cells #[.slice A0_0 l0_0.length c0_0, .int .i64 t549] 77 (0, 0)) (bp_ BK544) hb); replace BK545 := FB_ BK545 hb; replace HB := BS_ HB hb; (try clear hb); obtain ⟨hcz51_0, hcz51_1, hfz51_0, hfz51_1⟩ := e2_ BK544; obtain ⟨hcz52_0, hcz52_1, hfz52_0, hfz52_1⟩ := e2_ BK545))
 refine bodyPost_ret (results_ctt rfl _ _ gb545 77 #[.slice A0_0 l0_0.length c0_0, .int .i64 t552] (0, 0) _ rfl (bp_ BK545) Try.underlying77 rfl kf_) rfl ?_
 exact ⟨by first | rfl | (simp [errW_none, errW_some] <;> rfl) | (simp [*, errW_none, errW_some] <;> rfl), bl_ HB⟩}}))
end Go.Proofs.Ytpdfdaoohknfoaa.P
