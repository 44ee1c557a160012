/- Words, walks and what they compute, as the law's proof needs them. -/
import Derived.Test.YtdajlfijkbafiaaN3
set_option linter.unusedVariables false
set_option linter.unusedSimpArgs false
namespace Go.Proofs.Ytdajlfijkbafiaa.P
open Go.RowKit Go.Proofs.YtdajlfijkbafiaaW.PrintWords Go.Proofs.YtdajlfijkbafiaaW.PrintLast Go.Proofs.YtdajlfijkbafiaaW.PrintMore
attribute [local go_sem] max2_int min2_int max_two min_two max_three min_three max_four min_four
mutual
def vcodec_Decode.j0 : Nat → List (List Int) → List (List Int) → List (List Int) → Option ((List (List Int)) × Int)
  | 0, _, _, _ => none
  | k + 1, x7, x230000, x230001 => vcodec_Decode.l0 k x7 x230000 (x230000.length : Int) 0 ([] : List (List Int))
def vcodec_Decode.l0 : Nat → List (List Int) → List (List Int) → Int → Int → List (List Int) → Option ((List (List Int)) × Int)
  | 0, _, _, _, _, _ => none
  | k + 1, x7, x45, x46, x47, x252000 => if x47 < x46 then (if 0 ≤ x47 then (if x47 < (x45.length : Int) then (if 16 ≤ 35184372088832 then (if ((rd_L1 x45 x47).length : Int) > 0 then ((floor_Floor.f k (rd_L1 x45 x47)).bind fun bt256 => (if x47 < (x7.length : Int) then ((vcodec_near.f k (rd_L2 x7 x47)).bind fun t261 => ((remap_Restore.f k t261 bt256.1).bind fun bt264 => (if x252000.length < 5864062014805 then (vcodec_Decode.l0 k x7 x45 x46 (wrap64 (x47 + 1)) (x252000 ++ [bt264.1])) else (none)))) else (none))) else (if x252000.length < 5864062014805 then (vcodec_Decode.l0 k x7 x45 x46 (wrap64 (x47 + 1)) (x252000 ++ [(List.replicate 16 0)])) else (none))) else (none)) else (none)) else (none)) else (some (x252000, 0))
end
def vcodec_Decode.f (k : Nat) (a0_0 : Int) (a0_1 : Int) (l0_2 : List Int) (l0_3 : List Int) (l1_0 : List (List Int)) (l1_1 : List (List Int)) : Option ((List (List Int)) × Int) := (vpack_Right.f k a0_0 a0_1 l0_2 l0_3 l1_0 l1_1).bind fun t231 => (if t231 = true then ((some (([] : List (List Int)) : List (List Int))).bind fun y233 => (if y233.length + l1_1.length < 5864062014805 then ((some (y233 ++ l1_1 : List (List Int))).bind fun y236 => ((vcodec_codec_both.f a0_0 a0_1 l0_2 l0_3 l1_0).bind fun t239 => (if t239 = true then (if 0 < (y236.length : Int) then (if 1 < (y236.length : Int) then ((couple_PartAll.f k (rd_L2 y236 0) (rd_L2 y236 1)).bind fun bt242 => (vcodec_Decode.j0 k ((y236.set (0 : Int).toNat bt242.1).set (1 : Int).toNat bt242.2.1) l1_0 l1_1)) else (none)) else (none)) else (vcodec_Decode.j0 k y236 l1_0 l1_1)))) else (none))) else (some (([] : List (List Int)), 1)))
theorem vcodec_Decode.mono_l : ∀ k, (∀ y0 y1 y2, LeO (vcodec_Decode.j0 k y0 y1 y2) (vcodec_Decode.j0 (k + 1) y0 y1 y2)) ∧ (∀ y0 y1 y2 y3 y4, LeO (vcodec_Decode.l0 k y0 y1 y2 y3 y4) (vcodec_Decode.l0 (k + 1) y0 y1 y2 y3 y4))
  | 0 => ⟨fun _ _ _ r h => by simp [vcodec_Decode.j0] at h, fun _ _ _ _ _ r h => by simp [vcodec_Decode.l0] at h⟩
  | k + 1 => by
    obtain ⟨ih0, ih1⟩ := vcodec_Decode.mono_l k
    refine ⟨?_, ?_⟩
    all_goals (intros; first | unfold vcodec_Decode.j0 | unfold vcodec_Decode.l0)
    all_goals with_reducible repeat' first
     | exact ih0 _ _ _
     | exact ih1 _ _ _ _ _
     | exact couple_PartAll.mono _ _ _
     | exact floor_Floor.mono _ _
     | exact remap_Restore.mono _ _ _
     | exact vcodec_near.mono _ _
     | exact vpack_Right.mono _ _ _ _ _ _ _
     | exact LeO.refl _
     | exact LeO.none _
     | refine LeO.ite ?_ ?_
     | refine LeO.bind ?_ (fun _ => ?_)
theorem vcodec_Decode.mono : ∀ a0 a1 a2 a3 a4 a5 k, LeO (vcodec_Decode.f k a0 a1 a2 a3 a4 a5) (vcodec_Decode.f (k + 1) a0 a1 a2 a3 a4 a5) := by
  intro a0 a1 a2 a3 a4 a5 k
  obtain ⟨ih0, ih1⟩ := vcodec_Decode.mono_l k
  unfold vcodec_Decode.f
  with_reducible repeat' first
   | exact ih0 _ _ _
   | exact ih1 _ _ _ _ _
   | exact couple_PartAll.mono _ _ _
   | exact floor_Floor.mono _ _
   | exact remap_Restore.mono _ _ _
   | exact vcodec_near.mono _ _
   | exact vpack_Right.mono _ _ _ _ _ _ _
   | exact LeO.refl _
   | exact LeO.none _
   | refine LeO.ite ?_ ?_
   | refine LeO.bind ?_ (fun _ => ?_)
def vcodec_Decode.T6 : Bool × List (List Nat × List Nat) := (true, [([], []), ([], []), ([], []), ([2], [2]), ([3], [3]), ([], []), ([5], [5]), ([6], [6]), ([4, 7], [4, 7]), ([8], [8]), ([9], [9]), ([9], [9]), ([9], [9]), ([0, 0, 2, 3, 4, 5, 6, 7, 8, 9, 10], [0]), ([13, 10, 8, 0, 2, 3, 4, 5, 6, 7, 8, 9, 10], [10, 13]), ([1, 0, 1, 2, 3, 4, 5, 6, 7, 8, 9, 10, 11, 13, 14], [1]), ([15, 11, 14, 0, 1, 2, 3, 4, 5, 6, 7, 8, 9, 10, 11, 13, 14], [11, 15])])
def vcodec_Decode.B6 : List Nat := [0, 0, 0, 4, 12, 0, 32, 96, 252, 508, 1020, 1020, 1020, 2045, 10237, 28671, 61439]
theorem vcodec_Decode.tab6 : rtab .any (opsOf Try.f14 6) = vcodec_Decode.T6 := by kernel_rfl
theorem vcodec_Decode.bits6 : waitsOk vcodec_Decode.T6.2 vcodec_Decode.B6 = true := by kernel_rfl
set_option maxHeartbeats 8000000 in
set_option maxRecDepth 100000 in
theorem vcodec_Decode.calls (k : Nat) (a0_0 : Int) (a0_1 : Int) (A0_2 : Option Addr) (c0_2 : Nat) (l0_2 : List Int) (A0_3 : Option Addr) (c0_3 : Nat) (l0_3 : List Int) (A1_0 : Option Addr) (c1_0 : Nat) (l1_0 : List (List Int)) (P1_1_ : Nat → Prop) (A1_1 : Option Addr) (c1_1 : Nat) (l1_1 : List (List Int)) (r1 : List (List Int)) (r2 : Int) (w : World) (hr0_2 : Kd.C (Kd.int .i64) w A0_2 l0_2.length l0_2) (hc0_2 : l0_2.length ≤ c0_2) (hr0_3 : Kd.C (Kd.int .i64) w A0_3 l0_3.length l0_3) (hc0_3 : l0_3.length ≤ c0_3) (hr1_0 : Kd.C (Kd.slice 3 (Kd.int .i64)) w A1_0 l1_0.length l1_0) (hc1_0 : l1_0.length ≤ c1_0) (hs1_1 : Kd.V (Kd.slice 2 (Kd.int .i64)) 53 w w.heap.size (fun k_ => P1_1_ k_) (.slice A1_1 l1_1.length c1_1) l1_1) (h : vcodec_Decode.f k a0_0 a0_1 l0_2 l0_3 l1_0 l1_1 = some (r1, r2)) :
    Calls Try.prog 14 #[.agg #[.int .i64 a0_0, .int .i64 a0_1, .slice A0_2 l0_2.length c0_2, .slice A0_3 l0_3.length c0_3], .agg #[.slice A1_0 l1_0.length c1_0, .slice A1_1 l1_1.length c1_1]] w fun e w' => ∃ v0_ : Value, e = .returned (.tuple #[.agg #[v0_], .int .i64 r2]) ∧ Kd.N (Kd.slice 2 (Kd.int .i64)) 53 w' w.heap.size (fun k_ => (P1_1_ k_ ∨ w.heap.size ≤ k_)) v0_ r1 ∧ Below w.heap.size w w' := by
 have hu24 := Try.underlying24
 have hu28 := Try.underlying28
 have hu37 := Try.underlying37
 have hu61 := Try.underlying61
 have HR0_2 := Aside0.mk hr0_2
 have HC0_2 := Aside0.mk hc0_2
 clear hr0_2 hc0_2
 have HR0_3 := Aside0.mk hr0_3
 have HC0_3 := Aside0.mk hc0_3
 clear hr0_3 hc0_3
 have HR1_0 := Aside0.mk hr1_0
 have HC1_0 := Aside0.mk hc1_0
 clear hr1_0 hc1_0
 have HO1_1 := Aside0.mk (show Kd.V (Kd.slice 2 (Kd.int .i64)) 53 w w.heap.size (fun k_ => (P1_1_ k_ ∨ w.heap.size ≤ k_)) (.slice A1_1 l1_1.length c1_1) l1_1 from Kd.V_mono hs1_1 (fun k_ hk => .inl hk))
 have HB := Aside0.mk (Below.refl w.heap.size w)
 have H : ((vpack_Right.f k a0_0 a0_1 l0_2 l0_3 l1_0 l1_1).bind fun t231 => (if t231 = true then ((some (([] : List (List Int)) : List (List Int))).bind fun y233 => (if y233.length + l1_1.length < 5864062014805 then ((some (y233 ++ l1_1 : List (List Int))).bind fun y236 => ((vcodec_codec_both.f a0_0 a0_1 l0_2 l0_3 l1_0).bind fun t239 => (if t239 = true then (if 0 < (y236.length : Int) then (if 1 < (y236.length : Int) then ((couple_PartAll.f k (rd_L2 y236 0) (rd_L2 y236 1)).bind fun bt242 => (vcodec_Decode.j0 k ((y236.set (0 : Int).toNat bt242.1).set (1 : Int).toNat bt242.2.1) l1_0 l1_1)) else (none)) else (none)) else (vcodec_Decode.j0 k y236 l1_0 l1_1)))) else (none))) else (some (([] : List (List Int)), 1)))) = some (r1, r2) := h
 clear h
 obtain ⟨t231, A3, H⟩ := ob_ H
 (try dsimp only at H)
 by_cases c4 : t231 = true
 {
 subst c4
 rw [if_pos rfl] at H
 obtain ⟨y233, hy233⟩ : ∃ y_ : List (List Int), y_ = (([] : List (List Int))) := ⟨_, rfl⟩
 replace H : (if y233.length + l1_1.length < 5864062014805 then ((some (y233 ++ l1_1 : List (List Int))).bind fun y236 => ((vcodec_codec_both.f a0_0 a0_1 l0_2 l0_3 l1_0).bind fun t239 => (if t239 = true then (if 0 < (y236.length : Int) then (if 1 < (y236.length : Int) then ((couple_PartAll.f k (rd_L2 y236 0) (rd_L2 y236 1)).bind fun bt242 => (vcodec_Decode.j0 k ((y236.set (0 : Int).toNat bt242.1).set (1 : Int).toNat bt242.2.1) l1_0 l1_1)) else (none)) else (none)) else (vcodec_Decode.j0 k y236 l1_0 l1_1)))) else (none)) = some (r1, r2) := by first | (rw [hy233]; with_reducible exact H) | (have H2_ := (Option.bind_some _ _).symm.trans H; rw [hy233]; with_reducible exact H2_) | (have H2_ := (Option.bind_some _ _).symm.trans H; with_reducible exact H2_) | with_reducible exact H | (rw [hy233]; exact H) | exact H
 have Ny233 := Aside0.mk hy233
 clear hy233
 by_cases c5 : y233.length + l1_1.length < 5864062014805
 {
 rw [if_pos c5] at H
 have LMc5 := Aside0.mk c5
 clear c5
 obtain ⟨y236, hy236⟩ : ∃ y_ : List (List Int), y_ = (y233 ++ l1_1) := ⟨_, rfl⟩
 replace H : ((vcodec_codec_both.f a0_0 a0_1 l0_2 l0_3 l1_0).bind fun t239 => (if t239 = true then (if 0 < (y236.length : Int) then (if 1 < (y236.length : Int) then ((couple_PartAll.f k (rd_L2 y236 0) (rd_L2 y236 1)).bind fun bt242 => (vcodec_Decode.j0 k ((y236.set (0 : Int).toNat bt242.1).set (1 : Int).toNat bt242.2.1) l1_0 l1_1)) else (none)) else (none)) else (vcodec_Decode.j0 k y236 l1_0 l1_1))) = some (r1, r2) := by first | (rw [hy236]; with_reducible exact H) | (have H2_ := (Option.bind_some _ _).symm.trans H; rw [hy236]; with_reducible exact H2_) | (have H2_ := (Option.bind_some _ _).symm.trans H; with_reducible exact H2_) | with_reducible exact H | (rw [hy236]; exact H) | exact H
 have Ny236 := Aside0.mk hy236
 clear hy236
 obtain ⟨t239, A6, H⟩ := ob_ H
 (try dsimp only at H)
 have HC7 := Aside0.mk H
 clear H
 go_enter Try.func14, Try.ntmps14
 go_upto_if 28 with (first | ((with_reducible refine gate_dst (N := 2) rfl ?_); refine box_ 2 #[.int .i64 a0_0, .int .i64 a0_1, .slice A0_2 l0_2.length c0_2, .slice A0_3 l0_3.length c0_3] 24 ?_; intro gb228 hg w8 hbox hb; replace HO1_1 := Aside0.mk (Kd.V_below (Kd.V_elderB (kV_ HO1_1) gb228 (Nat.le_of_eq hg.symm)) hb); have BK228 := Aside0.mk (hbox); have GW228 := GE_ HB hg; have GE228 := GE_ HB hg; replace HB := BS_ HB hb; clear hb hbox hg) | ((with_reducible refine gate_dst (N := 3) rfl ?_); refine box_ 3 #[.slice A1_0 l1_0.length c1_0, .slice A1_1 l1_1.length c1_1] 28 ?_; intro gb229 hg w9 hbox hb; replace HO1_1 := Aside0.mk (Kd.V_below (Kd.V_elderB (kV_ HO1_1) gb229 (Nat.le_of_eq hg.symm)) hb); have BK229 := Aside0.mk (hbox); have GW229 := GE_ HB hg; have GE229 := GE_ HB hg; replace HB := BS_ HB hb; obtain ⟨NB228_229, NB229_228⟩ := NN_ BK228 hg; replace BK228 := FB_ BK228 hb; clear hb hbox hg) | ((with_reducible refine gate_dst (N := 4) rfl ?_); refine box_ 4 #[.slice none 0 0] 37 ?_; intro gb230 hg w10 hbox hb; replace HO1_1 := Aside0.mk (Kd.V_below (Kd.V_elderB (kV_ HO1_1) gb230 (Nat.le_of_eq hg.symm)) hb); have BK230 := Aside0.mk (hbox); have GW230 := GE_ HB hg; have GE230 := GE_ HB hg; replace HB := BS_ HB hb; obtain ⟨NB228_230, NB230_228⟩ := NN_ BK228 hg; replace BK228 := FB_ BK228 hb; obtain ⟨NB229_230, NB230_229⟩ := NN_ BK229 hg; replace BK229 := FB_ BK229 hb; clear hb hbox hg; have hnb11 := NB228_229.out; have hnc11 := NB229_228.out; have hnb12 := NB228_230.out; have hnc12 := NB230_228.out; obtain ⟨hcz13_0, hcz13_1, hcz13_2, hcz13_3, hfz13_0, hfz13_1, hfz13_2, hfz13_3⟩ := e4_ BK228; have hnb14 := NB229_230.out; have hnc14 := NB230_229.out; obtain ⟨hcz15_0, hcz15_1, hfz15_0, hfz15_1⟩ := e2_ BK229) | ((with_reducible refine gate_callee (f := 21) rfl ?_); refine gL_ (some 16) Try.func21 #[.agg #[.int .i64 a0_0, .int .i64 a0_1, .slice A0_2 l0_2.length c0_2, .slice A0_3 l0_3.length c0_3], .agg #[.slice A1_0 l1_0.length c1_0, .slice A1_1 l1_1.length c1_1]] ?_; (with_reducible refine (vpack_Right.calls k a0_0 a0_1 _ _ l0_2 _ _ l0_3 _ _ l1_0 _ _ l1_1 true _ ?side1 ?side2 ?side3 ?side4 ?side5 ?side6 ?side7 ?side8 A3.out).mono ?_); (case side1 => exact kC_ HR0_2 HB); (case side2 => exact HC0_2.out); (case side3 => exact kC_ HR0_3 HB); (case side4 => exact HC0_3.out); (case side5 => exact kC_ HR1_0 HB); (case side6 => exact HC1_0.out); (case side7 => exact kCt_ (Kd.V_reads' HO1_1.out).2.2); (case side8 => exact (Kd.V_reads' HO1_1.out).2.1); rintro e w16 ⟨rfl, hb⟩; refine ⟨_, rfl, ?_⟩; replace HO1_1 := FV_ HO1_1 hb; replace BK228 := FB_ BK228 hb; replace BK229 := FB_ BK229 hb; replace BK230 := FB_ BK230 hb; replace HB := BS_ HB hb; (try clear hb); (try clear hk); obtain ⟨hcz17_0, hcz17_1, hcz17_2, hcz17_3, hfz17_0, hfz17_1, hfz17_2, hfz17_3⟩ := e4_ BK228) | ((with_reducible refine gate_dst (N := 6) rfl ?_); refine box_ 6 #[.int .i64 0, .int .i64 0, .slice none 0 0, .slice none 0 0] 61 ?_; intro gb232 hg w18 hbox hb; replace HO1_1 := Aside0.mk (Kd.V_below (Kd.V_elderB (kV_ HO1_1) gb232 (Nat.le_of_eq hg.symm)) hb); have BK232 := Aside0.mk (hbox); have GW232 := GE_ HB hg; have GE232 := GE_ HB hg; replace HB := BS_ HB hb; obtain ⟨NB228_232, NB232_228⟩ := NN_ BK228 hg; replace BK228 := FB_ BK228 hb; obtain ⟨NB229_232, NB232_229⟩ := NN_ BK229 hg; replace BK229 := FB_ BK229 hb; obtain ⟨NB230_232, NB232_230⟩ := NN_ BK230 hg; replace BK230 := FB_ BK230 hb; clear hb hbox hg; have hnb19 := NB232_228.out; have hnc19 := NB228_232.out; have hnb20 := NB232_229.out; have hnc20 := NB229_232.out; have hnb21 := NB232_230.out; have hnc21 := NB230_232.out; obtain ⟨hcz22_0, hcz22_1, hcz22_2, hcz22_3, hfz22_0, hfz22_1, hfz22_2, hfz22_3⟩ := e4_ BK232) | ((with_reducible refine gate_dst (N := 21) rfl ?_); refine Kd.N_lit (Kd.slice 2 (Kd.int .i64)) _ 53 ?hg (N' := 21) ?hd (xs := ([] : List (List Int))) (inner := []) (ok := (fun k_ => (P1_1_ k_ ∨ w.heap.size ≤ k_) ∧ k_ ≠ gb228 ∧ k_ ≠ gb229 ∧ k_ ≠ gb230 ∧ k_ ≠ gb232)) (okp := (fun k_ => (P1_1_ k_ ∨ w.heap.size ≤ k_) ∧ k_ ≠ gb228 ∧ k_ ≠ gb229 ∧ k_ ≠ gb230 ∧ k_ ≠ gb232)) ?hr ?hp (fun _ hk => hk) (fr_ (P := (fun k_ => (P1_1_ k_ ∨ w.heap.size ≤ k_) ∧ k_ ≠ gb228 ∧ k_ ≠ gb229 ∧ k_ ≠ gb230 ∧ k_ ≠ gb232)) (fun k_ hk => ⟨(.inr (Nat.le_trans (bs_ HB) hk)), Kd.freshB (g := gb228) (o := .cells #[.int .i64 a0_0, .int .i64 a0_1, .slice A0_2 l0_2.length c0_2, .slice A0_3 l0_3.length c0_3] 24 (0, 0)) (bk_ BK228) k_ hk, Kd.freshB (g := gb229) (o := .cells #[.slice A1_0 l1_0.length c1_0, .slice A1_1 l1_1.length c1_1] 28 (0, 0)) (bk_ BK229) k_ hk, Kd.freshB (g := gb230) (o := .cells #[.slice none 0 0] 37 (0, 0)) (bk_ BK230) k_ hk, Kd.freshB (g := gb232) (o := .cells #[.int .i64 a0_0, .int .i64 a0_1, .slice A0_2 l0_2.length c0_2, .slice A0_3 l0_3.length c0_3] 61 (0, 0)) (bp_ BK232) k_ hk⟩)) (Below.refl _ _) (Nat.le_refl _) (by simp) ?_; (case hd => rfl); (case hg => rfl); (case hr => first | (go_simp; done) | (go_simp; rfl)); (case hp => exact (Reps.none _ _)); intro v234 w23 ho24 hb hg_ hnew_; clear hg_ hnew_; (first | rw [← Ny233.out] at ho24 | (simp only [Int.reduceToNat] at ho24; rw [← Ny233.out] at ho24)); replace HO1_1 := Aside0.mk (Kd.V_elder' (by (with_reducible repeat (first | apply Kd.V_alloc | apply Kd.V_drewN | apply Kd.V_drew)); exact (Kd.V_mono (Kd.V_far (p := ⟨gb232, 3, none⟩) (Kd.V_far (p := ⟨gb232, 2, none⟩) (Kd.V_far (p := ⟨gb232, 1, none⟩) (Kd.V_far (p := ⟨gb232, 0, none⟩) (Kd.V_mono HO1_1.out (fun k_ hk => (⟨hk, hk.2⟩ : _ ∧ k_ ≠ gb232))) (fun _ hk => hk.2) (.int .i64 a0_0)) (fun _ hk => hk.2) (.int .i64 a0_1)) (fun _ hk => hk.2) (.slice A0_2 l0_2.length c0_2)) (fun _ hk => hk.2) (.slice A0_3 l0_3.length c0_3)) (fun _ h_ => h_.1))) (Kd.N_base ho24) hb); have HO235 := Aside0.mk (Kd.N_lower ho24 (bs_ HB)); replace BK228 := FB_ BK228 hb; replace BK229 := FB_ BK229 hb; replace BK230 := FB_ BK230 hb; replace BK232 := Aside0.mk (blk_below (g := gb232) (o := .cells #[.int .i64 a0_0, .int .i64 a0_1, .slice A0_2 l0_2.length c0_2, .slice A0_3 l0_3.length c0_3] 61 (0, 0)) (bp_ BK232) hb); replace HB := BS_ HB hb; clear hb ho24; obtain ⟨hcz25_0, hcz25_1, hfz25_0, hfz25_1⟩ := e2_ BK229) | ((with_reducible refine gate_builtin (b := .append) (xs := #[.tmp 21, .tmp 23]) rfl ?_); at_builtin; refine Kd.N_append_rows (Kd.slice 2 (Kd.int .i64)) (w0 := w) w.heap.size rfl (.tmp 21) (.tmp 23) 26 53 (.slice none 0 0) 24 rfl Try.underlying26 info53 rfl (by decide) (by omega) v234 y233 l1_1 _ _ _ (fun k_ => (P1_1_ k_ ∨ w.heap.size ≤ k_) ∧ k_ ≠ gb228 ∧ k_ ≠ gb229 ∧ k_ ≠ gb230 ∧ k_ ≠ gb232) (fun k_ => ((fun k_ => (P1_1_ k_ ∨ w.heap.size ≤ k_) ∧ k_ ≠ gb228 ∧ k_ ≠ gb229 ∧ k_ ≠ gb230 ∧ k_ ≠ gb232)) k_ ∧ some k_ ≠ (v234 : Value).ownBlock) rfl rfl ?aO ?aR (fun _ hk => hk) ?aF ?aB ?aS ?aL ?_; (case aR => exact (by skip; exact Kd.V_F (Kd.V_mono (ok' := (fun k_ => ((fun k_ => (P1_1_ k_ ∨ w.heap.size ≤ k_) ∧ k_ ≠ gb228 ∧ k_ ≠ gb229 ∧ k_ ≠ gb230 ∧ k_ ≠ gb232)) k_ ∧ some k_ ≠ (v234 : Value).ownBlock)) (HO1_1.out) (fun k_ hk => ⟨⟨hk.1.1.1.1.1, ⟨hk.1.1.1.1.2, ⟨hk.1.1.1.2, ⟨hk.1.1.2, hk.1.2⟩⟩⟩⟩, hk.2⟩)))); (case aB => exact (bl_ HB)); (case aF => exact (fun k_ hk => ⟨(.inr (Nat.le_trans (bs_ HB) hk)), Kd.freshB (g := gb228) (o := .cells #[.int .i64 a0_0, .int .i64 a0_1, .slice A0_2 l0_2.length c0_2, .slice A0_3 l0_3.length c0_3] 24 (0, 0)) (bk_ BK228) k_ hk, Kd.freshB (g := gb229) (o := .cells #[.slice A1_0 l1_0.length c1_0, .slice A1_1 l1_1.length c1_1] 28 (0, 0)) (bk_ BK229) k_ hk, Kd.freshB (g := gb230) (o := .cells #[.slice none 0 0] 37 (0, 0)) (bk_ BK230) k_ hk, Kd.freshB (g := gb232) (o := .cells #[.int .i64 a0_0, .int .i64 a0_1, .slice A0_2 l0_2.length c0_2, .slice A0_3 l0_3.length c0_3] 61 (0, 0)) (bk_ BK232) k_ hk⟩)); (case aO => exact (kN_ HO235)); (case aS => exact (bs_ HB)); (case aL => have := LMc5.out; omega); intro v237 w26 ho hb hg hat; rw [← Ny236.out] at ho; replace HO1_1 := Aside0.mk (Kd.V_afterv (ok := (fun k_ => (P1_1_ k_ ∨ w.heap.size ≤ k_) ∧ k_ ≠ gb228 ∧ k_ ≠ gb229 ∧ k_ ≠ gb230 ∧ k_ ≠ gb232)) (by (with_reducible repeat (first | apply Kd.V_alloc | apply Kd.V_drewN | apply Kd.V_drew)); exact Kd.V_mono HO1_1.out (fun _ hk => ⟨⟨hk.1.1.1.1.1, ⟨hk.1.1.1.1.2, ⟨hk.1.1.1.2, ⟨hk.1.1.2, hk.1.2⟩⟩⟩⟩, hk.2⟩)) hg hat); replace BK228 := (FG_ BK228 hg (Kd.N_ne HO235.out BK228.out (by decide))); replace BK229 := (FG_ BK229 hg (Kd.N_ne HO235.out BK229.out (by decide))); replace BK230 := (FG_ BK230 hg (Kd.N_ne HO235.out BK230.out (by decide))); replace BK232 := (FG_ BK232 hg (Kd.N_ne HO235.out BK232.out (by decide))); replace HB := Aside0.mk (hb); have HO238 := Aside0.mk (ho); clear HO235; clear ho hb hg hat; obtain ⟨hcz27_0, hcz27_1, hcz27_2, hcz27_3, hfz27_0, hfz27_1, hfz27_2, hfz27_3⟩ := e4_ BK232; obtain ⟨hcz28_0, hcz28_1, hfz28_0, hfz28_1⟩ := e2_ BK229) | ((with_reducible refine gate_callee (f := 32) rfl ?_); refine gL_ (some 28) Try.func32 #[.agg #[.int .i64 a0_0, .int .i64 a0_1, .slice A0_2 l0_2.length c0_2, .slice A0_3 l0_3.length c0_3], .slice A1_0 l1_0.length c1_0] ?_; (with_reducible refine (vcodec_codec_both.calls a0_0 a0_1 _ _ l0_2 _ _ l0_3 _ _ l1_0 t239 _ ?side1 ?side2 ?side3 ?side4 ?side5 ?side6 A6.out).mono ?_); (case side1 => exact kC_ HR0_2 HB); (case side2 => exact HC0_2.out); (case side3 => exact kC_ HR0_3 HB); (case side4 => exact HC0_3.out); (case side5 => exact kC_ HR1_0 HB); (case side6 => exact HC1_0.out); rintro e w29 ⟨rfl, hb⟩; refine ⟨_, rfl, ?_⟩; replace HO1_1 := FV_ HO1_1 hb; replace HO238 := FN_ HO238 hb; replace BK228 := FB_ BK228 hb; replace BK229 := FB_ BK229 hb; replace BK230 := FB_ BK230 hb; replace BK232 := FB_ BK232 hb; replace HB := BS_ HB hb; (try clear hb); (try clear hk)))
 (try simp only [Act.put, List.setIfInBounds_toArray, List.set_cons_zero, List.set_cons_succ])
 go_cut [] (fun wc => ∃ (kq : Nat) (x7_6 : List (List Int)), Aside0 (vcodec_Decode.j0 kq x7_6 l1_0 l1_1 = some (r1, r2)) ∧ Aside0 (kq ≤ k) ∧ Aside0 (Kd.N (Kd.slice 2 (Kd.int .i64)) 53 wc w.heap.size (fun k_ => (P1_1_ k_ ∨ w.heap.size ≤ k_) ∧ k_ ≠ gb228 ∧ k_ ≠ gb229 ∧ k_ ≠ gb230 ∧ k_ ≠ gb232) v237 x7_6) ∧ Aside0 (Kd.V (Kd.slice 2 (Kd.int .i64)) 53 wc w.heap.size (fun k_ => (P1_1_ k_ ∨ w.heap.size ≤ k_) ∧ some k_ ≠ (v237 : Value).ownBlock ∧ k_ ≠ gb228 ∧ k_ ≠ gb229 ∧ k_ ≠ gb230 ∧ k_ ≠ gb232) (.slice A1_1 l1_1.length c1_1) l1_1) ∧ Aside0 (wc.heap[gb228]? = some (.cells #[.int .i64 a0_0, .int .i64 a0_1, (.slice A0_2 l0_2.length c0_2), (.slice A0_3 l0_3.length c0_3)] 24 (0, 0))) ∧ Aside0 (wc.heap[gb229]? = some (.cells #[(.slice A1_0 l1_0.length c1_0), (.slice A1_1 l1_1.length c1_1)] 28 (0, 0))) ∧ Aside0 (wc.heap[gb230]? = some (.cells #[(.slice none 0 0)] 37 (0, 0))) ∧ Aside0 (wc.heap[gb232]? = some (.cells #[.int .i64 a0_0, .int .i64 a0_1, (.slice A0_2 l0_2.length c0_2), (.slice A0_3 l0_3.length c0_3)] 61 (0, 0))) ∧ Aside0 (Below w.heap.size w wc))
 case first => (
 have H := HC7.out
 clear HC7
 by_cases c30 : t239 = true
 {
 subst c30
 rw [if_pos rfl] at H
 by_cases c31 : 0 < (y236.length : Int)
 {
 rw [if_pos c31] at H
 have c31b0 : decide (0 < (y236.length : Int)) = true := decide_eq_true c31
 have c31b1 : decide (0 < y236.length) = true := decide_eq_true (by omega)
 clear c31
 (first | rw [c31b0] | (simp only [i64_w, i32_w]; rw [c31b0]) | skip)
 by_cases c32 : 1 < (y236.length : Int)
 {
 rw [if_pos c32] at H
 have c32b0 : decide (1 < (y236.length : Int)) = true := decide_eq_true c32
 have c32b1 : decide (1 < y236.length) = true := decide_eq_true (by omega)
 clear c32
 obtain ⟨⟨t242, t243, t244⟩, A33, H⟩ := ob_ H
 (try dsimp only at H)
 obtain ⟨y249, hy249⟩ : ∃ y_ : List (List Int), y_ = (y236.set (0 : Int).toNat t242) := ⟨_, rfl⟩
 replace H : (vcodec_Decode.j0 k (y249.set (1 : Int).toNat t243) l1_0 l1_1) = some (r1, r2) := by first | (rw [hy249]; with_reducible exact H) | (have H2_ := (Option.bind_some _ _).symm.trans H; rw [hy249]; with_reducible exact H2_) | (have H2_ := (Option.bind_some _ _).symm.trans H; with_reducible exact H2_) | with_reducible exact H | (rw [hy249]; exact H) | exact H
 have Ny249 := Aside0.mk hy249
 clear hy249
 obtain ⟨y250, hy250⟩ : ∃ y_ : List (List Int), y_ = (y249.set (1 : Int).toNat t243) := ⟨_, rfl⟩
 replace H : (vcodec_Decode.j0 k y250 l1_0 l1_1) = some (r1, r2) := by first | (rw [hy250]; with_reducible exact H) | (have H2_ := (Option.bind_some _ _).symm.trans H; rw [hy250]; with_reducible exact H2_) | (have H2_ := (Option.bind_some _ _).symm.trans H; with_reducible exact H2_) | with_reducible exact H | (rw [hy250]; exact H) | exact H
 have Ny250 := Aside0.mk hy250
 clear hy250
 have H' := Aside0.mk H
 clear H
 try go_wp2
 replace HO1_1 := Aside0.mk (Kd.V_drew HO1_1.out)
 replace HO238 := Aside0.mk (Kd.N_drew HO238.out)
 replace BK228 := Aside0.mk (blk_drew BK228.out)
 replace BK229 := Aside0.mk (blk_drew BK229.out)
 replace BK230 := Aside0.mk (blk_drew BK230.out)
 replace BK232 := Aside0.mk (blk_drew BK232.out)
 replace HB := Aside0.mk (below_drew1 HB.out)
 obtain ⟨Ao37, co37, eo37⟩ := Kd.N_slice HO238.out
 (first | subst eo37 | (injection eo37 with f1_ f2_ f3_; have f4_ := f1_.symm; have f5_ := f3_.symm; clear f1_ f2_ f3_; subst f4_; subst f5_))
 have p240 : 0 ≤ (0 : Int) := (by omega)
 have q240 : 0 < (y236.length : Int) := of_decide_eq_true am_
 obtain ⟨ad240, A240_0, c240_0, e240, hx240_0, hl240_0, hi240_0⟩ := at_L2 (Kd.N_reads' HO238.out).2.2 0 p240 q240
 cases e240
 obtain ⟨ce240, hce240, hMe240, hcc240⟩ := Kd.N_get HO238.out [] 0 p240 (by first | exact q240 | exact of_decide_eq_true am_ | (have e_ := (Kd.N_reads' HO238.out).1; omega))
 obtain ⟨ua240_0, uc240_0, rfl, ul240_0, ge240_0⟩ := Kd.FK_slice_open hMe240
 have hv240_0 := hcc240 0 _ rfl
 rw [Nat.add_zero, show ((Kd.slice 2 (Kd.int .i64))).sz = 1 from rfl, Nat.mul_one] at hv240_0
 replace hv240_0 := Option.some.inj (hv240_0.symm.trans hx240_0)
 injection hv240_0 with hva_ hvn_ hvc_
 rw [hva_] at ge240_0
 rw [hvc_] at ul240_0
 have HL240_0 := Aside0.mk (show Kd.V (Kd.int .i64) 2 _ w.heap.size _ _ (rd_L2 y236 0) from Kd.V_mk ul240_0 ge240_0)
 clear hva_ hvn_ hvc_ ge240_0 ul240_0
 clear hcc240 hce240
 have qi240 : (0 < y236.length) = True := eq_true (by omega)
 (try rw [show ((0 : Int)).toNat = 0 from rfl] at hx240_0)
 (try rw [Addr.add_zero'] at hx240_0)
 have HR240_0 := Aside0.mk hi240_0
 have HC240_0 := Aside0.mk hl240_0
 clear hi240_0 hl240_0
 replace p240 := eq_true p240
 replace q240 := eq_true q240
 have p241 : 0 ≤ (1 : Int) := (by omega)
 have q241 : 1 < (y236.length : Int) := of_decide_eq_true am_
 obtain ⟨ad241, A241_0, c241_0, e241, hx241_0, hl241_0, hi241_0⟩ := at_L2 (Kd.N_reads' HO238.out).2.2 1 p241 q241
 obtain rfl : ad240 = ad241 := (by injection e241)
 obtain ⟨ce241, hce241, hMe241, hcc241⟩ := Kd.N_get HO238.out [] 1 p241 (by first | exact q241 | exact of_decide_eq_true am_ | (have e_ := (Kd.N_reads' HO238.out).1; omega))
 obtain ⟨ua241_0, uc241_0, rfl, ul241_0, ge241_0⟩ := Kd.FK_slice_open hMe241
 have hv241_0 := hcc241 0 _ rfl
 rw [Nat.add_zero, show ((Kd.slice 2 (Kd.int .i64))).sz = 1 from rfl, Nat.mul_one] at hv241_0
 replace hv241_0 := Option.some.inj (hv241_0.symm.trans hx241_0)
 injection hv241_0 with hva_ hvn_ hvc_
 rw [hva_] at ge241_0
 rw [hvc_] at ul241_0
 have HL241_0 := Aside0.mk (show Kd.V (Kd.int .i64) 2 _ w.heap.size _ _ (rd_L2 y236 1) from Kd.V_mk ul241_0 ge241_0)
 clear hva_ hvn_ hvc_ ge241_0 ul241_0
 clear hcc241 hce241
 (try simp only [show (1 : Int).toNat = 1 from rfl, Nat.reduceMul, Nat.reduceEqDiff, Go.Addr.add, ↓reduceIte] at hx241_0)
 have qi241 : (1 < y236.length) = True := eq_true (by omega)
 (try rw [show ((1 : Int)).toNat = 1 from rfl] at hx241_0)
 have HR241_0 := Aside0.mk hi241_0
 have HC241_0 := Aside0.mk hl241_0
 clear hi241_0 hl241_0
 replace p241 := eq_true p241
 replace q241 := eq_true q241
 refine start_ (n := 17) (S := fun w' => w'.cell? ad240 = some (.slice A240_0 (rd_L2 y236 0).length c240_0) ∧ w'.cell? ⟨ad240.block, ad240.off + 1, none⟩ = some (.slice A241_0 (rd_L2 y236 1).length c241_0)) (ds := [14, 16]) (B_ 17 0) kf_ rfl rfl ⟨hx240_0, hx241_0⟩ (fun hHeld => ?_); refine with_tabW vcodec_Decode.tab6 vcodec_Decode.bits6 (fun HT_ HW_ => ?_)
 generalize w29.drew = w36 at HO1_1 HO238 BK228 BK229 BK230 BK232 HB HL240_0 HL241_0 HR240_0 HR241_0 hx240_0 hx241_0 hHeld ⊢
 refine pu_ 0 (some 30) (B_ 17 1) HT_ ?_
 refine pu_ 1 (some 31) (B_ 17 3) HT_ ?_
 refine pu_ 2 (some 32) (B_ 17 7) HT_ ?_
 refine pu_ 3 (some 33) (B_ 17 15) HT_ ?_
 refine pu_ 5 (some 35) (B_ 17 47) HT_ ?_
 refine pu_ 6 (some 36) (B_ 17 111) HT_ ?_
 refine take_ (i := 4) (N := some 34) (v := ?_) (a' := ?_) (B_ 17 127) rfl rfl (take_ofW HT_.out HW_.out kf_) (fun _ _ _ h => h) (Or.inl ⟨by rfl, ?_⟩) hHeld ?_ ?_
 rotate_left
 {
 rintro w' ⟨s0, s1⟩
 go_simp
 with_reducible rfl}
 rotate_left
 {
 exact sp_}
 refine take_ (i := 7) (N := some 37) (v := ?_) (a' := ?_) (B_ 17 255) rfl rfl (take_ofW HT_.out HW_.out kf_) (fun _ _ _ h => h) (Or.inl ⟨by rfl, ?_⟩) hHeld ?_ ?_
 rotate_left
 {
 rintro w' ⟨s0, s1⟩
 go_simp
 with_reducible rfl}
 rotate_left
 {
 exact sp_}
 refine one_ (i := 8) (N := some 38) (B_ 17 511) rfl rfl (one_of HT_.out kf_) (by decide) (fun K hK => ?_)
 refine goes_ Try.func33 kf_ rfl #[.slice A240_0 (rd_L2 y236 0).length c240_0, .slice A241_0 (rd_L2 y236 1).length c241_0] (by rfl) rfl rfl ar_ ?_
 with_reducible refine (couple_PartAll.calls k _ _ (rd_L2 y236 0) _ _ (rd_L2 y236 1) t242 t243 t244 _ ?side1 ?side2 ?side3 ?side4 A33.out).mono ?_
 (case side1 => repeat (first | exact (by repeat (first | (with_reducible exact HR240_0.out) | (with_reducible refine Kd.C_alloc ?_ _) | (with_reducible refine Kd.C_drewN ?_ _) | (with_reducible refine Kd.C_drew ?_) | exact HR240_0.out)) | (with_reducible refine Kd.C_alloc ?_ _) | (with_reducible refine Kd.C_drewN ?_ _) | (with_reducible refine Kd.C_drew ?_)))
 (case side2 => exact HC240_0.out)
 (case side3 => repeat (first | exact (by repeat (first | (with_reducible exact HR241_0.out) | (with_reducible refine Kd.C_alloc ?_ _) | (with_reducible refine Kd.C_drewN ?_ _) | (with_reducible refine Kd.C_drew ?_) | exact HR241_0.out)) | (with_reducible refine Kd.C_alloc ?_ _) | (with_reducible refine Kd.C_drewN ?_ _) | (with_reducible refine Kd.C_drew ?_)))
 (case side4 => exact HC241_0.out)
 rintro e w38 ⟨v245, v247, rfl, ho0, ho1, hb⟩
 have HS0_ := (hb.cell (World.block_lt_of_cell? _ _ (hHeld.1))).trans (hHeld.1)
 have HS1_ := (hb.cell (World.block_lt_of_cell? _ _ (hHeld.2))).trans (hHeld.2)
 refine ⟨_, rfl, ?_⟩
 replace HO1_1 := Aside0.mk (Kd.V_mono (Kd.V_told (Kd.V_told (Kd.V_old (kV_ HO1_1) hb) (Kd.R_base ho0)) (Kd.R_base ho1)) (fun _ h_ => h_.1))
 replace HO238 := Aside0.mk (Kd.N_mono (Kd.N_told (Kd.N_told (Kd.N_old (kN_ HO238) hb) (Kd.R_base ho0)) (Kd.R_base ho1)) (fun _ h_ => h_.1))
 replace HL240_0 := Aside0.mk (Kd.V_mono (Kd.V_told (Kd.V_told (Kd.V_old (kV_ HL240_0) hb) (Kd.R_base ho0)) (Kd.R_base ho1)) (fun _ h_ => h_.1))
 replace HL241_0 := Aside0.mk (Kd.V_mono (Kd.V_told (Kd.V_told (Kd.V_old (kV_ HL241_0) hb) (Kd.R_base ho0)) (Kd.R_base ho1)) (fun _ h_ => h_.1))
 have HO246 := Aside0.mk (Kd.R_lower (Kd.R_newM (M := fun k_ => (w.heap.size ≤ k_)) ho0 (bs_ HB) (fun k_ h_ => h_)) (bs_ HB))
 have HO248 := Aside0.mk (Kd.R_lower (Kd.R_newM (M := fun k_ => (w.heap.size ≤ k_)) ho1 (bs_ HB) (fun k_ h_ => h_)) (bs_ HB))
 replace BK228 := FB_ BK228 hb
 replace BK229 := FB_ BK229 hb
 replace BK230 := FB_ BK230 hb
 replace BK232 := FB_ BK232 hb
 replace HR240_0 := Aside0.mk (Kd.C_below (by repeat (first | (with_reducible exact HR240_0.out) | (with_reducible refine Kd.C_alloc ?_ _) | (with_reducible refine Kd.C_drewN ?_ _) | (with_reducible refine Kd.C_drew ?_) | exact HR240_0.out)) hb)
 replace HR241_0 := Aside0.mk (Kd.C_below (by repeat (first | (with_reducible exact HR241_0.out) | (with_reducible refine Kd.C_alloc ?_ _) | (with_reducible refine Kd.C_drewN ?_ _) | (with_reducible refine Kd.C_drew ?_) | exact HR241_0.out)) hb)
 replace HB := BS_ HB hb
 (try clear hb)
 (try clear hk)
 (try clear ho0)
 (try clear ho1)
 have p34 : 0 ≤ (0 : Int) := (by omega)
 have q34 : (0 : Int) < ((y236.length : Int) : Int) := of_decide_eq_true am_
 have qi34 : (0 < y236.length) = True := eq_true (by omega)
 obtain ⟨go34, co34, eo34, gb34, gl34, cl34, HG34⟩ := Kd.N_form HO238.out (by omega)
 (first | cases eo34 | (injection eo34 with ea_ en_ ec_; (first | subst ea_ | (injection ea_ with ea_; subst ea_)); subst ec_; clear en_))
 have GB34 := Aside0.mk gb34
 have GG34 := Aside0.mk HG34
 clear gb34 gl34 HG34
 (first | simp only [add_plain] at hx240_0 | skip)
 (first | simp only [add_plain] at hx241_0 | skip)
 obtain ⟨ce34, hcl34, hM34, hcc34, hfr34⟩ := Kd.N_elem HO238.out [] (0 : Int) p34 q34
 obtain ⟨ua34_0, uc34_0, rfl, ul34_0, ge34_0⟩ := Kd.FK_slice_open hM34
 have hx34_0 := hcc34 0 _ rfl
 have hf34_0 := hfr34 0
 (try simp only [show ((Kd.slice 2 (Kd.int .i64))).sz = 1 from rfl, Nat.mul_one, Nat.add_zero] at hx34_0)
 (try simp only [show ((Kd.slice 2 (Kd.int .i64))).sz = 1 from rfl, Nat.mul_one, Nat.add_zero] at hf34_0)
 clear hcl34 hcc34 hfr34 hM34
 (try rw [show ((0 : Int)).toNat = 0 from rfl] at hx34_0)
 (try simp only [Nat.reduceMul, Nat.zero_mul, Nat.zero_add, Nat.reduceAdd] at hx34_0)
 (try rw [show ((0 : Int)).toNat = 0 from rfl] at hf34_0)
 (try simp only [Nat.reduceMul, Nat.zero_mul, Nat.zero_add, Nat.reduceAdd] at hf34_0)
 replace p34 := eq_true p34
 replace q34 := eq_true q34
 obtain ⟨Ao8245, co8245, eo8245⟩ := Kd.R_slice HO246.out
 subst eo8245
 have HX39 := Aside0.mk (show Kd.N (Kd.slice 2 (Kd.int .i64)) 53 _ w.heap.size (fun k_ => (P1_1_ k_ ∨ w.heap.size ≤ k_) ∧ some k_ ≠ ((.slice Ao8245 t242.length co8245) : Value).ownBlock ∧ some k_ ≠ (v247 : Value).ownBlock ∧ k_ ≠ gb228 ∧ k_ ≠ gb229 ∧ k_ ≠ gb230 ∧ k_ ≠ gb232) (.slice (some ⟨go34, 0, none⟩) y236.length co37) y236 from (Kd.N_mono (HO238.out) (fun k_ hk => ⟨hk.1.1.1, ⟨hk.1.2, ⟨hk.2, ⟨hk.1.1.2.1, ⟨hk.1.1.2.2.1, ⟨hk.1.1.2.2.2.1, hk.1.1.2.2.2.2⟩⟩⟩⟩⟩⟩)))
 replace HX39 := Aside0.mk (show Kd.N (Kd.slice 2 (Kd.int .i64)) 53 _ w.heap.size (fun k_ => (P1_1_ k_ ∨ w.heap.size ≤ k_) ∧ some k_ ≠ (v247 : Value).ownBlock ∧ k_ ≠ gb228 ∧ k_ ≠ gb229 ∧ k_ ≠ gb230 ∧ k_ ≠ gb232) (.slice (some ⟨go34, 0, none⟩) y236.length co37) y236 from Kd.N_mono HX39.out (fun k_ hk => ⟨hk.1, ⟨hk.2.2.1, ⟨hk.2.2.2.1, ⟨hk.2.2.2.2.1, ⟨hk.2.2.2.2.2.1, hk.2.2.2.2.2.2⟩⟩⟩⟩⟩))
 obtain ⟨ce39, hcl39, hM39, hcc39, hfr39⟩ := Kd.N_elem HX39.out [] (0 : Int) (by omega) (by have h_ : (0 : Int) < ((y236.length : Int) : Int) := of_decide_eq_true am_; first | exact h_ | (have e_ := (Kd.N_reads' HO238.out).1; omega) | simpa using h_)
 obtain ⟨ua39_0, uc39_0, rfl, ul39_0, ge39_0⟩ := Kd.FK_slice_open hM39
 have HZ39 := (Kd.N_seg HX39.out (0 : Int) (by omega) (by have h_ : (0 : Int) < ((y236.length : Int) : Int) := of_decide_eq_true am_; first | exact h_ | (have e_ := (Kd.N_reads' HO238.out).1; omega) | simpa using h_) (seg := [(.slice Ao8245 t242.length co8245)]) (j := 0) hcl39 hcc39 (show 1 ≤ 1 from by decide) (x' := t242) (Kd.FK_slice_mk (Kd.R_reads' (Kd.R_mono (ok' := (fun k_ => ((fun k_ => (P1_1_ k_ ∨ w.heap.size ≤ k_) ∧ some k_ ≠ (v247 : Value).ownBlock ∧ k_ ≠ gb228 ∧ k_ ≠ gb229 ∧ k_ ≠ gb230 ∧ k_ ≠ gb232)) k_ ∧ k_ ≠ go34)) (Kd.R_types (Kd.R_types (Kd.R_types (Kd.R_types (Kd.R_apart' (HO246.out) (Kd.N_typed HO238.out) (by decide)) BK228.out (by decide)) BK229.out (by decide)) BK230.out (by decide)) BK232.out (by decide)) (fun k_ hk => ⟨⟨(.inr (hk.1.1.1.1.1.1)), ⟨hk.1.1.1.1.1.2, ⟨hk.1.1.1.2, ⟨hk.1.1.2, ⟨hk.1.2, hk.2⟩⟩⟩⟩⟩, fun e_ => (hk.1.1.1.1.2) (by rw [e_]; rfl)⟩))).2.1 (Kd.R_F (Kd.R_mono (ok' := (fun k_ => ((fun k_ => (P1_1_ k_ ∨ w.heap.size ≤ k_) ∧ some k_ ≠ (v247 : Value).ownBlock ∧ k_ ≠ gb228 ∧ k_ ≠ gb229 ∧ k_ ≠ gb230 ∧ k_ ≠ gb232)) k_ ∧ k_ ≠ go34)) (Kd.R_types (Kd.R_types (Kd.R_types (Kd.R_types (Kd.R_apart' (HO246.out) (Kd.N_typed HO238.out) (by decide)) BK228.out (by decide)) BK229.out (by decide)) BK230.out (by decide)) BK232.out (by decide)) (fun k_ hk => ⟨⟨(.inr (hk.1.1.1.1.1.1)), ⟨hk.1.1.1.1.1.2, ⟨hk.1.1.1.2, ⟨hk.1.1.2, ⟨hk.1.2, hk.2⟩⟩⟩⟩⟩, fun e_ => (hk.1.1.1.1.2) (by rw [e_]; rfl)⟩)))) (fun _ hk => hk))
 have HG39 := HZ39.2
 replace HZ39 := HZ39.1
 have HP39 := HZ39
 clear HZ39
 (try simp only [show ((Kd.slice 2 (Kd.int .i64))).sz = 1 from rfl, Nat.mul_one, Nat.add_zero] at HP39 HG39)
 rw [← Ny249.out] at HP39
 have HQ39 := Aside0.mk HP39
 clear hcl39 hcc39 hfr39 hM39 HP39
 have p35 : 0 ≤ (1 : Int) := (by omega)
 have q35 : (1 : Int) < ((y236.length : Int) : Int) := of_decide_eq_true am_
 have qi35 : (1 < y236.length) = True := eq_true (by omega)
 obtain ⟨ce35, hcl35, hM35, hcc35, hfr35⟩ := Kd.N_elem HQ39.out [] (1 : Int) p35 q35
 obtain ⟨ua35_0, uc35_0, rfl, ul35_0, ge35_0⟩ := Kd.FK_slice_open hM35
 have hx35_0 := hcc35 0 _ rfl
 have hf35_0 := hfr35 0
 (try simp only [show ((Kd.slice 2 (Kd.int .i64))).sz = 1 from rfl, Nat.mul_one, Nat.add_zero] at hx35_0)
 (try simp only [show ((Kd.slice 2 (Kd.int .i64))).sz = 1 from rfl, Nat.mul_one, Nat.add_zero] at hf35_0)
 clear hcl35 hcc35 hfr35 hM35
 (try rw [show ((1 : Int)).toNat = 1 from rfl] at hx35_0)
 (try simp only [Nat.reduceMul, Nat.zero_mul, Nat.zero_add, Nat.reduceAdd] at hx35_0)
 (try rw [show ((1 : Int)).toNat = 1 from rfl] at hf35_0)
 (try simp only [Nat.reduceMul, Nat.zero_mul, Nat.zero_add, Nat.reduceAdd] at hf35_0)
 obtain ⟨ce35b, hcl35b, hM35b, hcc35b, hfr35b⟩ := Kd.N_elem HX39.out [] (1 : Int) p35 q35
 obtain ⟨ua35b_0, uc35b_0, rfl, ul35b_0, ge35b_0⟩ := Kd.FK_slice_open hM35b
 have hx35b_0 := hcc35b 0 _ rfl
 have hf35b_0 := hfr35b 0
 (try simp only [show ((Kd.slice 2 (Kd.int .i64))).sz = 1 from rfl, Nat.mul_one, Nat.add_zero] at hx35b_0)
 (try simp only [show ((Kd.slice 2 (Kd.int .i64))).sz = 1 from rfl, Nat.mul_one, Nat.add_zero] at hf35b_0)
 (try rw [show ((1 : Int)).toNat = 1 from rfl] at hx35b_0)
 (try simp only [Nat.reduceMul, Nat.zero_mul, Nat.zero_add, Nat.reduceAdd] at hx35b_0)
 (try rw [show ((1 : Int)).toNat = 1 from rfl] at hf35b_0)
 (try simp only [Nat.reduceMul, Nat.zero_mul, Nat.zero_add, Nat.reduceAdd] at hf35b_0)
 clear hcl35b hM35b hcc35b hfr35b
 replace p35 := eq_true p35
 replace q35 := eq_true q35
 obtain ⟨Ao8247, co8247, eo8247⟩ := Kd.R_slice HO248.out
 subst eo8247
 have HX40 := Aside0.mk (show Kd.N (Kd.slice 2 (Kd.int .i64)) 53 _ w.heap.size (fun k_ => (P1_1_ k_ ∨ w.heap.size ≤ k_) ∧ some k_ ≠ ((.slice Ao8247 t243.length co8247) : Value).ownBlock ∧ k_ ≠ gb228 ∧ k_ ≠ gb229 ∧ k_ ≠ gb230 ∧ k_ ≠ gb232) (.slice (some ⟨go34, 0, none⟩) y236.length co37) y249 from (Kd.N_mono (HQ39.out) (fun k_ hk => ⟨hk.1, ⟨hk.2.1, ⟨hk.2.2.1, ⟨hk.2.2.2.1, ⟨hk.2.2.2.2.1, hk.2.2.2.2.2⟩⟩⟩⟩⟩)))
 replace HX40 := Aside0.mk (show Kd.N (Kd.slice 2 (Kd.int .i64)) 53 _ w.heap.size (fun k_ => (P1_1_ k_ ∨ w.heap.size ≤ k_) ∧ k_ ≠ gb228 ∧ k_ ≠ gb229 ∧ k_ ≠ gb230 ∧ k_ ≠ gb232) (.slice (some ⟨go34, 0, none⟩) y236.length co37) y249 from Kd.N_mono HX40.out (fun k_ hk => ⟨hk.1, ⟨hk.2.2.1, ⟨hk.2.2.2.1, ⟨hk.2.2.2.2.1, hk.2.2.2.2.2⟩⟩⟩⟩))
 obtain ⟨ce40, hcl40, hM40, hcc40, hfr40⟩ := Kd.N_elem HX40.out [] (1 : Int) (by omega) (by have h_ : (1 : Int) < ((y236.length : Int) : Int) := of_decide_eq_true am_; first | exact h_ | (have e_ := (Kd.N_reads' HO238.out).1; omega) | simpa using h_)
 obtain ⟨ua40_0, uc40_0, rfl, ul40_0, ge40_0⟩ := Kd.FK_slice_open hM40
 have HP40 := (Kd.N_seg HX40.out (1 : Int) (by omega) (by have h_ : (1 : Int) < ((y236.length : Int) : Int) := of_decide_eq_true am_; first | exact h_ | (have e_ := (Kd.N_reads' HO238.out).1; omega) | simpa using h_) (seg := [(.slice Ao8247 t243.length co8247)]) (j := 0) hcl40 hcc40 (show 1 ≤ 1 from by decide) (x' := t243) (Kd.FK_slice_mk (Kd.R_reads' (Kd.R_mono (ok' := (fun k_ => ((fun k_ => (P1_1_ k_ ∨ w.heap.size ≤ k_) ∧ k_ ≠ gb228 ∧ k_ ≠ gb229 ∧ k_ ≠ gb230 ∧ k_ ≠ gb232)) k_ ∧ k_ ≠ go34)) (Kd.R_grown (Kd.R_types (Kd.R_types (Kd.R_types (Kd.R_types (Kd.R_apart' (HO248.out) (Kd.N_typed HO238.out) (by decide)) BK228.out (by decide)) BK229.out (by decide)) BK230.out (by decide)) BK232.out (by decide)) HG39 (fun k_ hk e_ => hk.1.1.1.1.2 (e_.trans rfl))) (fun k_ hk => ⟨⟨(.inr (hk.1.1.1.1.1.1)), ⟨hk.1.1.1.2, ⟨hk.1.1.2, ⟨hk.1.2, hk.2⟩⟩⟩⟩, fun e_ => (hk.1.1.1.1.2) (by rw [e_]; rfl)⟩))).2.1 (Kd.R_F (Kd.R_mono (ok' := (fun k_ => ((fun k_ => (P1_1_ k_ ∨ w.heap.size ≤ k_) ∧ k_ ≠ gb228 ∧ k_ ≠ gb229 ∧ k_ ≠ gb230 ∧ k_ ≠ gb232)) k_ ∧ k_ ≠ go34)) (Kd.R_grown (Kd.R_types (Kd.R_types (Kd.R_types (Kd.R_types (Kd.R_apart' (HO248.out) (Kd.N_typed HO238.out) (by decide)) BK228.out (by decide)) BK229.out (by decide)) BK230.out (by decide)) BK232.out (by decide)) HG39 (fun k_ hk e_ => hk.1.1.1.1.2 (e_.trans rfl))) (fun k_ hk => ⟨⟨(.inr (hk.1.1.1.1.1.1)), ⟨hk.1.1.1.2, ⟨hk.1.1.2, ⟨hk.1.2, hk.2⟩⟩⟩⟩, fun e_ => (hk.1.1.1.1.2) (by rw [e_]; rfl)⟩)))) (fun _ hk => hk)).1
 (try simp only [show ((Kd.slice 2 (Kd.int .i64))).sz = 1 from rfl, Nat.mul_one, Nat.add_zero] at HP40)
 rw [← Ny250.out] at HP40
 have HQ40 := Aside0.mk HP40
 clear hcl40 hcc40 hfr40 hM40 HP40
 refine hK.out _ _ ⟨HS0_, HS1_⟩ (fun hHeld => ?_)
 clear hK K
 refine norm_ (a' := ?_) ?_ ?_
 rotate_left
 {
 show Act.put _ (some 38) _ = _
 exact sp_}
 refine pu_ 9 (some 29) (B_ 17 1023) HT_ ?_
 refine pu_ 10 (some 39) (B_ 17 2047) HT_ ?_
 refine pu_ 11 (some 40) (B_ 17 4095) HT_ ?_
 refine pu_ 12 (some 41) (B_ 17 8191) HT_ ?_
 refine pu_ 13 (some 42) (B_ 17 16383) HT_ ?_
 refine last_ (i := 14) (N := none) (B_ 17 32767) rfl rfl (one_of HT_.out kf_) (by decide) (fun K hK => ?_)
 refine skip_ (w1 := ?_) (by rfl) rfl ?_ ?_
 rotate_left
 {
 go_simp
 rfl}
 refine hK.out _ _ ?_
 clear hK K
 refine pu_ 15 (some 43) (B_ 17 65535) HT_ ?_
 refine last_ (i := 16) (N := none) (B_ 17 131071) rfl rfl (one_of HT_.out kf_) (by decide) (fun K hK => ?_)
 refine skip_ (w1 := ?_) (by rfl) rfl ?_ ?_
 rotate_left
 {
 go_simp
 rfl}
 refine hK.out _ _ ?_
 clear hK K
 refine done_ (done_of HT_.out kf_) ?_
 try go_wp2
 go_meet
 case rel => exact ⟨_, (y250), H', ⟨ol_⟩, ⟨kN_ HQ40⟩, ⟨by (with_reducible repeat (first | apply Kd.V_alloc | apply Kd.V_drewN | apply Kd.V_drew)); exact Kd.V_mono (Kd.V_far (p := ⟨go34, 1, none⟩) (Kd.V_far (p := ⟨go34, 0, none⟩) (Kd.V_mono HO1_1.out (fun k_ hk => (⟨hk, fun e_ => hk.1.1.2 (by rw [e_]; rfl)⟩ : _ ∧ k_ ≠ go34))) (fun _ hk => hk.2) ((.slice Ao8245 t242.length co8245))) (fun _ hk => hk.2) ((.slice Ao8247 t243.length co8247))) (fun _ hk => ⟨hk.1.1.1.1.1, ⟨hk.1.1.1.2, ⟨hk.1.1.1.1.2.1, ⟨hk.1.1.1.1.2.2.1, ⟨hk.1.1.1.1.2.2.2.1, hk.1.1.1.1.2.2.2.2⟩⟩⟩⟩⟩)⟩, ⟨by (with_reducible repeat (first | refine blk_drewN ?_ _ | refine blk_drew ?_ | refine blk_alloc ?_ _)); refine blk_far ?_ (by have h_ := Kd.N_away HX40.out (fun _ hk => hk.2.1); intro e_; exact h_ (by rw [e_]; rfl)) _; (with_reducible repeat (first | refine blk_drewN ?_ _ | refine blk_drew ?_ | refine blk_alloc ?_ _)); refine blk_far ?_ (by have h_ := Kd.N_away HX40.out (fun _ hk => hk.2.1); intro e_; exact h_ (by rw [e_]; rfl)) _; (with_reducible repeat (first | refine blk_drewN ?_ _ | refine blk_drew ?_ | refine blk_alloc ?_ _)); exact BK228.out⟩, ⟨by (with_reducible repeat (first | refine blk_drewN ?_ _ | refine blk_drew ?_ | refine blk_alloc ?_ _)); refine blk_far ?_ (by have h_ := Kd.N_away HX40.out (fun _ hk => hk.2.2.1); intro e_; exact h_ (by rw [e_]; rfl)) _; (with_reducible repeat (first | refine blk_drewN ?_ _ | refine blk_drew ?_ | refine blk_alloc ?_ _)); refine blk_far ?_ (by have h_ := Kd.N_away HX40.out (fun _ hk => hk.2.2.1); intro e_; exact h_ (by rw [e_]; rfl)) _; (with_reducible repeat (first | refine blk_drewN ?_ _ | refine blk_drew ?_ | refine blk_alloc ?_ _)); exact BK229.out⟩, ⟨by (with_reducible repeat (first | refine blk_drewN ?_ _ | refine blk_drew ?_ | refine blk_alloc ?_ _)); refine blk_far ?_ (by have h_ := Kd.N_away HX40.out (fun _ hk => hk.2.2.2.1); intro e_; exact h_ (by rw [e_]; rfl)) _; (with_reducible repeat (first | refine blk_drewN ?_ _ | refine blk_drew ?_ | refine blk_alloc ?_ _)); refine blk_far ?_ (by have h_ := Kd.N_away HX40.out (fun _ hk => hk.2.2.2.1); intro e_; exact h_ (by rw [e_]; rfl)) _; (with_reducible repeat (first | refine blk_drewN ?_ _ | refine blk_drew ?_ | refine blk_alloc ?_ _)); exact BK230.out⟩, ⟨by (with_reducible repeat (first | refine blk_drewN ?_ _ | refine blk_drew ?_ | refine blk_alloc ?_ _)); refine blk_far ?_ (by have h_ := Kd.N_away HX40.out (fun _ hk => hk.2.2.2.2); intro e_; exact h_ (by rw [e_]; rfl)) _; (with_reducible repeat (first | refine blk_drewN ?_ _ | refine blk_drew ?_ | refine blk_alloc ?_ _)); refine blk_far ?_ (by have h_ := Kd.N_away HX40.out (fun _ hk => hk.2.2.2.2); intro e_; exact h_ (by rw [e_]; rfl)) _; (with_reducible repeat (first | refine blk_drewN ?_ _ | refine blk_drew ?_ | refine blk_alloc ?_ _)); exact BK232.out⟩, ⟨by repeat (first | (with_reducible first | exact HB.out | apply below_alloc | apply pw_below_drewN | apply below_drew1 | refine below_set ?_ GB34.out | refine below_set ?_ GB34.out | refine below_set ?_ GE228.out | refine below_set ?_ GE229.out | refine below_set ?_ GE230.out | refine below_set ?_ GE232.out) | exact HB.out)⟩⟩}
 {
 rw [if_neg c32] at H
 exact absurd H (by simp)}}
 {
 rw [if_neg c31] at H
 exact absurd H (by simp)}}
 {
 replace c30 := Bool.eq_false_iff.mpr c30
 subst c30
 rw [if_neg (show ¬ (false = true) by decide)] at H
 have H' := Aside0.mk H
 clear H
 go_wp2
 go_meet
 case rel => exact ⟨_, (y236), H', ⟨ol_⟩, ⟨kN_ HO238⟩, ⟨by (with_reducible repeat (first | apply Kd.V_alloc | apply Kd.V_drewN | apply Kd.V_drew)); exact Kd.V_mono HO1_1.out (fun _ hk => ⟨hk.1.1, ⟨hk.2, ⟨hk.1.2.1, ⟨hk.1.2.2.1, ⟨hk.1.2.2.2.1, hk.1.2.2.2.2⟩⟩⟩⟩⟩)⟩, ⟨bk_ BK228⟩, ⟨bk_ BK229⟩, ⟨bk_ BK230⟩, ⟨bk_ BK232⟩, ⟨bl_ HB⟩⟩})
 case rest => (
 clear HC7
 try clear c4
 try clear c5
 try clear hcz13_0
 try clear hcz13_1
 try clear hcz13_2
 try clear hcz13_3
 try clear hcz15_0
 try clear hcz15_1
 try clear hcz17_0
 try clear hcz17_1
 try clear hcz17_2
 try clear hcz17_3
 try clear hcz22_0
 try clear hcz22_1
 try clear hcz22_2
 try clear hcz22_3
 try clear hcz25_0
 try clear hcz25_1
 try clear hcz27_0
 try clear hcz27_1
 try clear hcz27_2
 try clear hcz27_3
 try clear hcz28_0
 try clear hcz28_1
 try clear hfz13_0
 try clear hfz13_1
 try clear hfz13_2
 try clear hfz13_3
 try clear hfz15_0
 try clear hfz15_1
 try clear hfz17_0
 try clear hfz17_1
 try clear hfz17_2
 try clear hfz17_3
 try clear hfz22_0
 try clear hfz22_1
 try clear hfz22_2
 try clear hfz22_3
 try clear hfz25_0
 try clear hfz25_1
 try clear hfz27_0
 try clear hfz27_1
 try clear hfz27_2
 try clear hfz27_3
 try clear hfz28_0
 try clear hfz28_1
 obtain ⟨kq, x7_6, HA, HJ6, HO_7, HO_230001, BK228, BK229, BK230, BK232, HB⟩ := hcut
 cases kq with
 | zero => exact absurd HA.out (by simp [vcodec_Decode.j0])
 | succ kj6 => (
 have H := HA.out
 clear HA
 simp only [vcodec_Decode.j0] at H
 have H' := Aside0.mk H
 clear H
 go_wp2_with (first | ((with_reducible refine gate_dst (N := 8) rfl ?_); refine box_ 8 #[.slice none 0 0] 37 ?_; intro gb251 hg w41 hbox hb; replace HO_7 := Aside0.mk (Kd.N_below (Kd.N_elderB (kN_ HO_7) gb251 (Nat.le_of_eq hg.symm)) hb); replace HO_230001 := Aside0.mk (Kd.V_below (Kd.V_elderB (kV_ HO_230001) gb251 (Nat.le_of_eq hg.symm)) hb); have BK251 := Aside0.mk (hbox); have GW251 := GE_ HB hg; have GE251 := GE_ HB hg; replace HB := BS_ HB hb; obtain ⟨NB228_251, NB251_228⟩ := NN_ BK228 hg; replace BK228 := FB_ BK228 hb; obtain ⟨NB229_251, NB251_229⟩ := NN_ BK229 hg; replace BK229 := FB_ BK229 hb; obtain ⟨NB230_251, NB251_230⟩ := NN_ BK230 hg; replace BK230 := FB_ BK230 hb; obtain ⟨NB232_251, NB251_232⟩ := NN_ BK232 hg; replace BK232 := FB_ BK232 hb; clear hb hbox hg; have hnb42 := NB229_228.out; have hnc42 := NB228_229.out; have hnb43 := NB229_230.out; have hnc43 := NB230_229.out; have hnb44 := NB229_232.out; have hnc44 := NB232_229.out; have hnb45 := NB229_251.out; have hnc45 := NB251_229.out; obtain ⟨hcz46_0, hcz46_1, hfz46_0, hfz46_1⟩ := e2_ BK229))
 go_loopg [47] kj6 (fun kq v47 w' => ∃ (x47_2 : Int) (x252000_2 : List (List Int)) (u252000 : Value), v47 = .int .i64 x47_2 ∧ Aside0 (vcodec_Decode.l0 kq x7_6 l1_0 (l1_0.length : Int) x47_2 x252000_2 = some (r1, r2)) ∧ Aside0 (kq ≤ kj6) ∧ Aside0 (Kd.N (Kd.slice 2 (Kd.int .i64)) 53 w' w.heap.size (fun k_ => (P1_1_ k_ ∨ w.heap.size ≤ k_) ∧ some k_ ≠ (u252000 : Value).ownBlock ∧ k_ ≠ gb228 ∧ k_ ≠ gb229 ∧ k_ ≠ gb230 ∧ k_ ≠ gb232 ∧ k_ ≠ gb251) v237 x7_6) ∧ Aside0 (Kd.V (Kd.slice 2 (Kd.int .i64)) 53 w' w.heap.size (fun k_ => (P1_1_ k_ ∨ w.heap.size ≤ k_) ∧ some k_ ≠ (v237 : Value).ownBlock ∧ some k_ ≠ (u252000 : Value).ownBlock ∧ k_ ≠ gb228 ∧ k_ ≠ gb229 ∧ k_ ≠ gb230 ∧ k_ ≠ gb232 ∧ k_ ≠ gb251) (.slice A1_1 l1_1.length c1_1) l1_1) ∧ Aside0 (Kd.N (Kd.slice 2 (Kd.int .i64)) 53 w' w.heap.size (fun k_ => (P1_1_ k_ ∨ w.heap.size ≤ k_) ∧ some k_ ≠ (v237 : Value).ownBlock ∧ k_ ≠ gb228 ∧ k_ ≠ gb229 ∧ k_ ≠ gb230 ∧ k_ ≠ gb232 ∧ k_ ≠ gb251) u252000 x252000_2) ∧ Aside0 (w'.heap[gb228]? = some (.cells #[.int .i64 a0_0, .int .i64 a0_1, (.slice A0_2 l0_2.length c0_2), (.slice A0_3 l0_3.length c0_3)] 24 (0, 0))) ∧ Aside0 (w'.heap[gb229]? = some (.cells #[(.slice A1_0 l1_0.length c1_0), (.slice A1_1 l1_1.length c1_1)] 28 (0, 0))) ∧ Aside0 (w'.heap[gb230]? = some (.cells #[(.slice none 0 0)] 37 (0, 0))) ∧ Aside0 (w'.heap[gb232]? = some (.cells #[.int .i64 a0_0, .int .i64 a0_1, (.slice A0_2 l0_2.length c0_2), (.slice A0_3 l0_3.length c0_3)] 61 (0, 0))) ∧ Aside0 (w'.heap[gb251]? = some (.cells #[u252000] 37 (0, 0))) ∧ Aside0 (Below w.heap.size w w'))
 case atStart => exact ⟨(0), (([] : List (List Int))), (.slice none 0 0), rs_, H', ⟨Nat.le_refl _⟩, ⟨by (with_reducible repeat (first | apply Kd.N_alloc | apply Kd.N_drewN | apply Kd.N_drew)); exact Kd.N_mono HO_7.out (fun _ hk => ⟨hk.1.1, ⟨(by simp [Value.ownBlock]), ⟨hk.1.2.1, ⟨hk.1.2.2.1, ⟨hk.1.2.2.2.1, ⟨hk.1.2.2.2.2, hk.2⟩⟩⟩⟩⟩⟩)⟩, ⟨by (with_reducible repeat (first | apply Kd.V_alloc | apply Kd.V_drewN | apply Kd.V_drew)); exact Kd.V_mono HO_230001.out (fun _ hk => ⟨hk.1.1, ⟨hk.1.2.1, ⟨(by simp [Value.ownBlock]), ⟨hk.1.2.2.1, ⟨hk.1.2.2.2.1, ⟨hk.1.2.2.2.2.1, ⟨hk.1.2.2.2.2.2, hk.2⟩⟩⟩⟩⟩⟩⟩)⟩, ⟨kn_⟩, ⟨bk_ BK228⟩, ⟨bk_ BK229⟩, ⟨bk_ BK230⟩, ⟨bk_ BK232⟩, ⟨bk_ BK251⟩, ⟨bl_ HB⟩⟩
 case round => (
 clear H'
 try clear c4
 try clear c5
 try clear hcz13_0
 try clear hcz13_1
 try clear hcz13_2
 try clear hcz13_3
 try clear hcz15_0
 try clear hcz15_1
 try clear hcz17_0
 try clear hcz17_1
 try clear hcz17_2
 try clear hcz17_3
 try clear hcz22_0
 try clear hcz22_1
 try clear hcz22_2
 try clear hcz22_3
 try clear hcz25_0
 try clear hcz25_1
 try clear hcz27_0
 try clear hcz27_1
 try clear hcz27_2
 try clear hcz27_3
 try clear hcz28_0
 try clear hcz28_1
 try clear hcz46_0
 try clear hcz46_1
 try clear hfz13_0
 try clear hfz13_1
 try clear hfz13_2
 try clear hfz13_3
 try clear hfz15_0
 try clear hfz15_1
 try clear hfz17_0
 try clear hfz17_1
 try clear hfz17_2
 try clear hfz17_3
 try clear hfz22_0
 try clear hfz22_1
 try clear hfz22_2
 try clear hfz22_3
 try clear hfz25_0
 try clear hfz25_1
 try clear hfz27_0
 try clear hfz27_1
 try clear hfz27_2
 try clear hfz27_3
 try clear hfz28_0
 try clear hfz28_1
 try clear hfz46_0
 try clear hfz46_1
 obtain ⟨x47_2, x252000_2, u252000, rfl, HA, HK2, HO_7, HO_230001, HO_252000, BK228, BK229, BK230, BK232, BK251, HB⟩ := hrel
 cases gk with
 | zero => exact absurd HA.out (by simp [vcodec_Decode.l0])
 | succ k2 => (
 have H := HA.out
 clear HA
 simp only [vcodec_Decode.l0] at H
 by_cases c47 : x47_2 < (l1_0.length : Int)
 {
 rw [if_pos c47] at H
 have c47b0 : decide (x47_2 < (l1_0.length : Int)) = true := decide_eq_true c47
 clear c47
 by_cases c48 : 0 ≤ x47_2
 {
 rw [if_pos c48] at H
 have c48b0 : decide (0 ≤ x47_2) = true := decide_eq_true c48
 clear c48
 by_cases c49 : x47_2 < (l1_0.length : Int)
 {
 rw [if_pos c49] at H
 have c49b0 : decide (x47_2 < (l1_0.length : Int)) = true := decide_eq_true c49
 clear c49
 by_cases c50 : 16 ≤ 35184372088832
 {
 rw [if_pos c50] at H
 have c50b0 := eq_true c50
 have c50b1 : decide (16 ≤ 35184372088832) = true := decide_eq_true c50
 clear c50
 obtain ⟨y253, hy253⟩ : ∃ y_ : List Int, y_ = (List.replicate 16 0) := ⟨_, rfl⟩
 replace H : (if ((rd_L1 l1_0 x47_2).length : Int) > 0 then ((floor_Floor.f k2 (rd_L1 l1_0 x47_2)).bind fun bt256 => (if x47_2 < (x7_6.length : Int) then ((vcodec_near.f k2 (rd_L2 x7_6 x47_2)).bind fun t261 => ((remap_Restore.f k2 t261 bt256.1).bind fun bt264 => (if x252000_2.length < 5864062014805 then (vcodec_Decode.l0 k2 x7_6 l1_0 (l1_0.length : Int) (wrap64 (x47_2 + 1)) (x252000_2 ++ [bt264.1])) else (none)))) else (none))) else (if x252000_2.length < 5864062014805 then (vcodec_Decode.l0 k2 x7_6 l1_0 (l1_0.length : Int) (wrap64 (x47_2 + 1)) (x252000_2 ++ [y253])) else (none))) = some (r1, r2) := by first | (rw [hy253]; with_reducible exact H) | (have H2_ := (Option.bind_some _ _).symm.trans H; rw [hy253]; with_reducible exact H2_) | (have H2_ := (Option.bind_some _ _).symm.trans H; with_reducible exact H2_) | with_reducible exact H | (rw [hy253]; exact H) | exact H
 have Ny253 := Aside0.mk hy253
 clear hy253
 by_cases c51 : ((rd_L1 l1_0 x47_2).length : Int) > 0
 {
 rw [if_pos c51] at H
 have c51b0 : decide (0 < ((rd_L1 l1_0 x47_2).length : Int)) = true := decide_eq_true c51
 have c51b1 : decide (0 < (rd_L1 l1_0 x47_2).length) = true := decide_eq_true (by omega)
 clear c51
 obtain ⟨⟨t256, t257⟩, A52, H⟩ := ob_ H
 (try dsimp only at H)
 by_cases c53 : x47_2 < (x7_6.length : Int)
 {
 rw [if_pos c53] at H
 have c53b0 : decide (x47_2 < (x7_6.length : Int)) = true := decide_eq_true c53
 clear c53
 obtain ⟨t261, A54, H⟩ := ob_ H
 (try dsimp only at H)
 obtain ⟨⟨t264, t265⟩, A55, H⟩ := ob_ H
 (try dsimp only at H)
 by_cases c56 : x252000_2.length < 5864062014805
 {
 rw [if_pos c56] at H
 have LMc56 := Aside0.mk c56
 clear c56
 obtain ⟨y268, hy268⟩ : ∃ y_ : List (List Int), y_ = (x252000_2 ++ [t264]) := ⟨_, rfl⟩
 replace H : (vcodec_Decode.l0 k2 x7_6 l1_0 (l1_0.length : Int) (wrap64 (x47_2 + 1)) y268) = some (r1, r2) := by first | (rw [hy268]; with_reducible exact H) | (have H2_ := (Option.bind_some _ _).symm.trans H; rw [hy268]; with_reducible exact H2_) | (have H2_ := (Option.bind_some _ _).symm.trans H; with_reducible exact H2_) | with_reducible exact H | (rw [hy268]; exact H) | exact H
 have Ny268 := Aside0.mk hy268
 clear hy268
 have H' := Aside0.mk H
 clear H
 have p252 : 0 ≤ (x47_2 : Int) := of_decide_eq_true am_
 have q252 : x47_2 < (l1_0.length : Int) := of_decide_eq_true am_
 obtain ⟨ad252, A252_0, c252_0, e252, hx252_0, hl252_0, hi252_0⟩ := at_L1 HR1_0.out x47_2 p252 q252
 cases e252
 replace hx252_0 := (HB.out.cell (World.block_lt_of_cell? w _ hx252_0)).trans hx252_0
 have HR252_0 := Aside0.mk hi252_0
 have HC252_0 := Aside0.mk hl252_0
 clear hi252_0 hl252_0
 replace p252 := eq_true p252
 replace q252 := eq_true q252
 go_wp2_with (first | ((with_reducible refine gate_dst (N := 52) rfl ?_); refine Kd.R_make (Kd.int .i64) _ 2 rfl (N := 52) rfl 53 _ _ rfl 16 rfl rfl Try.underlying53 (.int .i64 0) 8 info2 rfl (by decide) (by omega) 0 (ok := fun _ => True) (okp := fun _ => True) rfl (fun _ hk => hk) trivial (by omega) (by omega) (Below.refl _ _) (Nat.le_refl _) ?_; intro v254 w57 ho58 hb hg_ hnew_; clear hg_ hnew_; (first | rw [← Ny253.out] at ho58 | (simp only [Int.reduceToNat] at ho58; rw [← Ny253.out] at ho58)); replace HO_7 := Aside0.mk (Kd.N_elder' (kN_ HO_7) (Kd.R_base ho58) hb); replace HO_230001 := Aside0.mk (Kd.V_elder' (kV_ HO_230001) (Kd.R_base ho58) hb); replace HO_252000 := Aside0.mk (Kd.N_elder' (kN_ HO_252000) (Kd.R_base ho58) hb); have HO255 := Aside0.mk (Kd.R_lower (Kd.R_newM (M := fun k_ => (w.heap.size ≤ k_)) ho58 (bs_ HB) (fun k_ h_ => h_)) (bs_ HB)); replace BK228 := FB_ BK228 hb; replace BK229 := FB_ BK229 hb; replace BK230 := FB_ BK230 hb; replace BK232 := FB_ BK232 hb; replace BK251 := FB_ BK251 hb; replace HB := BS_ HB hb; clear hb ho58) | ((with_reducible refine gate_callee (f := 34) rfl ?_); refine gL_ (some 58) Try.func34 #[.slice A252_0 (rd_L1 l1_0 x47_2).length c252_0] ?_; (with_reducible refine (floor_Floor.calls k2 _ _ (rd_L1 l1_0 x47_2) t256 t257 _ ?side1 ?side2 A52.out).mono ?_); (case side1 => exact kC_ HR252_0 HB); (case side2 => exact HC252_0.out); rintro e w59 ⟨v258, rfl, ho0, hb⟩; refine ⟨_, rfl, ?_⟩; replace HO_7 := Aside0.mk (Kd.N_elder' (kN_ HO_7) (Kd.R_base ho0) hb); replace HO_230001 := Aside0.mk (Kd.V_elder' (kV_ HO_230001) (Kd.R_base ho0) hb); replace HO_252000 := Aside0.mk (Kd.N_elder' (kN_ HO_252000) (Kd.R_base ho0) hb); have HO259 := Aside0.mk (Kd.R_lower (Kd.R_new' (Kd.R_newM (M := fun k_ => (w.heap.size ≤ k_)) ho0 (bs_ HB) (fun k_ h_ => h_)) (Kd.R_lt (kR_ HO255))) (bs_ HB)); replace HO255 := Aside0.mk (Kd.R_elder' (kR_ HO255) (Kd.R_base ho0) hb); replace BK228 := FB_ BK228 hb; replace BK229 := FB_ BK229 hb; replace BK230 := FB_ BK230 hb; replace BK232 := FB_ BK232 hb; replace BK251 := FB_ BK251 hb; replace HB := BS_ HB hb; (try clear hb); (try clear hk); (try clear ho0); obtain ⟨Ao60, co60, eo60⟩ := Kd.N_slice HO_7.out; subst eo60; have p260 : 0 ≤ (x47_2 : Int) := of_decide_eq_true am_; have q260 : x47_2 < (x7_6.length : Int) := of_decide_eq_true am_; obtain ⟨ad260, A260_0, c260_0, e260, hx260_0, hl260_0, hi260_0⟩ := at_L2 (Kd.N_reads' HO_7.out).2.2 x47_2 p260 q260; cases e260; obtain ⟨ce260, hce260, hMe260, hcc260⟩ := Kd.N_get HO_7.out [] x47_2 p260 (by first | exact q260 | exact of_decide_eq_true am_ | (have e_ := (Kd.N_reads' HO_7.out).1; omega)); obtain ⟨ua260_0, uc260_0, rfl, ul260_0, ge260_0⟩ := Kd.FK_slice_open hMe260; have hv260_0 := hcc260 0 _ rfl; rw [Nat.add_zero, show ((Kd.slice 2 (Kd.int .i64))).sz = 1 from rfl, Nat.mul_one] at hv260_0; replace hv260_0 := Option.some.inj (hv260_0.symm.trans hx260_0); injection hv260_0 with hva_ hvn_ hvc_; rw [hva_] at ge260_0; rw [hvc_] at ul260_0; have HL260_0 := Aside0.mk (show Kd.V (Kd.int .i64) 2 _ w.heap.size _ _ (rd_L2 x7_6 x47_2) from Kd.V_mk ul260_0 ge260_0); clear hva_ hvn_ hvc_ ge260_0 ul260_0; clear hcc260 hce260; have HR260_0 := Aside0.mk hi260_0; have HC260_0 := Aside0.mk hl260_0; clear hi260_0 hl260_0; replace p260 := eq_true p260; replace q260 := eq_true q260) | ((with_reducible refine gate_callee (f := 36) rfl ?_); refine gL_ (some 66) Try.func36 #[.slice A260_0 (rd_L2 x7_6 x47_2).length c260_0] ?_; (with_reducible refine (vcodec_near.calls k2 _ _ (rd_L2 x7_6 x47_2) t261 _ ?side1 ?side2 A54.out).mono ?_); (case side1 => repeat (first | exact (by repeat (first | (with_reducible exact HR260_0.out) | (with_reducible refine Kd.C_alloc ?_ _) | (with_reducible refine Kd.C_drewN ?_ _) | (with_reducible refine Kd.C_drew ?_) | exact HR260_0.out)) | (with_reducible refine Kd.C_alloc ?_ _) | (with_reducible refine Kd.C_drewN ?_ _) | (with_reducible refine Kd.C_drew ?_))); (case side2 => exact HC260_0.out); rintro e w61 ⟨v262, rfl, ho0, hb⟩; refine ⟨_, rfl, ?_⟩; replace HO_7 := Aside0.mk (Kd.N_elder' (kN_ HO_7) (Kd.R_base ho0) hb); replace HO_230001 := Aside0.mk (Kd.V_elder' (kV_ HO_230001) (Kd.R_base ho0) hb); replace HO_252000 := Aside0.mk (Kd.N_elder' (kN_ HO_252000) (Kd.R_base ho0) hb); replace HL260_0 := Aside0.mk (Kd.V_elder' (kV_ HL260_0) (Kd.R_base ho0) hb); have HO263 := Aside0.mk (Kd.R_lower (Kd.R_new' (Kd.R_new' (Kd.R_newM (M := fun k_ => (w.heap.size ≤ k_)) ho0 (bs_ HB) (fun k_ h_ => h_)) (Kd.R_lt (kR_ HO255))) (Kd.R_lt (kR_ HO259))) (bs_ HB)); replace HO255 := Aside0.mk (Kd.R_elder' (kR_ HO255) (Kd.R_base ho0) hb); replace HO259 := Aside0.mk (Kd.R_elder' (kR_ HO259) (Kd.R_base ho0) hb); replace BK228 := FB_ BK228 hb; replace BK229 := FB_ BK229 hb; replace BK230 := FB_ BK230 hb; replace BK232 := FB_ BK232 hb; replace BK251 := FB_ BK251 hb; replace HR260_0 := Aside0.mk (Kd.C_below (by repeat (first | (with_reducible exact HR260_0.out) | (with_reducible refine Kd.C_alloc ?_ _) | (with_reducible refine Kd.C_drewN ?_ _) | (with_reducible refine Kd.C_drew ?_) | exact HR260_0.out)) hb); replace HB := BS_ HB hb; (try clear hb); (try clear hk); (try clear ho0); obtain ⟨Ao62, co62, eo62⟩ := Kd.R_slice HO263.out; subst eo62; obtain ⟨Ao63, co63, eo63⟩ := Kd.R_slice HO259.out; subst eo63) | ((with_reducible refine gate_callee (f := 35) rfl ?_); refine gL_ (some 68) Try.func35 #[.slice Ao62 t261.length co62, .slice Ao63 t256.length co63] ?_; (with_reducible refine (remap_Restore.calls k2 _ _ t261 _ _ t256 t264 t265 _ ?side1 ?side2 ?side3 ?side4 A55.out).mono ?_); (case side1 => exact kCt_ (Kd.R_reads' HO263.out).2.2); (case side2 => exact (Kd.R_reads' HO263.out).2.1); (case side3 => exact kCt_ (Kd.R_reads' HO259.out).2.2); (case side4 => exact (Kd.R_reads' HO259.out).2.1); rintro e w64 ⟨v266, rfl, ho0, hb⟩; refine ⟨_, rfl, ?_⟩; replace HO_7 := Aside0.mk (Kd.N_elder' (kN_ HO_7) (Kd.R_base ho0) hb); replace HO_230001 := Aside0.mk (Kd.V_elder' (kV_ HO_230001) (Kd.R_base ho0) hb); replace HO_252000 := Aside0.mk (Kd.N_elder' (kN_ HO_252000) (Kd.R_base ho0) hb); replace HL260_0 := Aside0.mk (Kd.V_elder' (kV_ HL260_0) (Kd.R_base ho0) hb); have HO267 := Aside0.mk (Kd.R_lower (Kd.R_new' (Kd.R_new' (Kd.R_new' (Kd.R_newM (M := fun k_ => (w.heap.size ≤ k_)) ho0 (bs_ HB) (fun k_ h_ => h_)) (Kd.R_lt (kR_ HO255))) (Kd.R_lt (kR_ HO259))) (Kd.R_lt (kR_ HO263))) (bs_ HB)); replace HO255 := Aside0.mk (Kd.R_elder' (kR_ HO255) (Kd.R_base ho0) hb); replace HO259 := Aside0.mk (Kd.R_elder' (kR_ HO259) (Kd.R_base ho0) hb); replace HO263 := Aside0.mk (Kd.R_elder' (kR_ HO263) (Kd.R_base ho0) hb); replace BK228 := FB_ BK228 hb; replace BK229 := FB_ BK229 hb; replace BK230 := FB_ BK230 hb; replace BK232 := FB_ BK232 hb; replace BK251 := FB_ BK251 hb; replace HR260_0 := Aside0.mk (Kd.C_below (by repeat (first | (with_reducible exact HR260_0.out) | (with_reducible refine Kd.C_alloc ?_ _) | (with_reducible refine Kd.C_drewN ?_ _) | (with_reducible refine Kd.C_drew ?_) | exact HR260_0.out)) hb); replace HB := BS_ HB hb; (try clear hb); (try clear hk); (try clear ho0); have hnb65 := NB251_228.out; have hnc65 := NB228_251.out; have hnb66 := NB251_229.out; have hnc66 := NB229_251.out; have hnb67 := NB251_230.out; have hnc67 := NB230_251.out; have hnb68 := NB251_232.out; have hnc68 := NB232_251.out; obtain ⟨hcz69_0, hfz69_0⟩ := e1_ BK251; obtain ⟨Ao71, co71, eo71⟩ := Kd.R_slice HO267.out; subst eo71) | ((with_reducible refine gate_builtin (b := .append) (xs := #[.tmp 72, .tmp 74]) rfl ?_); at_builtin; refine Kd.N_append (Kd.slice 2 (Kd.int .i64)) (w0 := w) w.heap.size rfl (.tmp 72) (.tmp 74) 26 53 (.slice none 0 0) 24 rfl Try.underlying26 info53 rfl (by decide) (by omega) u252000 x252000_2 t264 [.slice Ao71 t264.length co71] (fun k_ => (P1_1_ k_ ∨ w.heap.size ≤ k_) ∧ some k_ ≠ (.slice (some ad260) x7_6.length co60 : Value).ownBlock ∧ some k_ ≠ (v254 : Value).ownBlock ∧ some k_ ≠ (.slice Ao63 t256.length co63 : Value).ownBlock ∧ some k_ ≠ (.slice Ao62 t261.length co62 : Value).ownBlock ∧ k_ ≠ gb228 ∧ k_ ≠ gb229 ∧ k_ ≠ gb230 ∧ k_ ≠ gb232 ∧ k_ ≠ gb251) (fun k_ => ((fun k_ => (P1_1_ k_ ∨ w.heap.size ≤ k_) ∧ some k_ ≠ (.slice (some ad260) x7_6.length co60 : Value).ownBlock ∧ some k_ ≠ (v254 : Value).ownBlock ∧ some k_ ≠ (.slice Ao63 t256.length co63 : Value).ownBlock ∧ some k_ ≠ (.slice Ao62 t261.length co62 : Value).ownBlock ∧ k_ ≠ gb228 ∧ k_ ≠ gb229 ∧ k_ ≠ gb230 ∧ k_ ≠ gb232 ∧ k_ ≠ gb251)) k_ ∧ some k_ ≠ (u252000 : Value).ownBlock) rfl rfl ?aP (fun _ hk => hk) ?aF ?aO ?aB ?aS ?aL ?_; (case aP => exact (Kd.FK_slice_mk (Kd.R_reads' (Kd.R_mono (ok' := (fun k_ => ((fun k_ => (P1_1_ k_ ∨ w.heap.size ≤ k_) ∧ some k_ ≠ (.slice (some ad260) x7_6.length co60 : Value).ownBlock ∧ some k_ ≠ (v254 : Value).ownBlock ∧ some k_ ≠ (.slice Ao63 t256.length co63 : Value).ownBlock ∧ some k_ ≠ (.slice Ao62 t261.length co62 : Value).ownBlock ∧ k_ ≠ gb228 ∧ k_ ≠ gb229 ∧ k_ ≠ gb230 ∧ k_ ≠ gb232 ∧ k_ ≠ gb251)) k_ ∧ some k_ ≠ (u252000 : Value).ownBlock)) (Kd.R_types (Kd.R_types (Kd.R_types (Kd.R_types (Kd.R_types (Kd.R_apart' (Kd.R_apart' (HO267.out) (Kd.N_typed HO_7.out) (by decide)) (Kd.N_typed HO_252000.out) (by decide)) BK228.out (by decide)) BK229.out (by decide)) BK230.out (by decide)) BK232.out (by decide)) BK251.out (by decide)) (fun k_ hk => ⟨⟨(.inr (hk.1.1.1.1.1.1.1.1.1.1.1)), ⟨hk.1.1.1.1.1.1.2, ⟨hk.1.1.1.1.1.1.1.1.1.2, ⟨hk.1.1.1.1.1.1.1.1.2, ⟨hk.1.1.1.1.1.1.1.2, ⟨hk.1.1.1.1.2, ⟨hk.1.1.1.2, ⟨hk.1.1.2, ⟨hk.1.2, hk.2⟩⟩⟩⟩⟩⟩⟩⟩⟩, hk.1.1.1.1.1.2⟩))).2.1 (Kd.R_F (Kd.R_mono (ok' := (fun k_ => ((fun k_ => (P1_1_ k_ ∨ w.heap.size ≤ k_) ∧ some k_ ≠ (.slice (some ad260) x7_6.length co60 : Value).ownBlock ∧ some k_ ≠ (v254 : Value).ownBlock ∧ some k_ ≠ (.slice Ao63 t256.length co63 : Value).ownBlock ∧ some k_ ≠ (.slice Ao62 t261.length co62 : Value).ownBlock ∧ k_ ≠ gb228 ∧ k_ ≠ gb229 ∧ k_ ≠ gb230 ∧ k_ ≠ gb232 ∧ k_ ≠ gb251)) k_ ∧ some k_ ≠ (u252000 : Value).ownBlock)) (Kd.R_types (Kd.R_types (Kd.R_types (Kd.R_types (Kd.R_types (Kd.R_apart' (Kd.R_apart' (HO267.out) (Kd.N_typed HO_7.out) (by decide)) (Kd.N_typed HO_252000.out) (by decide)) BK228.out (by decide)) BK229.out (by decide)) BK230.out (by decide)) BK232.out (by decide)) BK251.out (by decide)) (fun k_ hk => ⟨⟨(.inr (hk.1.1.1.1.1.1.1.1.1.1.1)), ⟨hk.1.1.1.1.1.1.2, ⟨hk.1.1.1.1.1.1.1.1.1.2, ⟨hk.1.1.1.1.1.1.1.1.2, ⟨hk.1.1.1.1.1.1.1.2, ⟨hk.1.1.1.1.2, ⟨hk.1.1.1.2, ⟨hk.1.1.2, ⟨hk.1.2, hk.2⟩⟩⟩⟩⟩⟩⟩⟩⟩, hk.1.1.1.1.1.2⟩))))); (case aB => exact (bl_ HB)); (case aF => exact (fun k_ hk => ⟨(.inr (Nat.le_trans (bs_ HB) hk)), Kd.fresh' (Kd.N_lt (kN_ HO_7)) k_ hk, Kd.fresh' (Kd.R_lt (kR_ HO255)) k_ hk, Kd.fresh' (Kd.R_lt (kR_ HO259)) k_ hk, Kd.fresh' (Kd.R_lt (kR_ HO263)) k_ hk, Kd.freshB (g := gb228) (o := .cells #[.int .i64 a0_0, .int .i64 a0_1, .slice A0_2 l0_2.length c0_2, .slice A0_3 l0_3.length c0_3] 24 (0, 0)) (bk_ BK228) k_ hk, Kd.freshB (g := gb229) (o := .cells #[.slice (some ad252) l1_0.length c1_0, .slice A1_1 l1_1.length c1_1] 28 (0, 0)) (bk_ BK229) k_ hk, Kd.freshB (g := gb230) (o := .cells #[.slice none 0 0] 37 (0, 0)) (bk_ BK230) k_ hk, Kd.freshB (g := gb232) (o := .cells #[.int .i64 a0_0, .int .i64 a0_1, .slice A0_2 l0_2.length c0_2, .slice A0_3 l0_3.length c0_3] 61 (0, 0)) (bk_ BK232) k_ hk, Kd.freshB (g := gb251) (o := .cells #[u252000] 37 (0, 0)) (bk_ BK251) k_ hk⟩)); (case aO => exact (by (with_reducible repeat (first | apply Kd.N_alloc | apply Kd.N_drewN | apply Kd.N_drew)); exact Kd.N_mono HO_252000.out (fun _ hk => ⟨hk.1.1.1.1.1, ⟨hk.1.1.1.1.2.1, ⟨hk.1.1.1.2, ⟨hk.1.1.2, ⟨hk.1.2, ⟨hk.1.1.1.1.2.2.1, ⟨hk.1.1.1.1.2.2.2.1, ⟨hk.1.1.1.1.2.2.2.2.1, ⟨hk.1.1.1.1.2.2.2.2.2.1, hk.1.1.1.1.2.2.2.2.2.2⟩⟩⟩⟩⟩⟩⟩⟩⟩))); (case aS => exact (bs_ HB)); (case aL => have := LMc56.out; omega); intro v269 w70 ho hb hg hat; rw [← Ny268.out] at ho; replace HO_7 := Aside0.mk (Kd.N_afterv (ok := (fun k_ => (P1_1_ k_ ∨ w.heap.size ≤ k_) ∧ some k_ ≠ (v254 : Value).ownBlock ∧ some k_ ≠ (.slice Ao63 t256.length co63 : Value).ownBlock ∧ some k_ ≠ (.slice Ao62 t261.length co62 : Value).ownBlock ∧ some k_ ≠ (.slice Ao71 t264.length co71 : Value).ownBlock ∧ k_ ≠ gb228 ∧ k_ ≠ gb229 ∧ k_ ≠ gb230 ∧ k_ ≠ gb232 ∧ k_ ≠ gb251)) (by (with_reducible repeat (first | apply Kd.N_alloc | apply Kd.N_drewN | apply Kd.N_drew)); exact Kd.N_mono HO_7.out (fun _ hk => ⟨⟨hk.1.1.1.1.1, ⟨hk.1.1.1.2, ⟨hk.1.1.2, ⟨hk.1.2, ⟨hk.2, ⟨hk.1.1.1.1.2.2.1, ⟨hk.1.1.1.1.2.2.2.1, ⟨hk.1.1.1.1.2.2.2.2.1, ⟨hk.1.1.1.1.2.2.2.2.2.1, hk.1.1.1.1.2.2.2.2.2.2⟩⟩⟩⟩⟩⟩⟩⟩⟩, hk.1.1.1.1.2.1⟩)) hg hat); replace HO_230001 := Aside0.mk (Kd.V_afterv (ok := (fun k_ => (P1_1_ k_ ∨ w.heap.size ≤ k_) ∧ some k_ ≠ (.slice (some ad260) x7_6.length co60 : Value).ownBlock ∧ some k_ ≠ (v254 : Value).ownBlock ∧ some k_ ≠ (.slice Ao63 t256.length co63 : Value).ownBlock ∧ some k_ ≠ (.slice Ao62 t261.length co62 : Value).ownBlock ∧ some k_ ≠ (.slice Ao71 t264.length co71 : Value).ownBlock ∧ k_ ≠ gb228 ∧ k_ ≠ gb229 ∧ k_ ≠ gb230 ∧ k_ ≠ gb232 ∧ k_ ≠ gb251)) (by (with_reducible repeat (first | apply Kd.V_alloc | apply Kd.V_drewN | apply Kd.V_drew)); exact Kd.V_mono HO_230001.out (fun _ hk => ⟨⟨hk.1.1.1.1.1, ⟨hk.1.1.1.1.2.1, ⟨hk.1.1.1.2, ⟨hk.1.1.2, ⟨hk.1.2, ⟨hk.2, ⟨hk.1.1.1.1.2.2.2.1, ⟨hk.1.1.1.1.2.2.2.2.1, ⟨hk.1.1.1.1.2.2.2.2.2.1, ⟨hk.1.1.1.1.2.2.2.2.2.2.1, hk.1.1.1.1.2.2.2.2.2.2.2⟩⟩⟩⟩⟩⟩⟩⟩⟩⟩, hk.1.1.1.1.2.2.1⟩)) hg hat); replace BK228 := (FG_ BK228 hg (Kd.N_ne HO_252000.out BK228.out (by decide))); replace BK229 := (FG_ BK229 hg (Kd.N_ne HO_252000.out BK229.out (by decide))); replace BK230 := (FG_ BK230 hg (Kd.N_ne HO_252000.out BK230.out (by decide))); replace BK232 := (FG_ BK232 hg (Kd.N_ne HO_252000.out BK232.out (by decide))); replace BK251 := (FG_ BK251 hg (Kd.N_ne HO_252000.out BK251.out (by decide))); replace HO255 := Aside0.mk (Kd.R_over' (kR_ HO255) (Kd.N_typed (kN_ HO_252000)) (by decide) hg); replace HO259 := Aside0.mk (Kd.R_over' (kR_ HO259) (Kd.N_typed (kN_ HO_252000)) (by decide) hg); replace HL260_0 := Aside0.mk (Kd.V_afterv (ok := (fun k_ => (P1_1_ k_ ∨ w.heap.size ≤ k_) ∧ some k_ ≠ (.slice (some ad260) x7_6.length co60 : Value).ownBlock ∧ some k_ ≠ (v254 : Value).ownBlock ∧ some k_ ≠ (.slice Ao63 t256.length co63 : Value).ownBlock ∧ some k_ ≠ (.slice Ao62 t261.length co62 : Value).ownBlock ∧ some k_ ≠ (.slice Ao71 t264.length co71 : Value).ownBlock ∧ k_ ≠ gb228 ∧ k_ ≠ gb229 ∧ k_ ≠ gb230 ∧ k_ ≠ gb232 ∧ k_ ≠ gb251)) (by (with_reducible repeat (first | apply Kd.V_alloc | apply Kd.V_drewN | apply Kd.V_drew)); exact Kd.V_mono HL260_0.out (fun _ hk => ⟨⟨hk.1.1.1.1.1.1, ⟨hk.1.1.2, ⟨hk.1.1.1.1.2, ⟨hk.1.1.1.2, ⟨hk.1.2, ⟨hk.2, ⟨hk.1.1.1.1.1.2.2.1, ⟨hk.1.1.1.1.1.2.2.2.1, ⟨hk.1.1.1.1.1.2.2.2.2.1, ⟨hk.1.1.1.1.1.2.2.2.2.2.1, hk.1.1.1.1.1.2.2.2.2.2.2⟩⟩⟩⟩⟩⟩⟩⟩⟩⟩, hk.1.1.1.1.1.2.1⟩)) hg hat); replace HO263 := Aside0.mk (Kd.R_over' (kR_ HO263) (Kd.N_typed (kN_ HO_252000)) (by decide) hg); replace HB := Aside0.mk (hb); have HO270 := Aside0.mk (ho); clear HO_252000 HO267; clear ho hb hg hat; obtain ⟨Ao72, co72, eo72⟩ := Kd.N_slice HO270.out; subst eo72; obtain ⟨hcz73_0, hfz73_0⟩ := e1_ BK251))
 go_roundg k2
 case measure => have := HJ6.out; have := HK2.out; omega
 case rel => exact ⟨(wrap64 (x47_2 + 1)), (y268), (.slice Ao72 y268.length co72), rs_, H', ⟨by have := HJ6.out; have := HK2.out; omega⟩, ⟨by (with_reducible repeat (first | apply Kd.N_alloc | apply Kd.N_drewN | apply Kd.N_drew)); exact Kd.N_mono (Kd.N_far (p := ⟨gb251, 0, none⟩) (Kd.N_mono HO_7.out (fun k_ hk => (⟨hk, hk.1.2.2.2.2.2.2.2.2.2⟩ : _ ∧ k_ ≠ gb251))) (fun _ hk => hk.2) (.slice Ao72 y268.length co72)) (fun _ hk => ⟨hk.1.1.1, ⟨hk.1.2, ⟨hk.1.1.2.2.2.2.2.1, ⟨hk.1.1.2.2.2.2.2.2.1, ⟨hk.1.1.2.2.2.2.2.2.2.1, ⟨hk.1.1.2.2.2.2.2.2.2.2.1, hk.1.1.2.2.2.2.2.2.2.2.2⟩⟩⟩⟩⟩⟩)⟩, ⟨by (with_reducible repeat (first | apply Kd.V_alloc | apply Kd.V_drewN | apply Kd.V_drew)); exact Kd.V_mono (Kd.V_far (p := ⟨gb251, 0, none⟩) (Kd.V_mono HO_230001.out (fun k_ hk => (⟨hk, hk.1.2.2.2.2.2.2.2.2.2.2⟩ : _ ∧ k_ ≠ gb251))) (fun _ hk => hk.2) (.slice Ao72 y268.length co72)) (fun _ hk => ⟨hk.1.1.1, ⟨hk.1.1.2.1, ⟨hk.1.2, ⟨hk.1.1.2.2.2.2.2.2.1, ⟨hk.1.1.2.2.2.2.2.2.2.1, ⟨hk.1.1.2.2.2.2.2.2.2.2.1, ⟨hk.1.1.2.2.2.2.2.2.2.2.2.1, hk.1.1.2.2.2.2.2.2.2.2.2.2⟩⟩⟩⟩⟩⟩⟩)⟩, ⟨by (with_reducible repeat (first | apply Kd.N_alloc | apply Kd.N_drewN | apply Kd.N_drew)); exact Kd.N_mono (Kd.N_far (p := ⟨gb251, 0, none⟩) (Kd.N_mono HO270.out (fun k_ hk => (⟨hk, hk.2.2.2.2.2.2.2.2.2⟩ : _ ∧ k_ ≠ gb251))) (fun _ hk => hk.2) (.slice Ao72 y268.length co72)) (fun _ hk => ⟨hk.1.1, ⟨hk.1.2.1, ⟨hk.1.2.2.2.2.2.1, ⟨hk.1.2.2.2.2.2.2.1, ⟨hk.1.2.2.2.2.2.2.2.1, ⟨hk.1.2.2.2.2.2.2.2.2.1, hk.1.2.2.2.2.2.2.2.2.2⟩⟩⟩⟩⟩⟩)⟩, ⟨bk_ BK228⟩, ⟨bk_ BK229⟩, ⟨bk_ BK230⟩, ⟨bk_ BK232⟩, ⟨bp_ BK251⟩, ⟨bl_ HB⟩⟩}
 {
 rw [if_neg c56] at H
 exact absurd H (by simp)}}
 {
 rw [if_neg c53] at H
 exact absurd H (by simp)}}
 {
 rw [if_neg c51] at H
 have c51b0 : decide (0 < ((rd_L1 l1_0 x47_2).length : Int)) = false := decide_eq_false c51
 have c51b1 : decide (0 < (rd_L1 l1_0 x47_2).length) = false := decide_eq_false (by omega)
 clear c51
 by_cases c74 : x252000_2.length < 5864062014805
 {
 rw [if_pos c74] at H
 have LMc74 := Aside0.mk c74
 clear c74
 obtain ⟨y271, hy271⟩ : ∃ y_ : List (List Int), y_ = (x252000_2 ++ [y253]) := ⟨_, rfl⟩
 replace H : (vcodec_Decode.l0 k2 x7_6 l1_0 (l1_0.length : Int) (wrap64 (x47_2 + 1)) y271) = some (r1, r2) := by first | (rw [hy271]; with_reducible exact H) | (have H2_ := (Option.bind_some _ _).symm.trans H; rw [hy271]; with_reducible exact H2_) | (have H2_ := (Option.bind_some _ _).symm.trans H; with_reducible exact H2_) | with_reducible exact H | (rw [hy271]; exact H) | exact H
 have Ny271 := Aside0.mk hy271
 clear hy271
 have H' := Aside0.mk H
 clear H
 have p252 : 0 ≤ (x47_2 : Int) := of_decide_eq_true am_
 have q252 : x47_2 < (l1_0.length : Int) := of_decide_eq_true am_
 obtain ⟨ad252, A252_0, c252_0, e252, hx252_0, hl252_0, hi252_0⟩ := at_L1 HR1_0.out x47_2 p252 q252
 cases e252
 replace hx252_0 := (HB.out.cell (World.block_lt_of_cell? w _ hx252_0)).trans hx252_0
 have HR252_0 := Aside0.mk hi252_0
 have HC252_0 := Aside0.mk hl252_0
 clear hi252_0 hl252_0
 replace p252 := eq_true p252
 replace q252 := eq_true q252
 go_wp2_with (first | ((with_reducible refine gate_dst (N := 52) rfl ?_); refine Kd.R_make (Kd.int .i64) _ 2 rfl (N := 52) rfl 53 _ _ rfl 16 rfl rfl Try.underlying53 (.int .i64 0) 8 info2 rfl (by decide) (by omega) 0 (ok := fun _ => True) (okp := fun _ => True) rfl (fun _ hk => hk) trivial (by omega) (by omega) (Below.refl _ _) (Nat.le_refl _) ?_; intro v254 w75 ho76 hb hg_ hnew_; clear hg_ hnew_; (first | rw [← Ny253.out] at ho76 | (simp only [Int.reduceToNat] at ho76; rw [← Ny253.out] at ho76)); replace HO_7 := Aside0.mk (Kd.N_elder' (kN_ HO_7) (Kd.R_base ho76) hb); replace HO_230001 := Aside0.mk (Kd.V_elder' (kV_ HO_230001) (Kd.R_base ho76) hb); replace HO_252000 := Aside0.mk (Kd.N_elder' (kN_ HO_252000) (Kd.R_base ho76) hb); have HO255 := Aside0.mk (Kd.R_lower (Kd.R_newM (M := fun k_ => (w.heap.size ≤ k_)) ho76 (bs_ HB) (fun k_ h_ => h_)) (bs_ HB)); replace BK228 := FB_ BK228 hb; replace BK229 := FB_ BK229 hb; replace BK230 := FB_ BK230 hb; replace BK232 := FB_ BK232 hb; replace BK251 := FB_ BK251 hb; replace HB := BS_ HB hb; clear hb ho76; have hnb77 := NB251_228.out; have hnc77 := NB228_251.out; have hnb78 := NB251_229.out; have hnc78 := NB229_251.out; have hnb79 := NB251_230.out; have hnc79 := NB230_251.out; have hnb80 := NB251_232.out; have hnc80 := NB232_251.out; obtain ⟨hcz81_0, hfz81_0⟩ := e1_ BK251; obtain ⟨Ao83, co83, eo83⟩ := Kd.R_slice HO255.out; subst eo83) | ((with_reducible refine gate_builtin (b := .append) (xs := #[.tmp 72, .tmp 74]) rfl ?_); at_builtin; refine Kd.N_append (Kd.slice 2 (Kd.int .i64)) (w0 := w) w.heap.size rfl (.tmp 72) (.tmp 74) 26 53 (.slice none 0 0) 24 rfl Try.underlying26 info53 rfl (by decide) (by omega) u252000 x252000_2 y253 [.slice Ao83 y253.length co83] (fun k_ => (P1_1_ k_ ∨ w.heap.size ≤ k_) ∧ some k_ ≠ (v237 : Value).ownBlock ∧ k_ ≠ gb228 ∧ k_ ≠ gb229 ∧ k_ ≠ gb230 ∧ k_ ≠ gb232 ∧ k_ ≠ gb251) (fun k_ => ((fun k_ => (P1_1_ k_ ∨ w.heap.size ≤ k_) ∧ some k_ ≠ (v237 : Value).ownBlock ∧ k_ ≠ gb228 ∧ k_ ≠ gb229 ∧ k_ ≠ gb230 ∧ k_ ≠ gb232 ∧ k_ ≠ gb251)) k_ ∧ some k_ ≠ (u252000 : Value).ownBlock) rfl rfl ?aP (fun _ hk => hk) ?aF ?aO ?aB ?aS ?aL ?_; (case aP => exact (Kd.FK_slice_mk (Kd.R_reads' (Kd.R_mono (ok' := (fun k_ => ((fun k_ => (P1_1_ k_ ∨ w.heap.size ≤ k_) ∧ some k_ ≠ (v237 : Value).ownBlock ∧ k_ ≠ gb228 ∧ k_ ≠ gb229 ∧ k_ ≠ gb230 ∧ k_ ≠ gb232 ∧ k_ ≠ gb251)) k_ ∧ some k_ ≠ (u252000 : Value).ownBlock)) (Kd.R_types (Kd.R_types (Kd.R_types (Kd.R_types (Kd.R_types (Kd.R_apart' (Kd.R_apart' (HO255.out) (Kd.N_typed HO_7.out) (by decide)) (Kd.N_typed HO_252000.out) (by decide)) BK228.out (by decide)) BK229.out (by decide)) BK230.out (by decide)) BK232.out (by decide)) BK251.out (by decide)) (fun k_ hk => ⟨⟨(.inr (hk.1.1.1.1.1.1.1.1)), ⟨hk.1.1.1.1.1.1.2, ⟨hk.1.1.1.1.2, ⟨hk.1.1.1.2, ⟨hk.1.1.2, ⟨hk.1.2, hk.2⟩⟩⟩⟩⟩⟩, hk.1.1.1.1.1.2⟩))).2.1 (Kd.R_F (Kd.R_mono (ok' := (fun k_ => ((fun k_ => (P1_1_ k_ ∨ w.heap.size ≤ k_) ∧ some k_ ≠ (v237 : Value).ownBlock ∧ k_ ≠ gb228 ∧ k_ ≠ gb229 ∧ k_ ≠ gb230 ∧ k_ ≠ gb232 ∧ k_ ≠ gb251)) k_ ∧ some k_ ≠ (u252000 : Value).ownBlock)) (Kd.R_types (Kd.R_types (Kd.R_types (Kd.R_types (Kd.R_types (Kd.R_apart' (Kd.R_apart' (HO255.out) (Kd.N_typed HO_7.out) (by decide)) (Kd.N_typed HO_252000.out) (by decide)) BK228.out (by decide)) BK229.out (by decide)) BK230.out (by decide)) BK232.out (by decide)) BK251.out (by decide)) (fun k_ hk => ⟨⟨(.inr (hk.1.1.1.1.1.1.1.1)), ⟨hk.1.1.1.1.1.1.2, ⟨hk.1.1.1.1.2, ⟨hk.1.1.1.2, ⟨hk.1.1.2, ⟨hk.1.2, hk.2⟩⟩⟩⟩⟩⟩, hk.1.1.1.1.1.2⟩))))); (case aB => exact (bl_ HB)); (case aF => exact (fun k_ hk => ⟨(.inr (Nat.le_trans (bs_ HB) hk)), Kd.fresh' (Kd.N_lt (kN_ HO_7)) k_ hk, Kd.freshB (g := gb228) (o := .cells #[.int .i64 a0_0, .int .i64 a0_1, .slice A0_2 l0_2.length c0_2, .slice A0_3 l0_3.length c0_3] 24 (0, 0)) (bk_ BK228) k_ hk, Kd.freshB (g := gb229) (o := .cells #[.slice (some ad252) l1_0.length c1_0, .slice A1_1 l1_1.length c1_1] 28 (0, 0)) (bk_ BK229) k_ hk, Kd.freshB (g := gb230) (o := .cells #[.slice none 0 0] 37 (0, 0)) (bk_ BK230) k_ hk, Kd.freshB (g := gb232) (o := .cells #[.int .i64 a0_0, .int .i64 a0_1, .slice A0_2 l0_2.length c0_2, .slice A0_3 l0_3.length c0_3] 61 (0, 0)) (bk_ BK232) k_ hk, Kd.freshB (g := gb251) (o := .cells #[u252000] 37 (0, 0)) (bk_ BK251) k_ hk⟩)); (case aO => exact (by (with_reducible repeat (first | apply Kd.N_alloc | apply Kd.N_drewN | apply Kd.N_drew)); exact Kd.N_mono HO_252000.out (fun _ hk => ⟨hk.1.1, ⟨hk.1.2.1, ⟨hk.1.2.2.1, ⟨hk.1.2.2.2.1, ⟨hk.1.2.2.2.2.1, ⟨hk.1.2.2.2.2.2.1, hk.1.2.2.2.2.2.2⟩⟩⟩⟩⟩⟩))); (case aS => exact (bs_ HB)); (case aL => have := LMc74.out; omega); intro v272 w82 ho hb hg hat; rw [← Ny271.out] at ho; replace HO_7 := Aside0.mk (Kd.N_afterv (ok := (fun k_ => (P1_1_ k_ ∨ w.heap.size ≤ k_) ∧ some k_ ≠ (.slice Ao83 y253.length co83 : Value).ownBlock ∧ k_ ≠ gb228 ∧ k_ ≠ gb229 ∧ k_ ≠ gb230 ∧ k_ ≠ gb232 ∧ k_ ≠ gb251)) (by (with_reducible repeat (first | apply Kd.N_alloc | apply Kd.N_drewN | apply Kd.N_drew)); exact Kd.N_mono HO_7.out (fun _ hk => ⟨⟨hk.1.1, ⟨hk.2, ⟨hk.1.2.2.1, ⟨hk.1.2.2.2.1, ⟨hk.1.2.2.2.2.1, ⟨hk.1.2.2.2.2.2.1, hk.1.2.2.2.2.2.2⟩⟩⟩⟩⟩⟩, hk.1.2.1⟩)) hg hat); replace HO_230001 := Aside0.mk (Kd.V_afterv (ok := (fun k_ => (P1_1_ k_ ∨ w.heap.size ≤ k_) ∧ some k_ ≠ (v237 : Value).ownBlock ∧ some k_ ≠ (.slice Ao83 y253.length co83 : Value).ownBlock ∧ k_ ≠ gb228 ∧ k_ ≠ gb229 ∧ k_ ≠ gb230 ∧ k_ ≠ gb232 ∧ k_ ≠ gb251)) (by (with_reducible repeat (first | apply Kd.V_alloc | apply Kd.V_drewN | apply Kd.V_drew)); exact Kd.V_mono HO_230001.out (fun _ hk => ⟨⟨hk.1.1, ⟨hk.1.2.1, ⟨hk.2, ⟨hk.1.2.2.2.1, ⟨hk.1.2.2.2.2.1, ⟨hk.1.2.2.2.2.2.1, ⟨hk.1.2.2.2.2.2.2.1, hk.1.2.2.2.2.2.2.2⟩⟩⟩⟩⟩⟩⟩, hk.1.2.2.1⟩)) hg hat); replace BK228 := (FG_ BK228 hg (Kd.N_ne HO_252000.out BK228.out (by decide))); replace BK229 := (FG_ BK229 hg (Kd.N_ne HO_252000.out BK229.out (by decide))); replace BK230 := (FG_ BK230 hg (Kd.N_ne HO_252000.out BK230.out (by decide))); replace BK232 := (FG_ BK232 hg (Kd.N_ne HO_252000.out BK232.out (by decide))); replace BK251 := (FG_ BK251 hg (Kd.N_ne HO_252000.out BK251.out (by decide))); replace HB := Aside0.mk (hb); have HO273 := Aside0.mk (ho); clear HO_252000 HO255; clear ho hb hg hat; obtain ⟨Ao84, co84, eo84⟩ := Kd.N_slice HO273.out; subst eo84; obtain ⟨hcz85_0, hfz85_0⟩ := e1_ BK251))
 go_roundg k2
 case measure => have := HJ6.out; have := HK2.out; omega
 case rel => exact ⟨(wrap64 (x47_2 + 1)), (y271), (.slice Ao84 y271.length co84), rs_, H', ⟨by have := HJ6.out; have := HK2.out; omega⟩, ⟨by (with_reducible repeat (first | apply Kd.N_alloc | apply Kd.N_drewN | apply Kd.N_drew)); exact Kd.N_mono (Kd.N_far (p := ⟨gb251, 0, none⟩) (Kd.N_mono HO_7.out (fun k_ hk => (⟨hk, hk.1.2.2.2.2.2.2⟩ : _ ∧ k_ ≠ gb251))) (fun _ hk => hk.2) (.slice Ao84 y271.length co84)) (fun _ hk => ⟨hk.1.1.1, ⟨hk.1.2, ⟨hk.1.1.2.2.1, ⟨hk.1.1.2.2.2.1, ⟨hk.1.1.2.2.2.2.1, ⟨hk.1.1.2.2.2.2.2.1, hk.1.1.2.2.2.2.2.2⟩⟩⟩⟩⟩⟩)⟩, ⟨by (with_reducible repeat (first | apply Kd.V_alloc | apply Kd.V_drewN | apply Kd.V_drew)); exact Kd.V_mono (Kd.V_far (p := ⟨gb251, 0, none⟩) (Kd.V_mono HO_230001.out (fun k_ hk => (⟨hk, hk.1.2.2.2.2.2.2.2⟩ : _ ∧ k_ ≠ gb251))) (fun _ hk => hk.2) (.slice Ao84 y271.length co84)) (fun _ hk => ⟨hk.1.1.1, ⟨hk.1.1.2.1, ⟨hk.1.2, ⟨hk.1.1.2.2.2.1, ⟨hk.1.1.2.2.2.2.1, ⟨hk.1.1.2.2.2.2.2.1, ⟨hk.1.1.2.2.2.2.2.2.1, hk.1.1.2.2.2.2.2.2.2⟩⟩⟩⟩⟩⟩⟩)⟩, ⟨by (with_reducible repeat (first | apply Kd.N_alloc | apply Kd.N_drewN | apply Kd.N_drew)); exact Kd.N_mono (Kd.N_far (p := ⟨gb251, 0, none⟩) (Kd.N_mono HO273.out (fun k_ hk => (⟨hk, hk.2.2.2.2.2.2⟩ : _ ∧ k_ ≠ gb251))) (fun _ hk => hk.2) (.slice Ao84 y271.length co84)) (fun _ hk => ⟨hk.1.1, ⟨hk.1.2.1, ⟨hk.1.2.2.1, ⟨hk.1.2.2.2.1, ⟨hk.1.2.2.2.2.1, ⟨hk.1.2.2.2.2.2.1, hk.1.2.2.2.2.2.2⟩⟩⟩⟩⟩⟩)⟩, ⟨bk_ BK228⟩, ⟨bk_ BK229⟩, ⟨bk_ BK230⟩, ⟨bk_ BK232⟩, ⟨bp_ BK251⟩, ⟨bl_ HB⟩⟩}
 {
 rw [if_neg c74] at H
 exact absurd H (by simp)}}}
 {
 rw [if_neg c50] at H
 exact absurd H (by simp)}}
 {
 rw [if_neg c49] at H
 exact absurd H (by simp)}}
 {
 rw [if_neg c48] at H
 exact absurd H (by simp)}}
 {
 rw [if_neg c47] at H
 have c47b0 : decide (x47_2 < (l1_0.length : Int)) = false := decide_eq_false c47
 clear c47
 simp only [Option.some.injEq, Prod.mk.injEq] at H
 obtain ⟨rfl, rfl⟩ := H
 have hnb86 := NB251_228.out
 have hnc86 := NB228_251.out
 have hnb87 := NB251_229.out
 have hnc87 := NB229_251.out
 have hnb88 := NB251_230.out
 have hnc88 := NB230_251.out
 have hnb89 := NB251_232.out
 have hnc89 := NB232_251.out
 obtain ⟨hcz90_0, hfz90_0⟩ := e1_ BK251
 obtain ⟨Ao91, co91, eo91⟩ := Kd.N_slice HO_252000.out
 subst eo91
 have hnb92 := NB230_228.out
 have hnc92 := NB228_230.out
 have hnb93 := NB230_229.out
 have hnc93 := NB229_230.out
 have hnb94 := NB230_232.out
 have hnc94 := NB232_230.out
 obtain ⟨hcz95_0, hfz95_0⟩ := e1_ BK230
 go_wp2
 refine bodyPost_ret (results_ct rfl _ _ gb230 37 #[.slice Ao91 x252000_2.length co91] (0, 0) _ rfl (bp_ BK230) Try.underlying37 rfl kf_) rfl ?_
 exact ⟨_, by first | rfl | (simp [errW_none, errW_some] <;> rfl) | (simp [*, errW_none, errW_some] <;> rfl), by (with_reducible repeat (first | apply Kd.N_alloc | apply Kd.N_drewN | apply Kd.N_drew)); exact Kd.N_mono (Kd.N_far (p := ⟨gb230, 0, none⟩) (Kd.N_mono HO_252000.out (fun k_ hk => (⟨hk, hk.2.2.2.2.1⟩ : _ ∧ k_ ≠ gb230))) (fun _ hk => hk.2) (.slice Ao91 x252000_2.length co91)) (fun _ hk => hk.1.1), bl_ HB⟩}))))}
 {
 rw [if_neg c5] at H
 exact absurd H (by simp)}}
 {
 replace c4 := Bool.eq_false_iff.mpr c4
 subst c4
 rw [if_neg (show ¬ (false = true) by decide)] at H
 simp only [Option.some.injEq, Prod.mk.injEq] at H
 obtain ⟨rfl, rfl⟩ := H
 go_enter Try.func14, Try.ntmps14
 go_wp2_with (first | ((with_reducible refine gate_dst (N := 2) rfl ?_); refine box_ 2 #[.int .i64 a0_0, .int .i64 a0_1, .slice A0_2 l0_2.length c0_2, .slice A0_3 l0_3.length c0_3] 24 ?_; intro gb228 hg w96 hbox hb; replace HO1_1 := Aside0.mk (Kd.V_below (Kd.V_elderB (kV_ HO1_1) gb228 (Nat.le_of_eq hg.symm)) hb); have BK228 := Aside0.mk (hbox); have GW228 := GE_ HB hg; have GE228 := GE_ HB hg; replace HB := BS_ HB hb; clear hb hbox hg) | ((with_reducible refine gate_dst (N := 3) rfl ?_); refine box_ 3 #[.slice A1_0 l1_0.length c1_0, .slice A1_1 l1_1.length c1_1] 28 ?_; intro gb229 hg w97 hbox hb; replace HO1_1 := Aside0.mk (Kd.V_below (Kd.V_elderB (kV_ HO1_1) gb229 (Nat.le_of_eq hg.symm)) hb); have BK229 := Aside0.mk (hbox); have GW229 := GE_ HB hg; have GE229 := GE_ HB hg; replace HB := BS_ HB hb; obtain ⟨NB228_229, NB229_228⟩ := NN_ BK228 hg; replace BK228 := FB_ BK228 hb; clear hb hbox hg) | ((with_reducible refine gate_dst (N := 4) rfl ?_); refine box_ 4 #[.slice none 0 0] 37 ?_; intro gb230 hg w98 hbox hb; replace HO1_1 := Aside0.mk (Kd.V_below (Kd.V_elderB (kV_ HO1_1) gb230 (Nat.le_of_eq hg.symm)) hb); have BK230 := Aside0.mk (hbox); have GW230 := GE_ HB hg; have GE230 := GE_ HB hg; replace HB := BS_ HB hb; obtain ⟨NB228_230, NB230_228⟩ := NN_ BK228 hg; replace BK228 := FB_ BK228 hb; obtain ⟨NB229_230, NB230_229⟩ := NN_ BK229 hg; replace BK229 := FB_ BK229 hb; clear hb hbox hg; have hnb99 := NB228_229.out; have hnc99 := NB229_228.out; have hnb100 := NB228_230.out; have hnc100 := NB230_228.out; obtain ⟨hcz101_0, hcz101_1, hcz101_2, hcz101_3, hfz101_0, hfz101_1, hfz101_2, hfz101_3⟩ := e4_ BK228; have hnb102 := NB229_230.out; have hnc102 := NB230_229.out; obtain ⟨hcz103_0, hcz103_1, hfz103_0, hfz103_1⟩ := e2_ BK229) | ((with_reducible refine gate_callee (f := 21) rfl ?_); refine gL_ (some 16) Try.func21 #[.agg #[.int .i64 a0_0, .int .i64 a0_1, .slice A0_2 l0_2.length c0_2, .slice A0_3 l0_3.length c0_3], .agg #[.slice A1_0 l1_0.length c1_0, .slice A1_1 l1_1.length c1_1]] ?_; (with_reducible refine (vpack_Right.calls k a0_0 a0_1 _ _ l0_2 _ _ l0_3 _ _ l1_0 _ _ l1_1 false _ ?side1 ?side2 ?side3 ?side4 ?side5 ?side6 ?side7 ?side8 A3.out).mono ?_); (case side1 => exact kC_ HR0_2 HB); (case side2 => exact HC0_2.out); (case side3 => exact kC_ HR0_3 HB); (case side4 => exact HC0_3.out); (case side5 => exact kC_ HR1_0 HB); (case side6 => exact HC1_0.out); (case side7 => exact kCt_ (Kd.V_reads' HO1_1.out).2.2); (case side8 => exact (Kd.V_reads' HO1_1.out).2.1); rintro e w104 ⟨rfl, hb⟩; refine ⟨_, rfl, ?_⟩; replace HO1_1 := FV_ HO1_1 hb; replace BK228 := FB_ BK228 hb; replace BK229 := FB_ BK229 hb; replace BK230 := FB_ BK230 hb; replace HB := BS_ HB hb; (try clear hb); obtain ⟨hcz105_0, hfz105_0⟩ := e1_ BK230))
 refine bodyPost_ret (results_ct rfl _ _ gb230 37 #[.slice none 0 0] (0, 0) _ rfl (bp_ BK230) Try.underlying37 rfl kf_) rfl ?_
 exact ⟨_, by first | rfl | (simp [errW_none, errW_some] <;> rfl) | (simp [*, errW_none, errW_some] <;> rfl), by first | exact Kd.S_nil _ _ _ _ _ | exact Kd.N_nil _ _ _ _ _ | exact Kd.V_nil _ _ _ _ _ | exact Kd.Q_nil _ _ _ _ _ | exact Kd.R_nil _ _ _ _ _, bl_ HB⟩}
def pvq_fair.l0 : Nat → List Int → List Int → Int → Int → Option (Bool)
  | 0, _, _, _, _ => none
  | k + 1, x0, x5, x6, x7 => if x7 < x6 then (if 0 ≤ x7 then (if x7 < (x5.length : Int) then ((num_Clamp.f (rd x5 x7) (-1048576) 1048576).bind fun t275 => (if (rd x5 x7) = t275 then (pvq_fair.l0 k x0 x5 x6 (wrap64 (x7 + 1))) else (some false))) else (none)) else (none)) else (if (x0.length : Int) ≥ 1 then (some (decide ((x0.length : Int) ≤ 16))) else (some false))
def pvq_fair.f (k : Nat) (l0 : List Int) : Option (Bool) := pvq_fair.l0 k l0 l0 (l0.length : Int) 0
theorem pvq_fair.mono_l : ∀ k, (∀ y0 y1 y2 y3, LeO (pvq_fair.l0 k y0 y1 y2 y3) (pvq_fair.l0 (k + 1) y0 y1 y2 y3))
  | 0 => fun _ _ _ _ r h => by simp [pvq_fair.l0] at h
  | k + 1 => by
    have ih0 := pvq_fair.mono_l k
    · intro y0 y1 y2 y3
      unfold pvq_fair.l0
      with_reducible repeat' first
   | exact ih0 _ _ _ _
   | exact LeO.refl _
   | exact LeO.none _
   | refine LeO.ite ?_ ?_
   | refine LeO.bind ?_ (fun _ => ?_)
theorem pvq_fair.mono : ∀ a0 k, LeO (pvq_fair.f k a0) (pvq_fair.f (k + 1) a0) := by
  intro a0 k
  have ih0 := pvq_fair.mono_l k
  unfold pvq_fair.f
  with_reducible repeat' first
   | exact ih0 _ _ _ _
   | exact LeO.refl _
   | exact LeO.none _
   | refine LeO.ite ?_ ?_
   | refine LeO.bind ?_ (fun _ => ?_)
set_option maxHeartbeats 8000000 in
set_option maxRecDepth 100000 in
theorem pvq_fair.calls (k : Nat) (A0 : Option Addr) (c0 : Nat) (l0 : List Int) (r : Bool) (w : World) (hr0 : Kd.C (Kd.int .i64) w A0 l0.length l0) (hc0 : l0.length ≤ c0) (h : pvq_fair.f k l0 = some r) :
    Calls Try.prog 102 #[.slice A0 l0.length c0] w fun e w' => e = .returned (.bool r) ∧ Drawn0 w w' := by
 have HR0 := Aside0.mk hr0
 have HC0 := Aside0.mk hc0
 clear hr0 hc0
 have H : (pvq_fair.l0 k l0 l0 (l0.length : Int) 0) = some r := h
 clear h
 have H' := Aside0.mk H
 clear H
 go_enter Try.func102, Try.ntmps102
 go_wp2
 go_loopg [7] k (fun kq v7 w' => ∃ (x7_1 : Int), v7 = .int .i64 x7_1 ∧ Aside0 (pvq_fair.l0 kq l0 l0 (l0.length : Int) x7_1 = some r) ∧ Aside0 (kq ≤ k) ∧ Drawn0 w w')
 case atStart => exact ⟨(0), rs_, H', ⟨Nat.le_refl _⟩, by repeat (first | exact Drawn0.refl _ | apply Drawn0.step)⟩
 case round => (
 clear H'
 obtain ⟨x7_1, rfl, HA, HK1, ⟨m1, rfl⟩⟩ := hrel
 cases gk with
 | zero => exact absurd HA.out (by simp [pvq_fair.l0])
 | succ k1 => (
 have H := HA.out
 clear HA
 simp only [pvq_fair.l0] at H
 by_cases c2 : x7_1 < (l0.length : Int)
 {
 rw [if_pos c2] at H
 have c2b0 : decide (x7_1 < (l0.length : Int)) = true := decide_eq_true c2
 clear c2
 by_cases c3 : 0 ≤ x7_1
 {
 rw [if_pos c3] at H
 have c3b0 : decide (0 ≤ x7_1) = true := decide_eq_true c3
 clear c3
 by_cases c4 : x7_1 < (l0.length : Int)
 {
 rw [if_pos c4] at H
 have c4b0 : decide (x7_1 < (l0.length : Int)) = true := decide_eq_true c4
 clear c4
 obtain ⟨t275, A5, H⟩ := ob_ H
 (try dsimp only at H)
 by_cases c6 : (rd l0 x7_1) = t275
 {
 rw [if_pos c6] at H
 have c6b0 : ((rd l0 x7_1) == t275) = true := beq_iff_eq.mpr c6
 have c6b1 : ((rd l0 x7_1) != t275) = false := bne_eq_false_iff_eq.mpr c6
 clear c6
 have H' := Aside0.mk H
 clear H
 have p274 : 0 ≤ (x7_1 : Int) := of_decide_eq_true am_
 have q274 : x7_1 < (l0.length : Int) := of_decide_eq_true am_
 obtain ⟨ad274, e274, hx274_0⟩ := Kd.at_int HR0.out x7_1 p274 q274
 cases e274
 replace p274 := eq_true p274
 replace q274 := eq_true q274
 go_wp2_with (first | ((with_reducible refine gate_callee (f := 73) rfl ?_); refine gL_ (some 13) Try.func73 #[.int .i64 (rd l0 x7_1), .int .i64 (-1048576), .int .i64 1048576] ?_; (with_reducible refine (num_Clamp.calls (rd l0 x7_1) (-1048576) 1048576 t275 _ A5.out).mono ?_); rintro e w' ⟨rfl, ⟨nd, rfl⟩⟩; refine ⟨_, rfl, ?_⟩))
 go_roundg k1
 case measure => have := HK1.out; omega
 case rel => exact ⟨(wrap64 (x7_1 + 1)), rs_, H', ⟨by have := HK1.out; omega⟩, by repeat (first | exact Drawn0.refl _ | apply Drawn0.step)⟩}
 {
 rw [if_neg c6] at H
 have c6b0 : ((rd l0 x7_1) == t275) = false := beq_eq_false_iff_ne.mpr c6
 have c6b1 : ((rd l0 x7_1) != t275) = true := bne_iff_ne.mpr c6
 obtain rfl := Option.some.inj H
 have p274 : 0 ≤ (x7_1 : Int) := of_decide_eq_true am_
 have q274 : x7_1 < (l0.length : Int) := of_decide_eq_true am_
 obtain ⟨ad274, e274, hx274_0⟩ := Kd.at_int HR0.out x7_1 p274 q274
 cases e274
 replace p274 := eq_true p274
 replace q274 := eq_true q274
 go_wp2_with (first | ((with_reducible refine gate_callee (f := 73) rfl ?_); refine gL_ (some 13) Try.func73 #[.int .i64 (rd l0 x7_1), .int .i64 (-1048576), .int .i64 1048576] ?_; (with_reducible refine (num_Clamp.calls (rd l0 x7_1) (-1048576) 1048576 t275 _ A5.out).mono ?_); rintro e w' ⟨rfl, ⟨nd, rfl⟩⟩; refine ⟨_, rfl, ?_⟩))
 go_ret
 exact ⟨by first | rfl | (simp; done) | (simp [*]; done), by repeat (first | exact Drawn0.refl _ | apply Drawn0.step)⟩}}
 {
 rw [if_neg c4] at H
 exact absurd H (by simp)}}
 {
 rw [if_neg c3] at H
 exact absurd H (by simp)}}
 {
 rw [if_neg c2] at H
 have c2b0 : decide (x7_1 < (l0.length : Int)) = false := decide_eq_false c2
 clear c2
 by_cases c7 : (l0.length : Int) ≥ 1
 {
 rw [if_pos c7] at H
 have c7b0 : decide (1 ≤ (l0.length : Int)) = true := decide_eq_true c7
 have c7b1 : decide (1 ≤ l0.length) = true := decide_eq_true (by omega)
 clear c7
 obtain rfl := Option.some.inj H
 go_wp2
 go_ret
 exact ⟨by first | rfl | (simp; done) | (simp [*]; done), by repeat (first | exact Drawn0.refl _ | apply Drawn0.step)⟩}
 {
 rw [if_neg c7] at H
 have c7b0 : decide (1 ≤ (l0.length : Int)) = false := decide_eq_false c7
 have c7b1 : decide (1 ≤ l0.length) = false := decide_eq_false (by omega)
 clear c7
 obtain rfl := Option.some.inj H
 go_wp2
 go_ret
 exact ⟨by first | rfl | (simp; done) | (simp [*]; done), by repeat (first | exact Drawn0.refl _ | apply Drawn0.step)⟩}}))
def pvq_Square.l0 : Nat → Int → List Int → Int → Int → Option (Int × Int)
  | 0, _, _, _, _ => none
  | k + 1, x4, x10, x11, x12 => if x12 < x11 then (if 0 ≤ x12 then (if x12 < (x10.length : Int) then (pvq_Square.l0 k (IntKind.u64.wrap (x4 + (IntKind.u64.wrap (wrap64 ((rd x10 x12) * (rd x10 x12)))))) x10 x11 (wrap64 (x12 + 1))) else (none)) else (none)) else (some (x4, 0))
def pvq_Square.f (k : Nat) (l0 : List Int) : Option (Int × Int) := (pvq_fair.f k l0).bind fun t276 => (if t276 = true then (pvq_Square.l0 k 0 l0 (l0.length : Int) 0) else (some (0, 1)))
theorem pvq_Square.mono_l : ∀ k, (∀ y0 y1 y2 y3, LeO (pvq_Square.l0 k y0 y1 y2 y3) (pvq_Square.l0 (k + 1) y0 y1 y2 y3))
  | 0 => fun _ _ _ _ r h => by simp [pvq_Square.l0] at h
  | k + 1 => by
    have ih0 := pvq_Square.mono_l k
    · intro y0 y1 y2 y3
      unfold pvq_Square.l0
      with_reducible repeat' first
   | exact ih0 _ _ _ _
   | exact pvq_fair.mono _ _
   | exact LeO.refl _
   | exact LeO.none _
   | refine LeO.ite ?_ ?_
   | refine LeO.bind ?_ (fun _ => ?_)
theorem pvq_Square.mono : ∀ a0 k, LeO (pvq_Square.f k a0) (pvq_Square.f (k + 1) a0) := by
  intro a0 k
  have ih0 := pvq_Square.mono_l k
  unfold pvq_Square.f
  with_reducible repeat' first
   | exact ih0 _ _ _ _
   | exact pvq_fair.mono _ _
   | exact LeO.refl _
   | exact LeO.none _
   | refine LeO.ite ?_ ?_
   | refine LeO.bind ?_ (fun _ => ?_)
set_option maxHeartbeats 8000000 in
set_option maxRecDepth 100000 in
theorem pvq_Square.calls (k : Nat) (A0 : Option Addr) (c0 : Nat) (l0 : List Int) (r1 : Int) (r2 : Int) (w : World) (hr0 : Kd.C (Kd.int .i64) w A0 l0.length l0) (hc0 : l0.length ≤ c0) (h : pvq_Square.f k l0 = some (r1, r2)) :
    Calls Try.prog 80 #[.slice A0 l0.length c0] w fun e w' => e = .returned (.tuple #[.int .u64 r1, .int .i64 r2]) ∧ Drawn0 w w' := by
 have HR0 := Aside0.mk hr0
 have HC0 := Aside0.mk hc0
 clear hr0 hc0
 have H : ((pvq_fair.f k l0).bind fun t276 => (if t276 = true then (pvq_Square.l0 k 0 l0 (l0.length : Int) 0) else (some (0, 1)))) = some (r1, r2) := h
 clear h
 obtain ⟨t276, A2, H⟩ := ob_ H
 (try dsimp only at H)
 by_cases c3 : t276 = true
 {
 subst c3
 rw [if_pos rfl] at H
 have H' := Aside0.mk H
 clear H
 go_enter Try.func80, Try.ntmps80
 go_wp2_with (first | ((with_reducible refine gate_callee (f := 102) rfl ?_); refine gL_ (some 8) Try.func102 #[.slice A0 l0.length c0] ?_; (with_reducible refine (pvq_fair.calls k _ _ l0 true _ ?side1 ?side2 A2.out).mono ?_); (case side1 => repeat (first | exact HR0.out | (with_reducible refine Kd.C_alloc ?_ _) | (with_reducible refine Kd.C_drewN ?_ _) | (with_reducible refine Kd.C_drew ?_))); (case side2 => exact HC0.out); rintro e w' ⟨rfl, ⟨nd, rfl⟩⟩; refine ⟨_, rfl, ?_⟩))
 go_loopg [4, 12] k (fun kq v4 v12 w' => ∃ (x4_1 : Int) (x12_1 : Int), v4 = .int .u64 x4_1 ∧ v12 = .int .i64 x12_1 ∧ Aside0 (pvq_Square.l0 kq x4_1 l0 (l0.length : Int) x12_1 = some (r1, r2)) ∧ Aside0 (kq ≤ k) ∧ Drawn0 w w')
 case atStart => exact ⟨(0), (0), rs_, rs_, H', ⟨Nat.le_refl _⟩, by repeat (first | exact Drawn0.refl _ | apply Drawn0.step)⟩
 case round => (
 clear H'
 try clear c3
 obtain ⟨x4_1, x12_1, rfl, rfl, HA, HK1, ⟨m1, rfl⟩⟩ := hrel
 cases gk with
 | zero => exact absurd HA.out (by simp [pvq_Square.l0])
 | succ k1 => (
 have H := HA.out
 clear HA
 simp only [pvq_Square.l0] at H
 by_cases c4 : x12_1 < (l0.length : Int)
 {
 rw [if_pos c4] at H
 have c4b0 : decide (x12_1 < (l0.length : Int)) = true := decide_eq_true c4
 clear c4
 by_cases c5 : 0 ≤ x12_1
 {
 rw [if_pos c5] at H
 have c5b0 : decide (0 ≤ x12_1) = true := decide_eq_true c5
 clear c5
 by_cases c6 : x12_1 < (l0.length : Int)
 {
 rw [if_pos c6] at H
 have c6b0 : decide (x12_1 < (l0.length : Int)) = true := decide_eq_true c6
 clear c6
 have H' := Aside0.mk H
 clear H
 have p277 : 0 ≤ (x12_1 : Int) := of_decide_eq_true am_
 have q277 : x12_1 < (l0.length : Int) := of_decide_eq_true am_
 obtain ⟨ad277, e277, hx277_0⟩ := Kd.at_int HR0.out x12_1 p277 q277
 cases e277
 replace p277 := eq_true p277
 replace q277 := eq_true q277
 go_wp2
 go_roundg k1
 case measure => have := HK1.out; omega
 case rel => exact ⟨(IntKind.u64.wrap (x4_1 + (IntKind.u64.wrap (wrap64 ((rd l0 x12_1) * (rd l0 x12_1)))))), (wrap64 (x12_1 + 1)), rs_, rs_, H', ⟨by have := HK1.out; omega⟩, by repeat (first | exact Drawn0.refl _ | apply Drawn0.step)⟩}
 {
 rw [if_neg c6] at H
 exact absurd H (by simp)}}
 {
 rw [if_neg c5] at H
 exact absurd H (by simp)}}
 {
 rw [if_neg c4] at H
 have c4b0 : decide (x12_1 < (l0.length : Int)) = false := decide_eq_false c4
 clear c4
 simp only [Option.some.injEq, Prod.mk.injEq] at H
 obtain ⟨rfl, rfl⟩ := H
 go_wp2
 go_ret2
 exact ⟨by first | rfl | (simp; done) | (simp [*]; done), by repeat (first | exact Drawn0.refl _ | apply Drawn0.step)⟩}))}
 {
 replace c3 := Bool.eq_false_iff.mpr c3
 subst c3
 rw [if_neg (show ¬ (false = true) by decide)] at H
 simp only [Option.some.injEq, Prod.mk.injEq] at H
 obtain ⟨rfl, rfl⟩ := H
 go_enter Try.func80, Try.ntmps80
 go_wp2_with (first | ((with_reducible refine gate_callee (f := 102) rfl ?_); refine gL_ (some 8) Try.func102 #[.slice A0 l0.length c0] ?_; (with_reducible refine (pvq_fair.calls k _ _ l0 false _ ?side1 ?side2 A2.out).mono ?_); (case side1 => repeat (first | exact HR0.out | (with_reducible refine Kd.C_alloc ?_ _) | (with_reducible refine Kd.C_drewN ?_ _) | (with_reducible refine Kd.C_drew ?_))); (case side2 => exact HC0.out); rintro e w' ⟨rfl, ⟨nd, rfl⟩⟩; refine ⟨_, rfl, ?_⟩))
 go_ret2
 exact ⟨by first | rfl | (simp; done) | (simp [*]; done), by repeat (first | exact Drawn0.refl _ | apply Drawn0.step)⟩}
def band_there.f (a0 : Int) : Option (Bool) := if a0 ≥ 0 then (some (decide (a0 < 5))) else (some false)
set_option maxHeartbeats 8000000 in
set_option maxRecDepth 100000 in
theorem band_there.calls (a0 : Int) (r : Bool) (w : World) (h : band_there.f a0 = some r) :
    Calls Try.prog 103 #[.int .i64 a0] w fun e w' => e = .returned (.bool r) ∧ Drawn0 w w' := by
 have H : (if a0 ≥ 0 then (some (decide (a0 < 5))) else (some false)) = some r := h
 clear h
 by_cases c2 : a0 ≥ 0
 {
 rw [if_pos c2] at H
 have c2b0 : decide (0 ≤ a0) = true := decide_eq_true c2
 clear c2
 obtain rfl := Option.some.inj H
 go_enter Try.func103, Try.ntmps103
 go_wp2
 go_ret
 exact ⟨by first | rfl | (simp; done) | (simp [*]; done), by repeat (first | exact Drawn0.refl _ | apply Drawn0.step)⟩}
 {
 rw [if_neg c2] at H
 have c2b0 : decide (0 ≤ a0) = false := decide_eq_false c2
 clear c2
 obtain rfl := Option.some.inj H
 go_enter Try.func103, Try.ntmps103
 go_wp2
 go_ret
 exact ⟨by first | rfl | (simp; done) | (simp [*]; done), by repeat (first | exact Drawn0.refl _ | apply Drawn0.step)⟩}
def band_From.f (a0 : Int) : Option (Int) := (band_there.f a0).bind fun t278 => (if t278 = true then (if a0 = 0 then (some 0) else (if 0 ≤ (wrap64 (a0 - 1)) then (some (shl .i64 1 (wrap64 (a0 - 1)))) else (none))) else (some 0))
set_option maxHeartbeats 8000000 in
set_option maxRecDepth 100000 in
theorem band_From.calls (a0 : Int) (r : Int) (w : World) (h : band_From.f a0 = some r) :
    Calls Try.prog 81 #[.int .i64 a0] w fun e w' => e = .returned (.int .i64 r) ∧ Drawn0 w w' := by
 have H : ((band_there.f a0).bind fun t278 => (if t278 = true then (if a0 = 0 then (some 0) else (if 0 ≤ (wrap64 (a0 - 1)) then (some (shl .i64 1 (wrap64 (a0 - 1)))) else (none))) else (some 0))) = some r := h
 clear h
 obtain ⟨t278, A2, H⟩ := ob_ H
 (try dsimp only at H)
 by_cases c3 : t278 = true
 {
 subst c3
 rw [if_pos rfl] at H
 by_cases c4 : a0 = 0
 {
 rw [if_pos c4] at H
 have c4b0 : (a0 == 0) = true := beq_iff_eq.mpr c4
 have c4b1 : (a0 != 0) = false := bne_eq_false_iff_eq.mpr c4
 clear c4
 obtain rfl := Option.some.inj H
 go_enter Try.func81, Try.ntmps81
 go_wp2_with (first | ((with_reducible refine gate_callee (f := 103) rfl ?_); refine gL_ (some 4) Try.func103 #[.int .i64 a0] ?_; (with_reducible refine (band_there.calls a0 true _ A2.out).mono ?_); rintro e w' ⟨rfl, ⟨nd, rfl⟩⟩; refine ⟨_, rfl, ?_⟩))
 go_ret
 exact ⟨by first | rfl | (simp; done) | (simp [*]; done), by repeat (first | exact Drawn0.refl _ | apply Drawn0.step)⟩}
 {
 rw [if_neg c4] at H
 have c4b0 : (a0 == 0) = false := beq_eq_false_iff_ne.mpr c4
 have c4b1 : (a0 != 0) = true := bne_iff_ne.mpr c4
 obtain ⟨ji5, hji5⟩ : ∃ j_ : Int, (wrap64 (a0 - 1)) = j_ := ⟨_, rfl⟩
 replace H : (if 0 ≤ (ji5) then (some (shl .i64 1 (ji5))) else (none)) = some r := by first | (rw [hji5] at H; exact H) | (simp only [hji5] at H ⊢; exact H)
 (try rw [hji5] at A2)
 have hji5w : (IntKind.i64.wrap (a0 - 1)) = ji5 := (i64_w _).trans hji5
 by_cases c6 : 0 ≤ (ji5)
 {
 rw [if_pos c6] at H
 have c6b0 := eq_true c6
 have c6b1 : decide (0 ≤ (ji5)) = true := decide_eq_true c6
 clear c6
 obtain ⟨ji7, hji7⟩ : ∃ j_ : Int, (shl .i64 1 (ji5)) = j_ := ⟨_, rfl⟩
 replace H : (some ji7) = some r := by first | (rw [hji7] at H; exact H) | (simp only [hji7] at H ⊢; exact H)
 (try rw [hji7] at A2)
 have hji7_ : (IntKind.i64.wrap (1 * 2 ^ min (ji5).toNat 64)) = ji7 := hji7
 have hji7z : (ji5) ≤ 64 → (IntKind.i64.wrap (1 * 2 ^ (ji5).toNat)) = ji7 := shl_small hji7
 have hji7u : (IntKind.i64.wrap (2 ^ min (ji5).toNat 64)) = ji7 := by have h_ := hji7_; rw [Int.one_mul] at h_; exact h_
 have hji7v : (ji5) ≤ 64 → (IntKind.i64.wrap (2 ^ (ji5).toNat)) = ji7 := fun hle_ => by have h_ := hji7z hle_; rw [Int.one_mul] at h_; exact h_
 have hji7y : (wrap64 (1 * 2 ^ min (ji5).toNat 64)) = ji7 := (i64_w _).symm.trans hji7_
 have hji7x : (ji5) ≤ 64 → (wrap64 (1 * 2 ^ (ji5).toNat)) = ji7 := fun h_ => (i64_w _).symm.trans (hji7z h_)
 obtain rfl := Option.some.inj H
 go_enter Try.func81, Try.ntmps81
 go_wp2_with (first | ((with_reducible refine gate_callee (f := 103) rfl ?_); refine gL_ (some 4) Try.func103 #[.int .i64 a0] ?_; (with_reducible refine (band_there.calls a0 true _ A2.out).mono ?_); rintro e w' ⟨rfl, ⟨nd, rfl⟩⟩; refine ⟨_, rfl, ?_⟩))
 go_ret
 exact ⟨by first | rfl | (simp; done) | (simp only [← hji5, ← hji7] <;> (first | rfl | simp)) | (simp [*]; done), by repeat (first | exact Drawn0.refl _ | apply Drawn0.step)⟩}
 {
 rw [if_neg c6] at H
 exact absurd H (by simp)}}}
 {
 replace c3 := Bool.eq_false_iff.mpr c3
 subst c3
 rw [if_neg (show ¬ (false = true) by decide)] at H
 obtain rfl := Option.some.inj H
 go_enter Try.func81, Try.ntmps81
 go_wp2_with (first | ((with_reducible refine gate_callee (f := 103) rfl ?_); refine gL_ (some 4) Try.func103 #[.int .i64 a0] ?_; (with_reducible refine (band_there.calls a0 false _ A2.out).mono ?_); rintro e w' ⟨rfl, ⟨nd, rfl⟩⟩; refine ⟨_, rfl, ?_⟩))
 go_ret
 exact ⟨by first | rfl | (simp; done) | (simp [*]; done), by repeat (first | exact Drawn0.refl _ | apply Drawn0.step)⟩}
def band_Width.f (a0 : Int) : Option (Int) := (band_there.f a0).bind fun t279 => (if t279 = true then ((band_From.f a0).bind fun t280 => (some (mx 1 t280))) else (some 0))
set_option maxHeartbeats 8000000 in
set_option maxRecDepth 100000 in
theorem band_Width.calls (a0 : Int) (r : Int) (w : World) (h : band_Width.f a0 = some r) :
    Calls Try.prog 82 #[.int .i64 a0] w fun e w' => e = .returned (.int .i64 r) ∧ Below w.heap.size w w' := by
 have HB := Aside0.mk (Below.refl w.heap.size w)
 have H : ((band_there.f a0).bind fun t279 => (if t279 = true then ((band_From.f a0).bind fun t280 => (some (mx 1 t280))) else (some 0))) = some r := h
 clear h
 obtain ⟨t279, A2, H⟩ := ob_ H
 (try dsimp only at H)
 by_cases c3 : t279 = true
 {
 subst c3
 rw [if_pos rfl] at H
 replace H := Option.bind_eq_some_iff.mp H
 obtain ⟨t280, A40, H⟩ := H
 replace H : (some (mx 1 t280)) = some r := H
 have A4 := Aside0.mk A40
 clear A40
 obtain ⟨ji5, hji5⟩ : ∃ j_ : Int, (mx 1 t280) = j_ := ⟨_, rfl⟩
 replace H : (some ji5) = some r := by first | (rw [hji5] at H; exact H) | (simp only [hji5] at H ⊢; exact H)
 (try rw [hji5] at A2)
 (try rw [hji5] at A4)
 (try (have hji5l : 1 ≤ ji5 := by (rw [← hji5]; unfold mx; (repeat' split) <;> omega)))
 (try (have hji5m : 0 ≤ ji5 := by omega))
 have hji5_ : (if 1 < t280 then t280 else 1) = ji5 := hji5
 obtain rfl := Option.some.inj H
 go_enter Try.func82, Try.ntmps82
 go_wp2_with (first | ((with_reducible refine gate_callee (f := 103) rfl ?_); refine gL_ (some 4) Try.func103 #[.int .i64 a0] ?_; (with_reducible refine (band_there.calls a0 true _ A2.out).mono ?_); rintro e w' ⟨rfl, ⟨nd, rfl⟩⟩; refine ⟨_, rfl, ?_⟩) | ((with_reducible refine gate_callee (f := 81) rfl ?_); refine gL_ (some 7) Try.func81 #[.int .i64 a0] ?_; (with_reducible refine (band_From.calls a0 t280 _ A4.out).mono ?_); rintro e w' ⟨rfl, ⟨nd, rfl⟩⟩; refine ⟨_, rfl, ?_⟩))
 go_ret
 exact ⟨by first | rfl | (simp [errW_none, errW_some] <;> rfl) | (simp only [← hji5]; first | rfl | (simp [errW_none, errW_some] <;> rfl)) | (simp [*, errW_none, errW_some] <;> rfl), bl_ HB⟩}
 {
 replace c3 := Bool.eq_false_iff.mpr c3
 subst c3
 rw [if_neg (show ¬ (false = true) by decide)] at H
 obtain rfl := Option.some.inj H
 go_enter Try.func82, Try.ntmps82
 go_wp2_with (first | ((with_reducible refine gate_callee (f := 103) rfl ?_); refine gL_ (some 4) Try.func103 #[.int .i64 a0] ?_; (with_reducible refine (band_there.calls a0 false _ A2.out).mono ?_); rintro e w' ⟨rfl, ⟨nd, rfl⟩⟩; refine ⟨_, rfl, ?_⟩))
 go_ret
 exact ⟨by first | rfl | (simp [errW_none, errW_some] <;> rfl) | (simp [*, errW_none, errW_some] <;> rfl), bl_ HB⟩}
mutual
def band_Split.j0 : Nat → List Int → Bool → Option ((List (List Int)) × Int)
  | 0, _, _ => none
  | k + 1, x0, x22 => if x22 = true then (some (([] : List (List Int)), 1)) else ((some (([] : List Int) : List Int)).bind fun y283 => (if y283.length + x0.length < 17592186044416 then (band_Split.l0 k (y283 ++ x0) ([] : List (List Int)) 0) else (none)))
def band_Split.l0 : Nat → List Int → List (List Int) → Int → Option ((List (List Int)) × Int)
  | 0, _, _, _ => none
  | k + 1, x6, x7, x26 => if x26 < 5 then ((band_From.f x26).bind fun t289 => ((band_Width.f x26).bind fun t290 => (if 0 ≤ t289 then (if t289 ≤ (wrap64 (t289 + t290)) then (if (wrap64 (t289 + t290)) ≤ (x6.length : Int) then (if x7.length < 5864062014805 then (band_Split.l0 k x6 (x7 ++ [((x6.take ((wrap64 (t289 + t290)) : Int).toNat).drop (t289 : Int).toNat)]) (wrap64 (x26 + 1))) else (none)) else (none)) else (none)) else (none)))) else (some (x7, 0))
end
def band_Split.f (k : Nat) (l0 : List Int) : Option ((List (List Int)) × Int) := (pvq_Square.f k l0).bind fun bt281 => (if bt281.2 = 0 then (band_Split.j0 k l0 ((l0.length : Int) != 16)) else (band_Split.j0 k l0 true))
theorem band_Split.mono_l : ∀ k, (∀ y0 y1, LeO (band_Split.j0 k y0 y1) (band_Split.j0 (k + 1) y0 y1)) ∧ (∀ y0 y1 y2, LeO (band_Split.l0 k y0 y1 y2) (band_Split.l0 (k + 1) y0 y1 y2))
  | 0 => ⟨fun _ _ r h => by simp [band_Split.j0] at h, fun _ _ _ r h => by simp [band_Split.l0] at h⟩
  | k + 1 => by
    obtain ⟨ih0, ih1⟩ := band_Split.mono_l k
    refine ⟨?_, ?_⟩
    all_goals (intros; first | unfold band_Split.j0 | unfold band_Split.l0)
    all_goals with_reducible repeat' first
     | exact ih0 _ _
     | exact ih1 _ _ _
     | exact pvq_Square.mono _ _
     | exact LeO.refl _
     | exact LeO.none _
     | refine LeO.ite ?_ ?_
     | refine LeO.bind ?_ (fun _ => ?_)
theorem band_Split.mono : ∀ a0 k, LeO (band_Split.f k a0) (band_Split.f (k + 1) a0) := by
  intro a0 k
  obtain ⟨ih0, ih1⟩ := band_Split.mono_l k
  unfold band_Split.f
  with_reducible repeat' first
   | exact ih0 _ _
   | exact ih1 _ _ _
   | exact pvq_Square.mono _ _
   | exact LeO.refl _
   | exact LeO.none _
   | refine LeO.ite ?_ ?_
   | refine LeO.bind ?_ (fun _ => ?_)
set_option maxHeartbeats 8000000 in
set_option maxRecDepth 100000 in
theorem band_Split.calls (k : Nat) (A0 : Option Addr) (c0 : Nat) (l0 : List Int) (r1 : List (List Int)) (r2 : Int) (w : World) (hr0 : Kd.C (Kd.int .i64) w A0 l0.length l0) (hc0 : l0.length ≤ c0) (h : band_Split.f k l0 = some (r1, r2)) :
    Calls Try.prog 42 #[.slice A0 l0.length c0] w fun e w' => ∃ v0_ : Value, e = .returned (.tuple #[v0_, .int .i64 r2]) ∧ Kd.N (Kd.slice 2 (Kd.int .i64)) 53 w' w.heap.size (fun k_ => (w.heap.size ≤ k_)) v0_ r1 ∧ Below w.heap.size w w' := by
 have HR0 := Aside0.mk hr0
 have HC0 := Aside0.mk hc0
 clear hr0 hc0
 have HB := Aside0.mk (Below.refl w.heap.size w)
 have H : ((pvq_Square.f k l0).bind fun bt281 => (if bt281.2 = 0 then (band_Split.j0 k l0 ((l0.length : Int) != 16)) else (band_Split.j0 k l0 true))) = some (r1, r2) := h
 clear h
 obtain ⟨⟨t281, t282⟩, A2, H⟩ := ob_ H
 (try dsimp only at H)
 have HC3 := Aside0.mk H
 clear H
 go_enter Try.func42, Try.ntmps42
 go_upto_region 2 with (first | ((with_reducible refine gate_callee (f := 80) rfl ?_); refine gL_ (some 13) Try.func80 #[.slice A0 l0.length c0] ?_; (with_reducible refine (pvq_Square.calls k _ _ l0 t281 t282 _ ?side1 ?side2 A2.out).mono ?_); (case side1 => repeat (first | exact HR0.out | (with_reducible refine Kd.C_alloc ?_ _) | (with_reducible refine Kd.C_drewN ?_ _) | (with_reducible refine Kd.C_drew ?_))); (case side2 => exact HC0.out); rintro e w' ⟨rfl, ⟨nd, rfl⟩⟩; refine ⟨_, rfl, ?_⟩))
 (try simp only [Act.put, List.setIfInBounds_toArray, List.set_cons_zero, List.set_cons_succ])
 go_cut [22] (fun v22 wc => ∃ (kq : Nat) (x22_2 : Bool), v22 = .bool x22_2 ∧ Aside0 (band_Split.j0 kq l0 x22_2 = some (r1, r2)) ∧ Aside0 (kq ≤ k) ∧ Aside0 (Below w.heap.size w wc))
 case first => (
 have H := HC3.out
 clear HC3
 by_cases c4 : t282 = 0
 {
 rw [if_pos c4] at H
 have c4b0 : (t282 == 0) = true := beq_iff_eq.mpr c4
 have c4b1 : (t282 != 0) = false := bne_eq_false_iff_eq.mpr c4
 clear c4
 (first | rw [c4b0] | (simp only [i64_w, i32_w]; rw [c4b0]) | skip)
 have H' := Aside0.mk H
 clear H
 go_wp2
 go_meet
 case rel => exact ⟨_, (((l0.length : Int) != 16)), rs_, H', ⟨ol_⟩, ⟨bl_ HB⟩⟩}
 {
 rw [if_neg c4] at H
 have c4b0 : (t282 == 0) = false := beq_eq_false_iff_ne.mpr c4
 have c4b1 : (t282 != 0) = true := bne_iff_ne.mpr c4
 (first | rw [c4b0] | (simp only [i64_w, i32_w]; rw [c4b0]) | skip)
 have H' := Aside0.mk H
 clear H
 go_wp2
 go_meet
 case rel => exact ⟨_, (true), rs_, H', ⟨ol_⟩, ⟨bl_ HB⟩⟩})
 case rest => (
 clear HC3
 obtain ⟨kq, x22_2, rfl, HA, HJ2, HB⟩ := hcut
 cases kq with
 | zero => exact absurd HA.out (by simp [band_Split.j0])
 | succ kj2 => (
 have H := HA.out
 clear HA
 simp only [band_Split.j0] at H
 by_cases c5 : x22_2 = true
 {
 subst c5
 rw [if_pos rfl] at H
 simp only [Option.some.injEq, Prod.mk.injEq] at H
 obtain ⟨rfl, rfl⟩ := H
 go_wp2
 go_ret2
 exact ⟨_, by first | rfl | (simp [errW_none, errW_some] <;> rfl) | (simp [*, errW_none, errW_some] <;> rfl), by first | exact Kd.S_nil _ _ _ _ _ | exact Kd.N_nil _ _ _ _ _ | exact Kd.V_nil _ _ _ _ _ | exact Kd.Q_nil _ _ _ _ _ | exact Kd.R_nil _ _ _ _ _, bl_ HB⟩}
 {
 replace c5 := Bool.eq_false_iff.mpr c5
 subst c5
 rw [if_neg (show ¬ (false = true) by decide)] at H
 obtain ⟨y283, hy283⟩ : ∃ y_ : List Int, y_ = (([] : List Int)) := ⟨_, rfl⟩
 replace H : (if y283.length + l0.length < 17592186044416 then (band_Split.l0 kj2 (y283 ++ l0) ([] : List (List Int)) 0) else (none)) = some (r1, r2) := by first | (rw [hy283]; with_reducible exact H) | (have H2_ := (Option.bind_some _ _).symm.trans H; rw [hy283]; with_reducible exact H2_) | (have H2_ := (Option.bind_some _ _).symm.trans H; with_reducible exact H2_) | with_reducible exact H | (rw [hy283]; exact H) | exact H
 have Ny283 := Aside0.mk hy283
 clear hy283
 by_cases c6 : y283.length + l0.length < 17592186044416
 {
 rw [if_pos c6] at H
 have LMc6 := Aside0.mk c6
 clear c6
 obtain ⟨y286, hy286⟩ : ∃ y_ : List Int, y_ = (y283 ++ l0) := ⟨_, rfl⟩
 replace H : (band_Split.l0 kj2 y286 ([] : List (List Int)) 0) = some (r1, r2) := by first | (rw [hy286]; with_reducible exact H) | (have H2_ := (Option.bind_some _ _).symm.trans H; rw [hy286]; with_reducible exact H2_) | (have H2_ := (Option.bind_some _ _).symm.trans H; with_reducible exact H2_) | with_reducible exact H | (rw [hy286]; exact H) | exact H
 have Ny286 := Aside0.mk hy286
 clear hy286
 have H' := Aside0.mk H
 clear H
 go_wp2_with (first | ((with_reducible refine gate_dst (N := 23) rfl ?_); (try (refine gate_guard (by rfl) ?_; dsimp only)); refine Kd.R_lit (Kd.int .i64) _ 2 ?hg (N := 23) ?hd (xs := ([] : List Int)) (inner := []) (ok := fun _ => True) (okp := fun _ => True) ?hr ?hp (fun _ hk => hk) trivial (Below.refl _ _) (Nat.le_refl _) (by simp) ?_; (case hd => rfl); (case hg => rfl); (case hr => first | (go_simp; done) | (go_simp; rfl)); (case hp => exact (Reps.none _ _)); intro v284 w7 ho8 hb hg_ hnew_; clear hg_ hnew_; (first | rw [← Ny283.out] at ho8 | (simp only [Int.reduceToNat] at ho8; rw [← Ny283.out] at ho8)); have HO285 := Aside0.mk (Kd.R_lower (Kd.R_newM (M := fun k_ => (w.heap.size ≤ k_)) ho8 (bs_ HB) (fun k_ h_ => h_)) (bs_ HB)); replace HB := BS_ HB hb; clear hb ho8) | ((with_reducible refine gate_builtin (b := .append) (xs := #[.tmp 23, .tmp 24]) rfl ?_); (try (refine gate_guard (by rfl) ?_; dsimp only)); at_builtin; refine Kd.R_append_rows (Kd.int .i64) (w0 := w) w.heap.size rfl (.tmp 23) (.tmp 24) 53 2 (.int .i64 0) 8 rfl Try.underlying53 info2 rfl (by decide) (by omega) v284 y283 l0 _ _ _ (fun k_ => (w.heap.size ≤ k_)) (fun _ => False) rfl rfl ?aO ?aR (fun _ _ h => h) (fun _ h => h.elim) ?aF ?aB ?aS ?aL ?_; (case aR => exact kC_ HR0 HB); (case aB => exact (bl_ HB)); (case aF => exact (fun k_ hk => (Nat.le_trans (bs_ HB) hk))); (case aO => exact (by (with_reducible repeat (first | apply Kd.R_alloc | apply Kd.R_drewN | apply Kd.R_drew)); exact Kd.R_mono HO285.out (fun _ hk => hk.1))); (case aS => exact (bs_ HB)); (case aL => have := LMc6.out; omega); intro v287 w9 ho hb hg hat; rw [← Ny286.out] at ho; replace HB := Aside0.mk (hb); have HO288 := Aside0.mk (ho); clear HO285; clear ho hb hg hat))
 go_loopg [7, 26] kj2 (fun kq v7 v26 w' => ∃ (x7_2 : List (List Int)) (x26_2 : Int), v26 = .int .i64 x26_2 ∧ Aside0 (band_Split.l0 kq y286 x7_2 x26_2 = some (r1, r2)) ∧ Aside0 (kq ≤ kj2) ∧ Aside0 (Kd.R (Kd.int .i64) 2 w' w.heap.size (fun k_ => (w.heap.size ≤ k_)) v287 y286) ∧ Aside0 (Kd.N (Kd.slice 2 (Kd.int .i64)) 53 w' w.heap.size (fun k_ => (w.heap.size ≤ k_)) v7 x7_2) ∧ Aside0 (Below w.heap.size w w'))
 case atStart => exact ⟨(([] : List (List Int))), (0), rs_, H', ⟨Nat.le_refl _⟩, ⟨kR_ HO288⟩, ⟨kn_⟩, ⟨bl_ HB⟩⟩
 case round => (
 clear H'
 try clear c5
 try clear c6
 obtain ⟨x7_2, x26_2, rfl, HA, HK2, HO_6, HO_7, HB⟩ := hrel
 cases gk with
 | zero => exact absurd HA.out (by simp [band_Split.l0])
 | succ k2 => (
 have H := HA.out
 clear HA
 simp only [band_Split.l0] at H
 by_cases c10 : x26_2 < 5
 {
 rw [if_pos c10] at H
 have c10b0 : decide (x26_2 < 5) = true := decide_eq_true c10
 clear c10
 obtain ⟨t289, A11, H⟩ := ob_ H
 (try dsimp only at H)
 obtain ⟨t290, A12, H⟩ := ob_ H
 (try dsimp only at H)
 by_cases c13 : 0 ≤ t289
 {
 rw [if_pos c13] at H
 have c13b0 := eq_true c13
 have c13b1 : decide (0 ≤ t289) = true := decide_eq_true c13
 clear c13
 by_cases c14 : t289 ≤ (wrap64 (t289 + t290))
 {
 rw [if_pos c14] at H
 have c14b0 := eq_true c14
 have c14b1 : decide (t289 ≤ (wrap64 (t289 + t290))) = true := decide_eq_true c14
 by_cases c15 : (wrap64 (t289 + t290)) ≤ (y286.length : Int)
 {
 rw [if_pos c15] at H
 have c15b0 := eq_true c15
 have c15b1 : decide ((wrap64 (t289 + t290)) ≤ (y286.length : Int)) = true := decide_eq_true c15
 obtain ⟨y291, hy291⟩ : ∃ y_ : List Int, y_ = ((y286.take ((wrap64 (t289 + t290)) : Int).toNat).drop (t289 : Int).toNat) := ⟨_, rfl⟩
 replace H : (if x7_2.length < 5864062014805 then (band_Split.l0 k2 y286 (x7_2 ++ [y291]) (wrap64 (x26_2 + 1))) else (none)) = some (r1, r2) := by first | (rw [hy291]; with_reducible exact H) | (have H2_ := (Option.bind_some _ _).symm.trans H; rw [hy291]; with_reducible exact H2_) | (have H2_ := (Option.bind_some _ _).symm.trans H; with_reducible exact H2_) | with_reducible exact H | (rw [hy291]; exact H) | exact H
 have Ny291 := Aside0.mk hy291
 clear hy291
 by_cases c16 : x7_2.length < 5864062014805
 {
 rw [if_pos c16] at H
 have LMc16 := Aside0.mk c16
 clear c16
 obtain ⟨y296, hy296⟩ : ∃ y_ : List (List Int), y_ = (x7_2 ++ [y291]) := ⟨_, rfl⟩
 replace H : (band_Split.l0 k2 y286 y296 (wrap64 (x26_2 + 1))) = some (r1, r2) := by first | (rw [hy296]; with_reducible exact H) | (have H2_ := (Option.bind_some _ _).symm.trans H; rw [hy296]; with_reducible exact H2_) | (have H2_ := (Option.bind_some _ _).symm.trans H; with_reducible exact H2_) | with_reducible exact H | (rw [hy296]; exact H) | exact H
 have Ny296 := Aside0.mk hy296
 clear hy296
 have H' := Aside0.mk H
 clear H
 go_wp2_with (first | ((with_reducible refine gate_callee (f := 81) rfl ?_); refine gL_ (some 30) Try.func81 #[.int .i64 x26_2] ?_; (with_reducible refine (band_From.calls x26_2 t289 _ A11.out).mono ?_); rintro e w' ⟨rfl, ⟨nd, rfl⟩⟩; refine ⟨_, rfl, ?_⟩) | ((with_reducible refine gate_callee (f := 82) rfl ?_); refine gL_ (some 32) Try.func82 #[.int .i64 x26_2] ?_; (with_reducible refine (band_Width.calls x26_2 t290 _ A12.out).mono ?_); rintro e w17 ⟨rfl, hb⟩; refine ⟨_, rfl, ?_⟩; replace HO_6 := FR_ HO_6 hb; replace HO_7 := FN_ HO_7 hb; replace HB := BS_ HB hb; (try clear hb); (try clear hk); obtain ⟨Ao19, co19, eo19⟩ := Kd.R_slice HO_6.out; subst eo19; have q18 : ((wrap64 (t289 + t290)) : Int) ≤ ((y286.length : Int) : Int) := of_decide_eq_true am_; obtain ⟨i018, hi018, _, hsz18, _⟩ := info_parts info2; have hroom18 : y286.length ≤ co19 := (Kd.R_reads' HO_6.out).2.1; have hC18 : Kd.F (Kd.int .i64) _ _ Ao19 y286.length y286 := (Kd.V_at (base := w.heap.size) (Kd.R_V (Kd.R_apart' (HO_6.out) (Kd.N_typed HO_7.out) (by decide)))).2.2; have ql18 : (t289 : Int) ≤ ((wrap64 (t289 + t290)) : Int) := of_decide_eq_true am_; have q018 : (0 : Int) ≤ (t289 : Int) := of_decide_eq_true am_; obtain ⟨c18, hc18⟩ : ∃ c1, c1 = ((wrap64 (t289 + t290)) : Int).toNat - (t289 : Int).toNat := ⟨_, rfl⟩; have hcut18 : ∀ W_ : World, (Instr.slice 53 (.slice Ao19 y286.length co19) (some (.int .i64 t289)) (some (.int .i64 (wrap64 (t289 + t290)))) (some (.int .i64 (wrap64 (t289 + t290))))).run Try.prog W_ = .ok (.slice (if ((wrap64 (t289 + t290)) : Int).toNat = (t289 : Int).toNat then Ao19 else (Ao19 : Option Addr).map (·.add ((t289 : Int).toNat * 1))) (((wrap64 (t289 + t290)) : Int).toNat - (t289 : Int).toNat) c18) W_ := (fun W_ => by have hel_ : Program.elem Try.prog 53 = 2 := (by simp [Program.elem, Try.underlying53]); rw [hc18, run_slice_lhm W_ 53 Ao19 y286.length co19 (by rw [hel_]; exact Try.underlying53) .i64 .i64 .i64 t289 (wrap64 (t289 + t290)) (wrap64 (t289 + t290)) q018 ql18 (Int.le_refl _) (by omega), hel_]; simp [sizeOf, typeInfo, hi018, hsz18, sliced, Result.andThen]); have hr18 := Kd.F_cut (m := (t289 : Int).toNat) (c := ((wrap64 (t289 + t290)) : Int).toNat) (Kd.F_take (m := ((wrap64 (t289 + t290)) : Int).toNat) hC18 (by omega)) (by rw [List.length_take]; omega) (by rw [List.length_take]; omega); obtain ⟨A18, hA18⟩ : ∃ A1, A1 = (if ((wrap64 (t289 + t290)) : Int).toNat = (t289 : Int).toNat then Ao19 else (Ao19 : Option Addr).map (·.add ((t289 : Int).toNat * 1))) := ⟨_, rfl⟩; have hy18 : y291.length = ((wrap64 (t289 + t290)) : Int).toNat - (t289 : Int).toNat := (by rw [Ny291.out, List.length_drop, List.length_take] <;> omega); rw [show ((y286).take ((wrap64 (t289 + t290)) : Int).toNat).drop (t289 : Int).toNat = y291 from Ny291.out.symm] at hr18; replace hr18 : Kd.F (Kd.int .i64) _ _ A18 y291.length y291 := (by rw [hA18]; exact hr18); rw [← hy18, ← hA18] at hcut18; have HO295 := Aside0.mk (show Kd.V (Kd.int .i64) 2 _ w.heap.size _ (.slice A18 y291.length c18) y291 from Kd.V_mk (by rw [hy18, hc18]; exact Nat.le_refl _) hr18); have HC295 := Aside0.mk (show y291.length ≤ c18 from by rw [hy18, hc18]; exact Nat.le_refl _); clear hr18 hC18 hroom18 hi018 hsz18 hc18; have KY18 := Aside0.mk hy18; have KA18 := Aside0.mk hA18; clear hy18 hA18; replace q18 := eq_true q18) | ((with_reducible refine gate_builtin (b := .append) (xs := #[.tmp 33, .tmp 43]) rfl ?_); (try (refine gate_guard (by rfl) ?_; dsimp only)); at_builtin; refine Kd.N_append (Kd.slice 2 (Kd.int .i64)) (w0 := w) w.heap.size rfl (.tmp 33) (.tmp 43) 26 53 (.slice none 0 0) 24 rfl Try.underlying26 info53 rfl (by decide) (by omega) u7 x7_2 y291 [.slice A18 y291.length c18] (fun k_ => (w.heap.size ≤ k_)) (fun k_ => ((fun k_ => (w.heap.size ≤ k_))) k_ ∧ some k_ ≠ (u7 : Value).ownBlock) rfl rfl ?aP (fun _ hk => hk) ?aF ?aO ?aB ?aS ?aL ?_; (case aP => exact (Kd.FK_slice_mk (Kd.V_reads' (Kd.V_mono (ok' := (fun k_ => ((fun k_ => (w.heap.size ≤ k_))) k_ ∧ some k_ ≠ (u7 : Value).ownBlock)) (HO295.out) (fun k_ hk => ⟨hk.1, hk.2⟩))).2.1 (Kd.V_F (Kd.V_mono (ok' := (fun k_ => ((fun k_ => (w.heap.size ≤ k_))) k_ ∧ some k_ ≠ (u7 : Value).ownBlock)) (HO295.out) (fun k_ hk => ⟨hk.1, hk.2⟩))))); (case aB => exact (bl_ HB)); (case aF => exact (fun k_ hk => (Nat.le_trans (bs_ HB) hk))); (case aO => exact (kN_ HO_7)); (case aS => exact (bs_ HB)); (case aL => have := LMc16.out; omega); intro v297 w20 ho hb hg hat; rw [← Ny296.out] at ho; replace HO_6 := Aside0.mk (Kd.R_over' (kR_ HO_6) (Kd.N_typed (kN_ HO_7)) (by decide) hg); replace HO295 := Aside0.mk (Kd.V_afterv (ok := (fun k_ => (w.heap.size ≤ k_))) (kV_ HO295) hg hat); replace HB := Aside0.mk (hb); have HO298 := Aside0.mk (ho); clear HO_7; clear ho hb hg hat))
 go_roundg k2
 case measure => have := HJ2.out; have := HK2.out; omega
 case rel => exact ⟨(y296), (wrap64 (x26_2 + 1)), rs_, H', ⟨by have := HJ2.out; have := HK2.out; omega⟩, ⟨kR_ HO_6⟩, ⟨kN_ HO298⟩, ⟨bl_ HB⟩⟩}
 {
 rw [if_neg c16] at H
 exact absurd H (by simp)}}
 {
 rw [if_neg c15] at H
 exact absurd H (by simp)}}
 {
 rw [if_neg c14] at H
 exact absurd H (by simp)}}
 {
 rw [if_neg c13] at H
 exact absurd H (by simp)}}
 {
 rw [if_neg c10] at H
 have c10b0 : decide (x26_2 < 5) = false := decide_eq_false c10
 clear c10
 simp only [Option.some.injEq, Prod.mk.injEq] at H
 obtain ⟨rfl, rfl⟩ := H
 go_wp2
 go_ret2
 exact ⟨_, by first | rfl | (simp [errW_none, errW_some] <;> rfl) | (simp [*, errW_none, errW_some] <;> rfl), by (with_reducible repeat (first | apply Kd.N_alloc | apply Kd.N_drewN | apply Kd.N_drew)); exact HO_7.out, bl_ HB⟩}))}
 {
 rw [if_neg c6] at H
 exact absurd H (by simp)}}))
mutual
def vcodec_Right.j0 : Nat → Bool → List (List Int) → Option (Bool)
  | 0, _, _ => none
  | k + 1, x19, x301000 => if x19 = true then (some false) else (vcodec_Right.l0 k x301000 (x301000.length : Int) 0)
def vcodec_Right.l0 : Nat → List (List Int) → Int → Int → Option (Bool)
  | 0, _, _, _ => none
  | k + 1, x21, x22, x23 => if x23 < x22 then (if 0 ≤ x23 then (if x23 < (x21.length : Int) then ((band_Split.f k (rd_L2 x21 x23)).bind fun bt303 => (if bt303.2 = 0 then (vcodec_Right.l0 k x21 x22 (wrap64 (x23 + 1))) else (some false))) else (none)) else (none)) else (some true)
end
def vcodec_Right.f (k : Nat) (a0_0 : Int) (a0_1 : Int) (l0_2 : List Int) (l0_3 : List Int) (l1_0 : List (List Int)) : Option (Bool) := (vhead_Right.f k a0_0 a0_1 l0_2 l0_3).bind fun t301 => (if t301 = true then (vcodec_Right.j0 k ((l1_0.length : Int) != a0_0) l1_0) else (vcodec_Right.j0 k true l1_0))
theorem vcodec_Right.mono_l : ∀ k, (∀ y0 y1, LeO (vcodec_Right.j0 k y0 y1) (vcodec_Right.j0 (k + 1) y0 y1)) ∧ (∀ y0 y1 y2, LeO (vcodec_Right.l0 k y0 y1 y2) (vcodec_Right.l0 (k + 1) y0 y1 y2))
  | 0 => ⟨fun _ _ r h => by simp [vcodec_Right.j0] at h, fun _ _ _ r h => by simp [vcodec_Right.l0] at h⟩
  | k + 1 => by
    obtain ⟨ih0, ih1⟩ := vcodec_Right.mono_l k
    refine ⟨?_, ?_⟩
    all_goals (intros; first | unfold vcodec_Right.j0 | unfold vcodec_Right.l0)
    all_goals with_reducible repeat' first
     | exact ih0 _ _
     | exact ih1 _ _ _
     | exact band_Split.mono _ _
     | exact vhead_Right.mono _ _ _ _ _
     | exact LeO.refl _
     | exact LeO.none _
     | refine LeO.ite ?_ ?_
     | refine LeO.bind ?_ (fun _ => ?_)
theorem vcodec_Right.mono : ∀ a0 a1 a2 a3 a4 k, LeO (vcodec_Right.f k a0 a1 a2 a3 a4) (vcodec_Right.f (k + 1) a0 a1 a2 a3 a4) := by
  intro a0 a1 a2 a3 a4 k
  obtain ⟨ih0, ih1⟩ := vcodec_Right.mono_l k
  unfold vcodec_Right.f
  with_reducible repeat' first
   | exact ih0 _ _
   | exact ih1 _ _ _
   | exact band_Split.mono _ _
   | exact vhead_Right.mono _ _ _ _ _
   | exact LeO.refl _
   | exact LeO.none _
   | refine LeO.ite ?_ ?_
   | refine LeO.bind ?_ (fun _ => ?_)
set_option maxHeartbeats 8000000 in
set_option maxRecDepth 100000 in
theorem vcodec_Right.calls (k : Nat) (a0_0 : Int) (a0_1 : Int) (A0_2 : Option Addr) (c0_2 : Nat) (l0_2 : List Int) (A0_3 : Option Addr) (c0_3 : Nat) (l0_3 : List Int) (A1_0 : Option Addr) (c1_0 : Nat) (l1_0 : List (List Int)) (r : Bool) (w : World) (hr0_2 : Kd.C (Kd.int .i64) w A0_2 l0_2.length l0_2) (hc0_2 : l0_2.length ≤ c0_2) (hr0_3 : Kd.C (Kd.int .i64) w A0_3 l0_3.length l0_3) (hc0_3 : l0_3.length ≤ c0_3) (hr1_0 : Kd.C (Kd.slice 2 (Kd.int .i64)) w A1_0 l1_0.length l1_0) (hc1_0 : l1_0.length ≤ c1_0) (h : vcodec_Right.f k a0_0 a0_1 l0_2 l0_3 l1_0 = some r) :
    Calls Try.prog 16 #[.agg #[.int .i64 a0_0, .int .i64 a0_1, .slice A0_2 l0_2.length c0_2, .slice A0_3 l0_3.length c0_3], .agg #[.slice A1_0 l1_0.length c1_0]] w fun e w' => e = .returned (.bool r) ∧ Below w.heap.size w w' := by
 have hu24 := Try.underlying24
 have hu37 := Try.underlying37
 have HR0_2 := Aside0.mk hr0_2
 have HC0_2 := Aside0.mk hc0_2
 clear hr0_2 hc0_2
 have HR0_3 := Aside0.mk hr0_3
 have HC0_3 := Aside0.mk hc0_3
 clear hr0_3 hc0_3
 have HR1_0 := Aside0.mk hr1_0
 have HC1_0 := Aside0.mk hc1_0
 clear hr1_0 hc1_0
 have HB := Aside0.mk (Below.refl w.heap.size w)
 have H : ((vhead_Right.f k a0_0 a0_1 l0_2 l0_3).bind fun t301 => (if t301 = true then (vcodec_Right.j0 k ((l1_0.length : Int) != a0_0) l1_0) else (vcodec_Right.j0 k true l1_0))) = some r := h
 clear h
 have HC3 := Aside0.mk H
 clear H
 go_enter Try.func16, Try.ntmps16
 go_upto_region 1 with (first | ((with_reducible refine gate_dst (N := 2) rfl ?_); (try (refine gate_guard (by rfl) ?_; dsimp only)); refine bx_ HB 2 #[.int .i64 a0_0, .int .i64 a0_1, .slice A0_2 l0_2.length c0_2, .slice A0_3 l0_3.length c0_3] 24 ?_; clear HB; intro gb299 hg w4 hb BK299 GE299 HB; have GW299 := GE299; clear hb hg) | ((with_reducible refine gate_dst (N := 3) rfl ?_); (try (refine gate_guard (by rfl) ?_; dsimp only)); refine bx_ HB 3 #[.slice A1_0 l1_0.length c1_0] 37 ?_; clear HB; intro gb300 hg w5 hb BK300 GE300 HB; have GW300 := GE300; obtain ⟨NB299_300, NB300_299⟩ := NN_ BK299 hg; replace BK299 := FB_ BK299 hb; clear hb hg))
 (try simp only [Act.put, List.setIfInBounds_toArray, List.set_cons_zero, List.set_cons_succ])
 go_cut [19] (fun v19 wc => ∃ (kq : Nat) (x19_2 : Bool), v19 = .bool x19_2 ∧ Aside0 (vcodec_Right.j0 kq x19_2 l1_0 = some r) ∧ Aside0 (kq ≤ k) ∧ Aside0 (wc.heap[gb299]? = some (.cells #[.int .i64 a0_0, .int .i64 a0_1, (.slice A0_2 l0_2.length c0_2), (.slice A0_3 l0_3.length c0_3)] 24 (0, 0))) ∧ Aside0 (wc.heap[gb300]? = some (.cells #[(.slice A1_0 l1_0.length c1_0)] 37 (0, 0))) ∧ Aside0 (Below w.heap.size w wc))
 case first => (
 have H := HC3.out
 clear HC3
 obtain ⟨t301, A6, H⟩ := ob_ H
 (try dsimp only at H)
 by_cases c7 : t301 = true
 {
 subst c7
 rw [if_pos rfl] at H
 have H' := Aside0.mk H
 clear H
 have hnb8 := NB299_300.out
 have hnc8 := NB300_299.out
 obtain ⟨hcz9_0, hcz9_1, hcz9_2, hcz9_3, hfz9_0, hfz9_1, hfz9_2, hfz9_3⟩ := e4_ BK299
 go_wp2_with (first | ((with_reducible refine gate_callee (f := 41) rfl ?_); refine gL_ (some 10) Try.func41 #[.agg #[.int .i64 a0_0, .int .i64 a0_1, .slice A0_2 l0_2.length c0_2, .slice A0_3 l0_3.length c0_3]] ?_; (with_reducible refine (vhead_Right.calls k a0_0 a0_1 _ _ l0_2 _ _ l0_3 true _ ?side1 ?side2 ?side3 ?side4 A6.out).mono ?_); (case side1 => exact kC_ HR0_2 HB); (case side2 => exact HC0_2.out); (case side3 => exact kC_ HR0_3 HB); (case side4 => exact HC0_3.out); rintro e w10 ⟨rfl, hb⟩; refine ⟨_, rfl, ?_⟩; replace BK299 := FB_ BK299 hb; replace BK300 := FB_ BK300 hb; replace HB := BS_ HB hb; (try clear hb); obtain ⟨hcz11_0, hfz11_0⟩ := e1_ BK300; obtain ⟨hcz12_0, hcz12_1, hcz12_2, hcz12_3, hfz12_0, hfz12_1, hfz12_2, hfz12_3⟩ := e4_ BK299))
 go_meet
 case rel => exact ⟨_, (((l1_0.length : Int) != a0_0)), rs_, H', ⟨ol_⟩, ⟨bk_ BK299⟩, ⟨bk_ BK300⟩, ⟨bl_ HB⟩⟩}
 {
 replace c7 := Bool.eq_false_iff.mpr c7
 subst c7
 rw [if_neg (show ¬ (false = true) by decide)] at H
 have H' := Aside0.mk H
 clear H
 have hnb13 := NB299_300.out
 have hnc13 := NB300_299.out
 obtain ⟨hcz14_0, hcz14_1, hcz14_2, hcz14_3, hfz14_0, hfz14_1, hfz14_2, hfz14_3⟩ := e4_ BK299
 go_wp2_with (first | ((with_reducible refine gate_callee (f := 41) rfl ?_); refine gL_ (some 10) Try.func41 #[.agg #[.int .i64 a0_0, .int .i64 a0_1, .slice A0_2 l0_2.length c0_2, .slice A0_3 l0_3.length c0_3]] ?_; (with_reducible refine (vhead_Right.calls k a0_0 a0_1 _ _ l0_2 _ _ l0_3 false _ ?side1 ?side2 ?side3 ?side4 A6.out).mono ?_); (case side1 => exact kC_ HR0_2 HB); (case side2 => exact HC0_2.out); (case side3 => exact kC_ HR0_3 HB); (case side4 => exact HC0_3.out); rintro e w15 ⟨rfl, hb⟩; refine ⟨_, rfl, ?_⟩; replace BK299 := FB_ BK299 hb; replace BK300 := FB_ BK300 hb; replace HB := BS_ HB hb; (try clear hb)))
 go_meet
 case rel => exact ⟨_, (true), rs_, H', ⟨ol_⟩, ⟨bk_ BK299⟩, ⟨bk_ BK300⟩, ⟨bl_ HB⟩⟩})
 case rest => (
 clear HC3
 obtain ⟨kq, x19_2, rfl, HA, HJ2, BK299, BK300, HB⟩ := hcut
 cases kq with
 | zero => exact absurd HA.out (by simp [vcodec_Right.j0])
 | succ kj2 => (
 have H := HA.out
 clear HA
 simp only [vcodec_Right.j0] at H
 by_cases c16 : x19_2 = true
 {
 subst c16
 rw [if_pos rfl] at H
 obtain rfl := Option.some.inj H
 go_wp2
 go_ret
 exact ⟨by first | rfl | (simp [errW_none, errW_some] <;> rfl) | (simp [*, errW_none, errW_some] <;> rfl), bl_ HB⟩}
 {
 replace c16 := Bool.eq_false_iff.mpr c16
 subst c16
 rw [if_neg (show ¬ (false = true) by decide)] at H
 have H' := Aside0.mk H
 clear H
 have hnb17 := NB300_299.out
 have hnc17 := NB299_300.out
 obtain ⟨hcz18_0, hfz18_0⟩ := e1_ BK300
 go_wp2
 go_loopg [23] kj2 (fun kq v23 w' => ∃ (x23_2 : Int), v23 = .int .i64 x23_2 ∧ Aside0 (vcodec_Right.l0 kq l1_0 (l1_0.length : Int) x23_2 = some r) ∧ Aside0 (kq ≤ kj2) ∧ Aside0 (w'.heap[gb299]? = some (.cells #[.int .i64 a0_0, .int .i64 a0_1, (.slice A0_2 l0_2.length c0_2), (.slice A0_3 l0_3.length c0_3)] 24 (0, 0))) ∧ Aside0 (w'.heap[gb300]? = some (.cells #[(.slice A1_0 l1_0.length c1_0)] 37 (0, 0))) ∧ Aside0 (Below w.heap.size w w'))
 case atStart => exact ⟨(0), rs_, H', ⟨Nat.le_refl _⟩, ⟨bk_ BK299⟩, ⟨bk_ BK300⟩, ⟨bl_ HB⟩⟩
 case round => (
 clear H'
 try clear c16
 try clear hcz18_0
 try clear hfz18_0
 obtain ⟨x23_2, rfl, HA, HK2, BK299, BK300, HB⟩ := hrel
 cases gk with
 | zero => exact absurd HA.out (by simp [vcodec_Right.l0])
 | succ k2 => (
 have H := HA.out
 clear HA
 simp only [vcodec_Right.l0] at H
 by_cases c19 : x23_2 < (l1_0.length : Int)
 {
 rw [if_pos c19] at H
 have c19b0 : decide (x23_2 < (l1_0.length : Int)) = true := decide_eq_true c19
 clear c19
 by_cases c20 : 0 ≤ x23_2
 {
 rw [if_pos c20] at H
 have c20b0 : decide (0 ≤ x23_2) = true := decide_eq_true c20
 clear c20
 by_cases c21 : x23_2 < (l1_0.length : Int)
 {
 rw [if_pos c21] at H
 have c21b0 : decide (x23_2 < (l1_0.length : Int)) = true := decide_eq_true c21
 clear c21
 obtain ⟨⟨t303, t306⟩, A22, H⟩ := ob_ H
 (try dsimp only at H)
 by_cases c23 : t306 = 0
 {
 rw [if_pos c23] at H
 have c23b0 : (t306 == 0) = true := beq_iff_eq.mpr c23
 have c23b1 : (t306 != 0) = false := bne_eq_false_iff_eq.mpr c23
 clear c23
 have H' := Aside0.mk H
 clear H
 have p302 : 0 ≤ (x23_2 : Int) := of_decide_eq_true am_
 have q302 : x23_2 < (l1_0.length : Int) := of_decide_eq_true am_
 obtain ⟨ad302, A302_0, c302_0, e302, hx302_0, hl302_0, hi302_0⟩ := at_L2 HR1_0.out x23_2 p302 q302
 cases e302
 replace hx302_0 := (HB.out.cell (World.block_lt_of_cell? w _ hx302_0)).trans hx302_0
 have HR302_0 := Aside0.mk hi302_0
 have HC302_0 := Aside0.mk hl302_0
 clear hi302_0 hl302_0
 replace p302 := eq_true p302
 replace q302 := eq_true q302
 go_wp2_with (first | ((with_reducible refine gate_callee (f := 42) rfl ?_); refine gL_ (some 29) Try.func42 #[.slice A302_0 (rd_L2 l1_0 x23_2).length c302_0] ?_; (with_reducible refine (band_Split.calls k2 _ _ (rd_L2 l1_0 x23_2) t303 t306 _ ?side1 ?side2 A22.out).mono ?_); (case side1 => exact kC_ HR302_0 HB); (case side2 => exact HC302_0.out); rintro e w24 ⟨v304, rfl, ho0, hb⟩; refine ⟨_, rfl, ?_⟩; have HO305 := Aside0.mk (Kd.N_lower (Kd.N_mono (ok' := fun k_ => k_ ≠ gb299 ∧ k_ ≠ gb300) ho0 (fun k_ hk_ => ⟨(Kd.freshB (g := gb299) (o := .cells #[.int .i64 a0_0, .int .i64 a0_1, .slice A0_2 l0_2.length c0_2, .slice A0_3 l0_3.length c0_3] 24 (0, 0)) (bk_ BK299) k_ hk_), (Kd.freshB (g := gb300) (o := .cells #[.slice (some ad302) l1_0.length c1_0] 37 (0, 0)) (bk_ BK300) k_ hk_)⟩)) (bs_ HB)); replace BK299 := FB_ BK299 hb; replace BK300 := FB_ BK300 hb; replace HB := BS_ HB hb; (try clear hb); (try clear ho0)))
 go_roundg k2
 case measure => have := HJ2.out; have := HK2.out; omega
 case rel => exact ⟨(wrap64 (x23_2 + 1)), rs_, H', ⟨by have := HJ2.out; have := HK2.out; omega⟩, ⟨bk_ BK299⟩, ⟨bk_ BK300⟩, ⟨bl_ HB⟩⟩}
 {
 rw [if_neg c23] at H
 have c23b0 : (t306 == 0) = false := beq_eq_false_iff_ne.mpr c23
 have c23b1 : (t306 != 0) = true := bne_iff_ne.mpr c23
 obtain rfl := Option.some.inj H
 have p302 : 0 ≤ (x23_2 : Int) := of_decide_eq_true am_
 have q302 : x23_2 < (l1_0.length : Int) := of_decide_eq_true am_
 obtain ⟨ad302, A302_0, c302_0, e302, hx302_0, hl302_0, hi302_0⟩ := at_L2 HR1_0.out x23_2 p302 q302
 cases e302
 replace hx302_0 := (HB.out.cell (World.block_lt_of_cell? w _ hx302_0)).trans hx302_0
 have HR302_0 := Aside0.mk hi302_0
 have HC302_0 := Aside0.mk hl302_0
 clear hi302_0 hl302_0
 replace p302 := eq_true p302
 replace q302 := eq_true q302
 go_wp2_with (first | ((with_reducible refine gate_callee (f := 42) rfl ?_); refine gL_ (some 29) Try.func42 #[.slice A302_0 (rd_L2 l1_0 x23_2).length c302_0] ?_; (with_reducible refine (band_Split.calls k2 _ _ (rd_L2 l1_0 x23_2) t303 t306 _ ?side1 ?side2 A22.out).mono ?_); (case side1 => exact kC_ HR302_0 HB); (case side2 => exact HC302_0.out); rintro e w25 ⟨v304, rfl, ho0, hb⟩; refine ⟨_, rfl, ?_⟩; have HO305 := Aside0.mk (Kd.N_lower (Kd.N_mono (ok' := fun k_ => k_ ≠ gb299 ∧ k_ ≠ gb300) ho0 (fun k_ hk_ => ⟨(Kd.freshB (g := gb299) (o := .cells #[.int .i64 a0_0, .int .i64 a0_1, .slice A0_2 l0_2.length c0_2, .slice A0_3 l0_3.length c0_3] 24 (0, 0)) (bk_ BK299) k_ hk_), (Kd.freshB (g := gb300) (o := .cells #[.slice (some ad302) l1_0.length c1_0] 37 (0, 0)) (bk_ BK300) k_ hk_)⟩)) (bs_ HB)); replace BK299 := FB_ BK299 hb; replace BK300 := FB_ BK300 hb; replace HB := BS_ HB hb; (try clear hb); (try clear ho0)))
 go_ret
 exact ⟨by first | rfl | (simp [errW_none, errW_some] <;> rfl) | (simp [*, errW_none, errW_some] <;> rfl), bl_ HB⟩}}
 {
 rw [if_neg c21] at H
 exact absurd H (by simp)}}
 {
 rw [if_neg c20] at H
 exact absurd H (by simp)}}
 {
 rw [if_neg c19] at H
 have c19b0 : decide (x23_2 < (l1_0.length : Int)) = false := decide_eq_false c19
 clear c19
 obtain rfl := Option.some.inj H
 go_wp2
 go_ret
 exact ⟨by first | rfl | (simp [errW_none, errW_some] <;> rfl) | (simp [*, errW_none, errW_some] <;> rfl), bl_ HB⟩}))}))
def num_Log2.l0 : Nat → Int → Int → Option (Int)
  | 0, _, _ => none
  | k + 1, x0, x3 => if x0 > 0 then (num_Log2.l0 k (x0 / 2) (wrap64 (x3 + 1))) else (some x3)
def num_Log2.f (k : Nat) (a0 : Int) : Option (Int) := num_Log2.l0 k a0 (-1)
theorem num_Log2.mono_l : ∀ k, (∀ y0 y1, LeO (num_Log2.l0 k y0 y1) (num_Log2.l0 (k + 1) y0 y1))
  | 0 => fun _ _ r h => by simp [num_Log2.l0] at h
  | k + 1 => by
    have ih0 := num_Log2.mono_l k
    · intro y0 y1
      unfold num_Log2.l0
      with_reducible repeat' first
   | exact ih0 _ _
   | exact LeO.refl _
   | exact LeO.none _
   | refine LeO.ite ?_ ?_
   | refine LeO.bind ?_ (fun _ => ?_)
theorem num_Log2.mono : ∀ a0 k, LeO (num_Log2.f k a0) (num_Log2.f (k + 1) a0) := by
  intro a0 k
  have ih0 := num_Log2.mono_l k
  unfold num_Log2.f
  with_reducible repeat' first
   | exact ih0 _ _
   | exact LeO.refl _
   | exact LeO.none _
   | refine LeO.ite ?_ ?_
   | refine LeO.bind ?_ (fun _ => ?_)
set_option maxHeartbeats 8000000 in
set_option maxRecDepth 100000 in
theorem num_Log2.calls (k : Nat) (a0 : Int) (r : Int) (w : World) (h : num_Log2.f k a0 = some r) :
    Calls Try.prog 118 #[.int .u64 a0] w fun e w' => e = .returned (.int .i64 r) ∧ Drawn0 w w' := by
 have H : (num_Log2.l0 k a0 (-1)) = some r := h
 clear h
 have H' := Aside0.mk H
 clear H
 go_enter Try.func118, Try.ntmps118
 go_wp2
 go_loopg [0, 3] k (fun kq v0 v3 w' => ∃ (x0_1 : Int) (x3_1 : Int), v0 = .int .u64 x0_1 ∧ v3 = .int .i64 x3_1 ∧ Aside0 (num_Log2.l0 kq x0_1 x3_1 = some r) ∧ Aside0 (kq ≤ k) ∧ Drawn0 w w')
 case atStart => exact ⟨(a0), ((-1)), rs_, rs_, H', ⟨Nat.le_refl _⟩, by repeat (first | exact Drawn0.refl _ | apply Drawn0.step)⟩
 case round => (
 clear H'
 obtain ⟨x0_1, x3_1, rfl, rfl, HA, HK1, ⟨m1, rfl⟩⟩ := hrel
 cases gk with
 | zero => exact absurd HA.out (by simp [num_Log2.l0])
 | succ k1 => (
 have H := HA.out
 clear HA
 simp only [num_Log2.l0] at H
 by_cases c2 : x0_1 > 0
 {
 rw [if_pos c2] at H
 have c2b0 : decide (0 < x0_1) = true := decide_eq_true c2
 clear c2
 have H' := Aside0.mk H
 clear H
 go_wp2
 go_roundg k1
 case measure => have := HK1.out; omega
 case rel => exact ⟨(x0_1 / 2), (wrap64 (x3_1 + 1)), rs_, rs_, H', ⟨by have := HK1.out; omega⟩, by repeat (first | exact Drawn0.refl _ | apply Drawn0.step)⟩}
 {
 rw [if_neg c2] at H
 have c2b0 : decide (0 < x0_1) = false := decide_eq_false c2
 clear c2
 obtain rfl := Option.some.inj H
 go_wp2
 go_ret
 exact ⟨by first | rfl | (simp; done) | (simp [*]; done), by repeat (first | exact Drawn0.refl _ | apply Drawn0.step)⟩}))
def band_gain.f (k : Nat) (a0 : Int) : Option (Int) := (num_Log2.f k a0).bind fun t307 => (some (wrap64 (t307 + 1)))
theorem band_gain.mono : ∀ a0 k, LeO (band_gain.f k a0) (band_gain.f (k + 1) a0) := by
  intro a0 k
  unfold band_gain.f
  with_reducible repeat' first
   | exact num_Log2.mono _ _
   | exact LeO.refl _
   | exact LeO.none _
   | refine LeO.ite ?_ ?_
   | refine LeO.bind ?_ (fun _ => ?_)
set_option maxHeartbeats 8000000 in
set_option maxRecDepth 100000 in
theorem band_gain.calls (k : Nat) (a0 : Int) (r : Int) (w : World) (h : band_gain.f k a0 = some r) :
    Calls Try.prog 113 #[.int .u64 a0] w fun e w' => e = .returned (.int .i64 r) ∧ Drawn0 w w' := by
 have H : ((num_Log2.f k a0).bind fun t307 => (some (wrap64 (t307 + 1)))) = some r := h
 clear h
 obtain ⟨t307, A2, H⟩ := ob_ H
 (try dsimp only at H)
 obtain rfl := Option.some.inj H
 go_enter Try.func113, Try.ntmps113
 go_wp2_with (first | ((with_reducible refine gate_callee (f := 118) rfl ?_); refine gL_ (some 4) Try.func118 #[.int .u64 a0] ?_; (with_reducible refine (num_Log2.calls k a0 t307 _ A2.out).mono ?_); rintro e w' ⟨rfl, ⟨nd, rfl⟩⟩; refine ⟨_, rfl, ?_⟩))
 go_ret
 exact ⟨by first | rfl | (simp; done) | (simp [*]; done), by repeat (first | exact Drawn0.refl _ | apply Drawn0.step)⟩
def band_Gain.f (k : Nat) (l0 : List Int) : Option (Int × Int) := (pvq_Square.f k l0).bind fun bt308 => (if bt308.2 = 0 then (if (l0.length : Int) > 8 then (some (0, 1)) else ((band_gain.f k bt308.1).bind fun t310 => (some (t310, 0)))) else (some (0, 1)))
theorem band_Gain.mono : ∀ a0 k, LeO (band_Gain.f k a0) (band_Gain.f (k + 1) a0) := by
  intro a0 k
  unfold band_Gain.f
  with_reducible repeat' first
   | exact band_gain.mono _ _
   | exact pvq_Square.mono _ _
   | exact LeO.refl _
   | exact LeO.none _
   | refine LeO.ite ?_ ?_
   | refine LeO.bind ?_ (fun _ => ?_)
set_option maxHeartbeats 8000000 in
set_option maxRecDepth 100000 in
theorem band_Gain.calls (k : Nat) (A0 : Option Addr) (c0 : Nat) (l0 : List Int) (r1 : Int) (r2 : Int) (w : World) (hr0 : Kd.C (Kd.int .i64) w A0 l0.length l0) (hc0 : l0.length ≤ c0) (h : band_Gain.f k l0 = some (r1, r2)) :
    Calls Try.prog 97 #[.slice A0 l0.length c0] w fun e w' => e = .returned (.tuple #[.int .i64 r1, .int .i64 r2]) ∧ Drawn0 w w' := by
 have HR0 := Aside0.mk hr0
 have HC0 := Aside0.mk hc0
 clear hr0 hc0
 have H : ((pvq_Square.f k l0).bind fun bt308 => (if bt308.2 = 0 then (if (l0.length : Int) > 8 then (some (0, 1)) else ((band_gain.f k bt308.1).bind fun t310 => (some (t310, 0)))) else (some (0, 1)))) = some (r1, r2) := h
 clear h
 obtain ⟨⟨t308, t309⟩, A2, H⟩ := ob_ H
 (try dsimp only at H)
 by_cases c3 : t309 = 0
 {
 rw [if_pos c3] at H
 have c3b0 : (t309 == 0) = true := beq_iff_eq.mpr c3
 have c3b1 : (t309 != 0) = false := bne_eq_false_iff_eq.mpr c3
 clear c3
 by_cases c4 : (l0.length : Int) > 8
 {
 rw [if_pos c4] at H
 have c4b0 : decide (8 < (l0.length : Int)) = true := decide_eq_true c4
 have c4b1 : decide (8 < l0.length) = true := decide_eq_true (by omega)
 clear c4
 simp only [Option.some.injEq, Prod.mk.injEq] at H
 obtain ⟨rfl, rfl⟩ := H
 go_enter Try.func97, Try.ntmps97
 go_wp2_with (first | ((with_reducible refine gate_callee (f := 80) rfl ?_); refine gL_ (some 8) Try.func80 #[.slice A0 l0.length c0] ?_; (with_reducible refine (pvq_Square.calls k _ _ l0 t308 t309 _ ?side1 ?side2 A2.out).mono ?_); (case side1 => repeat (first | exact HR0.out | (with_reducible refine Kd.C_alloc ?_ _) | (with_reducible refine Kd.C_drewN ?_ _) | (with_reducible refine Kd.C_drew ?_))); (case side2 => exact HC0.out); rintro e w' ⟨rfl, ⟨nd, rfl⟩⟩; refine ⟨_, rfl, ?_⟩))
 go_ret2
 exact ⟨by first | rfl | (simp; done) | (simp [*]; done), by repeat (first | exact Drawn0.refl _ | apply Drawn0.step)⟩}
 {
 rw [if_neg c4] at H
 have c4b0 : decide (8 < (l0.length : Int)) = false := decide_eq_false c4
 have c4b1 : decide (8 < l0.length) = false := decide_eq_false (by omega)
 clear c4
 obtain ⟨t310, A5, H⟩ := ob_ H
 (try dsimp only at H)
 simp only [Option.some.injEq, Prod.mk.injEq] at H
 obtain ⟨rfl, rfl⟩ := H
 go_enter Try.func97, Try.ntmps97
 go_wp2_with (first | ((with_reducible refine gate_callee (f := 80) rfl ?_); refine gL_ (some 8) Try.func80 #[.slice A0 l0.length c0] ?_; (with_reducible refine (pvq_Square.calls k _ _ l0 t308 t309 _ ?side1 ?side2 A2.out).mono ?_); (case side1 => repeat (first | exact HR0.out | (with_reducible refine Kd.C_alloc ?_ _) | (with_reducible refine Kd.C_drewN ?_ _) | (with_reducible refine Kd.C_drew ?_))); (case side2 => exact HC0.out); rintro e w' ⟨rfl, ⟨nd, rfl⟩⟩; refine ⟨_, rfl, ?_⟩) | ((with_reducible refine gate_callee (f := 113) rfl ?_); refine gL_ (some 19) Try.func113 #[.int .u64 t308] ?_; (with_reducible refine (band_gain.calls k t308 t310 _ A5.out).mono ?_); rintro e w' ⟨rfl, ⟨nd, rfl⟩⟩; refine ⟨_, rfl, ?_⟩))
 go_ret2
 exact ⟨by first | rfl | (simp; done) | (simp [*]; done), by repeat (first | exact Drawn0.refl _ | apply Drawn0.step)⟩}}
 {
 rw [if_neg c3] at H
 have c3b0 : (t309 == 0) = false := beq_eq_false_iff_ne.mpr c3
 have c3b1 : (t309 != 0) = true := bne_iff_ne.mpr c3
 simp only [Option.some.injEq, Prod.mk.injEq] at H
 obtain ⟨rfl, rfl⟩ := H
 go_enter Try.func97, Try.ntmps97
 go_wp2_with (first | ((with_reducible refine gate_callee (f := 80) rfl ?_); refine gL_ (some 8) Try.func80 #[.slice A0 l0.length c0] ?_; (with_reducible refine (pvq_Square.calls k _ _ l0 t308 t309 _ ?side1 ?side2 A2.out).mono ?_); (case side1 => repeat (first | exact HR0.out | (with_reducible refine Kd.C_alloc ?_ _) | (with_reducible refine Kd.C_drewN ?_ _) | (with_reducible refine Kd.C_drew ?_))); (case side2 => exact HC0.out); rintro e w' ⟨rfl, ⟨nd, rfl⟩⟩; refine ⟨_, rfl, ?_⟩))
 go_ret2
 exact ⟨by first | rfl | (simp; done) | (simp [*]; done), by repeat (first | exact Drawn0.refl _ | apply Drawn0.step)⟩}
def band_Gains.l0 : Nat → List Int → List (List Int) → Int → Int → Option (List Int × Int)
  | 0, _, _, _, _ => none
  | k + 1, x6, x19, x20, x21 => if x21 < x20 then (if 0 ≤ x21 then (if x21 < (x19.length : Int) then ((band_Gain.f k (rd_L2 x19 x21)).bind fun bt316 => (if x6.length < 17592186044416 then (band_Gains.l0 k (x6 ++ [bt316.1]) x19 x20 (wrap64 (x21 + 1))) else (none))) else (none)) else (none)) else (some (x6, 0))
def band_Gains.f (k : Nat) (l0 : List Int) : Option (List Int × Int) := (band_Split.f k l0).bind fun bt311 => (if bt311.2 = 0 then (band_Gains.l0 k ([] : List Int) bt311.1 (bt311.1.length : Int) 0) else (some (([] : List Int), bt311.2)))
theorem band_Gains.mono_l : ∀ k, (∀ y0 y1 y2 y3, LeO (band_Gains.l0 k y0 y1 y2 y3) (band_Gains.l0 (k + 1) y0 y1 y2 y3))
  | 0 => fun _ _ _ _ r h => by simp [band_Gains.l0] at h
  | k + 1 => by
    have ih0 := band_Gains.mono_l k
    · intro y0 y1 y2 y3
      unfold band_Gains.l0
      with_reducible repeat' first
   | exact ih0 _ _ _ _
   | exact band_Gain.mono _ _
   | exact band_Split.mono _ _
   | exact LeO.refl _
   | exact LeO.none _
   | refine LeO.ite ?_ ?_
   | refine LeO.bind ?_ (fun _ => ?_)
theorem band_Gains.mono : ∀ a0 k, LeO (band_Gains.f k a0) (band_Gains.f (k + 1) a0) := by
  intro a0 k
  have ih0 := band_Gains.mono_l k
  unfold band_Gains.f
  with_reducible repeat' first
   | exact ih0 _ _ _ _
   | exact band_Gain.mono _ _
   | exact band_Split.mono _ _
   | exact LeO.refl _
   | exact LeO.none _
   | refine LeO.ite ?_ ?_
   | refine LeO.bind ?_ (fun _ => ?_)
set_option maxHeartbeats 8000000 in
set_option maxRecDepth 100000 in
theorem band_Gains.calls (k : Nat) (A0 : Option Addr) (c0 : Nat) (l0 : List Int) (r1 : List Int) (r2 : Int) (w : World) (hr0 : Kd.C (Kd.int .i64) w A0 l0.length l0) (hc0 : l0.length ≤ c0) (h : band_Gains.f k l0 = some (r1, r2)) :
    Calls Try.prog 74 #[.slice A0 l0.length c0] w fun e w' => ∃ v0_ : Value, e = .returned (.tuple #[v0_, .int .i64 r2]) ∧ Kd.R (Kd.int .i64) 3 w' w.heap.size (fun _ => True) v0_ r1 ∧ Below w.heap.size w w' := by
 have HR0 := Aside0.mk hr0
 have HC0 := Aside0.mk hc0
 clear hr0 hc0
 have HB := Aside0.mk (Below.refl w.heap.size w)
 have H : ((band_Split.f k l0).bind fun bt311 => (if bt311.2 = 0 then (band_Gains.l0 k ([] : List Int) bt311.1 (bt311.1.length : Int) 0) else (some (([] : List Int), bt311.2)))) = some (r1, r2) := h
 clear h
 obtain ⟨⟨t311, t314⟩, A2, H⟩ := ob_ H
 (try dsimp only at H)
 by_cases c3 : t314 = 0
 {
 rw [if_pos c3] at H
 have c3b0 : (t314 == 0) = true := beq_iff_eq.mpr c3
 have c3b1 : (t314 != 0) = false := bne_eq_false_iff_eq.mpr c3
 clear c3
 have H' := Aside0.mk H
 clear H
 go_enter Try.func74, Try.ntmps74
 go_wp2_with (first | ((with_reducible refine gate_callee (f := 42) rfl ?_); refine gL_ (some 13) Try.func42 #[.slice A0 l0.length c0] ?_; (with_reducible refine (band_Split.calls k _ _ l0 t311 t314 _ ?side1 ?side2 A2.out).mono ?_); (case side1 => repeat (first | exact HR0.out | (with_reducible refine Kd.C_alloc ?_ _) | (with_reducible refine Kd.C_drewN ?_ _) | (with_reducible refine Kd.C_drew ?_))); (case side2 => exact HC0.out); rintro e w4 ⟨v312, rfl, ho0, hb⟩; refine ⟨_, rfl, ?_⟩; have HO313 := Aside0.mk (Kd.N_lower (Kd.N_mono (ok' := fun k_ => True) ho0 (fun k_ hk_ => trivial)) (bs_ HB)); replace HB := BS_ HB hb; (try clear hb); (try clear ho0); obtain ⟨Ao5, co5, eo5⟩ := Kd.N_slice HO313.out; subst eo5))
 go_loopg [6, 21] k (fun kq v6 v21 w' => ∃ (x6_1 : List Int) (x21_1 : Int), v21 = .int .i64 x21_1 ∧ Aside0 (band_Gains.l0 kq x6_1 t311 (t311.length : Int) x21_1 = some (r1, r2)) ∧ Aside0 (kq ≤ k) ∧ Aside0 (Kd.R (Kd.int .i64) 3 w' w.heap.size (fun _ => True) v6 x6_1) ∧ Aside0 (Kd.N (Kd.slice 2 (Kd.int .i64)) 53 w' w.heap.size (fun k_ => some k_ ≠ (v6 : Value).ownBlock) (.slice Ao5 t311.length co5) t311) ∧ Aside0 (Below w.heap.size w w'))
 case atStart => exact ⟨(([] : List Int)), (0), rs_, H', ⟨Nat.le_refl _⟩, ⟨by first | exact Kd.R_nil _ _ _ _ _ | exact Kd.N_nil _ _ _ _ _ | exact Kd.V_nil _ _ _ _ _ | exact Kd.Q_nil _ _ _ _ _ | exact Kd.S_nil _ _ _ _ _⟩, ⟨by (with_reducible repeat (first | apply Kd.N_alloc | apply Kd.N_drewN | apply Kd.N_drew)); exact Kd.N_mono HO313.out (fun _ hk => (by simp [Value.ownBlock]))⟩, ⟨bl_ HB⟩⟩
 case round => (
 clear H'
 try clear c3
 try clear c3b0
 try clear c3b1
 obtain ⟨x6_1, x21_1, rfl, HA, HK1, HO_6, HO_19, HB⟩ := hrel
 cases gk with
 | zero => exact absurd HA.out (by simp [band_Gains.l0])
 | succ k1 => (
 have H := HA.out
 clear HA
 simp only [band_Gains.l0] at H
 by_cases c6 : x21_1 < (t311.length : Int)
 {
 rw [if_pos c6] at H
 have c6b0 : decide (x21_1 < (t311.length : Int)) = true := decide_eq_true c6
 clear c6
 by_cases c7 : 0 ≤ x21_1
 {
 rw [if_pos c7] at H
 have c7b0 : decide (0 ≤ x21_1) = true := decide_eq_true c7
 clear c7
 by_cases c8 : x21_1 < (t311.length : Int)
 {
 rw [if_pos c8] at H
 have c8b0 : decide (x21_1 < (t311.length : Int)) = true := decide_eq_true c8
 clear c8
 obtain ⟨⟨t316, t317⟩, A9, H⟩ := ob_ H
 (try dsimp only at H)
 by_cases c10 : x6_1.length < 17592186044416
 {
 rw [if_pos c10] at H
 have LMc10 := Aside0.mk c10
 clear c10
 obtain ⟨y318, hy318⟩ : ∃ y_ : List Int, y_ = (x6_1 ++ [t316]) := ⟨_, rfl⟩
 replace H : (band_Gains.l0 k1 y318 t311 (t311.length : Int) (wrap64 (x21_1 + 1))) = some (r1, r2) := by first | (rw [hy318]; with_reducible exact H) | (have H2_ := (Option.bind_some _ _).symm.trans H; rw [hy318]; with_reducible exact H2_) | (have H2_ := (Option.bind_some _ _).symm.trans H; with_reducible exact H2_) | with_reducible exact H | (rw [hy318]; exact H) | exact H
 have Ny318 := Aside0.mk hy318
 clear hy318
 have H' := Aside0.mk H
 clear H
 have p315 : 0 ≤ (x21_1 : Int) := of_decide_eq_true am_
 have q315 : x21_1 < (t311.length : Int) := of_decide_eq_true am_
 obtain ⟨ad315, A315_0, c315_0, e315, hx315_0, hl315_0, hi315_0⟩ := at_L2 (Kd.N_reads' HO_19.out).2.2 x21_1 p315 q315
 cases e315
 obtain ⟨ce315, hce315, hMe315, hcc315⟩ := Kd.N_get HO_19.out [] x21_1 p315 (by first | exact q315 | exact of_decide_eq_true am_ | (have e_ := (Kd.N_reads' HO_19.out).1; omega))
 obtain ⟨ua315_0, uc315_0, rfl, ul315_0, ge315_0⟩ := Kd.FK_slice_open hMe315
 have hv315_0 := hcc315 0 _ rfl
 rw [Nat.add_zero, show ((Kd.slice 2 (Kd.int .i64))).sz = 1 from rfl, Nat.mul_one] at hv315_0
 replace hv315_0 := Option.some.inj (hv315_0.symm.trans hx315_0)
 injection hv315_0 with hva_ hvn_ hvc_
 rw [hva_] at ge315_0
 rw [hvc_] at ul315_0
 have HL315_0 := Aside0.mk (show Kd.V (Kd.int .i64) 2 _ w.heap.size _ _ (rd_L2 t311 x21_1) from Kd.V_mk ul315_0 ge315_0)
 clear hva_ hvn_ hvc_ ge315_0 ul315_0
 clear hcc315 hce315
 have HR315_0 := Aside0.mk hi315_0
 have HC315_0 := Aside0.mk hl315_0
 clear hi315_0 hl315_0
 replace p315 := eq_true p315
 replace q315 := eq_true q315
 go_wp2_with (first | ((with_reducible refine gate_callee (f := 97) rfl ?_); refine gL_ (some 27) Try.func97 #[.slice A315_0 (rd_L2 t311 x21_1).length c315_0] ?_; (with_reducible refine (band_Gain.calls k1 _ _ (rd_L2 t311 x21_1) t316 t317 _ ?side1 ?side2 A9.out).mono ?_); (case side1 => repeat (first | exact (by repeat (first | (with_reducible exact HR315_0.out) | (with_reducible refine Kd.C_alloc ?_ _) | (with_reducible refine Kd.C_drewN ?_ _) | (with_reducible refine Kd.C_drew ?_) | exact HR315_0.out)) | (with_reducible refine Kd.C_alloc ?_ _) | (with_reducible refine Kd.C_drewN ?_ _) | (with_reducible refine Kd.C_drew ?_))); (case side2 => exact HC315_0.out); rintro e w' ⟨rfl, ⟨nd, rfl⟩⟩; refine ⟨_, rfl, ?_⟩) | ((with_reducible refine gate_builtin (b := .append) (xs := #[.tmp 30, .tmp 32]) rfl ?_); at_builtin; refine Kd.R_append (Kd.int .i64) (w0 := w) w.heap.size rfl (.tmp 30) (.tmp 32) 22 3 (.int .i64 0) 8 rfl Try.underlying22 info3 rfl (by decide) (by omega) u6 x6_1 t316 [.int .i64 t316] (fun _ => True) (fun _ => False) rfl rfl ?aP (fun _ hk => hk.elim) ?aF ?aO ?aB ?aS ?aL ?_; (case aP => exact rfl); (case aB => exact (bl_ HB)); (case aF => exact (fun _ _ => trivial)); (case aO => exact (kR_ HO_6)); (case aS => exact (bs_ HB)); (case aL => have := LMc10.out; omega); intro v319 w11 ho hb hg hat; rw [← Ny318.out] at ho; replace HO_19 := Aside0.mk (Kd.N_afterv (ok := (fun _ => True)) (by (with_reducible repeat (first | apply Kd.N_alloc | apply Kd.N_drewN | apply Kd.N_drew)); exact Kd.N_mono HO_19.out (fun _ hk => ⟨trivial, hk⟩)) hg hat); replace HL315_0 := Aside0.mk (Kd.V_afterv (ok := (fun k_ => some k_ ≠ (.slice (some ad315) t311.length co5 : Value).ownBlock)) (by (with_reducible repeat (first | apply Kd.V_alloc | apply Kd.V_drewN | apply Kd.V_drew)); exact Kd.V_mono HL315_0.out (fun _ hk => ⟨hk.2, hk.1⟩)) hg hat); replace HB := Aside0.mk (hb); have HO320 := Aside0.mk (ho); clear HO_6; clear ho hb hg hat))
 go_roundg k1
 case measure => have := HK1.out; omega
 case rel => exact ⟨(y318), (wrap64 (x21_1 + 1)), rs_, H', ⟨by have := HK1.out; omega⟩, ⟨kR_ HO320⟩, ⟨by (with_reducible repeat (first | apply Kd.N_alloc | apply Kd.N_drewN | apply Kd.N_drew)); exact Kd.N_mono HO_19.out (fun _ hk => hk.2)⟩, ⟨bl_ HB⟩⟩}
 {
 rw [if_neg c10] at H
 exact absurd H (by simp)}}
 {
 rw [if_neg c8] at H
 exact absurd H (by simp)}}
 {
 rw [if_neg c7] at H
 exact absurd H (by simp)}}
 {
 rw [if_neg c6] at H
 have c6b0 : decide (x21_1 < (t311.length : Int)) = false := decide_eq_false c6
 clear c6
 simp only [Option.some.injEq, Prod.mk.injEq] at H
 obtain ⟨rfl, rfl⟩ := H
 go_wp2
 go_ret2
 exact ⟨_, by first | rfl | (simp [errW_none, errW_some] <;> rfl) | (simp [*, errW_none, errW_some] <;> rfl), by (with_reducible repeat (first | apply Kd.R_alloc | apply Kd.R_drewN | apply Kd.R_drew)); exact HO_6.out, bl_ HB⟩}))}
 {
 rw [if_neg c3] at H
 have c3b0 : (t314 == 0) = false := beq_eq_false_iff_ne.mpr c3
 have c3b1 : (t314 != 0) = true := bne_iff_ne.mpr c3
 simp only [Option.some.injEq, Prod.mk.injEq] at H
 obtain ⟨rfl, rfl⟩ := H
 go_enter Try.func74, Try.ntmps74
 go_wp2_with (first | ((with_reducible refine gate_callee (f := 42) rfl ?_); refine gL_ (some 13) Try.func42 #[.slice A0 l0.length c0] ?_; (with_reducible refine (band_Split.calls k _ _ l0 t311 t314 _ ?side1 ?side2 A2.out).mono ?_); (case side1 => repeat (first | exact HR0.out | (with_reducible refine Kd.C_alloc ?_ _) | (with_reducible refine Kd.C_drewN ?_ _) | (with_reducible refine Kd.C_drew ?_))); (case side2 => exact HC0.out); rintro e w12 ⟨v312, rfl, ho0, hb⟩; refine ⟨_, rfl, ?_⟩; have HO313 := Aside0.mk (Kd.N_lower (Kd.N_mono (ok' := fun k_ => True) ho0 (fun k_ hk_ => trivial)) (bs_ HB)); replace HB := BS_ HB hb; (try clear hb); (try clear ho0)))
 go_ret2
 exact ⟨_, by first | rfl | (simp [errW_none, errW_some] <;> rfl) | (simp [*, errW_none, errW_some] <;> rfl), by first | exact Kd.R_nil _ _ _ _ _ | exact Kd.N_nil _ _ _ _ _ | exact Kd.V_nil _ _ _ _ _ | exact Kd.Q_nil _ _ _ _ _ | exact Kd.S_nil _ _ _ _ _, bl_ HB⟩}
mutual
def floor_Fit.j0 : Nat → List Int → Int → Bool → Option (List Int × Int)
  | 0, _, _, _ => none
  | k + 1, x0, x1, x18 => if x18 = true then (some (([] : List Int), 1)) else (if 6 ≤ 35184372088832 then (floor_Fit.l0 k x0 x1 (List.replicate 6 0) 0) else (none))
def floor_Fit.l0 : Nat → List Int → Int → List Int → Int → Option (List Int × Int)
  | 0, _, _, _, _ => none
  | k + 1, x0, x1, x6, x20 => if x20 < 6 then (if x1 > 0 then (if 0 ≤ (mn x20 4) then (if (mn x20 4) < (x0.length : Int) then (if 0 ≤ x20 then (if x20 < (x6.length : Int) then (floor_Fit.l0 k x0 x1 (x6.set (x20 : Int).toNat (mx 0 (mn (wrap64 ((wrap64 ((rd x0 (mn x20 4)) - 13)) + x1)) 44))) (wrap64 (x20 + 1))) else (none)) else (none)) else (none)) else (none)) else (floor_Fit.l0 k x0 x1 x6 (wrap64 (x20 + 1)))) else (some (x6, 0))
end
def floor_Fit.f (k : Nat) (l0 : List Int) (a1 : Int) : Option (List Int × Int) := (floor_gains.f k l0 5).bind fun t321 => (if t321 = true then (if a1 < 0 then (floor_Fit.j0 k l0 a1 true) else (floor_Fit.j0 k l0 a1 (decide (a1 > 12)))) else (floor_Fit.j0 k l0 a1 true))
theorem floor_Fit.mono_l : ∀ k, (∀ y0 y1 y2, LeO (floor_Fit.j0 k y0 y1 y2) (floor_Fit.j0 (k + 1) y0 y1 y2)) ∧ (∀ y0 y1 y2 y3, LeO (floor_Fit.l0 k y0 y1 y2 y3) (floor_Fit.l0 (k + 1) y0 y1 y2 y3))
  | 0 => ⟨fun _ _ _ r h => by simp [floor_Fit.j0] at h, fun _ _ _ _ r h => by simp [floor_Fit.l0] at h⟩
  | k + 1 => by
    obtain ⟨ih0, ih1⟩ := floor_Fit.mono_l k
    refine ⟨?_, ?_⟩
    all_goals (intros; first | unfold floor_Fit.j0 | unfold floor_Fit.l0)
    all_goals with_reducible repeat' first
     | exact ih0 _ _ _
     | exact ih1 _ _ _ _
     | exact floor_gains.mono _ _ _
     | exact LeO.refl _
     | exact LeO.none _
     | refine LeO.ite ?_ ?_
     | refine LeO.bind ?_ (fun _ => ?_)
theorem floor_Fit.mono : ∀ a0 a1 k, LeO (floor_Fit.f k a0 a1) (floor_Fit.f (k + 1) a0 a1) := by
  intro a0 a1 k
  obtain ⟨ih0, ih1⟩ := floor_Fit.mono_l k
  unfold floor_Fit.f
  with_reducible repeat' first
   | exact ih0 _ _ _
   | exact ih1 _ _ _ _
   | exact floor_gains.mono _ _ _
   | exact LeO.refl _
   | exact LeO.none _
   | refine LeO.ite ?_ ?_
   | refine LeO.bind ?_ (fun _ => ?_)
set_option maxHeartbeats 8000000 in
set_option maxRecDepth 100000 in
theorem floor_Fit.calls (k : Nat) (A0 : Option Addr) (c0 : Nat) (l0 : List Int) (a1 : Int) (r1 : List Int) (r2 : Int) (w : World) (hr0 : Kd.C (Kd.int .i64) w A0 l0.length l0) (hc0 : l0.length ≤ c0) (h : floor_Fit.f k l0 a1 = some (r1, r2)) :
    Calls Try.prog 75 #[.slice A0 l0.length c0, .int .i64 a1] w fun e w' => ∃ v0_ : Value, e = .returned (.tuple #[v0_, .int .i64 r2]) ∧ Kd.R (Kd.int .i64) 3 w' w.heap.size (fun _ => True) v0_ r1 ∧ Below w.heap.size w w' := by
 have HR0 := Aside0.mk hr0
 have HC0 := Aside0.mk hc0
 clear hr0 hc0
 have HB := Aside0.mk (Below.refl w.heap.size w)
 have H : ((floor_gains.f k l0 5).bind fun t321 => (if t321 = true then (if a1 < 0 then (floor_Fit.j0 k l0 a1 true) else (floor_Fit.j0 k l0 a1 (decide (a1 > 12)))) else (floor_Fit.j0 k l0 a1 true))) = some (r1, r2) := h
 clear h
 have HC3 := Aside0.mk H
 clear H
 go_enter Try.func75, Try.ntmps75
 go_upto_region 1 with (fail)
 go_cut [18] (fun v18 wc => ∃ (kq : Nat) (x18_2 : Bool), v18 = .bool x18_2 ∧ Aside0 (floor_Fit.j0 kq l0 a1 x18_2 = some (r1, r2)) ∧ Aside0 (kq ≤ k) ∧ Aside0 (Below w.heap.size w wc))
 case first => (
 have H := HC3.out
 clear HC3
 obtain ⟨t321, A4, H⟩ := ob_ H
 (try dsimp only at H)
 by_cases c5 : t321 = true
 {
 subst c5
 rw [if_pos rfl] at H
 by_cases c6 : a1 < 0
 {
 rw [if_pos c6] at H
 have c6b0 : decide (a1 < 0) = true := decide_eq_true c6
 clear c6
 (first | rw [c6b0] | (simp only [i64_w, i32_w]; rw [c6b0]) | skip)
 have H' := Aside0.mk H
 clear H
 go_wp2_with (first | ((with_reducible refine gate_callee (f := 98) rfl ?_); refine gL_ (some 9) Try.func98 #[.slice A0 l0.length c0, .int .i64 5] ?_; (with_reducible refine (floor_gains.calls k _ _ l0 5 true _ ?side1 ?side2 A4.out).mono ?_); (case side1 => exact kC_ HR0 HB); (case side2 => exact HC0.out); rintro e w' ⟨rfl, ⟨nd, rfl⟩⟩; refine ⟨_, rfl, ?_⟩))
 go_meet
 case rel => exact ⟨_, (true), rs_, H', ⟨ol_⟩, ⟨bl_ HB⟩⟩}
 {
 rw [if_neg c6] at H
 have c6b0 : decide (a1 < 0) = false := decide_eq_false c6
 clear c6
 (first | rw [c6b0] | (simp only [i64_w, i32_w]; rw [c6b0]) | skip)
 have H' := Aside0.mk H
 clear H
 go_wp2_with (first | ((with_reducible refine gate_callee (f := 98) rfl ?_); refine gL_ (some 9) Try.func98 #[.slice A0 l0.length c0, .int .i64 5] ?_; (with_reducible refine (floor_gains.calls k _ _ l0 5 true _ ?side1 ?side2 A4.out).mono ?_); (case side1 => exact kC_ HR0 HB); (case side2 => exact HC0.out); rintro e w' ⟨rfl, ⟨nd, rfl⟩⟩; refine ⟨_, rfl, ?_⟩))
 go_meet
 case rel => exact ⟨_, (decide (a1 > 12)), rs_, H', ⟨ol_⟩, ⟨bl_ HB⟩⟩}}
 {
 replace c5 := Bool.eq_false_iff.mpr c5
 subst c5
 rw [if_neg (show ¬ (false = true) by decide)] at H
 have H' := Aside0.mk H
 clear H
 go_wp2_with (first | ((with_reducible refine gate_callee (f := 98) rfl ?_); refine gL_ (some 9) Try.func98 #[.slice A0 l0.length c0, .int .i64 5] ?_; (with_reducible refine (floor_gains.calls k _ _ l0 5 false _ ?side1 ?side2 A4.out).mono ?_); (case side1 => exact kC_ HR0 HB); (case side2 => exact HC0.out); rintro e w' ⟨rfl, ⟨nd, rfl⟩⟩; refine ⟨_, rfl, ?_⟩))
 go_meet
 case rel => exact ⟨_, (true), rs_, H', ⟨ol_⟩, ⟨bl_ HB⟩⟩})
 case rest => (
 clear HC3
 obtain ⟨kq, x18_2, rfl, HA, HJ2, HB⟩ := hcut
 cases kq with
 | zero => exact absurd HA.out (by simp [floor_Fit.j0])
 | succ kj2 => (
 have H := HA.out
 clear HA
 simp only [floor_Fit.j0] at H
 by_cases c7 : x18_2 = true
 {
 subst c7
 rw [if_pos rfl] at H
 simp only [Option.some.injEq, Prod.mk.injEq] at H
 obtain ⟨rfl, rfl⟩ := H
 go_wp2
 go_ret2
 exact ⟨_, by first | rfl | (simp [errW_none, errW_some] <;> rfl) | (simp [*, errW_none, errW_some] <;> rfl), by first | exact Kd.R_nil _ _ _ _ _ | exact Kd.N_nil _ _ _ _ _ | exact Kd.V_nil _ _ _ _ _ | exact Kd.Q_nil _ _ _ _ _ | exact Kd.S_nil _ _ _ _ _, bl_ HB⟩}
 {
 replace c7 := Bool.eq_false_iff.mpr c7
 subst c7
 rw [if_neg (show ¬ (false = true) by decide)] at H
 by_cases c8 : 6 ≤ 35184372088832
 {
 rw [if_pos c8] at H
 have c8b0 := eq_true c8
 have c8b1 : decide (6 ≤ 35184372088832) = true := decide_eq_true c8
 clear c8
 obtain ⟨y322, hy322⟩ : ∃ y_ : List Int, y_ = (List.replicate 6 0) := ⟨_, rfl⟩
 replace H : (floor_Fit.l0 kj2 l0 a1 y322 0) = some (r1, r2) := by first | (rw [hy322]; with_reducible exact H) | (have H2_ := (Option.bind_some _ _).symm.trans H; rw [hy322]; with_reducible exact H2_) | (have H2_ := (Option.bind_some _ _).symm.trans H; with_reducible exact H2_) | with_reducible exact H | (rw [hy322]; exact H) | exact H
 have Ny322 := Aside0.mk hy322
 clear hy322
 have H' := Aside0.mk H
 clear H
 go_wp2_with (first | ((with_reducible refine gate_dst (N := 19) rfl ?_); refine Kd.R_make (Kd.int .i64) _ 3 rfl (N := 19) rfl 22 _ _ rfl 6 rfl rfl Try.underlying22 (.int .i64 0) 8 info3 rfl (by decide) (by omega) 0 (ok := fun _ => True) (okp := fun _ => True) rfl (fun _ hk => hk) trivial (by omega) (by omega) (Below.refl _ _) (Nat.le_refl _) ?_; intro v323 w9 ho10 hb hg_ hnew_; clear hg_ hnew_; (first | rw [← Ny322.out] at ho10 | (simp only [Int.reduceToNat] at ho10; rw [← Ny322.out] at ho10)); have HO324 := Aside0.mk (Kd.R_lower ho10 (bs_ HB)); replace HB := BS_ HB hb; clear hb ho10))
 go_loopg [20] kj2 (fun kq v20 w' => ∃ (x6_2 : List Int) (x20_2 : Int), v20 = .int .i64 x20_2 ∧ Aside0 (floor_Fit.l0 kq l0 a1 x6_2 x20_2 = some (r1, r2)) ∧ Aside0 (kq ≤ kj2) ∧ Aside0 (Kd.R (Kd.int .i64) 3 w' w.heap.size (fun _ => True) v323 x6_2) ∧ Aside0 (Below w.heap.size w w'))
 case atStart => exact ⟨(y322), (0), rs_, H', ⟨Nat.le_refl _⟩, ⟨kR_ HO324⟩, ⟨bl_ HB⟩⟩
 case round => (
 clear H'
 try clear c7
 try clear c8
 try clear c8b0
 try clear c8b1
 obtain ⟨x6_2, x20_2, rfl, HA, HK2, HO_6, HB⟩ := hrel
 cases gk with
 | zero => exact absurd HA.out (by simp [floor_Fit.l0])
 | succ k2 => (
 have H := HA.out
 clear HA
 simp only [floor_Fit.l0] at H
 by_cases c11 : x20_2 < 6
 {
 rw [if_pos c11] at H
 have c11b0 : decide (x20_2 < 6) = true := decide_eq_true c11
 clear c11
 by_cases c12 : a1 > 0
 {
 rw [if_pos c12] at H
 have c12b0 : decide (0 < a1) = true := decide_eq_true c12
 clear c12
 obtain ⟨ji13, hji13⟩ : ∃ j_ : Int, (mn x20_2 4) = j_ := ⟨_, rfl⟩
 replace H : (if 0 ≤ (ji13) then (if (ji13) < (l0.length : Int) then (if 0 ≤ x20_2 then (if x20_2 < (x6_2.length : Int) then (floor_Fit.l0 k2 l0 a1 (x6_2.set (x20_2 : Int).toNat (mx 0 (mn (wrap64 ((wrap64 ((rd l0 (ji13)) - 13)) + a1)) 44))) (wrap64 (x20_2 + 1))) else (none)) else (none)) else (none)) else (none)) = some (r1, r2) := by first | (rw [hji13] at H; exact H) | (simp only [hji13] at H ⊢; exact H)
 have hji13_ : (if 4 < x20_2 then 4 else x20_2) = ji13 := hji13
 by_cases c14 : 0 ≤ (ji13)
 {
 rw [if_pos c14] at H
 have c14b0 : decide (0 ≤ (ji13)) = true := decide_eq_true c14
 clear c14
 by_cases c15 : (ji13) < (l0.length : Int)
 {
 rw [if_pos c15] at H
 have c15b0 : decide ((ji13) < (l0.length : Int)) = true := decide_eq_true c15
 clear c15
 obtain ⟨ji16, hji16⟩ : ∃ j_ : Int, (mn (wrap64 ((wrap64 ((rd l0 (ji13)) - 13)) + a1)) 44) = j_ := ⟨_, rfl⟩
 replace H : (if 0 ≤ x20_2 then (if x20_2 < (x6_2.length : Int) then (floor_Fit.l0 k2 l0 a1 (x6_2.set (x20_2 : Int).toNat (mx 0 (ji16))) (wrap64 (x20_2 + 1))) else (none)) else (none)) = some (r1, r2) := by first | (rw [hji16] at H; exact H) | (simp only [hji16] at H ⊢; exact H)
 have hji16_ : (if 44 < (wrap64 ((wrap64 ((rd l0 (ji13)) - 13)) + a1)) then 44 else (wrap64 ((wrap64 ((rd l0 (ji13)) - 13)) + a1))) = ji16 := hji16
 obtain ⟨ji17, hji17⟩ : ∃ j_ : Int, (mx 0 (ji16)) = j_ := ⟨_, rfl⟩
 replace H : (if 0 ≤ x20_2 then (if x20_2 < (x6_2.length : Int) then (floor_Fit.l0 k2 l0 a1 (x6_2.set (x20_2 : Int).toNat (ji17)) (wrap64 (x20_2 + 1))) else (none)) else (none)) = some (r1, r2) := by first | (rw [hji17] at H; exact H) | (simp only [hji17] at H ⊢; exact H)
 have hji17_ : (if 0 < (ji16) then (ji16) else 0) = ji17 := hji17
 by_cases c18 : 0 ≤ x20_2
 {
 rw [if_pos c18] at H
 have c18b0 : decide (0 ≤ x20_2) = true := decide_eq_true c18
 clear c18
 by_cases c19 : x20_2 < (x6_2.length : Int)
 {
 rw [if_pos c19] at H
 have c19b0 : decide (x20_2 < (x6_2.length : Int)) = true := decide_eq_true c19
 clear c19
 obtain ⟨y326, hy326⟩ : ∃ y_ : List Int, y_ = (x6_2.set (x20_2 : Int).toNat (ji17)) := ⟨_, rfl⟩
 replace H : (floor_Fit.l0 k2 l0 a1 y326 (wrap64 (x20_2 + 1))) = some (r1, r2) := by first | (rw [hy326]; with_reducible exact H) | (have H2_ := (Option.bind_some _ _).symm.trans H; rw [hy326]; with_reducible exact H2_) | (have H2_ := (Option.bind_some _ _).symm.trans H; with_reducible exact H2_) | with_reducible exact H | (rw [hy326]; exact H) | exact H
 have Ny326 := Aside0.mk hy326
 clear hy326
 have H' := Aside0.mk H
 clear H
 have p325 : 0 ≤ ((ji13) : Int) := of_decide_eq_true am_
 have q325 : (ji13) < (l0.length : Int) := of_decide_eq_true am_
 obtain ⟨ad325, e325, hx325_0⟩ := Kd.at_int HR0.out (ji13) p325 q325
 cases e325
 replace hx325_0 := (HB.out.cell (World.block_lt_of_cell? w _ hx325_0)).trans hx325_0
 replace p325 := eq_true p325
 replace q325 := eq_true q325
 have p20 : 0 ≤ (x20_2 : Int) := of_decide_eq_true am_
 have q20 : (x20_2 : Int) < ((x6_2.length : Int) : Int) := of_decide_eq_true am_
 obtain ⟨go20, co20, eo20, gb20, gl20, cl20, HG20⟩ := Kd.R_form HO_6.out (by omega)
 (first | cases eo20 | (injection eo20 with ea_ en_ ec_; (first | subst ea_ | (injection ea_ with ea_; subst ea_)); subst ec_; clear en_))
 have GB20 := Aside0.mk gb20
 have GG20 := Aside0.mk HG20
 clear gb20 gl20 HG20
 obtain ⟨hx20_0, hf20_0⟩ := Kd.R_celln 0 HO_6.out (x20_2 : Int) p20 q20
 replace p20 := eq_true p20
 replace q20 := eq_true q20
 have HP21 := Kd.R_putg HO_6.out (x20_2 : Int) ji17
 go_wp2_with (first | ((with_reducible refine gate_store (t := 3) (p := 37) rfl ?_); refine store_event (t := 3) (p := 37) (v := ?vo_w22) (w1 := (wr.setCell ⟨go20, (x20_2 : Int).toNat, none⟩ (.int .i64 ji17))) ?hg ?ho ?hn ?hr ?_; (case ho => rfl); (case hg => rfl); (case hn => rfl); (case hr => first | (go_simp; done) | (go_simp; rfl)); intro w22 hw; have hg : wr.grownBy w22 (some go20) := (by rw [hw]; exact HP21.2); have hp_ : Kd.R (Kd.int .i64) 3 w22 w.heap.size (fun _ => True) (.slice (some ⟨go20, 0, none⟩) x6_2.length co20) y326 := (by rw [hw, Ny326.out]; exact HP21.1); clear HP21; replace HO_6 := Aside0.mk (hp_); replace HB := Aside0.mk ((by rw [hw]; exact below_set (HB.out) GB20.out : Below w.heap.size w w22)); clear hg hw hp_))
 go_roundg k2
 case measure => have := HJ2.out; have := HK2.out; omega
 case rel => exact ⟨(y326), (wrap64 (x20_2 + 1)), rs_, H', ⟨by have := HJ2.out; have := HK2.out; omega⟩, ⟨kR_ HO_6⟩, ⟨bl_ HB⟩⟩}
 {
 rw [if_neg c19] at H
 exact absurd H (by simp)}}
 {
 rw [if_neg c18] at H
 exact absurd H (by simp)}}
 {
 rw [if_neg c15] at H
 exact absurd H (by simp)}}
 {
 rw [if_neg c14] at H
 exact absurd H (by simp)}}
 {
 rw [if_neg c12] at H
 have c12b0 : decide (0 < a1) = false := decide_eq_false c12
 clear c12
 have H' := Aside0.mk H
 clear H
 go_wp2
 go_roundg k2
 case measure => have := HJ2.out; have := HK2.out; omega
 case rel => exact ⟨(x6_2), (wrap64 (x20_2 + 1)), rs_, H', ⟨by have := HJ2.out; have := HK2.out; omega⟩, ⟨kR_ HO_6⟩, ⟨bl_ HB⟩⟩}}
 {
 rw [if_neg c11] at H
 have c11b0 : decide (x20_2 < 6) = false := decide_eq_false c11
 clear c11
 simp only [Option.some.injEq, Prod.mk.injEq] at H
 obtain ⟨rfl, rfl⟩ := H
 go_wp2
 go_ret2
 exact ⟨_, by first | rfl | (simp [errW_none, errW_some] <;> rfl) | (simp [*, errW_none, errW_some] <;> rfl), by (with_reducible repeat (first | apply Kd.R_alloc | apply Kd.R_drewN | apply Kd.R_drew)); exact HO_6.out, bl_ HB⟩}))}
 {
 rw [if_neg c8] at H
 exact absurd H (by simp)}}))
def vcodec_codec_settled.l0 : Nat → Int → Int → List Int → Int → Int → Option (Int)
  | 0, _, _, _, _, _ => none
  | k + 1, x1, x5, x10, x11, x12 => if x12 < x11 then (if 0 ≤ x12 then (if x12 < (x10.length : Int) then (if (rd x10 x12) > 0 then (if x5 < 0 then (vcodec_codec_settled.l0 k x1 x12 x10 x11 (wrap64 (x12 + 1))) else (if x12 ≤ x1 then (vcodec_codec_settled.l0 k x1 x12 x10 x11 (wrap64 (x12 + 1))) else (vcodec_codec_settled.l0 k x1 x5 x10 x11 (wrap64 (x12 + 1))))) else (vcodec_codec_settled.l0 k x1 x5 x10 x11 (wrap64 (x12 + 1)))) else (none)) else (none)) else (some x5)
def vcodec_codec_settled.f (k : Nat) (a0_0 : Int) (a0_1 : Int) (l0_2 : List Int) (l0_3 : List Int) (a1 : Int) : Option (Int) := vcodec_codec_settled.l0 k a1 (-1) l0_2 (l0_2.length : Int) 0
theorem vcodec_codec_settled.mono_l : ∀ k, (∀ y0 y1 y2 y3 y4, LeO (vcodec_codec_settled.l0 k y0 y1 y2 y3 y4) (vcodec_codec_settled.l0 (k + 1) y0 y1 y2 y3 y4))
  | 0 => fun _ _ _ _ _ r h => by simp [vcodec_codec_settled.l0] at h
  | k + 1 => by
    have ih0 := vcodec_codec_settled.mono_l k
    · intro y0 y1 y2 y3 y4
      unfold vcodec_codec_settled.l0
      with_reducible repeat' first
   | exact ih0 _ _ _ _ _
   | exact LeO.refl _
   | exact LeO.none _
   | refine LeO.ite ?_ ?_
   | refine LeO.bind ?_ (fun _ => ?_)
theorem vcodec_codec_settled.mono : ∀ a0 a1 a2 a3 a4 k, LeO (vcodec_codec_settled.f k a0 a1 a2 a3 a4) (vcodec_codec_settled.f (k + 1) a0 a1 a2 a3 a4) := by
  intro a0 a1 a2 a3 a4 k
  have ih0 := vcodec_codec_settled.mono_l k
  unfold vcodec_codec_settled.f
  with_reducible repeat' first
   | exact ih0 _ _ _ _ _
   | exact LeO.refl _
   | exact LeO.none _
   | refine LeO.ite ?_ ?_
   | refine LeO.bind ?_ (fun _ => ?_)
set_option maxHeartbeats 8000000 in
set_option maxRecDepth 100000 in
theorem vcodec_codec_settled.calls (k : Nat) (a0_0 : Int) (a0_1 : Int) (A0_2 : Option Addr) (c0_2 : Nat) (l0_2 : List Int) (A0_3 : Option Addr) (c0_3 : Nat) (l0_3 : List Int) (a1 : Int) (r : Int) (w : World) (hr0_2 : Kd.C (Kd.int .i64) w A0_2 l0_2.length l0_2) (hc0_2 : l0_2.length ≤ c0_2) (hr0_3 : Kd.C (Kd.int .i64) w A0_3 l0_3.length l0_3) (hc0_3 : l0_3.length ≤ c0_3) (h : vcodec_codec_settled.f k a0_0 a0_1 l0_2 l0_3 a1 = some r) :
    Calls Try.prog 76 #[.agg #[.int .i64 a0_0, .int .i64 a0_1, .slice A0_2 l0_2.length c0_2, .slice A0_3 l0_3.length c0_3], .int .i64 a1] w fun e w' => e = .returned (.int .i64 r) ∧ Below w.heap.size w w' := by
 have hu61 := Try.underlying61
 have HR0_2 := Aside0.mk hr0_2
 have HC0_2 := Aside0.mk hc0_2
 clear hr0_2 hc0_2
 have HR0_3 := Aside0.mk hr0_3
 have HC0_3 := Aside0.mk hc0_3
 clear hr0_3 hc0_3
 have HB := Aside0.mk (Below.refl w.heap.size w)
 have H : (vcodec_codec_settled.l0 k a1 (-1) l0_2 (l0_2.length : Int) 0) = some r := h
 clear h
 have H' := Aside0.mk H
 clear H
 go_enter Try.func76, Try.ntmps76
 go_wp2_with (first | ((with_reducible refine gate_dst (N := 2) rfl ?_); refine bx_ HB 2 #[.int .i64 a0_0, .int .i64 a0_1, .slice A0_2 l0_2.length c0_2, .slice A0_3 l0_3.length c0_3] 61 ?_; clear HB; intro gb327 hg w3 hb BK327 GE327 HB; have GW327 := GE327; clear hb hg; obtain ⟨hcz4_0, hcz4_1, hcz4_2, hcz4_3, hfz4_0, hfz4_1, hfz4_2, hfz4_3⟩ := e4_ BK327))
 go_loopg [5, 12] k (fun kq v5 v12 w' => ∃ (x5_1 : Int) (x12_1 : Int), v5 = .int .i64 x5_1 ∧ v12 = .int .i64 x12_1 ∧ Aside0 (vcodec_codec_settled.l0 kq a1 x5_1 l0_2 (l0_2.length : Int) x12_1 = some r) ∧ Aside0 (kq ≤ k) ∧ Aside0 (w'.heap[gb327]? = some (.cells #[.int .i64 a0_0, .int .i64 a0_1, (.slice A0_2 l0_2.length c0_2), (.slice A0_3 l0_3.length c0_3)] 61 (0, 0))) ∧ Aside0 (Below w.heap.size w w'))
 case atStart => exact ⟨((-1)), (0), rs_, rs_, H', ⟨Nat.le_refl _⟩, ⟨bk_ BK327⟩, ⟨bl_ HB⟩⟩
 case round => (
 clear H'
 try clear hcz4_0
 try clear hcz4_1
 try clear hcz4_2
 try clear hcz4_3
 try clear hfz4_0
 try clear hfz4_1
 try clear hfz4_2
 try clear hfz4_3
 obtain ⟨x5_1, x12_1, rfl, rfl, HA, HK1, BK327, HB⟩ := hrel
 cases gk with
 | zero => exact absurd HA.out (by simp [vcodec_codec_settled.l0])
 | succ k1 => (
 have H := HA.out
 clear HA
 simp only [vcodec_codec_settled.l0] at H
 by_cases c5 : x12_1 < (l0_2.length : Int)
 {
 rw [if_pos c5] at H
 have c5b0 : decide (x12_1 < (l0_2.length : Int)) = true := decide_eq_true c5
 clear c5
 by_cases c6 : 0 ≤ x12_1
 {
 rw [if_pos c6] at H
 have c6b0 : decide (0 ≤ x12_1) = true := decide_eq_true c6
 clear c6
 by_cases c7 : x12_1 < (l0_2.length : Int)
 {
 rw [if_pos c7] at H
 have c7b0 : decide (x12_1 < (l0_2.length : Int)) = true := decide_eq_true c7
 clear c7
 by_cases c8 : (rd l0_2 x12_1) > 0
 {
 rw [if_pos c8] at H
 have c8b0 : decide (0 < (rd l0_2 x12_1)) = true := decide_eq_true c8
 clear c8
 by_cases c9 : x5_1 < 0
 {
 rw [if_pos c9] at H
 have c9b0 : decide (x5_1 < 0) = true := decide_eq_true c9
 clear c9
 have H' := Aside0.mk H
 clear H
 have p328 : 0 ≤ (x12_1 : Int) := of_decide_eq_true am_
 have q328 : x12_1 < (l0_2.length : Int) := of_decide_eq_true am_
 obtain ⟨ad328, e328, hx328_0⟩ := Kd.at_int HR0_2.out x12_1 p328 q328
 cases e328
 replace hx328_0 := (HB.out.cell (World.block_lt_of_cell? w _ hx328_0)).trans hx328_0
 replace p328 := eq_true p328
 replace q328 := eq_true q328
 go_wp2
 go_roundg k1
 case measure => have := HK1.out; omega
 case rel => exact ⟨(x12_1), (wrap64 (x12_1 + 1)), rs_, rs_, H', ⟨by have := HK1.out; omega⟩, ⟨bk_ BK327⟩, ⟨bl_ HB⟩⟩}
 {
 rw [if_neg c9] at H
 have c9b0 : decide (x5_1 < 0) = false := decide_eq_false c9
 clear c9
 by_cases c10 : x12_1 ≤ a1
 {
 rw [if_pos c10] at H
 have c10b0 : decide (x12_1 ≤ a1) = true := decide_eq_true c10
 clear c10
 have H' := Aside0.mk H
 clear H
 have p328 : 0 ≤ (x12_1 : Int) := of_decide_eq_true am_
 have q328 : x12_1 < (l0_2.length : Int) := of_decide_eq_true am_
 obtain ⟨ad328, e328, hx328_0⟩ := Kd.at_int HR0_2.out x12_1 p328 q328
 cases e328
 replace hx328_0 := (HB.out.cell (World.block_lt_of_cell? w _ hx328_0)).trans hx328_0
 replace p328 := eq_true p328
 replace q328 := eq_true q328
 go_wp2
 go_roundg k1
 case measure => have := HK1.out; omega
 case rel => exact ⟨(x12_1), (wrap64 (x12_1 + 1)), rs_, rs_, H', ⟨by have := HK1.out; omega⟩, ⟨bk_ BK327⟩, ⟨bl_ HB⟩⟩}
 {
 rw [if_neg c10] at H
 have c10b0 : decide (x12_1 ≤ a1) = false := decide_eq_false c10
 clear c10
 have H' := Aside0.mk H
 clear H
 have p328 : 0 ≤ (x12_1 : Int) := of_decide_eq_true am_
 have q328 : x12_1 < (l0_2.length : Int) := of_decide_eq_true am_
 obtain ⟨ad328, e328, hx328_0⟩ := Kd.at_int HR0_2.out x12_1 p328 q328
 cases e328
 replace hx328_0 := (HB.out.cell (World.block_lt_of_cell? w _ hx328_0)).trans hx328_0
 replace p328 := eq_true p328
 replace q328 := eq_true q328
 go_wp2
 go_roundg k1
 case measure => have := HK1.out; omega
 case rel => exact ⟨(x5_1), (wrap64 (x12_1 + 1)), rs_, rs_, H', ⟨by have := HK1.out; omega⟩, ⟨bk_ BK327⟩, ⟨bl_ HB⟩⟩}}}
 {
 rw [if_neg c8] at H
 have c8b0 : decide (0 < (rd l0_2 x12_1)) = false := decide_eq_false c8
 clear c8
 have H' := Aside0.mk H
 clear H
 have p328 : 0 ≤ (x12_1 : Int) := of_decide_eq_true am_
 have q328 : x12_1 < (l0_2.length : Int) := of_decide_eq_true am_
 obtain ⟨ad328, e328, hx328_0⟩ := Kd.at_int HR0_2.out x12_1 p328 q328
 cases e328
 replace hx328_0 := (HB.out.cell (World.block_lt_of_cell? w _ hx328_0)).trans hx328_0
 replace p328 := eq_true p328
 replace q328 := eq_true q328
 go_wp2
 go_roundg k1
 case measure => have := HK1.out; omega
 case rel => exact ⟨(x5_1), (wrap64 (x12_1 + 1)), rs_, rs_, H', ⟨by have := HK1.out; omega⟩, ⟨bk_ BK327⟩, ⟨bl_ HB⟩⟩}}
 {
 rw [if_neg c7] at H
 exact absurd H (by simp)}}
 {
 rw [if_neg c6] at H
 exact absurd H (by simp)}}
 {
 rw [if_neg c5] at H
 have c5b0 : decide (x12_1 < (l0_2.length : Int)) = false := decide_eq_false c5
 clear c5
 obtain rfl := Option.some.inj H
 go_wp2
 go_ret
 exact ⟨by first | rfl | (simp [errW_none, errW_some] <;> rfl) | (simp [*, errW_none, errW_some] <;> rfl), bl_ HB⟩}))
def vcodec_codec_posts.l0 : Nat → List Int → Int → Int → Int → Int → List Int → List Int → Option (List Int)
  | 0, _, _, _, _, _, _, _ => none
  | k + 1, x7, x24, x25, x330000, x330001, x330002, x330003 => if x25 < x24 then (if 0 ≤ x25 then (if x25 < (x7.length : Int) then ((vcodec_codec_settled.f k x330000 x330001 x330002 x330003 (rd x7 x25)).bind fun t339 => (vcodec_codec_posts.l0 k (x7.set (x25 : Int).toNat t339) x24 (wrap64 (x25 + 1)) x330000 x330001 x330002 x330003)) else (none)) else (none)) else (some x7)
def vcodec_codec_posts.f (k : Nat) (a0_0 : Int) (a0_1 : Int) (l0_2 : List Int) (l0_3 : List Int) (l1 : List Int) : Option (List Int) := (band_Gains.f k l1).bind fun bt330 => ((floor_Fit.f k bt330.1 a0_1).bind fun bt334 => (vcodec_codec_posts.l0 k bt334.1 (bt334.1.length : Int) 0 a0_0 a0_1 l0_2 l0_3))
theorem vcodec_codec_posts.mono_l : ∀ k, (∀ y0 y1 y2 y3 y4 y5 y6, LeO (vcodec_codec_posts.l0 k y0 y1 y2 y3 y4 y5 y6) (vcodec_codec_posts.l0 (k + 1) y0 y1 y2 y3 y4 y5 y6))
  | 0 => fun _ _ _ _ _ _ _ r h => by simp [vcodec_codec_posts.l0] at h
  | k + 1 => by
    have ih0 := vcodec_codec_posts.mono_l k
    · intro y0 y1 y2 y3 y4 y5 y6
      unfold vcodec_codec_posts.l0
      with_reducible repeat' first
   | exact ih0 _ _ _ _ _ _ _
   | exact band_Gains.mono _ _
   | exact floor_Fit.mono _ _ _
   | exact vcodec_codec_settled.mono _ _ _ _ _ _
   | exact LeO.refl _
   | exact LeO.none _
   | refine LeO.ite ?_ ?_
   | refine LeO.bind ?_ (fun _ => ?_)
theorem vcodec_codec_posts.mono : ∀ a0 a1 a2 a3 a4 k, LeO (vcodec_codec_posts.f k a0 a1 a2 a3 a4) (vcodec_codec_posts.f (k + 1) a0 a1 a2 a3 a4) := by
  intro a0 a1 a2 a3 a4 k
  have ih0 := vcodec_codec_posts.mono_l k
  unfold vcodec_codec_posts.f
  with_reducible repeat' first
   | exact ih0 _ _ _ _ _ _ _
   | exact band_Gains.mono _ _
   | exact floor_Fit.mono _ _ _
   | exact vcodec_codec_settled.mono _ _ _ _ _ _
   | exact LeO.refl _
   | exact LeO.none _
   | refine LeO.ite ?_ ?_
   | refine LeO.bind ?_ (fun _ => ?_)
def vcodec_codec_posts.T6 : Bool × List (List Nat × List Nat) := (true, [([], []), ([], []), ([], []), ([], []), ([], []), ([3, 4], [3, 4]), ([5], [5]), ([2, 6], [2, 6]), ([0, 1, 0, 1, 2, 3, 4, 5, 6, 7], [0, 1]), ([8, 7, 7, 0, 1, 2, 3, 4, 5, 6, 7], [7, 8])])
def vcodec_codec_posts.B6 : List Nat := [0, 0, 0, 0, 0, 24, 56, 124, 255, 511]
theorem vcodec_codec_posts.tab6 : rtab .any (opsOf Try.f37 6) = vcodec_codec_posts.T6 := by kernel_rfl
theorem vcodec_codec_posts.bits6 : waitsOk vcodec_codec_posts.T6.2 vcodec_codec_posts.B6 = true := by kernel_rfl
set_option maxHeartbeats 8000000 in
set_option maxRecDepth 100000 in
theorem vcodec_codec_posts.calls (k : Nat) (a0_0 : Int) (a0_1 : Int) (A0_2 : Option Addr) (c0_2 : Nat) (l0_2 : List Int) (A0_3 : Option Addr) (c0_3 : Nat) (l0_3 : List Int) (A1 : Option Addr) (c1 : Nat) (l1 : List Int) (r : List Int) (w : World) (hr0_2 : Kd.C (Kd.int .i64) w A0_2 l0_2.length l0_2) (hc0_2 : l0_2.length ≤ c0_2) (hr0_3 : Kd.C (Kd.int .i64) w A0_3 l0_3.length l0_3) (hc0_3 : l0_3.length ≤ c0_3) (hr1 : Kd.C (Kd.int .i64) w A1 l1.length l1) (hc1 : l1.length ≤ c1) (h : vcodec_codec_posts.f k a0_0 a0_1 l0_2 l0_3 l1 = some r) :
    Calls Try.prog 37 #[.agg #[.int .i64 a0_0, .int .i64 a0_1, .slice A0_2 l0_2.length c0_2, .slice A0_3 l0_3.length c0_3], .slice A1 l1.length c1] w fun e w' => ∃ v0_ : Value, e = .returned (v0_) ∧ Kd.R (Kd.int .i64) 3 w' w.heap.size (fun _ => True) v0_ r ∧ Below w.heap.size w w' := by
 have hu61 := Try.underlying61
 have HR0_2 := Aside0.mk hr0_2
 have HC0_2 := Aside0.mk hc0_2
 clear hr0_2 hc0_2
 have HR0_3 := Aside0.mk hr0_3
 have HC0_3 := Aside0.mk hc0_3
 clear hr0_3 hc0_3
 have HR1 := Aside0.mk hr1
 have HC1 := Aside0.mk hc1
 clear hr1 hc1
 have HB := Aside0.mk (Below.refl w.heap.size w)
 have H : ((band_Gains.f k l1).bind fun bt330 => ((floor_Fit.f k bt330.1 a0_1).bind fun bt334 => (vcodec_codec_posts.l0 k bt334.1 (bt334.1.length : Int) 0 a0_0 a0_1 l0_2 l0_3))) = some r := h
 clear h
 obtain ⟨⟨t330, t331⟩, A3, H⟩ := ob_ H
 (try dsimp only at H)
 obtain ⟨⟨t334, t335⟩, A4, H⟩ := ob_ H
 (try dsimp only at H)
 have H' := Aside0.mk H
 clear H
 go_enter Try.func37, Try.ntmps37
 go_wp2_with (first | ((with_reducible refine gate_dst (N := 2) rfl ?_); refine bx_ HB 2 #[.int .i64 a0_0, .int .i64 a0_1, .slice A0_2 l0_2.length c0_2, .slice A0_3 l0_3.length c0_3] 61 ?_; clear HB; intro gb329 hg w5 hb BK329 GE329 HB; have GW329 := GE329; clear hb hg) | ((with_reducible refine gate_callee (f := 74) rfl ?_); refine gL_ (some 12) Try.func74 #[.slice A1 l1.length c1] ?_; (with_reducible refine (band_Gains.calls k _ _ l1 t330 t331 _ ?side1 ?side2 A3.out).mono ?_); (case side1 => exact kC_ HR1 HB); (case side2 => exact HC1.out); rintro e w6 ⟨v332, rfl, ho0, hb⟩; refine ⟨_, rfl, ?_⟩; have HO333 := Aside0.mk (Kd.R_lower ho0 (bs_ HB)); replace BK329 := FB_ BK329 hb; replace HB := BS_ HB hb; (try clear hb); (try clear ho0); obtain ⟨hcz7_0, hcz7_1, hcz7_2, hcz7_3, hfz7_0, hfz7_1, hfz7_2, hfz7_3⟩ := e4_ BK329; obtain ⟨Ao8, co8, eo8⟩ := Kd.R_slice HO333.out; subst eo8) | ((with_reducible refine gate_callee (f := 75) rfl ?_); refine gL_ (some 20) Try.func75 #[.slice Ao8 t330.length co8, .int .i64 a0_1] ?_; (with_reducible refine (floor_Fit.calls k _ _ t330 a0_1 t334 t335 _ ?side1 ?side2 A4.out).mono ?_); (case side1 => exact kCt_ (Kd.R_reads' HO333.out).2.2); (case side2 => exact (Kd.R_reads' HO333.out).2.1); rintro e w9 ⟨v336, rfl, ho0, hb⟩; refine ⟨_, rfl, ?_⟩; have HO337 := Aside0.mk (Kd.R_lower (Kd.R_new' ho0 (Kd.R_lt (kR_ HO333))) (bs_ HB)); replace HO333 := Aside0.mk (Kd.R_elder' (kR_ HO333) (Kd.R_base ho0) hb); replace BK329 := FB_ BK329 hb; replace HB := BS_ HB hb; (try clear hb); (try clear ho0); obtain ⟨Ao10, co10, eo10⟩ := Kd.R_slice HO337.out; subst eo10))
 go_loopg [25] k (fun kq v25 w' => ∃ (x7_1 : List Int) (x25_1 : Int), v25 = .int .i64 x25_1 ∧ Aside0 (vcodec_codec_posts.l0 kq x7_1 (t334.length : Int) x25_1 a0_0 a0_1 l0_2 l0_3 = some r) ∧ Aside0 (kq ≤ k) ∧ Aside0 (Kd.R (Kd.int .i64) 3 w' w.heap.size (fun _ => True) (.slice Ao10 t334.length co10) x7_1) ∧ Aside0 (w'.heap[gb329]? = some (.cells #[.int .i64 a0_0, .int .i64 a0_1, (.slice A0_2 l0_2.length c0_2), (.slice A0_3 l0_3.length c0_3)] 61 (0, 0))) ∧ Aside0 (Below w.heap.size w w'))
 case atStart => exact ⟨(t334), (0), rs_, H', ⟨Nat.le_refl _⟩, ⟨by (with_reducible repeat (first | apply Kd.R_alloc | apply Kd.R_drewN | apply Kd.R_drew)); exact Kd.R_mono HO337.out (fun _ hk => trivial)⟩, ⟨bk_ BK329⟩, ⟨bl_ HB⟩⟩
 case round => (
 clear H'
 try clear c1
 try clear hcz7_0
 try clear hcz7_1
 try clear hcz7_2
 try clear hcz7_3
 try clear hfz7_0
 try clear hfz7_1
 try clear hfz7_2
 try clear hfz7_3
 obtain ⟨x7_1, x25_1, rfl, HA, HK1, HO_7, BK329, HB⟩ := hrel
 have hl7_1 := (Kd.R_reads' HO_7.out).1
 rw [hl7_1] at HO_7
 (try simp only [hl7_1])
 (try simp only [hl7_1] at BK329)
 cases gk with
 | zero => exact absurd HA.out (by simp [vcodec_codec_posts.l0])
 | succ k1 => (
 have H := HA.out
 clear HA
 simp only [vcodec_codec_posts.l0] at H
 by_cases c11 : x25_1 < (t334.length : Int)
 {
 rw [if_pos c11] at H
 have c11b0 : decide (x25_1 < (t334.length : Int)) = true := decide_eq_true c11
 clear c11
 by_cases c12 : 0 ≤ x25_1
 {
 rw [if_pos c12] at H
 have c12b0 : decide (0 ≤ x25_1) = true := decide_eq_true c12
 clear c12
 by_cases c13 : x25_1 < (x7_1.length : Int)
 {
 rw [if_pos c13] at H
 have c13b0 : decide (x25_1 < (x7_1.length : Int)) = true := decide_eq_true c13
 clear c13
 obtain ⟨t339, A14, H⟩ := ob_ H
 (try dsimp only at H)
 obtain ⟨y340, hy340⟩ : ∃ y_ : List Int, y_ = (x7_1.set (x25_1 : Int).toNat t339) := ⟨_, rfl⟩
 replace H : (vcodec_codec_posts.l0 k1 y340 (t334.length : Int) (wrap64 (x25_1 + 1)) a0_0 a0_1 l0_2 l0_3) = some r := by first | (rw [hy340]; with_reducible exact H) | (have H2_ := (Option.bind_some _ _).symm.trans H; rw [hy340]; with_reducible exact H2_) | (have H2_ := (Option.bind_some _ _).symm.trans H; with_reducible exact H2_) | with_reducible exact H | (rw [hy340]; exact H) | exact H
 have Ny340 := Aside0.mk hy340
 clear hy340
 have H' := Aside0.mk H
 clear H
 try go_wp2
 replace HO_7 := Aside0.mk (Kd.R_drew HO_7.out)
 replace BK329 := Aside0.mk (blk_drew BK329.out)
 replace HB := Aside0.mk (below_drew1 HB.out)
 have p338 : 0 ≤ (x25_1 : Int) := of_decide_eq_true am_
 have q338 : x25_1 < (x7_1.length : Int) := of_decide_eq_true am_
 obtain ⟨ad338, e338, hx338_0⟩ := Kd.at_int (Kd.R_reads' HO_7.out).2.2 x25_1 p338 q338
 cases e338
 replace p338 := eq_true p338
 replace q338 := eq_true q338
 refine start_ (n := 10) (S := fun w' => w'.cell? ⟨gb329, 0, none⟩ = some (.int .i64 a0_0) ∧ w'.cell? ⟨gb329, 1, none⟩ = some (.int .i64 a0_1) ∧ w'.cell? ⟨gb329, 2, none⟩ = some (.slice A0_2 l0_2.length c0_2) ∧ w'.cell? ⟨gb329, 3, none⟩ = some (.slice A0_3 l0_3.length c0_3) ∧ w'.cell? (ad338.add (x25_1).toNat) = some (.int .i64 (rd x7_1 x25_1))) (ds := [9]) (B_ 10 0) kf_ rfl rfl ⟨ce_ BK329 0, ce_ BK329 1, ce_ BK329 2, ce_ BK329 3, hx338_0⟩ (fun hHeld => ?_); refine with_tabW vcodec_codec_posts.tab6 vcodec_codec_posts.bits6 (fun HT_ HW_ => ?_)
 generalize wr.drew = w16 at HO_7 BK329 HB hx338_0 hHeld ⊢
 refine pu_ 0 (some 28) (B_ 10 1) HT_ ?_
 refine pu_ 1 (some 29) (B_ 10 3) HT_ ?_
 refine pu_ 3 (some 31) (B_ 10 11) HT_ ?_
 refine pu_ 4 (some 32) (B_ 10 27) HT_ ?_
 refine pu_ 5 (some 33) (B_ 10 59) HT_ ?_
 refine take_ (i := 2) (N := some 30) (v := ?_) (a' := ?_) (B_ 10 63) rfl rfl (take_ofW HT_.out HW_.out kf_) (fun _ _ _ h => h) (Or.inl ⟨by rfl, ?_⟩) hHeld ?_ ?_
 rotate_left
 {
 rintro w' ⟨s0, s1, s2, s3, s4⟩
 go_simp
 with_reducible rfl}
 rotate_left
 {
 exact sp_}
 refine take_ (i := 6) (N := some 34) (v := ?_) (a' := ?_) (B_ 10 127) rfl rfl (take_ofW HT_.out HW_.out kf_) (fun _ _ _ h => h) (Or.inl ⟨by rfl, ?_⟩) hHeld ?_ ?_
 rotate_left
 {
 rintro w' ⟨s0, s1, s2, s3, s4⟩
 go_simp
 with_reducible rfl}
 rotate_left
 {
 exact sp_}
 refine one_ (i := 7) (N := some 35) (B_ 10 255) rfl rfl (one_of HT_.out kf_) (by decide) (fun K hK => ?_)
 refine goes_ Try.func76 kf_ rfl #[.agg #[.int .i64 a0_0, .int .i64 a0_1, .slice A0_2 l0_2.length c0_2, .slice A0_3 l0_3.length c0_3], .int .i64 (rd x7_1 x25_1)] (by rfl) rfl rfl ar_ ?_
 with_reducible refine (vcodec_codec_settled.calls k1 a0_0 a0_1 _ _ l0_2 _ _ l0_3 (rd x7_1 x25_1) t339 _ ?side1 ?side2 ?side3 ?side4 A14.out).mono ?_
 (case side1 => exact kC_ HR0_2 HB)
 (case side2 => exact HC0_2.out)
 (case side3 => exact kC_ HR0_3 HB)
 (case side4 => exact HC0_3.out)
 rintro e w17 ⟨rfl, hb⟩
 have HS4_ := (hb.cell (World.block_lt_of_cell? _ _ (hHeld.2.2.2.2))).trans (hHeld.2.2.2.2)
 refine ⟨_, rfl, ?_⟩
 replace HO_7 := FR_ HO_7 hb
 replace BK329 := FB_ BK329 hb
 replace HB := BS_ HB hb
 (try clear hb)
 (try clear hk)
 have p15 : 0 ≤ (x25_1 : Int) := of_decide_eq_true am_
 have q15 : (x25_1 : Int) < ((x7_1.length : Int) : Int) := of_decide_eq_true am_
 obtain ⟨go15, co15, eo15, gb15, gl15, cl15, HG15⟩ := Kd.R_form HO_7.out (by omega)
 (first | cases eo15 | (injection eo15 with ea_ en_ ec_; (first | subst ea_ | (injection ea_ with ea_; subst ea_)); subst ec_; clear en_))
 have GB15 := Aside0.mk gb15
 have GG15 := Aside0.mk HG15
 clear gb15 gl15 HG15
 (first | simp only [add_plain] at hx338_0 | skip)
 obtain ⟨hx15_0, hf15_0⟩ := Kd.R_celln 0 HO_7.out (x25_1 : Int) p15 q15
 replace p15 := eq_true p15
 replace q15 := eq_true q15
 have HP18 := Kd.R_putn HO_7.out (x25_1 : Int) t339
 rw [← Ny340.out] at HP18
 have HQ18 := Aside0.mk HP18
 clear HP18
 refine hK.out _ _ ⟨ce_ BK329 0, ce_ BK329 1, ce_ BK329 2, ce_ BK329 3, HS4_⟩ (fun hHeld => ?_)
 clear hK K
 refine norm_ (a' := ?_) ?_ ?_
 rotate_left
 {
 show Act.put _ (some 35) _ = _
 exact sp_}
 refine pu_ 8 (some 36) (B_ 10 511) HT_ ?_
 refine last_ (i := 9) (N := none) (B_ 10 1023) rfl rfl (one_of HT_.out kf_) (by decide) (fun K hK => ?_)
 refine skip_ (w1 := ?_) (by rfl) rfl ?_ ?_
 rotate_left
 {
 go_simp
 rfl}
 refine hK.out _ _ ?_
 clear hK K
 refine done_ (done_of HT_.out kf_) ?_
 try go_wp2
 (try simp only [← hl7_1])
 go_roundg k1
 case measure => have := HK1.out; omega
 case rel => exact ⟨(y340), (wrap64 (x25_1 + 1)), rs_, H', ⟨by have := HK1.out; omega⟩, ⟨by (try simp only [hl7_1]); (with_reducible repeat (first | apply Kd.R_alloc | apply Kd.R_drewN | apply Kd.R_drew)); exact HQ18.out⟩, ⟨by (try simp only [hl7_1]); (with_reducible repeat (first | refine blk_drewN ?_ _ | refine blk_drew ?_ | refine blk_alloc ?_ _)); refine blk_far ?_ (by have h_ := Kd.R_ne HO_7.out BK329.out (by decide); intro e_; exact h_ (by rw [e_]; rfl)) _; (with_reducible repeat (first | refine blk_drewN ?_ _ | refine blk_drew ?_ | refine blk_alloc ?_ _)); exact BK329.out⟩, ⟨by repeat (first | (with_reducible first | exact HB.out | apply below_alloc | apply pw_below_drewN | apply below_drew1 | refine below_set ?_ GB15.out | refine below_set ?_ GE329.out) | exact HB.out)⟩⟩}
 {
 rw [if_neg c13] at H
 exact absurd H (by simp)}}
 {
 rw [if_neg c12] at H
 exact absurd H (by simp)}}
 {
 rw [if_neg c11] at H
 have c11b0 : decide (x25_1 < (t334.length : Int)) = false := decide_eq_false c11
 (try rw [hl7_1] at c11b0)
 clear c11
 obtain rfl := Option.some.inj H
 go_wp2
 go_ret
 exact ⟨_, by first | rfl | (simp [errW_none, errW_some] <;> rfl) | (simp [*, errW_none, errW_some] <;> rfl), by (with_reducible repeat (first | apply Kd.R_alloc | apply Kd.R_drewN | apply Kd.R_drew)); exact HO_7.out, bl_ HB⟩}))
def num_size.f (a0 : Int) : Option (Int) := if a0 < 0 then (some (IntKind.u64.wrap (-(IntKind.u64.wrap (a0))))) else (some (IntKind.u64.wrap (a0)))
set_option maxHeartbeats 8000000 in
set_option maxRecDepth 100000 in
theorem num_size.calls (a0 : Int) (r : Int) (w : World) (h : num_size.f a0 = some r) :
    Calls Try.prog 114 #[.int .i64 a0] w fun e w' => e = .returned (.int .u64 r) ∧ Drawn0 w w' := by
 have H : (if a0 < 0 then (some (IntKind.u64.wrap (-(IntKind.u64.wrap (a0))))) else (some (IntKind.u64.wrap (a0)))) = some r := h
 clear h
 by_cases c2 : a0 < 0
 {
 rw [if_pos c2] at H
 have c2b0 : decide (a0 < 0) = true := decide_eq_true c2
 clear c2
 obtain rfl := Option.some.inj H
 go_enter Try.func114, Try.ntmps114
 go_wp2
 go_ret
 exact ⟨by first | rfl | (simp; done) | (simp [*]; done), by repeat (first | exact Drawn0.refl _ | apply Drawn0.step)⟩}
 {
 rw [if_neg c2] at H
 have c2b0 : decide (a0 < 0) = false := decide_eq_false c2
 clear c2
 obtain rfl := Option.some.inj H
 go_enter Try.func114, Try.ntmps114
 go_wp2
 go_ret
 exact ⟨by first | rfl | (simp; done) | (simp [*]; done), by repeat (first | exact Drawn0.refl _ | apply Drawn0.step)⟩}
def num_Div.f (a0 : Int) (a1 : Int) : Option (Int × Int) := if a1 < 1 then (some (0, 1)) else ((num_size.f a0).bind fun t341 => (if (IntKind.u64.wrap (a1)) = 0 then (none) else (if (Int.tmod t341 (IntKind.u64.wrap (a1))) ≥ (IntKind.u64.wrap ((IntKind.u64.wrap (a1)) - (Int.tmod t341 (IntKind.u64.wrap (a1))))) then (if a0 < 0 then (some (wrap64 (IntKind.u64.wrap (-(IntKind.u64.wrap ((IntKind.u64.wrap (Int.tdiv t341 (IntKind.u64.wrap (a1)))) + 1)))), 0)) else (some (wrap64 (IntKind.u64.wrap ((IntKind.u64.wrap (Int.tdiv t341 (IntKind.u64.wrap (a1)))) + 1)), 0))) else (if a0 < 0 then (some (wrap64 (IntKind.u64.wrap (-(IntKind.u64.wrap (Int.tdiv t341 (IntKind.u64.wrap (a1)))))), 0)) else (some (wrap64 (IntKind.u64.wrap (Int.tdiv t341 (IntKind.u64.wrap (a1)))), 0))))))
set_option maxHeartbeats 8000000 in
set_option maxRecDepth 100000 in
theorem num_Div.calls (a0 : Int) (a1 : Int) (r1 : Int) (r2 : Int) (w : World) (h : num_Div.f a0 a1 = some (r1, r2)) :
    Calls Try.prog 99 #[.int .i64 a0, .int .i64 a1] w fun e w' => e = .returned (.tuple #[.int .i64 r1, .int .i64 r2]) ∧ Drawn0 w w' := by
 have H : (if a1 < 1 then (some (0, 1)) else ((num_size.f a0).bind fun t341 => (if (IntKind.u64.wrap (a1)) = 0 then (none) else (if (Int.tmod t341 (IntKind.u64.wrap (a1))) ≥ (IntKind.u64.wrap ((IntKind.u64.wrap (a1)) - (Int.tmod t341 (IntKind.u64.wrap (a1))))) then (if a0 < 0 then (some (wrap64 (IntKind.u64.wrap (-(IntKind.u64.wrap ((IntKind.u64.wrap (Int.tdiv t341 (IntKind.u64.wrap (a1)))) + 1)))), 0)) else (some (wrap64 (IntKind.u64.wrap ((IntKind.u64.wrap (Int.tdiv t341 (IntKind.u64.wrap (a1)))) + 1)), 0))) else (if a0 < 0 then (some (wrap64 (IntKind.u64.wrap (-(IntKind.u64.wrap (Int.tdiv t341 (IntKind.u64.wrap (a1)))))), 0)) else (some (wrap64 (IntKind.u64.wrap (Int.tdiv t341 (IntKind.u64.wrap (a1)))), 0))))))) = some (r1, r2) := h
 clear h
 by_cases c3 : a1 < 1
 {
 rw [if_pos c3] at H
 have c3b0 : decide (a1 < 1) = true := decide_eq_true c3
 clear c3
 simp only [Option.some.injEq, Prod.mk.injEq] at H
 obtain ⟨rfl, rfl⟩ := H
 go_enter Try.func99, Try.ntmps99
 go_wp2
 repeat (go_quiet (fail); try go_wp2)
 go_ret2
 exact ⟨by first | rfl | (simp; done) | (simp [*]; done), by repeat (first | exact Drawn0.refl _ | apply Drawn0.step)⟩}
 {
 rw [if_neg c3] at H
 have c3b0 : decide (a1 < 1) = false := decide_eq_false c3
 clear c3
 obtain ⟨t341, A4, H⟩ := ob_ H
 (try dsimp only at H)
 by_cases c5 : (IntKind.u64.wrap (a1)) = 0
 {
 rw [if_pos c5] at H
 exact absurd H (by simp)}
 {
 rw [if_neg c5] at H
 have c5b0 : ((IntKind.u64.wrap (a1)) == 0) = false := beq_eq_false_iff_ne.mpr c5
 have c5b1 : ((IntKind.u64.wrap (a1)) != 0) = true := bne_iff_ne.mpr c5
 by_cases c6 : (Int.tmod t341 (IntKind.u64.wrap (a1))) ≥ (IntKind.u64.wrap ((IntKind.u64.wrap (a1)) - (Int.tmod t341 (IntKind.u64.wrap (a1)))))
 {
 rw [if_pos c6] at H
 have c6b0 : decide ((IntKind.u64.wrap ((IntKind.u64.wrap (a1)) - (Int.tmod t341 (IntKind.u64.wrap (a1))))) ≤ (Int.tmod t341 (IntKind.u64.wrap (a1)))) = true := decide_eq_true c6
 clear c6
 by_cases c7 : a0 < 0
 {
 rw [if_pos c7] at H
 have c7b0 : decide (a0 < 0) = true := decide_eq_true c7
 clear c7
 simp only [Option.some.injEq, Prod.mk.injEq] at H
 obtain ⟨rfl, rfl⟩ := H
 go_enter Try.func99, Try.ntmps99
 go_wp2_with (first | (go_at_call 114; (with_reducible refine (num_size.calls a0 t341 _ A4.out).mono ?_); rintro e w' ⟨rfl, ⟨nd, rfl⟩⟩; (try first | exact ⟨rfl, _, World.drewN_drewN _ _ _⟩ | exact ⟨rfl, _, Eq.trans (World.drewN_drewN _ _ _) (congrArg (World.drewN _) (Nat.add_assoc _ _ _))⟩)))
 repeat (go_quiet (first | (go_at_call 114; (with_reducible refine (num_size.calls a0 t341 _ A4.out).mono ?_); rintro e w' ⟨rfl, ⟨nd, rfl⟩⟩; (try first | exact ⟨rfl, _, World.drewN_drewN _ _ _⟩ | exact ⟨rfl, _, Eq.trans (World.drewN_drewN _ _ _) (congrArg (World.drewN _) (Nat.add_assoc _ _ _))⟩))); try go_wp2_with (first | (go_at_call 114; (with_reducible refine (num_size.calls a0 t341 _ A4.out).mono ?_); rintro e w' ⟨rfl, ⟨nd, rfl⟩⟩; (try first | exact ⟨rfl, _, World.drewN_drewN _ _ _⟩ | exact ⟨rfl, _, Eq.trans (World.drewN_drewN _ _ _) (congrArg (World.drewN _) (Nat.add_assoc _ _ _))⟩))))
 go_ret2
 exact ⟨by first | rfl | (simp; done) | (simp [*]; done), by repeat (first | exact Drawn0.refl _ | apply Drawn0.step)⟩}
 {
 rw [if_neg c7] at H
 have c7b0 : decide (a0 < 0) = false := decide_eq_false c7
 clear c7
 simp only [Option.some.injEq, Prod.mk.injEq] at H
 obtain ⟨rfl, rfl⟩ := H
 go_enter Try.func99, Try.ntmps99
 go_wp2_with (first | (go_at_call 114; (with_reducible refine (num_size.calls a0 t341 _ A4.out).mono ?_); rintro e w' ⟨rfl, ⟨nd, rfl⟩⟩; (try first | exact ⟨rfl, _, World.drewN_drewN _ _ _⟩ | exact ⟨rfl, _, Eq.trans (World.drewN_drewN _ _ _) (congrArg (World.drewN _) (Nat.add_assoc _ _ _))⟩)))
 repeat (go_quiet (first | (go_at_call 114; (with_reducible refine (num_size.calls a0 t341 _ A4.out).mono ?_); rintro e w' ⟨rfl, ⟨nd, rfl⟩⟩; (try first | exact ⟨rfl, _, World.drewN_drewN _ _ _⟩ | exact ⟨rfl, _, Eq.trans (World.drewN_drewN _ _ _) (congrArg (World.drewN _) (Nat.add_assoc _ _ _))⟩))); try go_wp2_with (first | (go_at_call 114; (with_reducible refine (num_size.calls a0 t341 _ A4.out).mono ?_); rintro e w' ⟨rfl, ⟨nd, rfl⟩⟩; (try first | exact ⟨rfl, _, World.drewN_drewN _ _ _⟩ | exact ⟨rfl, _, Eq.trans (World.drewN_drewN _ _ _) (congrArg (World.drewN _) (Nat.add_assoc _ _ _))⟩))))
 go_ret2
 exact ⟨by first | rfl | (simp; done) | (simp [*]; done), by repeat (first | exact Drawn0.refl _ | apply Drawn0.step)⟩}}
 {
 rw [if_neg c6] at H
 have c6b0 : decide ((IntKind.u64.wrap ((IntKind.u64.wrap (a1)) - (Int.tmod t341 (IntKind.u64.wrap (a1))))) ≤ (Int.tmod t341 (IntKind.u64.wrap (a1)))) = false := decide_eq_false c6
 clear c6
 by_cases c8 : a0 < 0
 {
 rw [if_pos c8] at H
 have c8b0 : decide (a0 < 0) = true := decide_eq_true c8
 clear c8
 simp only [Option.some.injEq, Prod.mk.injEq] at H
 obtain ⟨rfl, rfl⟩ := H
 go_enter Try.func99, Try.ntmps99
 go_wp2_with (first | (go_at_call 114; (with_reducible refine (num_size.calls a0 t341 _ A4.out).mono ?_); rintro e w' ⟨rfl, ⟨nd, rfl⟩⟩; (try first | exact ⟨rfl, _, World.drewN_drewN _ _ _⟩ | exact ⟨rfl, _, Eq.trans (World.drewN_drewN _ _ _) (congrArg (World.drewN _) (Nat.add_assoc _ _ _))⟩)))
 repeat (go_quiet (first | (go_at_call 114; (with_reducible refine (num_size.calls a0 t341 _ A4.out).mono ?_); rintro e w' ⟨rfl, ⟨nd, rfl⟩⟩; (try first | exact ⟨rfl, _, World.drewN_drewN _ _ _⟩ | exact ⟨rfl, _, Eq.trans (World.drewN_drewN _ _ _) (congrArg (World.drewN _) (Nat.add_assoc _ _ _))⟩))); try go_wp2_with (first | (go_at_call 114; (with_reducible refine (num_size.calls a0 t341 _ A4.out).mono ?_); rintro e w' ⟨rfl, ⟨nd, rfl⟩⟩; (try first | exact ⟨rfl, _, World.drewN_drewN _ _ _⟩ | exact ⟨rfl, _, Eq.trans (World.drewN_drewN _ _ _) (congrArg (World.drewN _) (Nat.add_assoc _ _ _))⟩))))
 go_ret2
 exact ⟨by first | rfl | (simp; done) | (simp [*]; done), by repeat (first | exact Drawn0.refl _ | apply Drawn0.step)⟩}
 {
 rw [if_neg c8] at H
 have c8b0 : decide (a0 < 0) = false := decide_eq_false c8
 clear c8
 simp only [Option.some.injEq, Prod.mk.injEq] at H
 obtain ⟨rfl, rfl⟩ := H
 go_enter Try.func99, Try.ntmps99
 go_wp2_with (first | (go_at_call 114; (with_reducible refine (num_size.calls a0 t341 _ A4.out).mono ?_); rintro e w' ⟨rfl, ⟨nd, rfl⟩⟩; (try first | exact ⟨rfl, _, World.drewN_drewN _ _ _⟩ | exact ⟨rfl, _, Eq.trans (World.drewN_drewN _ _ _) (congrArg (World.drewN _) (Nat.add_assoc _ _ _))⟩)))
 repeat (go_quiet (first | (go_at_call 114; (with_reducible refine (num_size.calls a0 t341 _ A4.out).mono ?_); rintro e w' ⟨rfl, ⟨nd, rfl⟩⟩; (try first | exact ⟨rfl, _, World.drewN_drewN _ _ _⟩ | exact ⟨rfl, _, Eq.trans (World.drewN_drewN _ _ _) (congrArg (World.drewN _) (Nat.add_assoc _ _ _))⟩))); try go_wp2_with (first | (go_at_call 114; (with_reducible refine (num_size.calls a0 t341 _ A4.out).mono ?_); rintro e w' ⟨rfl, ⟨nd, rfl⟩⟩; (try first | exact ⟨rfl, _, World.drewN_drewN _ _ _⟩ | exact ⟨rfl, _, Eq.trans (World.drewN_drewN _ _ _) (congrArg (World.drewN _) (Nat.add_assoc _ _ _))⟩))))
 go_ret2
 exact ⟨by first | rfl | (simp; done) | (simp [*]; done), by repeat (first | exact Drawn0.refl _ | apply Drawn0.step)⟩}}}}
def remap_quantized.f (a0 : Int) (a1 : Int) : Option (Int) := (num_Div.f a0 a1).bind fun bt342 => (some bt342.1)
set_option maxHeartbeats 8000000 in
set_option maxRecDepth 100000 in
theorem remap_quantized.calls (a0 : Int) (a1 : Int) (r : Int) (w : World) (h : remap_quantized.f a0 a1 = some r) :
    Calls Try.prog 77 #[.int .i64 a0, .int .i64 a1] w fun e w' => e = .returned (.int .i64 r) ∧ Drawn0 w w' := by
 have H : ((num_Div.f a0 a1).bind fun bt342 => (some bt342.1)) = some r := h
 clear h
 replace H := Option.bind_eq_some_iff.mp H
 obtain ⟨⟨t342, t343⟩, A30, H⟩ := H
 replace H : (some t342) = some r := H
 have A3 := Aside0.mk A30
 clear A30
 obtain rfl := Option.some.inj H
 go_enter Try.func77, Try.ntmps77
 go_wp2_with (first | ((with_reducible refine gate_callee (f := 99) rfl ?_); refine gL_ (some 10) Try.func99 #[.int .i64 a0, .int .i64 a1] ?_; (with_reducible refine (num_Div.calls a0 a1 t342 t343 _ A3.out).mono ?_); rintro e w' ⟨rfl, ⟨nd, rfl⟩⟩; refine ⟨_, rfl, ?_⟩))
 go_ret
 exact ⟨by first | rfl | (simp; done) | (simp [*]; done), by repeat (first | exact Drawn0.refl _ | apply Drawn0.step)⟩
def remap_over_int64_by_remap_quantized.l0 : Nat → List Int → List Int → List Int → Int → Int → Option (List Int)
  | 0, _, _, _, _, _ => none
  | k + 1, x1, x7, x10, x11, x12 => if x12 < x11 then (if 0 ≤ x12 then (if x12 < (x10.length : Int) then (if x12 < (x1.length : Int) then ((remap_quantized.f (rd x10 x12) (rd x1 x12)).bind fun t346 => (if x7.length < 17592186044416 then (remap_over_int64_by_remap_quantized.l0 k x1 (x7 ++ [t346]) x10 x11 (wrap64 (x12 + 1))) else (none))) else (none)) else (none)) else (none)) else (some x7)
def remap_over_int64_by_remap_quantized.f (k : Nat) (l0 : List Int) (l1 : List Int)  : Option (List Int) := remap_over_int64_by_remap_quantized.l0 k l1 ([] : List Int) l0 (l0.length : Int) 0
theorem remap_over_int64_by_remap_quantized.mono_l : ∀ k, (∀ y0 y1 y2 y3 y4, LeO (remap_over_int64_by_remap_quantized.l0 k y0 y1 y2 y3 y4) (remap_over_int64_by_remap_quantized.l0 (k + 1) y0 y1 y2 y3 y4))
  | 0 => fun _ _ _ _ _ r h => by simp [remap_over_int64_by_remap_quantized.l0] at h
  | k + 1 => by
    have ih0 := remap_over_int64_by_remap_quantized.mono_l k
    · intro y0 y1 y2 y3 y4
      unfold remap_over_int64_by_remap_quantized.l0
      with_reducible repeat' first
   | exact ih0 _ _ _ _ _
   | exact LeO.refl _
   | exact LeO.none _
   | refine LeO.ite ?_ ?_
   | refine LeO.bind ?_ (fun _ => ?_)
theorem remap_over_int64_by_remap_quantized.mono : ∀ a0 a1 k, LeO (remap_over_int64_by_remap_quantized.f k a0 a1) (remap_over_int64_by_remap_quantized.f (k + 1) a0 a1) := by
  intro a0 a1 k
  have ih0 := remap_over_int64_by_remap_quantized.mono_l k
  unfold remap_over_int64_by_remap_quantized.f
  with_reducible repeat' first
   | exact ih0 _ _ _ _ _
   | exact LeO.refl _
   | exact LeO.none _
   | refine LeO.ite ?_ ?_
   | refine LeO.bind ?_ (fun _ => ?_)
set_option maxHeartbeats 8000000 in
set_option maxRecDepth 100000 in
theorem remap_over_int64_by_remap_quantized.calls (k : Nat) (A0 : Option Addr) (c0 : Nat) (l0 : List Int) (A1 : Option Addr) (c1 : Nat) (l1 : List Int)  (r : List Int) (w : World) (hr0 : Kd.C (Kd.int .i64) w A0 l0.length l0) (hc0 : l0.length ≤ c0) (hr1 : Kd.C (Kd.int .i64) w A1 l1.length l1) (hc1 : l1.length ≤ c1) (h : remap_over_int64_by_remap_quantized.f k l0 l1 = some r) :
    Calls Try.prog 71 #[.slice A0 l0.length c0, .slice A1 l1.length c1, .func (.func 77) #[] #[]] w fun e w' => ∃ v0_ : Value, e = .returned (v0_) ∧ Kd.R (Kd.int .i64) 2 w' w.heap.size (fun _ => True) v0_ r ∧ Below w.heap.size w w' := by
 have HR0 := Aside0.mk hr0
 have HC0 := Aside0.mk hc0
 clear hr0 hc0
 have HR1 := Aside0.mk hr1
 have HC1 := Aside0.mk hc1
 clear hr1 hc1
 have HB := Aside0.mk (Below.refl w.heap.size w)
 have H : (remap_over_int64_by_remap_quantized.l0 k l1 ([] : List Int) l0 (l0.length : Int) 0) = some r := h
 clear h
 have H' := Aside0.mk H
 clear H
 go_enter Try.func71, Try.ntmps71
 go_wp2
 go_loopg [7, 12] k (fun kq v7 v12 w' => ∃ (x7_1 : List Int) (x12_1 : Int), v12 = .int .i64 x12_1 ∧ Aside0 (remap_over_int64_by_remap_quantized.l0 kq l1 x7_1 l0 (l0.length : Int) x12_1 = some r) ∧ Aside0 (kq ≤ k) ∧ Aside0 (Kd.R (Kd.int .i64) 2 w' w.heap.size (fun _ => True) v7 x7_1) ∧ Aside0 (Below w.heap.size w w'))
 case atStart => exact ⟨(([] : List Int)), (0), rs_, H', ⟨Nat.le_refl _⟩, ⟨by first | exact Kd.R_nil _ _ _ _ _ | exact Kd.N_nil _ _ _ _ _ | exact Kd.V_nil _ _ _ _ _ | exact Kd.Q_nil _ _ _ _ _ | exact Kd.S_nil _ _ _ _ _⟩, ⟨bl_ HB⟩⟩
 case round => (
 clear H'
 obtain ⟨x7_1, x12_1, rfl, HA, HK1, HO_7, HB⟩ := hrel
 cases gk with
 | zero => exact absurd HA.out (by simp [remap_over_int64_by_remap_quantized.l0])
 | succ k1 => (
 have H := HA.out
 clear HA
 simp only [remap_over_int64_by_remap_quantized.l0] at H
 by_cases c4 : x12_1 < (l0.length : Int)
 {
 rw [if_pos c4] at H
 have c4b0 : decide (x12_1 < (l0.length : Int)) = true := decide_eq_true c4
 clear c4
 by_cases c5 : 0 ≤ x12_1
 {
 rw [if_pos c5] at H
 have c5b0 : decide (0 ≤ x12_1) = true := decide_eq_true c5
 clear c5
 by_cases c6 : x12_1 < (l0.length : Int)
 {
 rw [if_pos c6] at H
 have c6b0 : decide (x12_1 < (l0.length : Int)) = true := decide_eq_true c6
 clear c6
 by_cases c7 : x12_1 < (l1.length : Int)
 {
 rw [if_pos c7] at H
 have c7b0 : decide (x12_1 < (l1.length : Int)) = true := decide_eq_true c7
 clear c7
 obtain ⟨t346, A8, H⟩ := ob_ H
 (try dsimp only at H)
 by_cases c9 : x7_1.length < 17592186044416
 {
 rw [if_pos c9] at H
 have LMc9 := Aside0.mk c9
 clear c9
 obtain ⟨y347, hy347⟩ : ∃ y_ : List Int, y_ = (x7_1 ++ [t346]) := ⟨_, rfl⟩
 replace H : (remap_over_int64_by_remap_quantized.l0 k1 l1 y347 l0 (l0.length : Int) (wrap64 (x12_1 + 1))) = some r := by first | (rw [hy347]; with_reducible exact H) | (have H2_ := (Option.bind_some _ _).symm.trans H; rw [hy347]; with_reducible exact H2_) | (have H2_ := (Option.bind_some _ _).symm.trans H; with_reducible exact H2_) | with_reducible exact H | (rw [hy347]; exact H) | exact H
 have Ny347 := Aside0.mk hy347
 clear hy347
 have H' := Aside0.mk H
 clear H
 have p344 : 0 ≤ (x12_1 : Int) := of_decide_eq_true am_
 have q344 : x12_1 < (l0.length : Int) := of_decide_eq_true am_
 obtain ⟨ad344, e344, hx344_0⟩ := Kd.at_int HR0.out x12_1 p344 q344
 cases e344
 replace hx344_0 := (HB.out.cell (World.block_lt_of_cell? w _ hx344_0)).trans hx344_0
 replace p344 := eq_true p344
 replace q344 := eq_true q344
 have p345 : 0 ≤ (x12_1 : Int) := of_decide_eq_true am_
 have q345 : x12_1 < (l1.length : Int) := of_decide_eq_true am_
 obtain ⟨ad345, e345, hx345_0⟩ := Kd.at_int HR1.out x12_1 p345 q345
 cases e345
 replace hx345_0 := (HB.out.cell (World.block_lt_of_cell? w _ hx345_0)).trans hx345_0
 replace p345 := eq_true p345
 replace q345 := eq_true q345
 go_wp2_with (first | (go_at_call 77; (with_reducible refine (remap_quantized.calls (rd l0 x12_1) (rd l1 x12_1) t346 _ A8.out).mono ?_); rintro e w' ⟨rfl, ⟨nd, rfl⟩⟩) | ((with_reducible refine gate_builtin (b := .append) (xs := #[.tmp 17, .tmp 25]) rfl ?_); at_builtin; refine Kd.R_append (Kd.int .i64) (w0 := w) w.heap.size rfl (.tmp 17) (.tmp 25) 53 2 (.int .i64 0) 8 rfl Try.underlying53 info2 rfl (by decide) (by omega) u7 x7_1 t346 [.int .i64 t346] (fun _ => True) (fun _ => False) rfl rfl ?aP (fun _ hk => hk.elim) ?aF ?aO ?aB ?aS ?aL ?_; (case aP => exact rfl); (case aB => exact (bl_ HB)); (case aF => exact (fun _ _ => trivial)); (case aO => exact (kR_ HO_7)); (case aS => exact (bs_ HB)); (case aL => have := LMc9.out; omega); intro v348 w10 ho hb hg hat; rw [← Ny347.out] at ho; replace HB := Aside0.mk (hb); have HO349 := Aside0.mk (ho); clear HO_7; clear ho hb hg hat))
 go_roundg k1
 case measure => have := HK1.out; omega
 case rel => exact ⟨(y347), (wrap64 (x12_1 + 1)), rs_, H', ⟨by have := HK1.out; omega⟩, ⟨kR_ HO349⟩, ⟨bl_ HB⟩⟩}
 {
 rw [if_neg c9] at H
 exact absurd H (by simp)}}
 {
 rw [if_neg c7] at H
 exact absurd H (by simp)}}
 {
 rw [if_neg c6] at H
 exact absurd H (by simp)}}
 {
 rw [if_neg c5] at H
 exact absurd H (by simp)}}
 {
 rw [if_neg c4] at H
 have c4b0 : decide (x12_1 < (l0.length : Int)) = false := decide_eq_false c4
 clear c4
 obtain rfl := Option.some.inj H
 go_wp2
 go_ret
 exact ⟨_, by first | rfl | (simp [errW_none, errW_some] <;> rfl) | (simp [*, errW_none, errW_some] <;> rfl), by (with_reducible repeat (first | apply Kd.R_alloc | apply Kd.R_drewN | apply Kd.R_drew)); exact HO_7.out, bl_ HB⟩}))
def remap_Quantize.f (k : Nat) (l0 : List Int) (l1 : List Int) : Option (List Int × Int) := (remap_row.f k l0 (-1048576) 1048576).bind fun t350 => (if t350 = true then ((remap_row.f k l1 1 4194304).bind fun t351 => (if t351 = true then ((remap_over_int64_by_remap_quantized.f k l0 l1).bind fun t352 => (some (t352, 0))) else (some (([] : List Int), 1)))) else (some (([] : List Int), 1)))
theorem remap_Quantize.mono : ∀ a0 a1 k, LeO (remap_Quantize.f k a0 a1) (remap_Quantize.f (k + 1) a0 a1) := by
  intro a0 a1 k
  unfold remap_Quantize.f
  with_reducible repeat' first
   | exact remap_over_int64_by_remap_quantized.mono _ _ _
   | exact remap_row.mono _ _ _ _
   | exact LeO.refl _
   | exact LeO.none _
   | refine LeO.ite ?_ ?_
   | refine LeO.bind ?_ (fun _ => ?_)
set_option maxHeartbeats 8000000 in
set_option maxRecDepth 100000 in
theorem remap_Quantize.calls (k : Nat) (A0 : Option Addr) (c0 : Nat) (l0 : List Int) (A1 : Option Addr) (c1 : Nat) (l1 : List Int) (r1 : List Int) (r2 : Int) (w : World) (hr0 : Kd.C (Kd.int .i64) w A0 l0.length l0) (hc0 : l0.length ≤ c0) (hr1 : Kd.C (Kd.int .i64) w A1 l1.length l1) (hc1 : l1.length ≤ c1) (h : remap_Quantize.f k l0 l1 = some (r1, r2)) :
    Calls Try.prog 38 #[.slice A0 l0.length c0, .slice A1 l1.length c1] w fun e w' => ∃ v0_ : Value, e = .returned (.tuple #[v0_, .int .i64 r2]) ∧ Kd.R (Kd.int .i64) 2 w' w.heap.size (fun _ => True) v0_ r1 ∧ Below w.heap.size w w' := by
 have HR0 := Aside0.mk hr0
 have HC0 := Aside0.mk hc0
 clear hr0 hc0
 have HR1 := Aside0.mk hr1
 have HC1 := Aside0.mk hc1
 clear hr1 hc1
 have HB := Aside0.mk (Below.refl w.heap.size w)
 have H : ((remap_row.f k l0 (-1048576) 1048576).bind fun t350 => (if t350 = true then ((remap_row.f k l1 1 4194304).bind fun t351 => (if t351 = true then ((remap_over_int64_by_remap_quantized.f k l0 l1).bind fun t352 => (some (t352, 0))) else (some (([] : List Int), 1)))) else (some (([] : List Int), 1)))) = some (r1, r2) := h
 clear h
 obtain ⟨t350, A3, H⟩ := ob_ H
 (try dsimp only at H)
 by_cases c4 : t350 = true
 {
 subst c4
 rw [if_pos rfl] at H
 obtain ⟨t351, A5, H⟩ := ob_ H
 (try dsimp only at H)
 by_cases c6 : t351 = true
 {
 subst c6
 rw [if_pos rfl] at H
 obtain ⟨t352, A7, H⟩ := ob_ H
 (try dsimp only at H)
 simp only [Option.some.injEq, Prod.mk.injEq] at H
 obtain ⟨rfl, rfl⟩ := H
 go_enter Try.func38, Try.ntmps38
 go_wp2_with (first | ((with_reducible refine gate_callee (f := 70) rfl ?_); refine gL_ (some 7) Try.func70 #[.slice A0 l0.length c0, .int .i64 (-1048576), .int .i64 1048576] ?_; (with_reducible refine (remap_row.calls k _ _ l0 (-1048576) 1048576 true _ ?side1 ?side2 A3.out).mono ?_); (case side1 => repeat (first | exact HR0.out | (with_reducible refine Kd.C_alloc ?_ _) | (with_reducible refine Kd.C_drewN ?_ _) | (with_reducible refine Kd.C_drew ?_))); (case side2 => exact HC0.out); rintro e w' ⟨rfl, ⟨nd, rfl⟩⟩; refine ⟨_, rfl, ?_⟩) | (go_at_call 70; (with_reducible refine (remap_row.calls k _ _ l1 1 4194304 true _ ?side1 ?side2 A5.out).mono ?_); (case side1 => repeat (first | exact HR1.out | (with_reducible refine Kd.C_alloc ?_ _) | (with_reducible refine Kd.C_drewN ?_ _) | (with_reducible refine Kd.C_drew ?_))); (case side2 => exact HC1.out); rintro e w' ⟨rfl, ⟨nd, rfl⟩⟩) | ((with_reducible refine gate_callee (f := 71) rfl ?_); refine gL_ (some 16) Try.func71 #[.slice A0 l0.length c0, .slice A1 l1.length c1, .func (.func 77) #[] #[]] ?_; (with_reducible refine (remap_over_int64_by_remap_quantized.calls k _ _ l0 _ _ l1  t352 _ ?side1 ?side2 ?side3 ?side4 A7.out).mono ?_); (case side1 => repeat (first | exact HR0.out | (with_reducible refine Kd.C_alloc ?_ _) | (with_reducible refine Kd.C_drewN ?_ _) | (with_reducible refine Kd.C_drew ?_))); (case side2 => exact HC0.out); (case side3 => repeat (first | exact HR1.out | (with_reducible refine Kd.C_alloc ?_ _) | (with_reducible refine Kd.C_drewN ?_ _) | (with_reducible refine Kd.C_drew ?_))); (case side4 => exact HC1.out); rintro e w8 ⟨v353, rfl, ho0, hb⟩; refine ⟨_, rfl, ?_⟩; have HO354 := Aside0.mk (Kd.R_lower ho0 (bs_ HB)); replace HB := BS_ HB hb; (try clear hb); (try clear ho0)))
 go_ret2
 exact ⟨_, by first | rfl | (simp [errW_none, errW_some] <;> rfl) | (simp [*, errW_none, errW_some] <;> rfl), by (with_reducible repeat (first | apply Kd.R_alloc | apply Kd.R_drewN | apply Kd.R_drew)); exact HO354.out, bl_ HB⟩}
 {
 replace c6 := Bool.eq_false_iff.mpr c6
 subst c6
 rw [if_neg (show ¬ (false = true) by decide)] at H
 simp only [Option.some.injEq, Prod.mk.injEq] at H
 obtain ⟨rfl, rfl⟩ := H
 go_enter Try.func38, Try.ntmps38
 go_wp2_with (first | ((with_reducible refine gate_callee (f := 70) rfl ?_); refine gL_ (some 7) Try.func70 #[.slice A0 l0.length c0, .int .i64 (-1048576), .int .i64 1048576] ?_; (with_reducible refine (remap_row.calls k _ _ l0 (-1048576) 1048576 true _ ?side1 ?side2 A3.out).mono ?_); (case side1 => repeat (first | exact HR0.out | (with_reducible refine Kd.C_alloc ?_ _) | (with_reducible refine Kd.C_drewN ?_ _) | (with_reducible refine Kd.C_drew ?_))); (case side2 => exact HC0.out); rintro e w' ⟨rfl, ⟨nd, rfl⟩⟩; refine ⟨_, rfl, ?_⟩) | (go_at_call 70; (with_reducible refine (remap_row.calls k _ _ l1 1 4194304 false _ ?side1 ?side2 A5.out).mono ?_); (case side1 => repeat (first | exact HR1.out | (with_reducible refine Kd.C_alloc ?_ _) | (with_reducible refine Kd.C_drewN ?_ _) | (with_reducible refine Kd.C_drew ?_))); (case side2 => exact HC1.out); rintro e w' ⟨rfl, ⟨nd, rfl⟩⟩))
 go_ret2
 exact ⟨_, by first | rfl | (simp [errW_none, errW_some] <;> rfl) | (simp [*, errW_none, errW_some] <;> rfl), by first | exact Kd.R_nil _ _ _ _ _ | exact Kd.N_nil _ _ _ _ _ | exact Kd.V_nil _ _ _ _ _ | exact Kd.Q_nil _ _ _ _ _ | exact Kd.S_nil _ _ _ _ _, bl_ HB⟩}}
 {
 replace c4 := Bool.eq_false_iff.mpr c4
 subst c4
 rw [if_neg (show ¬ (false = true) by decide)] at H
 simp only [Option.some.injEq, Prod.mk.injEq] at H
 obtain ⟨rfl, rfl⟩ := H
 go_enter Try.func38, Try.ntmps38
 go_wp2_with (first | ((with_reducible refine gate_callee (f := 70) rfl ?_); refine gL_ (some 7) Try.func70 #[.slice A0 l0.length c0, .int .i64 (-1048576), .int .i64 1048576] ?_; (with_reducible refine (remap_row.calls k _ _ l0 (-1048576) 1048576 false _ ?side1 ?side2 A3.out).mono ?_); (case side1 => repeat (first | exact HR0.out | (with_reducible refine Kd.C_alloc ?_ _) | (with_reducible refine Kd.C_drewN ?_ _) | (with_reducible refine Kd.C_drew ?_))); (case side2 => exact HC0.out); rintro e w' ⟨rfl, ⟨nd, rfl⟩⟩; refine ⟨_, rfl, ?_⟩))
 go_ret2
 exact ⟨_, by first | rfl | (simp [errW_none, errW_some] <;> rfl) | (simp [*, errW_none, errW_some] <;> rfl), by first | exact Kd.R_nil _ _ _ _ _ | exact Kd.N_nil _ _ _ _ _ | exact Kd.V_nil _ _ _ _ _ | exact Kd.Q_nil _ _ _ _ _ | exact Kd.S_nil _ _ _ _ _, bl_ HB⟩}
end Go.Proofs.Ytdajlfijkbafiaa.P
