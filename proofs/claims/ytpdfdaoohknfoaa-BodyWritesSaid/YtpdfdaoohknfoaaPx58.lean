/- Walks. -/
import Derived.Test.YtpdfdaoohknfoaaQ1
import Derived.Test.YtpdfdaoohknfoaaPx22
import Derived.Test.YtpdfdaoohknfoaaQ4
import Derived.Test.YtpdfdaoohknfoaaPx57
namespace Go.Proofs.Ytpdfdaoohknfoaa.P
open Go.RowKit Go.Proofs.YtpdfdaoohknfoaaW.PrintWords Go.Proofs.YtpdfdaoohknfoaaW.PrintLast Go.Proofs.YtpdfdaoohknfoaaW.PrintMore
attribute [local go_sem] max2_int min2_int max_two min_two max_three min_three max_four min_four   -- for this text's walks alone
set_option linter.unusedVariables false
set_option linter.unusedSimpArgs false

mutual
def psalteryref17_Write.l0 : Nat → List Int → Int → Int → Int → List Int → List Int → List (List Int) → List (List Int) → Option (List Int)
  | 0, _, _, _, _, _, _, _, _ => none
  | k + 1, x5, x6, x681000, x681001, x681002, x681003, x682000, x682001 => if x6 < x681000 then (if 0 ≤ x6 then (if x6 < (x682000.length : Int) then (if ((rd_L1 x682000 x6).length : Int) = 0 then (if x5.length < 17592186044416 then (psalteryref17_Write.l0 k (x5 ++ [0]) (wrap64 (x6 + 1)) x681000 x681001 x681002 x681003 x682000 x682001) else (none)) else (if x5.length < 17592186044416 then (psalteryref17_Write.l1 k (x5 ++ [1]) x6 0 x681000 x681001 x681002 x681003 x682000 x682001) else (none))) else (none)) else (none)) else (psalteryref17_Write.l2 k x5 0 x681000 x681001 x681002 x681003 x682000 x682001)
def psalteryref17_Write.l1 : Nat → List Int → Int → Int → Int → Int → List Int → List Int → List (List Int) → List (List Int) → Option (List Int)
  | 0, _, _, _, _, _, _, _, _, _ => none
  | k + 1, x5, x6, x7, x681000, x681001, x681002, x681003, x682000, x682001 => if x7 < 6 then (if 0 ≤ x6 then (if x6 < (x682000.length : Int) then (if 0 ≤ x7 then (if x7 < ((rd_L1 x682000 x6).length : Int) then ((psalteryref04_Code.f k x681002 (rd (rd_L1 x682000 x6) x7)).bind fun t691 => (if x5.length + t691.length < 17592186044416 then (psalteryref17_Write.l1 k (x5 ++ t691) x6 (wrap64 (x7 + 1)) x681000 x681001 x681002 x681003 x682000 x682001) else (none))) else (none)) else (none)) else (none)) else (none)) else (psalteryref17_Write.l0 k x5 (wrap64 (x6 + 1)) x681000 x681001 x681002 x681003 x682000 x682001)
def psalteryref17_Write.l2 : Nat → List Int → Int → Int → Int → List Int → List Int → List (List Int) → List (List Int) → Option (List Int)
  | 0, _, _, _, _, _, _, _, _ => none
  | k + 1, x5, x8, x681000, x681001, x681002, x681003, x682000, x682001 => if x8 < x681000 then (psalteryref17_Write.l3 k x5 x8 0 x681000 x681001 x681002 x681003 x682000 x682001) else ((psalteryref01_Bytes.f k x5).bind fun t697 => (some t697))
def psalteryref17_Write.l3 : Nat → List Int → Int → Int → Int → Int → List Int → List Int → List (List Int) → List (List Int) → Option (List Int)
  | 0, _, _, _, _, _, _, _, _, _ => none
  | k + 1, x5, x8, x9, x681000, x681001, x681002, x681003, x682000, x682001 => if 0 ≤ x8 then (if x8 < (x682001.length : Int) then (if x9 < ((rd_L5 x682001 x8).length : Int) then (if 0 ≤ x9 then (if (rd (rd_L5 x682001 x8) x9) ≥ (-7) then (if (rd (rd_L5 x682001 x8) x9) ≤ 7 then (if 0 ≤ (wrap64 ((rd (rd_L5 x682001 x8) x9) + 7)) then (if (wrap64 ((rd (rd_L5 x682001 x8) x9) + 7)) < (x681003.length : Int) then (psalteryref17_Write.j4 k x5 x8 x9 (rd (rd_L5 x682001 x8) x9) ((rd x681003 (wrap64 ((rd (rd_L5 x682001 x8) x9) + 7))) != 0) x681000 x681001 x681002 x681003 x682000 x682001) else (none)) else (none)) else (psalteryref17_Write.j4 k x5 x8 x9 (rd (rd_L5 x682001 x8) x9) false x681000 x681001 x681002 x681003 x682000 x682001)) else (psalteryref17_Write.j4 k x5 x8 x9 (rd (rd_L5 x682001 x8) x9) false x681000 x681001 x681002 x681003 x682000 x682001)) else (none)) else (psalteryref17_Write.l2 k x5 (wrap64 (x8 + 1)) x681000 x681001 x681002 x681003 x682000 x682001)) else (none)) else (none)
def psalteryref17_Write.j4 : Nat → List Int → Int → Int → Int → Bool → Int → Int → List Int → List Int → List (List Int) → List (List Int) → Option (List Int)
  | 0, _, _, _, _, _, _, _, _, _, _, _ => none
  | k + 1, x5, x8, x9, x10, x85, x681000, x681001, x681002, x681003, x682000, x682001 => if x85 = true then ((psalteryref04_Code.f k x681003 (wrap64 (x10 + 7))).bind fun t704 => (if x5.length + t704.length < 17592186044416 then (psalteryref17_Write.l3 k (x5 ++ t704) x8 (wrap64 (x9 + 1)) x681000 x681001 x681002 x681003 x682000 x682001) else (none))) else ((psalteryref04_Code.f k x681003 15).bind fun t710 => (if x5.length + t710.length < 17592186044416 then ((some (x5 ++ t710 : List Int)).bind fun y713 => (if x10 < 0 then (if y713.length < 17592186044416 then ((some (y713 ++ [1] : List Int)).bind fun y716 => ((psalteryref17_low.f k (wrap64 (-x10)) 22).bind fun t719 => (if y716.length + t719.length < 17592186044416 then (psalteryref17_Write.l3 k (y716 ++ t719) x8 (wrap64 (x9 + 1)) x681000 x681001 x681002 x681003 x682000 x682001) else (none)))) else (none)) else (if y713.length < 17592186044416 then ((some (y713 ++ [0] : List Int)).bind fun y725 => ((psalteryref17_low.f k x10 22).bind fun t728 => (if y725.length + t728.length < 17592186044416 then (psalteryref17_Write.l3 k (y725 ++ t728) x8 (wrap64 (x9 + 1)) x681000 x681001 x681002 x681003 x682000 x682001) else (none)))) else (none)))) else (none)))
end
def psalteryref17_Write.f (k : Nat) (a0_0 : Int) (a0_1 : Int) (l0_2 : List Int) (l0_3 : List Int) (l1_0 : List (List Int)) (l1_1 : List (List Int)) : Option (List Int) := psalteryref17_Write.l0 k ([] : List Int) 0 a0_0 a0_1 l0_2 l0_3 l1_0 l1_1
theorem psalteryref17_Write.mono_l : ∀ k, (∀ y0 y1 y2 y3 y4 y5 y6 y7, LeO (psalteryref17_Write.l0 k y0 y1 y2 y3 y4 y5 y6 y7) (psalteryref17_Write.l0 (k + 1) y0 y1 y2 y3 y4 y5 y6 y7)) ∧ (∀ y0 y1 y2 y3 y4 y5 y6 y7 y8, LeO (psalteryref17_Write.l1 k y0 y1 y2 y3 y4 y5 y6 y7 y8) (psalteryref17_Write.l1 (k + 1) y0 y1 y2 y3 y4 y5 y6 y7 y8)) ∧ (∀ y0 y1 y2 y3 y4 y5 y6 y7, LeO (psalteryref17_Write.l2 k y0 y1 y2 y3 y4 y5 y6 y7) (psalteryref17_Write.l2 (k + 1) y0 y1 y2 y3 y4 y5 y6 y7)) ∧ (∀ y0 y1 y2 y3 y4 y5 y6 y7 y8, LeO (psalteryref17_Write.l3 k y0 y1 y2 y3 y4 y5 y6 y7 y8) (psalteryref17_Write.l3 (k + 1) y0 y1 y2 y3 y4 y5 y6 y7 y8)) ∧ (∀ y0 y1 y2 y3 y4 y5 y6 y7 y8 y9 y10, LeO (psalteryref17_Write.j4 k y0 y1 y2 y3 y4 y5 y6 y7 y8 y9 y10) (psalteryref17_Write.j4 (k + 1) y0 y1 y2 y3 y4 y5 y6 y7 y8 y9 y10))
  | 0 => ⟨fun _ _ _ _ _ _ _ _ r h => by simp [psalteryref17_Write.l0] at h, fun _ _ _ _ _ _ _ _ _ r h => by simp [psalteryref17_Write.l1] at h, fun _ _ _ _ _ _ _ _ r h => by simp [psalteryref17_Write.l2] at h, fun _ _ _ _ _ _ _ _ _ r h => by simp [psalteryref17_Write.l3] at h, fun _ _ _ _ _ _ _ _ _ _ _ r h => by simp [psalteryref17_Write.j4] at h⟩
  | k + 1 => by
    obtain ⟨ih0, ih1, ih2, ih3, ih4⟩ := psalteryref17_Write.mono_l k
    refine ⟨?_, ?_, ?_, ?_, ?_⟩
    all_goals (intros; first | unfold psalteryref17_Write.l0 | unfold psalteryref17_Write.l1 | unfold psalteryref17_Write.l2 | unfold psalteryref17_Write.l3 | unfold psalteryref17_Write.j4)
    all_goals with_reducible repeat' first
     | exact ih0 _ _ _ _ _ _ _ _
     | exact ih1 _ _ _ _ _ _ _ _ _
     | exact ih2 _ _ _ _ _ _ _ _
     | exact ih3 _ _ _ _ _ _ _ _ _
     | exact ih4 _ _ _ _ _ _ _ _ _ _ _
     | exact psalteryref01_Bytes.mono _ _
     | exact psalteryref04_Code.mono _ _ _
     | exact psalteryref17_low.mono _ _ _
     | exact LeO.refl _
     | exact LeO.none _
     | refine LeO.ite ?_ ?_
     | refine LeO.bind ?_ (fun _ => ?_)
theorem psalteryref17_Write.mono : ∀ a0 a1 a2 a3 a4 a5 k, LeO (psalteryref17_Write.f k a0 a1 a2 a3 a4 a5) (psalteryref17_Write.f (k + 1) a0 a1 a2 a3 a4 a5) := by
  intro a0 a1 a2 a3 a4 a5 k
  obtain ⟨ih0, ih1, ih2, ih3, ih4⟩ := psalteryref17_Write.mono_l k
  unfold psalteryref17_Write.f
  with_reducible repeat' first
   | exact ih0 _ _ _ _ _ _ _ _
   | exact ih1 _ _ _ _ _ _ _ _ _
   | exact ih2 _ _ _ _ _ _ _ _
   | exact ih3 _ _ _ _ _ _ _ _ _
   | exact ih4 _ _ _ _ _ _ _ _ _ _ _
   | exact psalteryref01_Bytes.mono _ _
   | exact psalteryref04_Code.mono _ _ _
   | exact psalteryref17_low.mono _ _ _
   | exact LeO.refl _
   | exact LeO.none _
   | refine LeO.ite ?_ ?_
   | refine LeO.bind ?_ (fun _ => ?_)
def psalteryref17_Write.T11 : Bool × List (List Nat × List Nat) := (true, [([], []), ([], []), ([1], [1]), ([], []), ([3], [3]), ([], []), ([4, 5], [4, 5]), ([6], [6]), ([], []), ([7, 8], [7, 8]), ([9], [9]), ([2, 10], [2, 10]), ([0, 11, 11], [0, 11]), ([12, 12, 0, 1, 2, 3, 4, 5, 6, 7, 8, 9, 10, 11, 12], [0, 12])])
def psalteryref17_Write.B11 : List Nat := [0, 0, 2, 0, 8, 0, 56, 120, 0, 504, 1016, 2046, 4095, 8191]
theorem psalteryref17_Write.tab11 : rtab .any (opsOf Try.f33 11) = psalteryref17_Write.T11 := by kernel_rfl
theorem psalteryref17_Write.bits11 : waitsOk psalteryref17_Write.T11.2 psalteryref17_Write.B11 = true := by kernel_rfl
set_option maxHeartbeats 8000000 in
set_option maxRecDepth 100000 in
theorem psalteryref17_Write.calls (k : Nat) (a0_0 : Int) (a0_1 : Int) (A0_2 : Option Addr) (c0_2 : Nat) (l0_2 : List Int) (A0_3 : Option Addr) (c0_3 : Nat) (l0_3 : List Int) (A1_0 : Option Addr) (c1_0 : Nat) (l1_0 : List (List Int)) (A1_1 : Option Addr) (c1_1 : Nat) (l1_1 : List (List Int)) (r : List Int) (w : World) (hr0_2 : Kd.C (Kd.int .i64) w A0_2 l0_2.length l0_2) (hc0_2 : l0_2.length ≤ c0_2) (hr0_3 : Kd.C (Kd.int .i64) w A0_3 l0_3.length l0_3) (hc0_3 : l0_3.length ≤ c0_3) (hr1_0 : Kd.C (Kd.slice 3 (Kd.int .i64)) w A1_0 l1_0.length l1_0) (hc1_0 : l1_0.length ≤ c1_0) (hr1_1 : Kd.C (Kd.slice 2 (Kd.int .i64)) w A1_1 l1_1.length l1_1) (hc1_1 : l1_1.length ≤ c1_1) (h : psalteryref17_Write.f k a0_0 a0_1 l0_2 l0_3 l1_0 l1_1 = some r) :
    Calls Try.prog 33 #[.agg #[.int .i64 a0_0, .int .i64 a0_1, .slice A0_2 l0_2.length c0_2, .slice A0_3 l0_3.length c0_3], .agg #[.slice A1_0 l1_0.length c1_0, .slice A1_1 l1_1.length c1_1]] w fun e w' => ∃ v0_ : Value, e = .returned (v0_) ∧ Kd.R (Kd.int .u8) 5 w' w.heap.size (fun _ => True) v0_ r ∧ Below w.heap.size w w' := by
 have hu28 := Try.underlying28
 have hu51 := Try.underlying51
 have HR0_2 := Aside0.mk hr0_2
 have HC0_2 := Aside0.mk hc0_2
 clear hr0_2 hc0_2
 have HR0_3 := Aside0.mk hr0_3
 have HC0_3 := Aside0.mk hc0_3
 clear hr0_3 hc0_3
 have HR1_0 := Aside0.mk hr1_0
 have HC1_0 := Aside0.mk hc1_0
 clear hr1_0 hc1_0
 have HR1_1 := Aside0.mk hr1_1
 have HC1_1 := Aside0.mk hc1_1
 clear hr1_1 hc1_1
 have HB := Aside0.mk (Below.refl w.heap.size w)
 have H : (psalteryref17_Write.l0 k ([] : List Int) 0 a0_0 a0_1 l0_2 l0_3 l1_0 l1_1) = some r := h
 clear h
 have H' := Aside0.mk H
 clear H
 go_enter Try.func33, Try.ntmps33
 go_wp2_with (first | ((with_reducible refine gate_dst (N := 2) rfl ?_); refine bx_ HB 2 #[.int .i64 a0_0, .int .i64 a0_1, .slice A0_2 l0_2.length c0_2, .slice A0_3 l0_3.length c0_3] 28 ?_; clear HB; intro gb680 hg w3 hb BK680 GE680 HB; have GW680 := GE680; clear hb hg) | ((with_reducible refine gate_dst (N := 3) rfl ?_); refine bx_ HB 3 #[.slice A1_0 l1_0.length c1_0, .slice A1_1 l1_1.length c1_1] 51 ?_; clear HB; intro gb681 hg w4 hb BK681 GE681 HB; have GW681 := GE681; obtain ⟨NB680_681, NB681_680⟩ := NN_ BK680 hg; replace BK680 := FB_ BK680 hb; clear hb hg))
 go_loopg [5, 6] k (fun kq v5 v6 w' => ∃ (x5_1 : List Int) (x6_1 : Int), v6 = .int .i64 x6_1 ∧ Aside0 (psalteryref17_Write.l0 kq x5_1 x6_1 a0_0 a0_1 l0_2 l0_3 l1_0 l1_1 = some r) ∧ Aside0 (kq ≤ k) ∧ Aside0 (Kd.R (Kd.int .i64) 3 w' w.heap.size (fun _ => True) v5 x5_1) ∧ Aside0 (w'.heap[gb680]? = some (.cells #[.int .i64 a0_0, .int .i64 a0_1, (.slice A0_2 l0_2.length c0_2), (.slice A0_3 l0_3.length c0_3)] 28 (0, 0))) ∧ Aside0 (w'.heap[gb681]? = some (.cells #[(.slice A1_0 l1_0.length c1_0), (.slice A1_1 l1_1.length c1_1)] 51 (0, 0))) ∧ Aside0 (Below w.heap.size w w'))
 case atStart => exact ⟨(([] : List Int)), (0), rs_, H', ⟨Nat.le_refl _⟩, ⟨by first | exact Kd.R_nil _ _ _ _ _ | exact Kd.N_nil _ _ _ _ _ | exact Kd.V_nil _ _ _ _ _ | exact Kd.Q_nil _ _ _ _ _ | exact Kd.S_nil _ _ _ _ _⟩, ⟨bk_ BK680⟩, ⟨bk_ BK681⟩, ⟨bl_ HB⟩⟩
 case round => (
 clear H'
 obtain ⟨x5_1, x6_1, rfl, HA, HK1, HO_5, BK680, BK681, HB⟩ := hrel
 cases gk with
 | zero => exact absurd HA.out (by simp [psalteryref17_Write.l0])
 | succ k1 => (
 have H := HA.out
 clear HA
 simp only [psalteryref17_Write.l0] at H
 by_cases c5 : x6_1 < a0_0
 {
 rw [if_pos c5] at H
 have c5b0 : decide (x6_1 < a0_0) = true := decide_eq_true c5
 clear c5
 by_cases c6 : 0 ≤ x6_1
 {
 rw [if_pos c6] at H
 have c6b0 : decide (0 ≤ x6_1) = true := decide_eq_true c6
 clear c6
 by_cases c7 : x6_1 < (l1_0.length : Int)
 {
 rw [if_pos c7] at H
 have c7b0 : decide (x6_1 < (l1_0.length : Int)) = true := decide_eq_true c7
 clear c7
 by_cases c8 : ((rd_L1 l1_0 x6_1).length : Int) = 0
 {
 rw [if_pos c8] at H
 have c8b0 : (((rd_L1 l1_0 x6_1).length : Int) == 0) = true := beq_iff_eq.mpr c8
 have c8b1 : (((rd_L1 l1_0 x6_1).length : Int) != 0) = false := bne_eq_false_iff_eq.mpr c8
 clear c8
 by_cases c9 : x5_1.length < 17592186044416
 {
 rw [if_pos c9] at H
 have LMc9 := Aside0.mk c9
 clear c9
 obtain ⟨y683, hy683⟩ : ∃ y_ : List Int, y_ = (x5_1 ++ [0]) := ⟨_, rfl⟩
 replace H : (psalteryref17_Write.l0 k1 y683 (wrap64 (x6_1 + 1)) a0_0 a0_1 l0_2 l0_3 l1_0 l1_1) = some r := by first | (rw [hy683]; with_reducible exact H) | (have H2_ := (Option.bind_some _ _).symm.trans H; rw [hy683]; with_reducible exact H2_) | (have H2_ := (Option.bind_some _ _).symm.trans H; with_reducible exact H2_) | with_reducible exact H | (rw [hy683]; exact H) | exact H
 have Ny683 := Aside0.mk hy683
 clear hy683
 have H' := Aside0.mk H
 clear H
 have hnb10 := NB680_681.out
 have hnc10 := NB681_680.out
 obtain ⟨hcz11_0, hcz11_1, hcz11_2, hcz11_3, hfz11_0, hfz11_1, hfz11_2, hfz11_3⟩ := e4_ BK680
 obtain ⟨hcz12_0, hcz12_1, hfz12_0, hfz12_1⟩ := e2_ BK681
 have p682 : 0 ≤ (x6_1 : Int) := of_decide_eq_true am_
 have q682 : x6_1 < (l1_0.length : Int) := of_decide_eq_true am_
 obtain ⟨ad682, A682_0, c682_0, e682, hx682_0, hl682_0, hi682_0⟩ := at_L1 HR1_0.out x6_1 p682 q682
 cases e682
 replace hx682_0 := (HB.out.cell (World.block_lt_of_cell? w _ hx682_0)).trans hx682_0
 have HR682_0 := Aside0.mk hi682_0
 have HC682_0 := Aside0.mk hl682_0
 clear hi682_0 hl682_0
 replace p682 := eq_true p682
 replace q682 := eq_true q682
 go_wp2_with (first | ((with_reducible refine gate_builtin (b := .append) (xs := #[.tmp 24, .tmp 25]) rfl ?_); at_builtin; refine Kd.R_append (Kd.int .i64) (w0 := w) w.heap.size rfl (.tmp 24) (.tmp 25) 22 3 (.int .i64 0) 8 rfl Try.underlying22 info3 rfl (by decide) (by omega) u5 x5_1 0 [.int .i64 0] (fun _ => True) (fun _ => False) rfl rfl ?aP (fun _ hk => hk.elim) ?aF ?aO ?aB ?aS ?aL ?_; (case aP => exact rfl); (case aB => exact (bl_ HB)); (case aF => exact (fun _ _ => trivial)); (case aO => exact (kR_ HO_5)); (case aS => exact (bs_ HB)); (case aL => have := LMc9.out; omega); intro v684 w13 ho hb hg hat; rw [← Ny683.out] at ho; replace BK680 := (FG_ BK680 hg (Kd.R_ne HO_5.out BK680.out (by decide))); replace BK681 := (FG_ BK681 hg (Kd.R_ne HO_5.out BK681.out (by decide))); replace HB := Aside0.mk (hb); have HO685 := Aside0.mk (ho); clear HO_5; clear ho hb hg hat))
 go_roundg k1
 case measure => have := HK1.out; omega
 case rel => exact ⟨(y683), (wrap64 (x6_1 + 1)), rs_, H', ⟨by have := HK1.out; omega⟩, ⟨kR_ HO685⟩, ⟨bk_ BK680⟩, ⟨bk_ BK681⟩, ⟨bl_ HB⟩⟩}
 {
 rw [if_neg c9] at H
 exact absurd H (by simp)}}
 {
 rw [if_neg c8] at H
 have c8b0 : (((rd_L1 l1_0 x6_1).length : Int) == 0) = false := beq_eq_false_iff_ne.mpr c8
 have c8b1 : (((rd_L1 l1_0 x6_1).length : Int) != 0) = true := bne_iff_ne.mpr c8
 have c8b2 : ¬ ((rd_L1 l1_0 x6_1) = []) := fun h_ => c8 (by rw [h_]; rfl)
 by_cases c14 : x5_1.length < 17592186044416
 {
 rw [if_pos c14] at H
 have LMc14 := Aside0.mk c14
 clear c14
 obtain ⟨y686, hy686⟩ : ∃ y_ : List Int, y_ = (x5_1 ++ [1]) := ⟨_, rfl⟩
 replace H : (psalteryref17_Write.l1 k1 y686 x6_1 0 a0_0 a0_1 l0_2 l0_3 l1_0 l1_1) = some r := by first | (rw [hy686]; with_reducible exact H) | (have H2_ := (Option.bind_some _ _).symm.trans H; rw [hy686]; with_reducible exact H2_) | (have H2_ := (Option.bind_some _ _).symm.trans H; with_reducible exact H2_) | with_reducible exact H | (rw [hy686]; exact H) | exact H
 have Ny686 := Aside0.mk hy686
 clear hy686
 have H' := Aside0.mk H
 clear H
 have hnb15 := NB680_681.out
 have hnc15 := NB681_680.out
 obtain ⟨hcz16_0, hcz16_1, hcz16_2, hcz16_3, hfz16_0, hfz16_1, hfz16_2, hfz16_3⟩ := e4_ BK680
 obtain ⟨hcz17_0, hcz17_1, hfz17_0, hfz17_1⟩ := e2_ BK681
 have p682 : 0 ≤ (x6_1 : Int) := of_decide_eq_true am_
 have q682 : x6_1 < (l1_0.length : Int) := of_decide_eq_true am_
 obtain ⟨ad682, A682_0, c682_0, e682, hx682_0, hl682_0, hi682_0⟩ := at_L1 HR1_0.out x6_1 p682 q682
 cases e682
 replace hx682_0 := (HB.out.cell (World.block_lt_of_cell? w _ hx682_0)).trans hx682_0
 have HR682_0 := Aside0.mk hi682_0
 have HC682_0 := Aside0.mk hl682_0
 clear hi682_0 hl682_0
 replace p682 := eq_true p682
 replace q682 := eq_true q682
 go_wp2_with (first | ((with_reducible refine gate_builtin (b := .append) (xs := #[.tmp 27, .tmp 28]) rfl ?_); at_builtin; refine Kd.R_append (Kd.int .i64) (w0 := w) w.heap.size rfl (.tmp 27) (.tmp 28) 22 3 (.int .i64 0) 8 rfl Try.underlying22 info3 rfl (by decide) (by omega) u5 x5_1 1 [.int .i64 1] (fun _ => True) (fun _ => False) rfl rfl ?aP (fun _ hk => hk.elim) ?aF ?aO ?aB ?aS ?aL ?_; (case aP => exact rfl); (case aB => exact (bl_ HB)); (case aF => exact (fun _ _ => trivial)); (case aO => exact (kR_ HO_5)); (case aS => exact (bs_ HB)); (case aL => have := LMc14.out; omega); intro v687 w18 ho hb hg hat; rw [← Ny686.out] at ho; replace BK680 := (FG_ BK680 hg (Kd.R_ne HO_5.out BK680.out (by decide))); replace BK681 := (FG_ BK681 hg (Kd.R_ne HO_5.out BK681.out (by decide))); replace HB := Aside0.mk (hb); have HO688 := Aside0.mk (ho); clear HO_5; clear ho hb hg hat))
 go_loopg [5, 7] k1 (fun kq v5 v7 w' => ∃ (x5_2 : List Int) (x7_2 : Int), v7 = .int .i64 x7_2 ∧ Aside0 (psalteryref17_Write.l1 kq x5_2 x6_1 x7_2 a0_0 a0_1 l0_2 l0_3 l1_0 l1_1 = some r) ∧ Aside0 (kq ≤ k1) ∧ Aside0 (Kd.R (Kd.int .i64) 3 w' w.heap.size (fun _ => True) v5 x5_2) ∧ Aside0 (w'.heap[gb680]? = some (.cells #[.int .i64 a0_0, .int .i64 a0_1, (.slice A0_2 l0_2.length c0_2), (.slice A0_3 l0_3.length c0_3)] 28 (0, 0))) ∧ Aside0 (w'.heap[gb681]? = some (.cells #[(.slice (some ad682) l1_0.length c1_0), (.slice A1_1 l1_1.length c1_1)] 51 (0, 0))) ∧ Aside0 (Below w.heap.size w w'))
 case atStart => exact ⟨(y686), (0), rs_, H', ⟨Nat.le_refl _⟩, ⟨kR_ HO688⟩, ⟨bk_ BK680⟩, ⟨bk_ BK681⟩, ⟨bl_ HB⟩⟩
 case round => (
 clear H'
 try clear c5
 try clear c5b0
 try clear c6
 try clear c6b0
 try clear c7
 try clear c7b0
 try clear c8
 try clear c8b0
 try clear c8b1
 try clear c8b2
 try clear c14
 try clear hcz16_0
 try clear hcz16_1
 try clear hcz16_2
 try clear hcz16_3
 try clear hcz17_0
 try clear hcz17_1
 try clear hfz16_0
 try clear hfz16_1
 try clear hfz16_2
 try clear hfz16_3
 try clear hfz17_0
 try clear hfz17_1
 try clear hx682_0
 try clear p682
 try clear q682
 obtain ⟨x5_2, x7_2, rfl, HA, HK2, HO_5, BK680, BK681, HB⟩ := hrel
 cases gk with
 | zero => exact absurd HA.out (by simp [psalteryref17_Write.l1])
 | succ k2 => (
 have H := HA.out
 clear HA
 simp only [psalteryref17_Write.l1] at H
 by_cases c19 : x7_2 < 6
 {
 rw [if_pos c19] at H
 have c19b0 : decide (x7_2 < 6) = true := decide_eq_true c19
 clear c19
 by_cases c20 : 0 ≤ x6_1
 {
 rw [if_pos c20] at H
 have c20b0 : decide (0 ≤ x6_1) = true := decide_eq_true c20
 clear c20
 by_cases c21 : x6_1 < (l1_0.length : Int)
 {
 rw [if_pos c21] at H
 have c21b0 : decide (x6_1 < (l1_0.length : Int)) = true := decide_eq_true c21
 clear c21
 by_cases c22 : 0 ≤ x7_2
 {
 rw [if_pos c22] at H
 have c22b0 : decide (0 ≤ x7_2) = true := decide_eq_true c22
 clear c22
 by_cases c23 : x7_2 < ((rd_L1 l1_0 x6_1).length : Int)
 {
 rw [if_pos c23] at H
 have c23b0 : decide (x7_2 < ((rd_L1 l1_0 x6_1).length : Int)) = true := decide_eq_true c23
 clear c23
 obtain ⟨t691, A24, H⟩ := ob_ H
 (try dsimp only at H)
 by_cases c25 : x5_2.length + t691.length < 17592186044416
 {
 rw [if_pos c25] at H
 have LMc25 := Aside0.mk c25
 clear c25
 obtain ⟨y694, hy694⟩ : ∃ y_ : List Int, y_ = (x5_2 ++ t691) := ⟨_, rfl⟩
 replace H : (psalteryref17_Write.l1 k2 y694 x6_1 (wrap64 (x7_2 + 1)) a0_0 a0_1 l0_2 l0_3 l1_0 l1_1) = some r := by first | (rw [hy694]; with_reducible exact H) | (have H2_ := (Option.bind_some _ _).symm.trans H; rw [hy694]; with_reducible exact H2_) | (have H2_ := (Option.bind_some _ _).symm.trans H; with_reducible exact H2_) | with_reducible exact H | (rw [hy694]; exact H) | exact H
 have Ny694 := Aside0.mk hy694
 clear hy694
 have H' := Aside0.mk H
 clear H
 try go_wp2
 replace HO_5 := Aside0.mk (Kd.R_drew HO_5.out)
 replace BK680 := Aside0.mk (blk_drew BK680.out)
 replace BK681 := Aside0.mk (blk_drew BK681.out)
 replace HB := Aside0.mk (below_drew1 HB.out)
 have p689 : 0 ≤ (x6_1 : Int) := of_decide_eq_true am_
 have q689 : x6_1 < (l1_0.length : Int) := of_decide_eq_true am_
 obtain ⟨ad689, A689_0, c689_0, e689, hx689_0, hl689_0, hi689_0⟩ := at_L1 HR1_0.out x6_1 p689 q689
 have hw689_0 := hx689_0
 obtain rfl : ad682 = ad689 := (by injection e689)
 replace hx689_0 := (HB.out.cell (World.block_lt_of_cell? w _ hx689_0)).trans hx689_0
 have HR689_0 := Aside0.mk hi689_0
 have HC689_0 := Aside0.mk hl689_0
 clear hi689_0 hl689_0
 replace p689 := eq_true p689
 replace q689 := eq_true q689
 have p690 : 0 ≤ (x7_2 : Int) := of_decide_eq_true am_
 have q690 : x7_2 < ((rd_L1 l1_0 x6_1).length : Int) := of_decide_eq_true am_
 obtain ⟨ad690, e690, hx690_0⟩ := Kd.at_int HR689_0.out x7_2 p690 q690
 have hw690_0 := hx690_0
 cases e690
 replace hx690_0 := (HB.out.cell (World.block_lt_of_cell? w _ hx690_0)).trans hx690_0
 replace p690 := eq_true p690
 replace q690 := eq_true q690
 refine start_ (n := 14) (S := fun w' => w'.cell? ⟨gb680, 0, none⟩ = some (.int .i64 a0_0) ∧ w'.cell? ⟨gb680, 1, none⟩ = some (.int .i64 a0_1) ∧ w'.cell? ⟨gb680, 2, none⟩ = some (.slice A0_2 l0_2.length c0_2) ∧ w'.cell? ⟨gb680, 3, none⟩ = some (.slice A0_3 l0_3.length c0_3) ∧ w'.cell? ⟨gb681, 0, none⟩ = some (.slice (some ad682) l1_0.length c1_0) ∧ w'.cell? ⟨gb681, 1, none⟩ = some (.slice A1_1 l1_1.length c1_1) ∧ w'.cell? (ad682.add (x6_1).toNat) = some (.slice (some ad690) (rd_L1 l1_0 x6_1).length c689_0) ∧ w'.cell? (ad690.add (x7_2).toNat) = some (.int .i64 (rd (rd_L1 l1_0 x6_1) x7_2))) (ds := []) (B_ 14 0) kf_ rfl rfl ⟨ce_ BK680 0, ce_ BK680 1, ce_ BK680 2, ce_ BK680 3, ce_ BK681 0, ce_ BK681 1, ((HB.out.cell (World.block_lt_of_cell? w _ hw689_0)).trans hw689_0), ((HB.out.cell (World.block_lt_of_cell? w _ hw690_0)).trans hw690_0)⟩ (fun hHeld => ?_); refine with_tabW psalteryref17_Write.tab11 psalteryref17_Write.bits11 (fun HT_ HW_ => ?_)
 generalize wr.drew = w26 at HO_5 BK680 BK681 HB HR689_0 hx689_0 hx690_0 hHeld ⊢
 refine pu_ 0 (some 34) (B_ 14 1) HT_ ?_
 refine pu_ 1 (some 35) (B_ 14 3) HT_ ?_
 refine pu_ 3 (some 37) (B_ 14 11) HT_ ?_
 refine pu_ 5 (some 39) (B_ 14 43) HT_ ?_
 refine pu_ 8 (some 42) (B_ 14 299) HT_ ?_
 refine take_ (i := 2) (N := some 36) (v := ?_) (a' := ?_) (B_ 14 303) rfl rfl (take_ofW HT_.out HW_.out kf_) (fun _ _ _ h => h) (Or.inl ⟨by rfl, ?_⟩) hHeld ?_ ?_
 rotate_left
 {
 rintro w' ⟨s0, s1, s2, s3, s4, s5, s6, s7⟩
 go_simp
 with_reducible rfl}
 rotate_left
 {
 exact sp_}
 refine take_ (i := 4) (N := some 38) (v := ?_) (a' := ?_) (B_ 14 319) rfl rfl (take_ofW HT_.out HW_.out kf_) (fun _ _ _ h => h) (Or.inl ⟨by rfl, ?_⟩) hHeld ?_ ?_
 rotate_left
 {
 rintro w' ⟨s0, s1, s2, s3, s4, s5, s6, s7⟩
 go_simp
 with_reducible rfl}
 rotate_left
 {
 exact sp_}
 refine pu_ 6 (some 40) (B_ 14 383) HT_ ?_
 refine take_ (i := 7) (N := some 41) (v := ?_) (a' := ?_) (B_ 14 511) rfl rfl (take_ofW HT_.out HW_.out kf_) (fun _ _ _ h => h) (Or.inl ⟨by rfl, ?_⟩) hHeld ?_ ?_
 rotate_left
 {
 rintro w' ⟨s0, s1, s2, s3, s4, s5, s6, s7⟩
 go_simp
 with_reducible rfl}
 rotate_left
 {
 exact sp_}
 refine pu_ 9 (some 43) (B_ 14 1023) HT_ ?_
 refine take_ (i := 10) (N := some 44) (v := ?_) (a' := ?_) (B_ 14 2047) rfl rfl (take_ofW HT_.out HW_.out kf_) (fun _ _ _ h => h) (Or.inl ⟨by rfl, ?_⟩) hHeld ?_ ?_
 rotate_left
 {
 rintro w' ⟨s0, s1, s2, s3, s4, s5, s6, s7⟩
 go_simp
 with_reducible rfl}
 rotate_left
 {
 exact sp_}
 refine one_ (i := 11) (N := some 45) (B_ 14 4095) rfl rfl (one_of HT_.out kf_) (by decide) (fun K hK => ?_)
 refine goes_ Try.func53 kf_ rfl #[.slice A0_2 l0_2.length c0_2, .int .i64 (rd (rd_L1 l1_0 x6_1) x7_2)] (by rfl) rfl rfl ar_ ?_
 with_reducible refine (psalteryref04_Code.calls k2 _ _ l0_2 (rd (rd_L1 l1_0 x6_1) x7_2) t691 _ ?side1 ?side2 A24.out).mono ?_
 (case side1 => exact kC_ HR0_2 HB)
 (case side2 => exact HC0_2.out)
 rintro e w27 ⟨v692, rfl, ho0, hb⟩
 refine ⟨_, rfl, ?_⟩
 have HO693 := Aside0.mk (Kd.R_lower (Kd.R_new' ho0 (Kd.R_lt (kR_ HO_5))) (bs_ HB))
 replace HO_5 := Aside0.mk (Kd.R_elder' (kR_ HO_5) (Kd.R_base ho0) hb)
 replace BK680 := FB_ BK680 hb
 replace BK681 := FB_ BK681 hb
 replace HB := BS_ HB hb
 (try clear hb)
 (try clear hk)
 (try clear ho0)
 obtain ⟨Ao29, co29, eo29⟩ := Kd.R_slice HO693.out
 (first | subst eo29 | (injection eo29 with f1_ f2_ f3_; have f4_ := f1_.symm; have f5_ := f3_.symm; clear f1_ f2_ f3_; subst f4_; subst f5_))
 refine hK.out _ _ ⟨ce_ BK680 0, ce_ BK680 1, ce_ BK680 2, ce_ BK680 3, ce_ BK681 0, ce_ BK681 1, ((HB.out.cell (World.block_lt_of_cell? w _ hw689_0)).trans hw689_0), ((HB.out.cell (World.block_lt_of_cell? w _ hw690_0)).trans hw690_0)⟩ (fun hHeld => ?_)
 clear hK K
 refine norm_ (a' := ?_) ?_ ?_
 rotate_left
 {
 show Act.put _ (some 45) _ = _
 exact sp_}
 refine one_ (i := 12) (N := some 46) (B_ 14 8191) rfl rfl (one_of HT_.out kf_) (by decide) (fun K hK => ?_)
 refine Kd.R_append_rows_step (Kd.int .i64) (w0 := w) w.heap.size (by rfl) (.tmp 34) (.tmp 45) 22 3 (.int .i64 0) 8 rfl Try.underlying22 info3 rfl (by decide) (by omega) u5 x5_2 t691 _ _ _ (fun k_ => some k_ ≠ (.slice Ao29 t691.length co29 : Value).ownBlock) (fun _ => False) rfl rfl ?aO ?aR (fun _ _ h => h) (fun _ h => h.elim) ?aF ?aB ?aS ?aL ?_
 (case aR => exact kCt_ (Kd.R_reads' HO693.out).2.2)
 (case aB => exact (bl_ HB))
 (case aF => exact (fun k_ hk => Kd.fresh' (Kd.R_lt (kR_ HO693)) k_ hk))
 (case aO => exact (by (with_reducible repeat (first | apply Kd.R_alloc | apply Kd.R_drewN | apply Kd.R_drew)); exact Kd.R_mono HO_5.out (fun _ hk => hk.2)))
 (case aS => exact (bs_ HB))
 (case aL => have := LMc25.out; omega)
 intro v695 w28 ho hb hg hat
 rw [← Ny694.out] at ho
 replace BK680 := (FG_ BK680 hg (Kd.R_ne HO_5.out BK680.out (by decide)))
 replace BK681 := (FG_ BK681 hg (Kd.R_ne HO_5.out BK681.out (by decide)))
 replace HO693 := Aside0.mk (Kd.R_after (ok := (fun _ => True)) (kR_ HO693) hg hat)
 replace HB := Aside0.mk (hb)
 have HO696 := Aside0.mk (ho)
 clear HO_5
 clear ho hb hg hat
 refine hK.out _ _ ⟨ce_ BK680 0, ce_ BK680 1, ce_ BK680 2, ce_ BK680 3, ce_ BK681 0, ce_ BK681 1, ((HB.out.cell (World.block_lt_of_cell? w _ hw689_0)).trans hw689_0), ((HB.out.cell (World.block_lt_of_cell? w _ hw690_0)).trans hw690_0)⟩ (fun hHeld => ?_)
 clear hK K
 refine norm_ (a' := ?_) ?_ ?_
 rotate_left
 {
 show Act.put _ (some 46) _ = _
 exact sp_}
 refine pu_ 13 (some 5) (B_ 14 16383) HT_ ?_
 refine done_ (done_of HT_.out kf_) ?_
 try go_wp2
 go_roundg k2
 case measure => have := HK1.out; have := HK2.out; omega
 case rel => exact ⟨(y694), (wrap64 (x7_2 + 1)), rs_, H', ⟨by have := HK1.out; have := HK2.out; omega⟩, ⟨by (with_reducible repeat (first | apply Kd.R_alloc | apply Kd.R_drewN | apply Kd.R_drew)); exact Kd.R_mono HO696.out (fun _ hk => trivial)⟩, ⟨bk_ BK680⟩, ⟨bk_ BK681⟩, ⟨bl_ HB⟩⟩}
 {
 rw [if_neg c25] at H
 exact absurd H (by simp)}}
 {
 rw [if_neg c23] at H
 exact absurd H (by simp)}}
 {
 rw [if_neg c22] at H
 exact absurd H (by simp)}}
 {
 rw [if_neg c21] at H
 exact absurd H (by simp)}}
 {
 rw [if_neg c20] at H
 exact absurd H (by simp)}}
 {
 rw [if_neg c19] at H
 have c19b0 : decide (x7_2 < 6) = false := decide_eq_false c19
 clear c19
 have H' := Aside0.mk H
 clear H
 go_wp2
 go_roundg k2
 case measure => have := HK1.out; have := HK2.out; omega
 case rel => exact ⟨(x5_2), (wrap64 (x6_1 + 1)), rs_, H', ⟨by have := HK1.out; have := HK2.out; omega⟩, ⟨kR_ HO_5⟩, ⟨bk_ BK680⟩, ⟨bk_ BK681⟩, ⟨bl_ HB⟩⟩}))}
 {
 rw [if_neg c14] at H
 exact absurd H (by simp)}}}
 {
 rw [if_neg c7] at H
 exact absurd H (by simp)}}
 {
 rw [if_neg c6] at H
 exact absurd H (by simp)}}
 {
 rw [if_neg c5] at H
 have c5b0 : decide (x6_1 < a0_0) = false := decide_eq_false c5
 clear c5
 have H' := Aside0.mk H
 clear H
 have hnb30 := NB680_681.out
 have hnc30 := NB681_680.out
 obtain ⟨hcz31_0, hcz31_1, hcz31_2, hcz31_3, hfz31_0, hfz31_1, hfz31_2, hfz31_3⟩ := e4_ BK680
 go_wp2
 go_loopg [5, 8] k1 (fun kq v5 v8 w' => ∃ (x5_2 : List Int) (x8_2 : Int), v8 = .int .i64 x8_2 ∧ Aside0 (psalteryref17_Write.l2 kq x5_2 x8_2 a0_0 a0_1 l0_2 l0_3 l1_0 l1_1 = some r) ∧ Aside0 (kq ≤ k1) ∧ Aside0 (Kd.R (Kd.int .i64) 3 w' w.heap.size (fun _ => True) v5 x5_2) ∧ Aside0 (w'.heap[gb680]? = some (.cells #[.int .i64 a0_0, .int .i64 a0_1, (.slice A0_2 l0_2.length c0_2), (.slice A0_3 l0_3.length c0_3)] 28 (0, 0))) ∧ Aside0 (w'.heap[gb681]? = some (.cells #[(.slice A1_0 l1_0.length c1_0), (.slice A1_1 l1_1.length c1_1)] 51 (0, 0))) ∧ Aside0 (Below w.heap.size w w'))
 case atStart => exact ⟨(x5_1), (0), rs_, H', ⟨Nat.le_refl _⟩, ⟨kR_ HO_5⟩, ⟨bk_ BK680⟩, ⟨bk_ BK681⟩, ⟨bl_ HB⟩⟩
 case round => (
 clear H'
 try clear c5
 try clear c5b0
 try clear hcz31_0
 try clear hcz31_1
 try clear hcz31_2
 try clear hcz31_3
 try clear hfz31_0
 try clear hfz31_1
 try clear hfz31_2
 try clear hfz31_3
 obtain ⟨x5_2, x8_2, rfl, HA, HK2, HO_5, BK680, BK681, HB⟩ := hrel
 cases gk with
 | zero => exact absurd HA.out (by simp [psalteryref17_Write.l2])
 | succ k2 => (
 have H := HA.out
 clear HA
 simp only [psalteryref17_Write.l2] at H
 by_cases c32 : x8_2 < a0_0
 {
 rw [if_pos c32] at H
 have c32b0 : decide (x8_2 < a0_0) = true := decide_eq_true c32
 clear c32
 have H' := Aside0.mk H
 clear H
 have hnb33 := NB680_681.out
 have hnc33 := NB681_680.out
 obtain ⟨hcz34_0, hcz34_1, hcz34_2, hcz34_3, hfz34_0, hfz34_1, hfz34_2, hfz34_3⟩ := e4_ BK680
 go_wp2
 go_loopg [5, 9] k2 (fun kq v5 v9 w' => ∃ (x5_3 : List Int) (x9_3 : Int), v9 = .int .i64 x9_3 ∧ Aside0 (psalteryref17_Write.l3 kq x5_3 x8_2 x9_3 a0_0 a0_1 l0_2 l0_3 l1_0 l1_1 = some r) ∧ Aside0 (kq ≤ k2) ∧ Aside0 (Kd.R (Kd.int .i64) 3 w' w.heap.size (fun _ => True) v5 x5_3) ∧ Aside0 (w'.heap[gb680]? = some (.cells #[.int .i64 a0_0, .int .i64 a0_1, (.slice A0_2 l0_2.length c0_2), (.slice A0_3 l0_3.length c0_3)] 28 (0, 0))) ∧ Aside0 (w'.heap[gb681]? = some (.cells #[(.slice A1_0 l1_0.length c1_0), (.slice A1_1 l1_1.length c1_1)] 51 (0, 0))) ∧ Aside0 (Below w.heap.size w w'))
 case atStart => exact ⟨(x5_2), (0), rs_, H', ⟨Nat.le_refl _⟩, ⟨kR_ HO_5⟩, ⟨bk_ BK680⟩, ⟨bk_ BK681⟩, ⟨bl_ HB⟩⟩
 case round => (
 clear H'
 try clear c5
 try clear c5b0
 try clear c32
 try clear c32b0
 try clear hcz31_0
 try clear hcz31_1
 try clear hcz31_2
 try clear hcz31_3
 try clear hcz34_0
 try clear hcz34_1
 try clear hcz34_2
 try clear hcz34_3
 try clear hfz31_0
 try clear hfz31_1
 try clear hfz31_2
 try clear hfz31_3
 try clear hfz34_0
 try clear hfz34_1
 try clear hfz34_2
 try clear hfz34_3
 obtain ⟨x5_3, x9_3, rfl, HA, HK3, HO_5, BK680, BK681, HB⟩ := hrel
 cases gk with
 | zero => exact absurd HA.out (by simp [psalteryref17_Write.l3])
 | succ k3 => (
 have H := HA.out
 clear HA
 simp only [psalteryref17_Write.l3] at H
 by_cases c35 : 0 ≤ x8_2
 {
 rw [if_pos c35] at H
 have c35b0 : decide (0 ≤ x8_2) = true := decide_eq_true c35
 clear c35
 by_cases c36 : x8_2 < (l1_1.length : Int)
 {
 rw [if_pos c36] at H
 have c36b0 : decide (x8_2 < (l1_1.length : Int)) = true := decide_eq_true c36
 clear c36
 by_cases c37 : x9_3 < ((rd_L5 l1_1 x8_2).length : Int)
 {
 rw [if_pos c37] at H
 have c37b0 : decide (x9_3 < ((rd_L5 l1_1 x8_2).length : Int)) = true := decide_eq_true c37
 clear c37
 by_cases c38 : 0 ≤ x9_3
 {
 rw [if_pos c38] at H
 have c38b0 : decide (0 ≤ x9_3) = true := decide_eq_true c38
 clear c38
 have HC39 := Aside0.mk H
 clear H
 have hnb40 := NB681_680.out
 have hnc40 := NB680_681.out
 obtain ⟨hcz41_0, hcz41_1, hfz41_0, hfz41_1⟩ := e2_ BK681
 have p700 : 0 ≤ (x8_2 : Int) := of_decide_eq_true am_
 have q700 : x8_2 < (l1_1.length : Int) := of_decide_eq_true am_
 obtain ⟨ad700, A700_0, c700_0, e700, hx700_0, hl700_0, hi700_0⟩ := at_L5 HR1_1.out x8_2 p700 q700
 cases e700
 replace hx700_0 := (HB.out.cell (World.block_lt_of_cell? w _ hx700_0)).trans hx700_0
 have HR700_0 := Aside0.mk hi700_0
 have HC700_0 := Aside0.mk hl700_0
 clear hi700_0 hl700_0
 replace p700 := eq_true p700
 replace q700 := eq_true q700
 have p701 : 0 ≤ (x8_2 : Int) := of_decide_eq_true am_
 have q701 : x8_2 < (l1_1.length : Int) := of_decide_eq_true am_
 obtain ⟨ad701, A701_0, c701_0, e701, hx701_0, hl701_0, hi701_0⟩ := at_L5 HR1_1.out x8_2 p701 q701
 obtain rfl : ad700 = ad701 := (by injection e701)
 replace hx701_0 := (HB.out.cell (World.block_lt_of_cell? w _ hx701_0)).trans hx701_0
 have HR701_0 := Aside0.mk hi701_0
 have HC701_0 := Aside0.mk hl701_0
 clear hi701_0 hl701_0
 replace p701 := eq_true p701
 replace q701 := eq_true q701
 have ea_ := Option.some.inj (hx700_0.symm.trans hx701_0)
 injection ea_ with ea_ en_ ec_
 subst ea_
 subst ec_
 clear en_
 have p702 : 0 ≤ (x9_3 : Int) := of_decide_eq_true am_
 have q702 : x9_3 < ((rd_L5 l1_1 x8_2).length : Int) := of_decide_eq_true am_
 obtain ⟨ad702, e702, hx702_0⟩ := Kd.at_int HR701_0.out x9_3 p702 q702
 cases e702
 replace hx702_0 := (HB.out.cell (World.block_lt_of_cell? w _ hx702_0)).trans hx702_0
 replace p702 := eq_true p702
 replace q702 := eq_true q702
 go_upto_region 19 with (fail)
 go_cut [85] (fun v85 wc => ∃ (kq : Nat) (x85_38 : Bool), v85 = .bool x85_38 ∧ Aside0 (psalteryref17_Write.j4 kq x5_3 x8_2 x9_3 (rd (rd_L5 l1_1 x8_2) x9_3) x85_38 a0_0 a0_1 l0_2 l0_3 l1_0 l1_1 = some r) ∧ Aside0 (kq ≤ k3) ∧ Aside0 (Kd.R (Kd.int .i64) 3 wc w.heap.size (fun _ => True) u5 x5_3) ∧ Aside0 (wc.heap[gb680]? = some (.cells #[.int .i64 a0_0, .int .i64 a0_1, (.slice A0_2 l0_2.length c0_2), (.slice A0_3 l0_3.length c0_3)] 28 (0, 0))) ∧ Aside0 (wc.heap[gb681]? = some (.cells #[(.slice A1_0 l1_0.length c1_0), (.slice (some ad700) l1_1.length c1_1)] 51 (0, 0))) ∧ Aside0 (Below w.heap.size w wc))
 case first => (
 have H := HC39.out
 clear HC39
 by_cases c42 : (rd (rd_L5 l1_1 x8_2) x9_3) ≥ (-7)
 {
 rw [if_pos c42] at H
 have c42b0 : decide ((-7) ≤ (rd (rd_L5 l1_1 x8_2) x9_3)) = true := decide_eq_true c42
 clear c42
 (first | rw [c42b0] | (simp only [i64_w, i32_w]; rw [c42b0]) | skip)
 by_cases c43 : (rd (rd_L5 l1_1 x8_2) x9_3) ≤ 7
 {
 rw [if_pos c43] at H
 have c43b0 : decide ((rd (rd_L5 l1_1 x8_2) x9_3) ≤ 7) = true := decide_eq_true c43
 clear c43
 obtain ⟨ji44, hji44⟩ : ∃ j_ : Int, (wrap64 ((rd (rd_L5 l1_1 x8_2) x9_3) + 7)) = j_ := ⟨_, rfl⟩
 replace H : (if 0 ≤ (ji44) then (if (ji44) < (l0_3.length : Int) then (psalteryref17_Write.j4 k3 x5_3 x8_2 x9_3 (rd (rd_L5 l1_1 x8_2) x9_3) ((rd l0_3 (ji44)) != 0) a0_0 a0_1 l0_2 l0_3 l1_0 l1_1) else (none)) else (none)) = some r := by first | (rw [hji44] at H; exact H) | (simp only [hji44] at H ⊢; exact H)
 have hji44w : (IntKind.i64.wrap ((rd (rd_L5 l1_1 x8_2) x9_3) + 7)) = ji44 := (i64_w _).trans hji44
 by_cases c45 : 0 ≤ (ji44)
 {
 rw [if_pos c45] at H
 have c45b0 : decide (0 ≤ (ji44)) = true := decide_eq_true c45
 clear c45
 by_cases c46 : (ji44) < (l0_3.length : Int)
 {
 rw [if_pos c46] at H
 have c46b0 : decide ((ji44) < (l0_3.length : Int)) = true := decide_eq_true c46
 clear c46
 have H' := Aside0.mk H
 clear H
 have hnb47 := NB680_681.out
 have hnc47 := NB681_680.out
 obtain ⟨hcz48_0, hcz48_1, hcz48_2, hcz48_3, hfz48_0, hfz48_1, hfz48_2, hfz48_3⟩ := e4_ BK680
 have p703 : 0 ≤ ((ji44) : Int) := of_decide_eq_true am_
 have q703 : (ji44) < (l0_3.length : Int) := of_decide_eq_true am_
 obtain ⟨ad703, e703, hx703_0⟩ := Kd.at_int HR0_3.out (ji44) p703 q703
 cases e703
 replace hx703_0 := (HB.out.cell (World.block_lt_of_cell? w _ hx703_0)).trans hx703_0
 replace p703 := eq_true p703
 replace q703 := eq_true q703
 go_wp2
 go_meet
 case rel => exact ⟨_, (((rd l0_3 (ji44)) != 0)), (by first | rfl | (simp; done) | (simp only [← hji44] <;> (first | rfl | simp)) | (simp [*]; done)), H', ⟨by have := HK1.out; have := HK2.out; have := HK3.out; first | omega | exact Nat.le_refl _⟩, ⟨kR_ HO_5⟩, ⟨bk_ BK680⟩, ⟨bk_ BK681⟩, ⟨bl_ HB⟩⟩}
 {
 rw [if_neg c46] at H
 exact absurd H (by simp)}}
 {
 rw [if_neg c45] at H
 exact absurd H (by simp)}}
 {
 rw [if_neg c43] at H
 have c43b0 : decide ((rd (rd_L5 l1_1 x8_2) x9_3) ≤ 7) = false := decide_eq_false c43
 clear c43
 have H' := Aside0.mk H
 clear H
 go_wp2
 go_meet
 case rel => exact ⟨_, (false), rs_, H', ⟨by have := HK1.out; have := HK2.out; have := HK3.out; first | omega | exact Nat.le_refl _⟩, ⟨kR_ HO_5⟩, ⟨bk_ BK680⟩, ⟨bk_ BK681⟩, ⟨bl_ HB⟩⟩}}
 {
 rw [if_neg c42] at H
 have c42b0 : decide ((-7) ≤ (rd (rd_L5 l1_1 x8_2) x9_3)) = false := decide_eq_false c42
 clear c42
 (first | rw [c42b0] | (simp only [i64_w, i32_w]; rw [c42b0]) | skip)
 have H' := Aside0.mk H
 clear H
 go_wp2
 go_meet
 case rel => exact ⟨_, (false), rs_, H', ⟨by have := HK1.out; have := HK2.out; have := HK3.out; first | omega | exact Nat.le_refl _⟩, ⟨kR_ HO_5⟩, ⟨bk_ BK680⟩, ⟨bk_ BK681⟩, ⟨bl_ HB⟩⟩})
 case rest => (
 clear HC39
 try clear c5
 try clear c5b0
 try clear c32
 try clear c32b0
 try clear c35
 try clear c35b0
 try clear c36
 try clear c36b0
 try clear c37
 try clear c37b0
 try clear c38
 try clear c38b0
 try clear hcz31_0
 try clear hcz31_1
 try clear hcz31_2
 try clear hcz31_3
 try clear hcz34_0
 try clear hcz34_1
 try clear hcz34_2
 try clear hcz34_3
 try clear hcz41_0
 try clear hcz41_1
 try clear hfz31_0
 try clear hfz31_1
 try clear hfz31_2
 try clear hfz31_3
 try clear hfz34_0
 try clear hfz34_1
 try clear hfz34_2
 try clear hfz34_3
 try clear hfz41_0
 try clear hfz41_1
 try clear hx700_0
 try clear hx701_0
 try clear hx702_0
 try clear p700
 try clear p701
 try clear p702
 try clear q700
 try clear q701
 try clear q702
 obtain ⟨kq, x85_38, rfl, HA, HJ38, HO_5, BK680, BK681, HB⟩ := hcut
 cases kq with
 | zero => exact absurd HA.out (by simp [psalteryref17_Write.j4])
 | succ kj38 => (
 have H := HA.out
 clear HA
 simp only [psalteryref17_Write.j4] at H
 by_cases c49 : x85_38 = true
 {
 subst c49
 rw [if_pos rfl] at H
 obtain ⟨t704, A50, H⟩ := ob_ H
 (try dsimp only at H)
 by_cases c51 : x5_3.length + t704.length < 17592186044416
 {
 rw [if_pos c51] at H
 have LMc51 := Aside0.mk c51
 clear c51
 obtain ⟨y707, hy707⟩ : ∃ y_ : List Int, y_ = (x5_3 ++ t704) := ⟨_, rfl⟩
 replace H : (psalteryref17_Write.l3 kj38 y707 x8_2 (wrap64 (x9_3 + 1)) a0_0 a0_1 l0_2 l0_3 l1_0 l1_1) = some r := by first | (rw [hy707]; with_reducible exact H) | (have H2_ := (Option.bind_some _ _).symm.trans H; rw [hy707]; with_reducible exact H2_) | (have H2_ := (Option.bind_some _ _).symm.trans H; with_reducible exact H2_) | with_reducible exact H | (rw [hy707]; exact H) | exact H
 have Ny707 := Aside0.mk hy707
 clear hy707
 have H' := Aside0.mk H
 clear H
 have hnb52 := NB680_681.out
 have hnc52 := NB681_680.out
 obtain ⟨hcz53_0, hcz53_1, hcz53_2, hcz53_3, hfz53_0, hfz53_1, hfz53_2, hfz53_3⟩ := e4_ BK680
 go_wp2_with (first | ((with_reducible refine gate_callee (f := 53) rfl ?_); refine gL_ (some 91) Try.func53 #[.slice A0_3 l0_3.length c0_3, .int .i64 (wrap64 ((rd (rd_L5 l1_1 x8_2) x9_3) + 7))] ?_; (with_reducible refine (psalteryref04_Code.calls kj38 _ _ l0_3 (wrap64 ((rd (rd_L5 l1_1 x8_2) x9_3) + 7)) t704 _ ?side1 ?side2 A50.out).mono ?_); (case side1 => exact kC_ HR0_3 HB); (case side2 => exact HC0_3.out); rintro e w54 ⟨v705, rfl, ho0, hb⟩; refine ⟨_, rfl, ?_⟩; have HO706 := Aside0.mk (Kd.R_lower (Kd.R_new' ho0 (Kd.R_lt (kR_ HO_5))) (bs_ HB)); replace HO_5 := Aside0.mk (Kd.R_elder' (kR_ HO_5) (Kd.R_base ho0) hb); replace BK680 := FB_ BK680 hb; replace BK681 := FB_ BK681 hb; replace HB := BS_ HB hb; (try clear hb); (try clear hk); (try clear ho0); obtain ⟨Ao56, co56, eo56⟩ := Kd.R_slice HO706.out; subst eo56) | ((with_reducible refine gate_builtin (b := .append) (xs := #[.tmp 86, .tmp 91]) rfl ?_); at_builtin; refine Kd.R_append_rows (Kd.int .i64) (w0 := w) w.heap.size rfl (.tmp 86) (.tmp 91) 22 3 (.int .i64 0) 8 rfl Try.underlying22 info3 rfl (by decide) (by omega) u5 x5_3 t704 _ _ _ (fun k_ => some k_ ≠ (.slice Ao56 t704.length co56 : Value).ownBlock) (fun _ => False) rfl rfl ?aO ?aR (fun _ _ h => h) (fun _ h => h.elim) ?aF ?aB ?aS ?aL ?_; (case aR => exact kCt_ (Kd.R_reads' HO706.out).2.2); (case aB => exact (bl_ HB)); (case aF => exact (fun k_ hk => Kd.fresh' (Kd.R_lt (kR_ HO706)) k_ hk)); (case aO => exact (by (with_reducible repeat (first | apply Kd.R_alloc | apply Kd.R_drewN | apply Kd.R_drew)); exact Kd.R_mono HO_5.out (fun _ hk => hk.2))); (case aS => exact (bs_ HB)); (case aL => have := LMc51.out; omega); intro v708 w55 ho hb hg hat; rw [← Ny707.out] at ho; replace BK680 := (FG_ BK680 hg (Kd.R_ne HO_5.out BK680.out (by decide))); replace BK681 := (FG_ BK681 hg (Kd.R_ne HO_5.out BK681.out (by decide))); replace HO706 := Aside0.mk (Kd.R_after (ok := (fun _ => True)) (kR_ HO706) hg hat); replace HB := Aside0.mk (hb); have HO709 := Aside0.mk (ho); clear HO_5; clear ho hb hg hat))
 go_roundg kj38
 case measure => have := HK1.out; have := HK2.out; have := HK3.out; have := HJ38.out; omega
 case rel => exact ⟨(y707), (wrap64 (x9_3 + 1)), rs_, H', ⟨by have := HK1.out; have := HK2.out; have := HK3.out; have := HJ38.out; omega⟩, ⟨by (with_reducible repeat (first | apply Kd.R_alloc | apply Kd.R_drewN | apply Kd.R_drew)); exact Kd.R_mono HO709.out (fun _ hk => trivial)⟩, ⟨bk_ BK680⟩, ⟨bk_ BK681⟩, ⟨bl_ HB⟩⟩}
 {
 rw [if_neg c51] at H
 exact absurd H (by simp)}}
 {
 replace c49 := Bool.eq_false_iff.mpr c49
 subst c49
 rw [if_neg (show ¬ (false = true) by decide)] at H
 obtain ⟨t710, A57, H⟩ := ob_ H
 (try dsimp only at H)
 by_cases c58 : x5_3.length + t710.length < 17592186044416
 {
 rw [if_pos c58] at H
 have LMc58 := Aside0.mk c58
 clear c58
 obtain ⟨y713, hy713⟩ : ∃ y_ : List Int, y_ = (x5_3 ++ t710) := ⟨_, rfl⟩
 replace H : (if (rd (rd_L5 l1_1 x8_2) x9_3) < 0 then (if y713.length < 17592186044416 then ((some (y713 ++ [1] : List Int)).bind fun y716 => ((psalteryref17_low.f kj38 (wrap64 (-(rd (rd_L5 l1_1 x8_2) x9_3))) 22).bind fun t719 => (if y716.length + t719.length < 17592186044416 then (psalteryref17_Write.l3 kj38 (y716 ++ t719) x8_2 (wrap64 (x9_3 + 1)) a0_0 a0_1 l0_2 l0_3 l1_0 l1_1) else (none)))) else (none)) else (if y713.length < 17592186044416 then ((some (y713 ++ [0] : List Int)).bind fun y725 => ((psalteryref17_low.f kj38 (rd (rd_L5 l1_1 x8_2) x9_3) 22).bind fun t728 => (if y725.length + t728.length < 17592186044416 then (psalteryref17_Write.l3 kj38 (y725 ++ t728) x8_2 (wrap64 (x9_3 + 1)) a0_0 a0_1 l0_2 l0_3 l1_0 l1_1) else (none)))) else (none))) = some r := by first | (rw [hy713]; with_reducible exact H) | (have H2_ := (Option.bind_some _ _).symm.trans H; rw [hy713]; with_reducible exact H2_) | (have H2_ := (Option.bind_some _ _).symm.trans H; with_reducible exact H2_) | with_reducible exact H | (rw [hy713]; exact H) | exact H
 have Ny713 := Aside0.mk hy713
 clear hy713
 by_cases c59 : (rd (rd_L5 l1_1 x8_2) x9_3) < 0
 {
 rw [if_pos c59] at H
 have c59b0 : decide ((rd (rd_L5 l1_1 x8_2) x9_3) < 0) = true := decide_eq_true c59
 clear c59
 by_cases c60 : y713.length < 17592186044416
 {
 rw [if_pos c60] at H
 have LMc60 := Aside0.mk c60
 clear c60
 obtain ⟨y716, hy716⟩ : ∃ y_ : List Int, y_ = (y713 ++ [1]) := ⟨_, rfl⟩
 replace H : ((psalteryref17_low.f kj38 (wrap64 (-(rd (rd_L5 l1_1 x8_2) x9_3))) 22).bind fun t719 => (if y716.length + t719.length < 17592186044416 then (psalteryref17_Write.l3 kj38 (y716 ++ t719) x8_2 (wrap64 (x9_3 + 1)) a0_0 a0_1 l0_2 l0_3 l1_0 l1_1) else (none))) = some r := by first | (rw [hy716]; with_reducible exact H) | (have H2_ := (Option.bind_some _ _).symm.trans H; rw [hy716]; with_reducible exact H2_) | (have H2_ := (Option.bind_some _ _).symm.trans H; with_reducible exact H2_) | with_reducible exact H | (rw [hy716]; exact H) | exact H
 have Ny716 := Aside0.mk hy716
 clear hy716
 obtain ⟨t719, A61, H⟩ := ob_ H
 (try dsimp only at H)
 by_cases c62 : y716.length + t719.length < 17592186044416
 {
 rw [if_pos c62] at H
 have LMc62 := Aside0.mk c62
 clear c62
 obtain ⟨y722, hy722⟩ : ∃ y_ : List Int, y_ = (y716 ++ t719) := ⟨_, rfl⟩
 replace H : (psalteryref17_Write.l3 kj38 y722 x8_2 (wrap64 (x9_3 + 1)) a0_0 a0_1 l0_2 l0_3 l1_0 l1_1) = some r := by first | (rw [hy722]; with_reducible exact H) | (have H2_ := (Option.bind_some _ _).symm.trans H; rw [hy722]; with_reducible exact H2_) | (have H2_ := (Option.bind_some _ _).symm.trans H; with_reducible exact H2_) | with_reducible exact H | (rw [hy722]; exact H) | exact H
 have Ny722 := Aside0.mk hy722
 clear hy722
 have H' := Aside0.mk H
 clear H
 have hnb63 := NB680_681.out
 have hnc63 := NB681_680.out
 obtain ⟨hcz64_0, hcz64_1, hcz64_2, hcz64_3, hfz64_0, hfz64_1, hfz64_2, hfz64_3⟩ := e4_ BK680
 go_wp2_with (first | ((with_reducible refine gate_callee (f := 53) rfl ?_); refine gL_ (some 96) Try.func53 #[.slice A0_3 l0_3.length c0_3, .int .i64 15] ?_; (with_reducible refine (psalteryref04_Code.calls kj38 _ _ l0_3 15 t710 _ ?side1 ?side2 A57.out).mono ?_); (case side1 => exact kC_ HR0_3 HB); (case side2 => exact HC0_3.out); rintro e w65 ⟨v711, rfl, ho0, hb⟩; refine ⟨_, rfl, ?_⟩; have HO712 := Aside0.mk (Kd.R_lower (Kd.R_new' ho0 (Kd.R_lt (kR_ HO_5))) (bs_ HB)); replace HO_5 := Aside0.mk (Kd.R_elder' (kR_ HO_5) (Kd.R_base ho0) hb); replace BK680 := FB_ BK680 hb; replace BK681 := FB_ BK681 hb; replace HB := BS_ HB hb; (try clear hb); (try clear hk); (try clear ho0); obtain ⟨Ao67, co67, eo67⟩ := Kd.R_slice HO712.out; subst eo67) | ((with_reducible refine gate_builtin (b := .append) (xs := #[.tmp 93, .tmp 96]) rfl ?_); at_builtin; refine Kd.R_append_rows (Kd.int .i64) (w0 := w) w.heap.size rfl (.tmp 93) (.tmp 96) 22 3 (.int .i64 0) 8 rfl Try.underlying22 info3 rfl (by decide) (by omega) u5 x5_3 t710 _ _ _ (fun k_ => some k_ ≠ (.slice Ao67 t710.length co67 : Value).ownBlock) (fun _ => False) rfl rfl ?aO ?aR (fun _ _ h => h) (fun _ h => h.elim) ?aF ?aB ?aS ?aL ?_; (case aR => exact kCt_ (Kd.R_reads' HO712.out).2.2); (case aB => exact (bl_ HB)); (case aF => exact (fun k_ hk => Kd.fresh' (Kd.R_lt (kR_ HO712)) k_ hk)); (case aO => exact (by (with_reducible repeat (first | apply Kd.R_alloc | apply Kd.R_drewN | apply Kd.R_drew)); exact Kd.R_mono HO_5.out (fun _ hk => hk.2))); (case aS => exact (bs_ HB)); (case aL => have := LMc58.out; omega); intro v714 w66 ho hb hg hat; rw [← Ny713.out] at ho; replace BK680 := (FG_ BK680 hg (Kd.R_ne HO_5.out BK680.out (by decide))); replace BK681 := (FG_ BK681 hg (Kd.R_ne HO_5.out BK681.out (by decide))); replace HO712 := Aside0.mk (Kd.R_after (ok := (fun _ => True)) (kR_ HO712) hg hat); replace HB := Aside0.mk (hb); have HO715 := Aside0.mk (ho); clear HO_5; clear ho hb hg hat) | ((with_reducible refine gate_builtin (b := .append) (xs := #[.tmp 100, .tmp 101]) rfl ?_); at_builtin; refine Kd.R_append (Kd.int .i64) (w0 := w) w.heap.size rfl (.tmp 100) (.tmp 101) 22 3 (.int .i64 0) 8 rfl Try.underlying22 info3 rfl (by decide) (by omega) v714 y713 1 [.int .i64 1] (fun k_ => some k_ ≠ (.slice Ao67 t710.length co67 : Value).ownBlock) (fun _ => False) rfl rfl ?aP (fun _ hk => hk.elim) ?aF ?aO ?aB ?aS ?aL ?_; (case aP => exact rfl); (case aB => exact (bl_ HB)); (case aF => exact (fun k_ hk => Kd.fresh' (Kd.R_lt (kR_ HO712)) k_ hk)); (case aO => exact (kR_ HO715)); (case aS => exact (bs_ HB)); (case aL => have := LMc60.out; omega); intro v717 w68 ho hb hg hat; rw [← Ny716.out] at ho; replace BK680 := (FG_ BK680 hg (Kd.R_ne HO715.out BK680.out (by decide))); replace BK681 := (FG_ BK681 hg (Kd.R_ne HO715.out BK681.out (by decide))); replace HO712 := Aside0.mk (Kd.R_after (ok := (fun _ => True)) (kR_ HO712) hg hat); replace HB := Aside0.mk (hb); have HO718 := Aside0.mk (ho); clear HO715; clear ho hb hg hat) | ((with_reducible refine gate_callee (f := 54) rfl ?_); refine gL_ (some 110) Try.func54 #[.int .i64 (wrap64 (-(rd (rd_L5 l1_1 x8_2) x9_3))), .int .i64 22] ?_; (with_reducible refine (psalteryref17_low.calls kj38 (wrap64 (-(rd (rd_L5 l1_1 x8_2) x9_3))) 22 t719 _ A61.out).mono ?_); rintro e w69 ⟨v720, rfl, ho0, hb⟩; refine ⟨_, rfl, ?_⟩; have HO721 := Aside0.mk (Kd.R_lower (Kd.R_new' (Kd.R_new' ho0 (Kd.R_lt (kR_ HO712))) (Kd.R_lt (kR_ HO718))) (bs_ HB)); replace HO712 := Aside0.mk (Kd.R_elder' (kR_ HO712) (Kd.R_base ho0) hb); replace HO718 := Aside0.mk (Kd.R_elder' (kR_ HO718) (Kd.R_base ho0) hb); replace BK680 := FB_ BK680 hb; replace BK681 := FB_ BK681 hb; replace HB := BS_ HB hb; (try clear hb); (try clear hk); (try clear ho0); obtain ⟨Ao71, co71, eo71⟩ := Kd.R_slice HO721.out; subst eo71) | ((with_reducible refine gate_builtin (b := .append) (xs := #[.tmp 108, .tmp 110]) rfl ?_); at_builtin; refine Kd.R_append_rows (Kd.int .i64) (w0 := w) w.heap.size rfl (.tmp 108) (.tmp 110) 22 3 (.int .i64 0) 8 rfl Try.underlying22 info3 rfl (by decide) (by omega) v717 y716 t719 _ _ _ (fun k_ => some k_ ≠ (.slice Ao67 t710.length co67 : Value).ownBlock ∧ some k_ ≠ (.slice Ao71 t719.length co71 : Value).ownBlock) (fun _ => False) rfl rfl ?aO ?aR (fun _ _ h => h) (fun _ h => h.elim) ?aF ?aB ?aS ?aL ?_; (case aR => exact kCt_ (Kd.R_reads' HO721.out).2.2); (case aB => exact (bl_ HB)); (case aF => exact (fun k_ hk => ⟨Kd.fresh' (Kd.R_lt (kR_ HO712)) k_ hk, Kd.fresh' (Kd.R_lt (kR_ HO721)) k_ hk⟩)); (case aO => exact (kR_ HO718)); (case aS => exact (bs_ HB)); (case aL => have := LMc62.out; omega); intro v723 w70 ho hb hg hat; rw [← Ny722.out] at ho; replace BK680 := (FG_ BK680 hg (Kd.R_ne HO718.out BK680.out (by decide))); replace BK681 := (FG_ BK681 hg (Kd.R_ne HO718.out BK681.out (by decide))); replace HO712 := Aside0.mk (Kd.R_after (ok := (fun k_ => some k_ ≠ (.slice Ao71 t719.length co71 : Value).ownBlock)) (by (with_reducible repeat (first | apply Kd.R_alloc | apply Kd.R_drewN | apply Kd.R_drew)); exact Kd.R_mono HO712.out (fun _ hk => ⟨hk.2, hk.1.2⟩)) hg hat); replace HO721 := Aside0.mk (Kd.R_after (ok := (fun k_ => some k_ ≠ (.slice Ao67 t710.length co67 : Value).ownBlock)) (by (with_reducible repeat (first | apply Kd.R_alloc | apply Kd.R_drewN | apply Kd.R_drew)); exact Kd.R_mono HO721.out (fun _ hk => ⟨hk.1.2, hk.2⟩)) hg hat); replace HB := Aside0.mk (hb); have HO724 := Aside0.mk (ho); clear HO718; clear ho hb hg hat))
 go_roundg kj38
 case measure => have := HK1.out; have := HK2.out; have := HK3.out; have := HJ38.out; omega
 case rel => exact ⟨(y722), (wrap64 (x9_3 + 1)), rs_, H', ⟨by have := HK1.out; have := HK2.out; have := HK3.out; have := HJ38.out; omega⟩, ⟨by (with_reducible repeat (first | apply Kd.R_alloc | apply Kd.R_drewN | apply Kd.R_drew)); exact Kd.R_mono HO724.out (fun _ hk => trivial)⟩, ⟨bk_ BK680⟩, ⟨bk_ BK681⟩, ⟨bl_ HB⟩⟩}
 {
 rw [if_neg c62] at H
 exact absurd H (by simp)}}
 {
 rw [if_neg c60] at H
 exact absurd H (by simp)}}
 {
 rw [if_neg c59] at H
 have c59b0 : decide ((rd (rd_L5 l1_1 x8_2) x9_3) < 0) = false := decide_eq_false c59
 clear c59
 by_cases c72 : y713.length < 17592186044416
 {
 rw [if_pos c72] at H
 have LMc72 := Aside0.mk c72
 clear c72
 obtain ⟨y725, hy725⟩ : ∃ y_ : List Int, y_ = (y713 ++ [0]) := ⟨_, rfl⟩
 replace H : ((psalteryref17_low.f kj38 (rd (rd_L5 l1_1 x8_2) x9_3) 22).bind fun t728 => (if y725.length + t728.length < 17592186044416 then (psalteryref17_Write.l3 kj38 (y725 ++ t728) x8_2 (wrap64 (x9_3 + 1)) a0_0 a0_1 l0_2 l0_3 l1_0 l1_1) else (none))) = some r := by first | (rw [hy725]; with_reducible exact H) | (have H2_ := (Option.bind_some _ _).symm.trans H; rw [hy725]; with_reducible exact H2_) | (have H2_ := (Option.bind_some _ _).symm.trans H; with_reducible exact H2_) | with_reducible exact H | (rw [hy725]; exact H) | exact H
 have Ny725 := Aside0.mk hy725
 clear hy725
 obtain ⟨t728, A73, H⟩ := ob_ H
 (try dsimp only at H)
 by_cases c74 : y725.length + t728.length < 17592186044416
 {
 rw [if_pos c74] at H
 have LMc74 := Aside0.mk c74
 clear c74
 obtain ⟨y731, hy731⟩ : ∃ y_ : List Int, y_ = (y725 ++ t728) := ⟨_, rfl⟩
 replace H : (psalteryref17_Write.l3 kj38 y731 x8_2 (wrap64 (x9_3 + 1)) a0_0 a0_1 l0_2 l0_3 l1_0 l1_1) = some r := by first | (rw [hy731]; with_reducible exact H) | (have H2_ := (Option.bind_some _ _).symm.trans H; rw [hy731]; with_reducible exact H2_) | (have H2_ := (Option.bind_some _ _).symm.trans H; with_reducible exact H2_) | with_reducible exact H | (rw [hy731]; exact H) | exact H
 have Ny731 := Aside0.mk hy731
 clear hy731
 have H' := Aside0.mk H
 clear H
 have hnb75 := NB680_681.out
 have hnc75 := NB681_680.out
 obtain ⟨hcz76_0, hcz76_1, hcz76_2, hcz76_3, hfz76_0, hfz76_1, hfz76_2, hfz76_3⟩ := e4_ BK680
 go_wp2_with (first | ((with_reducible refine gate_callee (f := 53) rfl ?_); refine gL_ (some 96) Try.func53 #[.slice A0_3 l0_3.length c0_3, .int .i64 15] ?_; (with_reducible refine (psalteryref04_Code.calls kj38 _ _ l0_3 15 t710 _ ?side1 ?side2 A57.out).mono ?_); (case side1 => exact kC_ HR0_3 HB); (case side2 => exact HC0_3.out); rintro e w77 ⟨v711, rfl, ho0, hb⟩; refine ⟨_, rfl, ?_⟩; have HO712 := Aside0.mk (Kd.R_lower (Kd.R_new' ho0 (Kd.R_lt (kR_ HO_5))) (bs_ HB)); replace HO_5 := Aside0.mk (Kd.R_elder' (kR_ HO_5) (Kd.R_base ho0) hb); replace BK680 := FB_ BK680 hb; replace BK681 := FB_ BK681 hb; replace HB := BS_ HB hb; (try clear hb); (try clear hk); (try clear ho0); obtain ⟨Ao79, co79, eo79⟩ := Kd.R_slice HO712.out; subst eo79) | ((with_reducible refine gate_builtin (b := .append) (xs := #[.tmp 93, .tmp 96]) rfl ?_); at_builtin; refine Kd.R_append_rows (Kd.int .i64) (w0 := w) w.heap.size rfl (.tmp 93) (.tmp 96) 22 3 (.int .i64 0) 8 rfl Try.underlying22 info3 rfl (by decide) (by omega) u5 x5_3 t710 _ _ _ (fun k_ => some k_ ≠ (.slice Ao79 t710.length co79 : Value).ownBlock) (fun _ => False) rfl rfl ?aO ?aR (fun _ _ h => h) (fun _ h => h.elim) ?aF ?aB ?aS ?aL ?_; (case aR => exact kCt_ (Kd.R_reads' HO712.out).2.2); (case aB => exact (bl_ HB)); (case aF => exact (fun k_ hk => Kd.fresh' (Kd.R_lt (kR_ HO712)) k_ hk)); (case aO => exact (by (with_reducible repeat (first | apply Kd.R_alloc | apply Kd.R_drewN | apply Kd.R_drew)); exact Kd.R_mono HO_5.out (fun _ hk => hk.2))); (case aS => exact (bs_ HB)); (case aL => have := LMc58.out; omega); intro v714 w78 ho hb hg hat; rw [← Ny713.out] at ho; replace BK680 := (FG_ BK680 hg (Kd.R_ne HO_5.out BK680.out (by decide))); replace BK681 := (FG_ BK681 hg (Kd.R_ne HO_5.out BK681.out (by decide))); replace HO712 := Aside0.mk (Kd.R_after (ok := (fun _ => True)) (kR_ HO712) hg hat); replace HB := Aside0.mk (hb); have HO715 := Aside0.mk (ho); clear HO_5; clear ho hb hg hat) | ((with_reducible refine gate_builtin (b := .append) (xs := #[.tmp 105, .tmp 106]) rfl ?_); at_builtin; refine Kd.R_append (Kd.int .i64) (w0 := w) w.heap.size rfl (.tmp 105) (.tmp 106) 22 3 (.int .i64 0) 8 rfl Try.underlying22 info3 rfl (by decide) (by omega) v714 y713 0 [.int .i64 0] (fun k_ => some k_ ≠ (.slice Ao79 t710.length co79 : Value).ownBlock) (fun _ => False) rfl rfl ?aP (fun _ hk => hk.elim) ?aF ?aO ?aB ?aS ?aL ?_; (case aP => exact rfl); (case aB => exact (bl_ HB)); (case aF => exact (fun k_ hk => Kd.fresh' (Kd.R_lt (kR_ HO712)) k_ hk)); (case aO => exact (kR_ HO715)); (case aS => exact (bs_ HB)); (case aL => have := LMc72.out; omega); intro v726 w80 ho hb hg hat; rw [← Ny725.out] at ho; replace BK680 := (FG_ BK680 hg (Kd.R_ne HO715.out BK680.out (by decide))); replace BK681 := (FG_ BK681 hg (Kd.R_ne HO715.out BK681.out (by decide))); replace HO712 := Aside0.mk (Kd.R_after (ok := (fun _ => True)) (kR_ HO712) hg hat); replace HB := Aside0.mk (hb); have HO727 := Aside0.mk (ho); clear HO715; clear ho hb hg hat) | ((with_reducible refine gate_callee (f := 54) rfl ?_); refine gL_ (some 110) Try.func54 #[.int .i64 (rd (rd_L5 l1_1 x8_2) x9_3), .int .i64 22] ?_; (with_reducible refine (psalteryref17_low.calls kj38 (rd (rd_L5 l1_1 x8_2) x9_3) 22 t728 _ A73.out).mono ?_); rintro e w81 ⟨v729, rfl, ho0, hb⟩; refine ⟨_, rfl, ?_⟩; have HO730 := Aside0.mk (Kd.R_lower (Kd.R_new' (Kd.R_new' ho0 (Kd.R_lt (kR_ HO712))) (Kd.R_lt (kR_ HO727))) (bs_ HB)); replace HO712 := Aside0.mk (Kd.R_elder' (kR_ HO712) (Kd.R_base ho0) hb); replace HO727 := Aside0.mk (Kd.R_elder' (kR_ HO727) (Kd.R_base ho0) hb); replace BK680 := FB_ BK680 hb; replace BK681 := FB_ BK681 hb; replace HB := BS_ HB hb; (try clear hb); (try clear hk); (try clear ho0); obtain ⟨Ao83, co83, eo83⟩ := Kd.R_slice HO730.out; subst eo83) | ((with_reducible refine gate_builtin (b := .append) (xs := #[.tmp 108, .tmp 110]) rfl ?_); at_builtin; refine Kd.R_append_rows (Kd.int .i64) (w0 := w) w.heap.size rfl (.tmp 108) (.tmp 110) 22 3 (.int .i64 0) 8 rfl Try.underlying22 info3 rfl (by decide) (by omega) v726 y725 t728 _ _ _ (fun k_ => some k_ ≠ (.slice Ao79 t710.length co79 : Value).ownBlock ∧ some k_ ≠ (.slice Ao83 t728.length co83 : Value).ownBlock) (fun _ => False) rfl rfl ?aO ?aR (fun _ _ h => h) (fun _ h => h.elim) ?aF ?aB ?aS ?aL ?_; (case aR => exact kCt_ (Kd.R_reads' HO730.out).2.2); (case aB => exact (bl_ HB)); (case aF => exact (fun k_ hk => ⟨Kd.fresh' (Kd.R_lt (kR_ HO712)) k_ hk, Kd.fresh' (Kd.R_lt (kR_ HO730)) k_ hk⟩)); (case aO => exact (kR_ HO727)); (case aS => exact (bs_ HB)); (case aL => have := LMc74.out; omega); intro v732 w82 ho hb hg hat; rw [← Ny731.out] at ho; replace BK680 := (FG_ BK680 hg (Kd.R_ne HO727.out BK680.out (by decide))); replace BK681 := (FG_ BK681 hg (Kd.R_ne HO727.out BK681.out (by decide))); replace HO712 := Aside0.mk (Kd.R_after (ok := (fun k_ => some k_ ≠ (.slice Ao83 t728.length co83 : Value).ownBlock)) (by (with_reducible repeat (first | apply Kd.R_alloc | apply Kd.R_drewN | apply Kd.R_drew)); exact Kd.R_mono HO712.out (fun _ hk => ⟨hk.2, hk.1.2⟩)) hg hat); replace HO730 := Aside0.mk (Kd.R_after (ok := (fun k_ => some k_ ≠ (.slice Ao79 t710.length co79 : Value).ownBlock)) (by (with_reducible repeat (first | apply Kd.R_alloc | apply Kd.R_drewN | apply Kd.R_drew)); exact Kd.R_mono HO730.out (fun _ hk => ⟨hk.1.2, hk.2⟩)) hg hat); replace HB := Aside0.mk (hb); have HO733 := Aside0.mk (ho); clear HO727; clear ho hb hg hat))
 go_roundg kj38
 case measure => have := HK1.out; have := HK2.out; have := HK3.out; have := HJ38.out; omega
 case rel => exact ⟨(y731), (wrap64 (x9_3 + 1)), rs_, H', ⟨by have := HK1.out; have := HK2.out; have := HK3.out; have := HJ38.out; omega⟩, ⟨by (with_reducible repeat (first | apply Kd.R_alloc | apply Kd.R_drewN | apply Kd.R_drew)); exact Kd.R_mono HO733.out (fun _ hk => trivial)⟩, ⟨bk_ BK680⟩, ⟨bk_ BK681⟩, ⟨bl_ HB⟩⟩}
 {
 rw [if_neg c74] at H
 exact absurd H (by simp)}}
 {
 rw [if_neg c72] at H
 exact absurd H (by simp)}}}
 {
 rw [if_neg c58] at H
 exact absurd H (by simp)}}))}
 {
 rw [if_neg c38] at H
 exact absurd H (by simp)}}
 {
 rw [if_neg c37] at H
 have c37b0 : decide (x9_3 < ((rd_L5 l1_1 x8_2).length : Int)) = false := decide_eq_false c37
 clear c37
 have H' := Aside0.mk H
 clear H
 have hnb84 := NB681_680.out
 have hnc84 := NB680_681.out
 obtain ⟨hcz85_0, hcz85_1, hfz85_0, hfz85_1⟩ := e2_ BK681
 have p700 : 0 ≤ (x8_2 : Int) := of_decide_eq_true am_
 have q700 : x8_2 < (l1_1.length : Int) := of_decide_eq_true am_
 obtain ⟨ad700, A700_0, c700_0, e700, hx700_0, hl700_0, hi700_0⟩ := at_L5 HR1_1.out x8_2 p700 q700
 cases e700
 replace hx700_0 := (HB.out.cell (World.block_lt_of_cell? w _ hx700_0)).trans hx700_0
 have HR700_0 := Aside0.mk hi700_0
 have HC700_0 := Aside0.mk hl700_0
 clear hi700_0 hl700_0
 replace p700 := eq_true p700
 replace q700 := eq_true q700
 go_wp2
 go_roundg k3
 case measure => have := HK1.out; have := HK2.out; have := HK3.out; omega
 case rel => exact ⟨(x5_3), (wrap64 (x8_2 + 1)), rs_, H', ⟨by have := HK1.out; have := HK2.out; have := HK3.out; omega⟩, ⟨kR_ HO_5⟩, ⟨bk_ BK680⟩, ⟨bk_ BK681⟩, ⟨bl_ HB⟩⟩}}
 {
 rw [if_neg c36] at H
 exact absurd H (by simp)}}
 {
 rw [if_neg c35] at H
 exact absurd H (by simp)}))}
 {
 rw [if_neg c32] at H
 have c32b0 : decide (x8_2 < a0_0) = false := decide_eq_false c32
 clear c32
 replace H := Option.bind_eq_some_iff.mp H
 obtain ⟨t697, A860, H⟩ := H
 replace H : (some t697) = some r := H
 have A86 := Aside0.mk A860
 clear A860
 obtain rfl := Option.some.inj H
 have hnb87 := NB680_681.out
 have hnc87 := NB681_680.out
 obtain ⟨hcz88_0, hcz88_1, hcz88_2, hcz88_3, hfz88_0, hfz88_1, hfz88_2, hfz88_3⟩ := e4_ BK680
 obtain ⟨Ao89, co89, eo89⟩ := Kd.R_slice HO_5.out
 subst eo89
 go_wp2_with (first | ((with_reducible refine gate_callee (f := 43) rfl ?_); refine gL_ (some 113) Try.func43 #[.slice Ao89 x5_2.length co89] ?_; (with_reducible refine (psalteryref01_Bytes.calls k2 _ _ x5_2 t697 _ ?side1 ?side2 A86.out).mono ?_); (case side1 => exact kCt_ (Kd.R_reads' HO_5.out).2.2); (case side2 => exact (Kd.R_reads' HO_5.out).2.1); rintro e w90 ⟨v698, rfl, ho0, hb⟩; refine ⟨_, rfl, ?_⟩; replace HO_5 := FR_ HO_5 hb; have HO699 := Aside0.mk (Kd.R_lower ho0 (bs_ HB)); replace BK680 := FB_ BK680 hb; replace BK681 := FB_ BK681 hb; replace HB := BS_ HB hb; (try clear hb); (try clear ho0)))
 go_ret
 exact ⟨_, by first | rfl | (simp [errW_none, errW_some] <;> rfl) | (simp [*, errW_none, errW_some] <;> rfl), by (with_reducible repeat (first | apply Kd.R_alloc | apply Kd.R_drewN | apply Kd.R_drew)); exact HO699.out, bl_ HB⟩}))}))
end Go.Proofs.Ytpdfdaoohknfoaa.P
