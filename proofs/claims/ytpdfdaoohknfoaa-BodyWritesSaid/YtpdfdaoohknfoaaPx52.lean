/- Walks. -/
import Derived.Test.YtpdfdaoohknfoaaQ1
import Derived.Test.YtpdfdaoohknfoaaQ4
import Derived.Test.YtpdfdaoohknfoaaPx51
namespace Go.Proofs.Ytpdfdaoohknfoaa.P
open Go.RowKit Go.Proofs.YtpdfdaoohknfoaaW.PrintWords Go.Proofs.YtpdfdaoohknfoaaW.PrintLast Go.Proofs.YtpdfdaoohknfoaaW.PrintMore
attribute [local go_sem] max2_int min2_int max_two min_two max_three min_three max_four min_four   -- for this text's walks alone
set_option linter.unusedVariables false
set_option linter.unusedSimpArgs false

mutual
def psalteryref17_Right.j0 : Nat → Bool → Int → Int → List Int → List Int → List (List Int) → List (List Int) → Option (Bool)
  | 0, _, _, _, _, _, _, _ => none
  | k + 1, x24, x651000, x651001, x651002, x651003, x652000, x652001 => if x24 = true then (some false) else (psalteryref17_Right.l0 k 0 x651000 x651001 x651002 x651003 x652000 x652001)
def psalteryref17_Right.l0 : Nat → Int → Int → Int → List Int → List Int → List (List Int) → List (List Int) → Option (Bool)
  | 0, _, _, _, _, _, _, _ => none
  | k + 1, x5, x651000, x651001, x651002, x651003, x652000, x652001 => if x5 < x651000 then (if 0 ≤ x5 then (if x5 < (x652000.length : Int) then (if x5 < (x652001.length : Int) then ((psalteryref17_channel.f k x651000 x651001 x651002 x651003 (rd_L1 x652000 x5) (rd_L5 x652001 x5)).bind fun t655 => (if t655 = true then (psalteryref17_Right.l0 k (wrap64 (x5 + 1)) x651000 x651001 x651002 x651003 x652000 x652001) else (some false))) else (none)) else (none)) else (none)) else (some true)
end
def psalteryref17_Right.f (k : Nat) (a0_0 : Int) (a0_1 : Int) (l0_2 : List Int) (l0_3 : List Int) (l1_0 : List (List Int)) (l1_1 : List (List Int)) : Option (Bool) := (psalteryref16_Right.f k a0_0 a0_1 l0_2 l0_3).bind fun t652 => (if t652 = true then (if (l1_0.length : Int) = a0_0 then (psalteryref17_Right.j0 k ((l1_1.length : Int) != a0_0) a0_0 a0_1 l0_2 l0_3 l1_0 l1_1) else (psalteryref17_Right.j0 k true a0_0 a0_1 l0_2 l0_3 l1_0 l1_1)) else (psalteryref17_Right.j0 k true a0_0 a0_1 l0_2 l0_3 l1_0 l1_1))
theorem psalteryref17_Right.mono_l : ∀ k, (∀ y0 y1 y2 y3 y4 y5 y6, LeO (psalteryref17_Right.j0 k y0 y1 y2 y3 y4 y5 y6) (psalteryref17_Right.j0 (k + 1) y0 y1 y2 y3 y4 y5 y6)) ∧ (∀ y0 y1 y2 y3 y4 y5 y6, LeO (psalteryref17_Right.l0 k y0 y1 y2 y3 y4 y5 y6) (psalteryref17_Right.l0 (k + 1) y0 y1 y2 y3 y4 y5 y6))
  | 0 => ⟨fun _ _ _ _ _ _ _ r h => by simp [psalteryref17_Right.j0] at h, fun _ _ _ _ _ _ _ r h => by simp [psalteryref17_Right.l0] at h⟩
  | k + 1 => by
    obtain ⟨ih0, ih1⟩ := psalteryref17_Right.mono_l k
    refine ⟨?_, ?_⟩
    all_goals (intros; first | unfold psalteryref17_Right.j0 | unfold psalteryref17_Right.l0)
    all_goals with_reducible repeat' first
     | exact ih0 _ _ _ _ _ _ _
     | exact ih1 _ _ _ _ _ _ _
     | exact psalteryref16_Right.mono _ _ _ _ _
     | exact psalteryref17_channel.mono _ _ _ _ _ _ _
     | exact LeO.refl _
     | exact LeO.none _
     | refine LeO.ite ?_ ?_
     | refine LeO.bind ?_ (fun _ => ?_)
theorem psalteryref17_Right.mono : ∀ a0 a1 a2 a3 a4 a5 k, LeO (psalteryref17_Right.f k a0 a1 a2 a3 a4 a5) (psalteryref17_Right.f (k + 1) a0 a1 a2 a3 a4 a5) := by
  intro a0 a1 a2 a3 a4 a5 k
  obtain ⟨ih0, ih1⟩ := psalteryref17_Right.mono_l k
  unfold psalteryref17_Right.f
  with_reducible repeat' first
   | exact ih0 _ _ _ _ _ _ _
   | exact ih1 _ _ _ _ _ _ _
   | exact psalteryref16_Right.mono _ _ _ _ _
   | exact psalteryref17_channel.mono _ _ _ _ _ _ _
   | exact LeO.refl _
   | exact LeO.none _
   | refine LeO.ite ?_ ?_
   | refine LeO.bind ?_ (fun _ => ?_)
def psalteryref17_Right.T6 : Bool × List (List Nat × List Nat) := (true, [([], []), ([], []), ([1], [1]), ([], []), ([2, 3], [2, 3]), ([4], [4]), ([], []), ([6], [6]), ([], []), ([7, 8], [7, 8]), ([9], [9]), ([0, 5, 10], [0, 5, 10]), ([11], [11])])
def psalteryref17_Right.B6 : List Nat := [0, 0, 2, 0, 14, 30, 0, 64, 0, 448, 960, 2047, 4095]
theorem psalteryref17_Right.tab6 : rtab .any (opsOf Try.f30 6) = psalteryref17_Right.T6 := by kernel_rfl
theorem psalteryref17_Right.bits6 : waitsOk psalteryref17_Right.T6.2 psalteryref17_Right.B6 = true := by kernel_rfl
set_option maxHeartbeats 8000000 in
set_option maxRecDepth 100000 in
theorem psalteryref17_Right.calls (k : Nat) (a0_0 : Int) (a0_1 : Int) (A0_2 : Option Addr) (c0_2 : Nat) (l0_2 : List Int) (A0_3 : Option Addr) (c0_3 : Nat) (l0_3 : List Int) (A1_0 : Option Addr) (c1_0 : Nat) (l1_0 : List (List Int)) (A1_1 : Option Addr) (c1_1 : Nat) (l1_1 : List (List Int)) (r : Bool) (w : World) (hr0_2 : Kd.C (Kd.int .i64) w A0_2 l0_2.length l0_2) (hc0_2 : l0_2.length ≤ c0_2) (hr0_3 : Kd.C (Kd.int .i64) w A0_3 l0_3.length l0_3) (hc0_3 : l0_3.length ≤ c0_3) (hr1_0 : Kd.C (Kd.slice 3 (Kd.int .i64)) w A1_0 l1_0.length l1_0) (hc1_0 : l1_0.length ≤ c1_0) (hr1_1 : Kd.C (Kd.slice 2 (Kd.int .i64)) w A1_1 l1_1.length l1_1) (hc1_1 : l1_1.length ≤ c1_1) (h : psalteryref17_Right.f k a0_0 a0_1 l0_2 l0_3 l1_0 l1_1 = some r) :
    Calls Try.prog 30 #[.agg #[.int .i64 a0_0, .int .i64 a0_1, .slice A0_2 l0_2.length c0_2, .slice A0_3 l0_3.length c0_3], .agg #[.slice A1_0 l1_0.length c1_0, .slice A1_1 l1_1.length c1_1]] w fun e w' => e = .returned (.bool r) ∧ Below w.heap.size w w' := by
 have hu28 := Try.underlying28
 have hu51 := Try.underlying51
 have HR0_2 := Aside0.mk hr0_2
 have HC0_2 := Aside0.mk hc0_2
 clear hr0_2 hc0_2
 have HR0_3 := Aside0.mk hr0_3
 have HC0_3 := Aside0.mk hc0_3
 clear hr0_3 hc0_3
 have HR1_0 := Aside0.mk hr1_0
 have HC1_0 := Aside0.mk hc1_0
 clear hr1_0 hc1_0
 have HR1_1 := Aside0.mk hr1_1
 have HC1_1 := Aside0.mk hc1_1
 clear hr1_1 hc1_1
 have HB := Aside0.mk (Below.refl w.heap.size w)
 have H : ((psalteryref16_Right.f k a0_0 a0_1 l0_2 l0_3).bind fun t652 => (if t652 = true then (if (l1_0.length : Int) = a0_0 then (psalteryref17_Right.j0 k ((l1_1.length : Int) != a0_0) a0_0 a0_1 l0_2 l0_3 l1_0 l1_1) else (psalteryref17_Right.j0 k true a0_0 a0_1 l0_2 l0_3 l1_0 l1_1)) else (psalteryref17_Right.j0 k true a0_0 a0_1 l0_2 l0_3 l1_0 l1_1))) = some r := h
 clear h
 have HC3 := Aside0.mk H
 clear H
 go_enter Try.func30, Try.ntmps30
 go_upto_region 1 with (first | ((with_reducible refine gate_dst (N := 2) rfl ?_); (try (refine gate_guard (by rfl) ?_; dsimp only)); refine bx_ HB 2 #[.int .i64 a0_0, .int .i64 a0_1, .slice A0_2 l0_2.length c0_2, .slice A0_3 l0_3.length c0_3] 28 ?_; clear HB; intro gb650 hg w4 hb BK650 GE650 HB; have GW650 := GE650; clear hb hg) | ((with_reducible refine gate_dst (N := 3) rfl ?_); (try (refine gate_guard (by rfl) ?_; dsimp only)); refine bx_ HB 3 #[.slice A1_0 l1_0.length c1_0, .slice A1_1 l1_1.length c1_1] 51 ?_; clear HB; intro gb651 hg w5 hb BK651 GE651 HB; have GW651 := GE651; obtain ⟨NB650_651, NB651_650⟩ := NN_ BK650 hg; replace BK650 := FB_ BK650 hb; clear hb hg))
 (try simp only [Act.put, List.setIfInBounds_toArray, List.set_cons_zero, List.set_cons_succ])
 go_cut [24] (fun v24 wc => ∃ (kq : Nat) (x24_2 : Bool), v24 = .bool x24_2 ∧ Aside0 (psalteryref17_Right.j0 kq x24_2 a0_0 a0_1 l0_2 l0_3 l1_0 l1_1 = some r) ∧ Aside0 (kq ≤ k) ∧ Aside0 (wc.heap[gb650]? = some (.cells #[.int .i64 a0_0, .int .i64 a0_1, (.slice A0_2 l0_2.length c0_2), (.slice A0_3 l0_3.length c0_3)] 28 (0, 0))) ∧ Aside0 (wc.heap[gb651]? = some (.cells #[(.slice A1_0 l1_0.length c1_0), (.slice A1_1 l1_1.length c1_1)] 51 (0, 0))) ∧ Aside0 (Below w.heap.size w wc))
 case first => (
 have H := HC3.out
 clear HC3
 obtain ⟨t652, A6, H⟩ := ob_ H
 (try dsimp only at H)
 by_cases c7 : t652 = true
 {
 subst c7
 rw [if_pos rfl] at H
 by_cases c8 : (l1_0.length : Int) = a0_0
 {
 rw [if_pos c8] at H
 have c8b0 : ((l1_0.length : Int) == a0_0) = true := beq_iff_eq.mpr c8
 have c8b1 : ((l1_0.length : Int) != a0_0) = false := bne_eq_false_iff_eq.mpr c8
 clear c8
 (first | rw [c8b0] | (simp only [i64_w, i32_w]; rw [c8b0]) | skip)
 have H' := Aside0.mk H
 clear H
 have hnb9 := NB650_651.out
 have hnc9 := NB651_650.out
 obtain ⟨hcz10_0, hcz10_1, hcz10_2, hcz10_3, hfz10_0, hfz10_1, hfz10_2, hfz10_3⟩ := e4_ BK650
 go_wp2_with (first | ((with_reducible refine gate_callee (f := 18) rfl ?_); refine gL_ (some 7) Try.func18 #[.agg #[.int .i64 a0_0, .int .i64 a0_1, .slice A0_2 l0_2.length c0_2, .slice A0_3 l0_3.length c0_3]] ?_; (with_reducible refine (psalteryref16_Right.calls k a0_0 a0_1 _ _ l0_2 _ _ l0_3 true _ ?side1 ?side2 ?side3 ?side4 A6.out).mono ?_); (case side1 => exact kC_ HR0_2 HB); (case side2 => exact HC0_2.out); (case side3 => exact kC_ HR0_3 HB); (case side4 => exact HC0_3.out); rintro e w11 ⟨rfl, hb⟩; refine ⟨_, rfl, ?_⟩; replace BK650 := FB_ BK650 hb; replace BK651 := FB_ BK651 hb; replace HB := BS_ HB hb; (try clear hb); obtain ⟨hcz12_0, hcz12_1, hfz12_0, hfz12_1⟩ := e2_ BK651; obtain ⟨hcz13_0, hcz13_1, hcz13_2, hcz13_3, hfz13_0, hfz13_1, hfz13_2, hfz13_3⟩ := e4_ BK650))
 go_meet
 case rel => exact ⟨_, (((l1_1.length : Int) != a0_0)), rs_, H', ⟨ol_⟩, ⟨bk_ BK650⟩, ⟨bk_ BK651⟩, ⟨bl_ HB⟩⟩}
 {
 rw [if_neg c8] at H
 have c8b0 : ((l1_0.length : Int) == a0_0) = false := beq_eq_false_iff_ne.mpr c8
 have c8b1 : ((l1_0.length : Int) != a0_0) = true := bne_iff_ne.mpr c8
 (first | rw [c8b0] | (simp only [i64_w, i32_w]; rw [c8b0]) | skip)
 have H' := Aside0.mk H
 clear H
 have hnb14 := NB650_651.out
 have hnc14 := NB651_650.out
 obtain ⟨hcz15_0, hcz15_1, hcz15_2, hcz15_3, hfz15_0, hfz15_1, hfz15_2, hfz15_3⟩ := e4_ BK650
 go_wp2_with (first | ((with_reducible refine gate_callee (f := 18) rfl ?_); refine gL_ (some 7) Try.func18 #[.agg #[.int .i64 a0_0, .int .i64 a0_1, .slice A0_2 l0_2.length c0_2, .slice A0_3 l0_3.length c0_3]] ?_; (with_reducible refine (psalteryref16_Right.calls k a0_0 a0_1 _ _ l0_2 _ _ l0_3 true _ ?side1 ?side2 ?side3 ?side4 A6.out).mono ?_); (case side1 => exact kC_ HR0_2 HB); (case side2 => exact HC0_2.out); (case side3 => exact kC_ HR0_3 HB); (case side4 => exact HC0_3.out); rintro e w16 ⟨rfl, hb⟩; refine ⟨_, rfl, ?_⟩; replace BK650 := FB_ BK650 hb; replace BK651 := FB_ BK651 hb; replace HB := BS_ HB hb; (try clear hb); obtain ⟨hcz17_0, hcz17_1, hfz17_0, hfz17_1⟩ := e2_ BK651; obtain ⟨hcz18_0, hcz18_1, hcz18_2, hcz18_3, hfz18_0, hfz18_1, hfz18_2, hfz18_3⟩ := e4_ BK650))
 go_meet
 case rel => exact ⟨_, (true), rs_, H', ⟨ol_⟩, ⟨bk_ BK650⟩, ⟨bk_ BK651⟩, ⟨bl_ HB⟩⟩}}
 {
 replace c7 := Bool.eq_false_iff.mpr c7
 subst c7
 rw [if_neg (show ¬ (false = true) by decide)] at H
 have H' := Aside0.mk H
 clear H
 have hnb19 := NB650_651.out
 have hnc19 := NB651_650.out
 obtain ⟨hcz20_0, hcz20_1, hcz20_2, hcz20_3, hfz20_0, hfz20_1, hfz20_2, hfz20_3⟩ := e4_ BK650
 go_wp2_with (first | ((with_reducible refine gate_callee (f := 18) rfl ?_); refine gL_ (some 7) Try.func18 #[.agg #[.int .i64 a0_0, .int .i64 a0_1, .slice A0_2 l0_2.length c0_2, .slice A0_3 l0_3.length c0_3]] ?_; (with_reducible refine (psalteryref16_Right.calls k a0_0 a0_1 _ _ l0_2 _ _ l0_3 false _ ?side1 ?side2 ?side3 ?side4 A6.out).mono ?_); (case side1 => exact kC_ HR0_2 HB); (case side2 => exact HC0_2.out); (case side3 => exact kC_ HR0_3 HB); (case side4 => exact HC0_3.out); rintro e w21 ⟨rfl, hb⟩; refine ⟨_, rfl, ?_⟩; replace BK650 := FB_ BK650 hb; replace BK651 := FB_ BK651 hb; replace HB := BS_ HB hb; (try clear hb)))
 go_meet
 case rel => exact ⟨_, (true), rs_, H', ⟨ol_⟩, ⟨bk_ BK650⟩, ⟨bk_ BK651⟩, ⟨bl_ HB⟩⟩})
 case rest => (
 clear HC3
 obtain ⟨kq, x24_2, rfl, HA, HJ2, BK650, BK651, HB⟩ := hcut
 cases kq with
 | zero => exact absurd HA.out (by simp [psalteryref17_Right.j0])
 | succ kj2 => (
 have H := HA.out
 clear HA
 simp only [psalteryref17_Right.j0] at H
 by_cases c22 : x24_2 = true
 {
 subst c22
 rw [if_pos rfl] at H
 obtain rfl := Option.some.inj H
 go_wp2
 go_ret
 exact ⟨by first | rfl | (simp [errW_none, errW_some] <;> rfl) | (simp [*, errW_none, errW_some] <;> rfl), bl_ HB⟩}
 {
 replace c22 := Bool.eq_false_iff.mpr c22
 subst c22
 rw [if_neg (show ¬ (false = true) by decide)] at H
 have H' := Aside0.mk H
 clear H
 go_wp2
 go_loopg [5] kj2 (fun kq v5 w' => ∃ (x5_2 : Int), v5 = .int .i64 x5_2 ∧ Aside0 (psalteryref17_Right.l0 kq x5_2 a0_0 a0_1 l0_2 l0_3 l1_0 l1_1 = some r) ∧ Aside0 (kq ≤ kj2) ∧ Aside0 (w'.heap[gb650]? = some (.cells #[.int .i64 a0_0, .int .i64 a0_1, (.slice A0_2 l0_2.length c0_2), (.slice A0_3 l0_3.length c0_3)] 28 (0, 0))) ∧ Aside0 (w'.heap[gb651]? = some (.cells #[(.slice A1_0 l1_0.length c1_0), (.slice A1_1 l1_1.length c1_1)] 51 (0, 0))) ∧ Aside0 (Below w.heap.size w w'))
 case atStart => exact ⟨(0), rs_, H', ⟨Nat.le_refl _⟩, ⟨bk_ BK650⟩, ⟨bk_ BK651⟩, ⟨bl_ HB⟩⟩
 case round => (
 clear H'
 try clear c22
 obtain ⟨x5_2, rfl, HA, HK2, BK650, BK651, HB⟩ := hrel
 cases gk with
 | zero => exact absurd HA.out (by simp [psalteryref17_Right.l0])
 | succ k2 => (
 have H := HA.out
 clear HA
 simp only [psalteryref17_Right.l0] at H
 by_cases c23 : x5_2 < a0_0
 {
 rw [if_pos c23] at H
 have c23b0 : decide (x5_2 < a0_0) = true := decide_eq_true c23
 clear c23
 by_cases c24 : 0 ≤ x5_2
 {
 rw [if_pos c24] at H
 have c24b0 : decide (0 ≤ x5_2) = true := decide_eq_true c24
 clear c24
 by_cases c25 : x5_2 < (l1_0.length : Int)
 {
 rw [if_pos c25] at H
 have c25b0 : decide (x5_2 < (l1_0.length : Int)) = true := decide_eq_true c25
 clear c25
 by_cases c26 : x5_2 < (l1_1.length : Int)
 {
 rw [if_pos c26] at H
 have c26b0 : decide (x5_2 < (l1_1.length : Int)) = true := decide_eq_true c26
 clear c26
 obtain ⟨t655, A27, H⟩ := ob_ H
 (try dsimp only at H)
 by_cases c28 : t655 = true
 {
 subst c28
 rw [if_pos rfl] at H
 have H' := Aside0.mk H
 clear H
 have hnb29 := NB650_651.out
 have hnc29 := NB651_650.out
 obtain ⟨hcz30_0, hcz30_1, hcz30_2, hcz30_3, hfz30_0, hfz30_1, hfz30_2, hfz30_3⟩ := e4_ BK650
 try go_wp2
 replace BK650 := Aside0.mk (blk_drew BK650.out)
 replace BK651 := Aside0.mk (blk_drew BK651.out)
 replace HB := Aside0.mk (below_drew1 HB.out)
 have p653 : 0 ≤ (x5_2 : Int) := of_decide_eq_true am_
 have q653 : x5_2 < (l1_0.length : Int) := of_decide_eq_true am_
 obtain ⟨ad653, A653_0, c653_0, e653, hx653_0, hl653_0, hi653_0⟩ := at_L1 HR1_0.out x5_2 p653 q653
 have hw653_0 := hx653_0
 cases e653
 replace hx653_0 := (HB.out.cell (World.block_lt_of_cell? w _ hx653_0)).trans hx653_0
 have HR653_0 := Aside0.mk hi653_0
 have HC653_0 := Aside0.mk hl653_0
 clear hi653_0 hl653_0
 replace p653 := eq_true p653
 replace q653 := eq_true q653
 have p654 : 0 ≤ (x5_2 : Int) := of_decide_eq_true am_
 have q654 : x5_2 < (l1_1.length : Int) := of_decide_eq_true am_
 obtain ⟨ad654, A654_0, c654_0, e654, hx654_0, hl654_0, hi654_0⟩ := at_L5 HR1_1.out x5_2 p654 q654
 have hw654_0 := hx654_0
 cases e654
 replace hx654_0 := (HB.out.cell (World.block_lt_of_cell? w _ hx654_0)).trans hx654_0
 have HR654_0 := Aside0.mk hi654_0
 have HC654_0 := Aside0.mk hl654_0
 clear hi654_0 hl654_0
 replace p654 := eq_true p654
 replace q654 := eq_true q654
 refine start_ (n := 13) (S := fun w' => w'.cell? ⟨gb650, 0, none⟩ = some (.int .i64 a0_0) ∧ w'.cell? ⟨gb650, 1, none⟩ = some (.int .i64 a0_1) ∧ w'.cell? ⟨gb650, 2, none⟩ = some (.slice A0_2 l0_2.length c0_2) ∧ w'.cell? ⟨gb650, 3, none⟩ = some (.slice A0_3 l0_3.length c0_3) ∧ w'.cell? ⟨gb651, 0, none⟩ = some (.slice (some ad653) l1_0.length c1_0) ∧ w'.cell? ⟨gb651, 1, none⟩ = some (.slice (some ad654) l1_1.length c1_1) ∧ w'.cell? (ad653.add (x5_2).toNat) = some (.slice A653_0 (rd_L1 l1_0 x5_2).length c653_0) ∧ w'.cell? (ad654.add (x5_2).toNat) = some (.slice A654_0 (rd_L5 l1_1 x5_2).length c654_0)) (ds := []) (B_ 13 0) kf_ rfl rfl ⟨ce_ BK650 0, ce_ BK650 1, ce_ BK650 2, ce_ BK650 3, ce_ BK651 0, ce_ BK651 1, ((HB.out.cell (World.block_lt_of_cell? w _ hw653_0)).trans hw653_0), ((HB.out.cell (World.block_lt_of_cell? w _ hw654_0)).trans hw654_0)⟩ (fun hHeld => ?_); refine with_tabW psalteryref17_Right.tab6 psalteryref17_Right.bits6 (fun HT_ HW_ => ?_)
 generalize wr.drew = w31 at BK650 BK651 HB HR653_0 HR654_0 hx653_0 hx654_0 hHeld ⊢
 refine pu_ 1 (some 32) (B_ 13 2) HT_ ?_
 refine pu_ 3 (some 34) (B_ 13 10) HT_ ?_
 refine pu_ 6 (some 37) (B_ 13 74) HT_ ?_
 refine pu_ 8 (some 39) (B_ 13 330) HT_ ?_
 refine take_ (i := 0) (N := some 31) (v := ?_) (a' := ?_) (B_ 13 331) rfl rfl (take_ofW HT_.out HW_.out kf_) (fun _ _ _ h => h) (Or.inl ⟨by rfl, ?_⟩) hHeld ?_ ?_
 rotate_left
 {
 rintro w' ⟨s0, s1, s2, s3, s4, s5, s6, s7⟩
 go_simp
 with_reducible rfl}
 rotate_left
 {
 exact sp_}
 refine take_ (i := 2) (N := some 33) (v := ?_) (a' := ?_) (B_ 13 335) rfl rfl (take_ofW HT_.out HW_.out kf_) (fun _ _ _ h => h) (Or.inl ⟨by rfl, ?_⟩) hHeld ?_ ?_
 rotate_left
 {
 rintro w' ⟨s0, s1, s2, s3, s4, s5, s6, s7⟩
 go_simp
 with_reducible rfl}
 rotate_left
 {
 exact sp_}
 refine pu_ 4 (some 35) (B_ 13 351) HT_ ?_
 refine take_ (i := 5) (N := some 36) (v := ?_) (a' := ?_) (B_ 13 383) rfl rfl (take_ofW HT_.out HW_.out kf_) (fun _ _ _ h => h) (Or.inl ⟨by rfl, ?_⟩) hHeld ?_ ?_
 rotate_left
 {
 rintro w' ⟨s0, s1, s2, s3, s4, s5, s6, s7⟩
 go_simp
 with_reducible rfl}
 rotate_left
 {
 exact sp_}
 refine take_ (i := 7) (N := some 38) (v := ?_) (a' := ?_) (B_ 13 511) rfl rfl (take_ofW HT_.out HW_.out kf_) (fun _ _ _ h => h) (Or.inl ⟨by rfl, ?_⟩) hHeld ?_ ?_
 rotate_left
 {
 rintro w' ⟨s0, s1, s2, s3, s4, s5, s6, s7⟩
 go_simp
 with_reducible rfl}
 rotate_left
 {
 exact sp_}
 refine pu_ 9 (some 40) (B_ 13 1023) HT_ ?_
 refine take_ (i := 10) (N := some 41) (v := ?_) (a' := ?_) (B_ 13 2047) rfl rfl (take_ofW HT_.out HW_.out kf_) (fun _ _ _ h => h) (Or.inl ⟨by rfl, ?_⟩) hHeld ?_ ?_
 rotate_left
 {
 rintro w' ⟨s0, s1, s2, s3, s4, s5, s6, s7⟩
 go_simp
 with_reducible rfl}
 rotate_left
 {
 exact sp_}
 refine one_ (i := 11) (N := some 42) (B_ 13 4095) rfl rfl (one_of HT_.out kf_) (by decide) (fun K hK => ?_)
 refine goes_ Try.func49 kf_ rfl #[.agg #[.int .i64 a0_0, .int .i64 a0_1, .slice A0_2 l0_2.length c0_2, .slice A0_3 l0_3.length c0_3], .slice A653_0 (rd_L1 l1_0 x5_2).length c653_0, .slice A654_0 (rd_L5 l1_1 x5_2).length c654_0] (by rfl) rfl rfl ar_ ?_
 with_reducible refine (psalteryref17_channel.calls k2 a0_0 a0_1 _ _ l0_2 _ _ l0_3 _ _ (rd_L1 l1_0 x5_2) _ _ (rd_L5 l1_1 x5_2) true _ ?side1 ?side2 ?side3 ?side4 ?side5 ?side6 ?side7 ?side8 A27.out).mono ?_
 (case side1 => exact kC_ HR0_2 HB)
 (case side2 => exact HC0_2.out)
 (case side3 => exact kC_ HR0_3 HB)
 (case side4 => exact HC0_3.out)
 (case side5 => exact kC_ HR653_0 HB)
 (case side6 => exact HC653_0.out)
 (case side7 => exact kC_ HR654_0 HB)
 (case side8 => exact HC654_0.out)
 rintro e w32 ⟨rfl, hb⟩
 refine ⟨_, rfl, ?_⟩
 replace BK650 := FB_ BK650 hb
 replace BK651 := FB_ BK651 hb
 replace HB := BS_ HB hb
 (try clear hb)
 refine hK.out _ _ ⟨ce_ BK650 0, ce_ BK650 1, ce_ BK650 2, ce_ BK650 3, ce_ BK651 0, ce_ BK651 1, ((HB.out.cell (World.block_lt_of_cell? w _ hw653_0)).trans hw653_0), ((HB.out.cell (World.block_lt_of_cell? w _ hw654_0)).trans hw654_0)⟩ (fun hHeld => ?_)
 clear hK K
 refine norm_ (a' := ?_) ?_ ?_
 rotate_left
 {
 show Act.put _ (some 42) _ = _
 exact sp_}
 refine pu_ 12 (some 43) (B_ 13 8191) HT_ ?_
 refine done_ (done_of HT_.out kf_) ?_
 try go_wp2
 go_roundg k2
 case measure => have := HJ2.out; have := HK2.out; omega
 case rel => exact ⟨(wrap64 (x5_2 + 1)), rs_, H', ⟨by have := HJ2.out; have := HK2.out; omega⟩, ⟨bk_ BK650⟩, ⟨bk_ BK651⟩, ⟨bl_ HB⟩⟩}
 {
 replace c28 := Bool.eq_false_iff.mpr c28
 subst c28
 rw [if_neg (show ¬ (false = true) by decide)] at H
 obtain rfl := Option.some.inj H
 have hnb33 := NB650_651.out
 have hnc33 := NB651_650.out
 obtain ⟨hcz34_0, hcz34_1, hcz34_2, hcz34_3, hfz34_0, hfz34_1, hfz34_2, hfz34_3⟩ := e4_ BK650
 try go_wp2
 replace BK650 := Aside0.mk (blk_drew BK650.out)
 replace BK651 := Aside0.mk (blk_drew BK651.out)
 replace HB := Aside0.mk (below_drew1 HB.out)
 have p653 : 0 ≤ (x5_2 : Int) := of_decide_eq_true am_
 have q653 : x5_2 < (l1_0.length : Int) := of_decide_eq_true am_
 obtain ⟨ad653, A653_0, c653_0, e653, hx653_0, hl653_0, hi653_0⟩ := at_L1 HR1_0.out x5_2 p653 q653
 have hw653_0 := hx653_0
 cases e653
 replace hx653_0 := (HB.out.cell (World.block_lt_of_cell? w _ hx653_0)).trans hx653_0
 have HR653_0 := Aside0.mk hi653_0
 have HC653_0 := Aside0.mk hl653_0
 clear hi653_0 hl653_0
 replace p653 := eq_true p653
 replace q653 := eq_true q653
 have p654 : 0 ≤ (x5_2 : Int) := of_decide_eq_true am_
 have q654 : x5_2 < (l1_1.length : Int) := of_decide_eq_true am_
 obtain ⟨ad654, A654_0, c654_0, e654, hx654_0, hl654_0, hi654_0⟩ := at_L5 HR1_1.out x5_2 p654 q654
 have hw654_0 := hx654_0
 cases e654
 replace hx654_0 := (HB.out.cell (World.block_lt_of_cell? w _ hx654_0)).trans hx654_0
 have HR654_0 := Aside0.mk hi654_0
 have HC654_0 := Aside0.mk hl654_0
 clear hi654_0 hl654_0
 replace p654 := eq_true p654
 replace q654 := eq_true q654
 refine start_ (n := 13) (S := fun w' => w'.cell? ⟨gb650, 0, none⟩ = some (.int .i64 a0_0) ∧ w'.cell? ⟨gb650, 1, none⟩ = some (.int .i64 a0_1) ∧ w'.cell? ⟨gb650, 2, none⟩ = some (.slice A0_2 l0_2.length c0_2) ∧ w'.cell? ⟨gb650, 3, none⟩ = some (.slice A0_3 l0_3.length c0_3) ∧ w'.cell? ⟨gb651, 0, none⟩ = some (.slice (some ad653) l1_0.length c1_0) ∧ w'.cell? ⟨gb651, 1, none⟩ = some (.slice (some ad654) l1_1.length c1_1) ∧ w'.cell? (ad653.add (x5_2).toNat) = some (.slice A653_0 (rd_L1 l1_0 x5_2).length c653_0) ∧ w'.cell? (ad654.add (x5_2).toNat) = some (.slice A654_0 (rd_L5 l1_1 x5_2).length c654_0)) (ds := []) (B_ 13 0) kf_ rfl rfl ⟨ce_ BK650 0, ce_ BK650 1, ce_ BK650 2, ce_ BK650 3, ce_ BK651 0, ce_ BK651 1, ((HB.out.cell (World.block_lt_of_cell? w _ hw653_0)).trans hw653_0), ((HB.out.cell (World.block_lt_of_cell? w _ hw654_0)).trans hw654_0)⟩ (fun hHeld => ?_); refine with_tabW psalteryref17_Right.tab6 psalteryref17_Right.bits6 (fun HT_ HW_ => ?_)
 generalize wr.drew = w35 at BK650 BK651 HB HR653_0 HR654_0 hx653_0 hx654_0 hHeld ⊢
 refine pu_ 1 (some 32) (B_ 13 2) HT_ ?_
 refine pu_ 3 (some 34) (B_ 13 10) HT_ ?_
 refine pu_ 6 (some 37) (B_ 13 74) HT_ ?_
 refine pu_ 8 (some 39) (B_ 13 330) HT_ ?_
 refine take_ (i := 0) (N := some 31) (v := ?_) (a' := ?_) (B_ 13 331) rfl rfl (take_ofW HT_.out HW_.out kf_) (fun _ _ _ h => h) (Or.inl ⟨by rfl, ?_⟩) hHeld ?_ ?_
 rotate_left
 {
 rintro w' ⟨s0, s1, s2, s3, s4, s5, s6, s7⟩
 go_simp
 with_reducible rfl}
 rotate_left
 {
 exact sp_}
 refine take_ (i := 2) (N := some 33) (v := ?_) (a' := ?_) (B_ 13 335) rfl rfl (take_ofW HT_.out HW_.out kf_) (fun _ _ _ h => h) (Or.inl ⟨by rfl, ?_⟩) hHeld ?_ ?_
 rotate_left
 {
 rintro w' ⟨s0, s1, s2, s3, s4, s5, s6, s7⟩
 go_simp
 with_reducible rfl}
 rotate_left
 {
 exact sp_}
 refine pu_ 4 (some 35) (B_ 13 351) HT_ ?_
 refine take_ (i := 5) (N := some 36) (v := ?_) (a' := ?_) (B_ 13 383) rfl rfl (take_ofW HT_.out HW_.out kf_) (fun _ _ _ h => h) (Or.inl ⟨by rfl, ?_⟩) hHeld ?_ ?_
 rotate_left
 {
 rintro w' ⟨s0, s1, s2, s3, s4, s5, s6, s7⟩
 go_simp
 with_reducible rfl}
 rotate_left
 {
 exact sp_}
 refine take_ (i := 7) (N := some 38) (v := ?_) (a' := ?_) (B_ 13 511) rfl rfl (take_ofW HT_.out HW_.out kf_) (fun _ _ _ h => h) (Or.inl ⟨by rfl, ?_⟩) hHeld ?_ ?_
 rotate_left
 {
 rintro w' ⟨s0, s1, s2, s3, s4, s5, s6, s7⟩
 go_simp
 with_reducible rfl}
 rotate_left
 {
 exact sp_}
 refine pu_ 9 (some 40) (B_ 13 1023) HT_ ?_
 refine take_ (i := 10) (N := some 41) (v := ?_) (a' := ?_) (B_ 13 2047) rfl rfl (take_ofW HT_.out HW_.out kf_) (fun _ _ _ h => h) (Or.inl ⟨by rfl, ?_⟩) hHeld ?_ ?_
 rotate_left
 {
 rintro w' ⟨s0, s1, s2, s3, s4, s5, s6, s7⟩
 go_simp
 with_reducible rfl}
 rotate_left
 {
 exact sp_}
 refine one_ (i := 11) (N := some 42) (B_ 13 4095) rfl rfl (one_of HT_.out kf_) (by decide) (fun K hK => ?_)
 refine goes_ Try.func49 kf_ rfl #[.agg #[.int .i64 a0_0, .int .i64 a0_1, .slice A0_2 l0_2.length c0_2, .slice A0_3 l0_3.length c0_3], .slice A653_0 (rd_L1 l1_0 x5_2).length c653_0, .slice A654_0 (rd_L5 l1_1 x5_2).length c654_0] (by rfl) rfl rfl ar_ ?_
 with_reducible refine (psalteryref17_channel.calls k2 a0_0 a0_1 _ _ l0_2 _ _ l0_3 _ _ (rd_L1 l1_0 x5_2) _ _ (rd_L5 l1_1 x5_2) false _ ?side1 ?side2 ?side3 ?side4 ?side5 ?side6 ?side7 ?side8 A27.out).mono ?_
 (case side1 => exact kC_ HR0_2 HB)
 (case side2 => exact HC0_2.out)
 (case side3 => exact kC_ HR0_3 HB)
 (case side4 => exact HC0_3.out)
 (case side5 => exact kC_ HR653_0 HB)
 (case side6 => exact HC653_0.out)
 (case side7 => exact kC_ HR654_0 HB)
 (case side8 => exact HC654_0.out)
 rintro e w36 ⟨rfl, hb⟩
 refine ⟨_, rfl, ?_⟩
 replace BK650 := FB_ BK650 hb
 replace BK651 := FB_ BK651 hb
 replace HB := BS_ HB hb
 (try clear hb)
 refine hK.out _ _ ⟨ce_ BK650 0, ce_ BK650 1, ce_ BK650 2, ce_ BK650 3, ce_ BK651 0, ce_ BK651 1, ((HB.out.cell (World.block_lt_of_cell? w _ hw653_0)).trans hw653_0), ((HB.out.cell (World.block_lt_of_cell? w _ hw654_0)).trans hw654_0)⟩ (fun hHeld => ?_)
 clear hK K
 refine norm_ (a' := ?_) ?_ ?_
 rotate_left
 {
 show Act.put _ (some 42) _ = _
 exact sp_}
 refine pu_ 12 (some 43) (B_ 13 8191) HT_ ?_
 refine done_ (done_of HT_.out kf_) ?_
 try go_wp2
 go_ret
 exact ⟨by first | rfl | (simp [errW_none, errW_some] <;> rfl) | (simp [*, errW_none, errW_some] <;> rfl), bl_ HB⟩}}
 {
 rw [if_neg c26] at H
 exact absurd H (by simp)}}
 {
 rw [if_neg c25] at H
 exact absurd H (by simp)}}
 {
 rw [if_neg c24] at H
 exact absurd H (by simp)}}
 {
 rw [if_neg c23] at H
 have c23b0 : decide (x5_2 < a0_0) = false := decide_eq_false c23
 clear c23
 obtain rfl := Option.some.inj H
 have hnb37 := NB650_651.out
 have hnc37 := NB651_650.out
 obtain ⟨hcz38_0, hcz38_1, hcz38_2, hcz38_3, hfz38_0, hfz38_1, hfz38_2, hfz38_3⟩ := e4_ BK650
 go_wp2
 go_ret
 exact ⟨by first | rfl | (simp [errW_none, errW_some] <;> rfl) | (simp [*, errW_none, errW_some] <;> rfl), bl_ HB⟩}))}))
end Go.Proofs.Ytpdfdaoohknfoaa.P
