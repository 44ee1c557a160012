/- Walks. -/
import Derived.Test.YtpdfdaoohknfoaaQ1
import Derived.Test.YtpdfdaoohknfoaaPx50
namespace Go.Proofs.Ytpdfdaoohknfoaa.P
open Go.RowKit Go.Proofs.YtpdfdaoohknfoaaW.PrintWords Go.Proofs.YtpdfdaoohknfoaaW.PrintLast Go.Proofs.YtpdfdaoohknfoaaW.PrintMore
attribute [local go_sem] max2_int min2_int max_two min_two max_three min_three max_four min_four   -- for this text's walks alone
set_option linter.unusedVariables false
set_option linter.unusedSimpArgs false

mutual
def psalteryref17_channel.j0 : Nat → List Int → List Int → Bool → Int → Int → List Int → List Int → Option (Bool)
  | 0, _, _, _, _, _, _, _ => none
  | k + 1, x1, x2, x22, x645000, x645001, x645002, x645003 => if x22 = true then (some false) else (psalteryref17_channel.l0 k x1 x2 0 x645000 x645001 x645002 x645003)
def psalteryref17_channel.l0 : Nat → List Int → List Int → Int → Int → Int → List Int → List Int → Option (Bool)
  | 0, _, _, _, _, _, _, _ => none
  | k + 1, x1, x2, x7, x645000, x645001, x645002, x645003 => if x7 < 6 then (if 0 ≤ x7 then (if x7 < (x1.length : Int) then (if 0 ≤ (rd x1 x7) then (if (rd x1 x7) < (x645002.length : Int) then (if (rd x645002 (rd x1 x7)) = 0 then (some false) else (psalteryref17_channel.l0 k x1 x2 (wrap64 (x7 + 1)) x645000 x645001 x645002 x645003)) else (none)) else (none)) else (none)) else (none)) else (psalteryref17_channel.l1 k x2 0)
def psalteryref17_channel.l1 : Nat → List Int → Int → Option (Bool)
  | 0, _, _ => none
  | k + 1, x2, x8 => if x8 < 16 then (if 0 ≤ x8 then (if x8 < (x2.length : Int) then (if (rd x2 x8) > 4194303 then (some false) else (if (rd x2 x8) < (-4194303) then (some false) else (psalteryref17_channel.l1 k x2 (wrap64 (x8 + 1))))) else (none)) else (none)) else (some true)
end
def psalteryref17_channel.f (k : Nat) (a0_0 : Int) (a0_1 : Int) (l0_2 : List Int) (l0_3 : List Int) (l1 : List Int) (l2 : List Int) : Option (Bool) := if (l1.length : Int) = 0 then (some ((l2.length : Int) == 0)) else ((psalteryref14_Right.f k l1).bind fun t645 => (if t645 = true then (psalteryref17_channel.j0 k l1 l2 ((l2.length : Int) != 16) a0_0 a0_1 l0_2 l0_3) else (psalteryref17_channel.j0 k l1 l2 true a0_0 a0_1 l0_2 l0_3)))
theorem psalteryref17_channel.mono_l : ∀ k, (∀ y0 y1 y2 y3 y4 y5 y6, LeO (psalteryref17_channel.j0 k y0 y1 y2 y3 y4 y5 y6) (psalteryref17_channel.j0 (k + 1) y0 y1 y2 y3 y4 y5 y6)) ∧ (∀ y0 y1 y2 y3 y4 y5 y6, LeO (psalteryref17_channel.l0 k y0 y1 y2 y3 y4 y5 y6) (psalteryref17_channel.l0 (k + 1) y0 y1 y2 y3 y4 y5 y6)) ∧ (∀ y0 y1, LeO (psalteryref17_channel.l1 k y0 y1) (psalteryref17_channel.l1 (k + 1) y0 y1))
  | 0 => ⟨fun _ _ _ _ _ _ _ r h => by simp [psalteryref17_channel.j0] at h, fun _ _ _ _ _ _ _ r h => by simp [psalteryref17_channel.l0] at h, fun _ _ r h => by simp [psalteryref17_channel.l1] at h⟩
  | k + 1 => by
    obtain ⟨ih0, ih1, ih2⟩ := psalteryref17_channel.mono_l k
    refine ⟨?_, ?_, ?_⟩
    all_goals (intros; first | unfold psalteryref17_channel.j0 | unfold psalteryref17_channel.l0 | unfold psalteryref17_channel.l1)
    all_goals with_reducible repeat' first
     | exact ih0 _ _ _ _ _ _ _
     | exact ih1 _ _ _ _ _ _ _
     | exact ih2 _ _
     | exact psalteryref14_Right.mono _ _
     | exact LeO.refl _
     | exact LeO.none _
     | refine LeO.ite ?_ ?_
     | refine LeO.bind ?_ (fun _ => ?_)
theorem psalteryref17_channel.mono : ∀ a0 a1 a2 a3 a4 a5 k, LeO (psalteryref17_channel.f k a0 a1 a2 a3 a4 a5) (psalteryref17_channel.f (k + 1) a0 a1 a2 a3 a4 a5) := by
  intro a0 a1 a2 a3 a4 a5 k
  obtain ⟨ih0, ih1, ih2⟩ := psalteryref17_channel.mono_l k
  unfold psalteryref17_channel.f
  with_reducible repeat' first
   | exact ih0 _ _ _ _ _ _ _
   | exact ih1 _ _ _ _ _ _ _
   | exact ih2 _ _
   | exact psalteryref14_Right.mono _ _
   | exact LeO.refl _
   | exact LeO.none _
   | refine LeO.ite ?_ ?_
   | refine LeO.bind ?_ (fun _ => ?_)
set_option maxHeartbeats 8000000 in
set_option maxRecDepth 100000 in
theorem psalteryref17_channel.calls (k : Nat) (a0_0 : Int) (a0_1 : Int) (A0_2 : Option Addr) (c0_2 : Nat) (l0_2 : List Int) (A0_3 : Option Addr) (c0_3 : Nat) (l0_3 : List Int) (A1 : Option Addr) (c1 : Nat) (l1 : List Int) (A2 : Option Addr) (c2 : Nat) (l2 : List Int) (r : Bool) (w : World) (hr0_2 : Kd.C (Kd.int .i64) w A0_2 l0_2.length l0_2) (hc0_2 : l0_2.length ≤ c0_2) (hr0_3 : Kd.C (Kd.int .i64) w A0_3 l0_3.length l0_3) (hc0_3 : l0_3.length ≤ c0_3) (hr1 : Kd.C (Kd.int .i64) w A1 l1.length l1) (hc1 : l1.length ≤ c1) (hr2 : Kd.C (Kd.int .i64) w A2 l2.length l2) (hc2 : l2.length ≤ c2) (h : psalteryref17_channel.f k a0_0 a0_1 l0_2 l0_3 l1 l2 = some r) :
    Calls Try.prog 49 #[.agg #[.int .i64 a0_0, .int .i64 a0_1, .slice A0_2 l0_2.length c0_2, .slice A0_3 l0_3.length c0_3], .slice A1 l1.length c1, .slice A2 l2.length c2] w fun e w' => e = .returned (.bool r) ∧ Below w.heap.size w w' := by
 have hu28 := Try.underlying28
 have HR0_2 := Aside0.mk hr0_2
 have HC0_2 := Aside0.mk hc0_2
 clear hr0_2 hc0_2
 have HR0_3 := Aside0.mk hr0_3
 have HC0_3 := Aside0.mk hc0_3
 clear hr0_3 hc0_3
 have HR1 := Aside0.mk hr1
 have HC1 := Aside0.mk hc1
 clear hr1 hc1
 have HR2 := Aside0.mk hr2
 have HC2 := Aside0.mk hc2
 clear hr2 hc2
 have HB := Aside0.mk (Below.refl w.heap.size w)
 have H : (if (l1.length : Int) = 0 then (some ((l2.length : Int) == 0)) else ((psalteryref14_Right.f k l1).bind fun t645 => (if t645 = true then (psalteryref17_channel.j0 k l1 l2 ((l2.length : Int) != 16) a0_0 a0_1 l0_2 l0_3) else (psalteryref17_channel.j0 k l1 l2 true a0_0 a0_1 l0_2 l0_3)))) = some r := h
 clear h
 by_cases c4 : (l1.length : Int) = 0
 {
 rw [if_pos c4] at H
 have c4b0 : ((l1.length : Int) == 0) = true := beq_iff_eq.mpr c4
 have c4b1 : ((l1.length : Int) != 0) = false := bne_eq_false_iff_eq.mpr c4
 clear c4
 obtain rfl := Option.some.inj H
 go_enter Try.func49, Try.ntmps49
 go_wp2_with (first | ((with_reducible refine gate_dst (N := 3) rfl ?_); (try (refine gate_guard (by rfl) ?_; dsimp only)); refine bx_ HB 3 #[.int .i64 a0_0, .int .i64 a0_1, .slice A0_2 l0_2.length c0_2, .slice A0_3 l0_3.length c0_3] 28 ?_; clear HB; intro gb644 hg w5 hb BK644 GE644 HB; have GW644 := GE644; clear hb hg))
 repeat (go_quiet (first | ((with_reducible refine gate_dst (N := 3) rfl ?_); (try (refine gate_guard (by rfl) ?_; dsimp only)); refine bx_ HB 3 #[.int .i64 a0_0, .int .i64 a0_1, .slice A0_2 l0_2.length c0_2, .slice A0_3 l0_3.length c0_3] 28 ?_; clear HB; intro gb644 hg w5 hb BK644 GE644 HB; have GW644 := GE644; clear hb hg)); try go_wp2_with (first | ((with_reducible refine gate_dst (N := 3) rfl ?_); (try (refine gate_guard (by rfl) ?_; dsimp only)); refine bx_ HB 3 #[.int .i64 a0_0, .int .i64 a0_1, .slice A0_2 l0_2.length c0_2, .slice A0_3 l0_3.length c0_3] 28 ?_; clear HB; intro gb644 hg w5 hb BK644 GE644 HB; have GW644 := GE644; clear hb hg)))
 go_ret
 exact ⟨by first | rfl | (simp [errW_none, errW_some] <;> rfl) | (simp [*, errW_none, errW_some] <;> rfl), bl_ HB⟩}
 {
 rw [if_neg c4] at H
 have c4b0 : ((l1.length : Int) == 0) = false := beq_eq_false_iff_ne.mpr c4
 have c4b1 : ((l1.length : Int) != 0) = true := bne_iff_ne.mpr c4
 have c4b2 : ¬ (l1 = []) := fun h_ => c4 (by rw [h_]; rfl)
 have HC6 := Aside0.mk H
 clear H
 go_enter Try.func49, Try.ntmps49
 go_upto_region 3 with (first | ((with_reducible refine gate_dst (N := 3) rfl ?_); (try (refine gate_guard (by rfl) ?_; dsimp only)); refine bx_ HB 3 #[.int .i64 a0_0, .int .i64 a0_1, .slice A0_2 l0_2.length c0_2, .slice A0_3 l0_3.length c0_3] 28 ?_; clear HB; intro gb644 hg w7 hb BK644 GE644 HB; have GW644 := GE644; clear hb hg))
 repeat (go_quiet (first | ((with_reducible refine gate_dst (N := 3) rfl ?_); (try (refine gate_guard (by rfl) ?_; dsimp only)); refine bx_ HB 3 #[.int .i64 a0_0, .int .i64 a0_1, .slice A0_2 l0_2.length c0_2, .slice A0_3 l0_3.length c0_3] 28 ?_; clear HB; intro gb644 hg w7 hb BK644 GE644 HB; have GW644 := GE644; clear hb hg)); go_upto_region 3 with (first | ((with_reducible refine gate_dst (N := 3) rfl ?_); (try (refine gate_guard (by rfl) ?_; dsimp only)); refine bx_ HB 3 #[.int .i64 a0_0, .int .i64 a0_1, .slice A0_2 l0_2.length c0_2, .slice A0_3 l0_3.length c0_3] 28 ?_; clear HB; intro gb644 hg w7 hb BK644 GE644 HB; have GW644 := GE644; clear hb hg)))
 (try simp only [Act.put, List.setIfInBounds_toArray, List.set_cons_zero, List.set_cons_succ])
 go_cut [22] (fun v22 wc => ∃ (kq : Nat) (x22_5 : Bool), v22 = .bool x22_5 ∧ Aside0 (psalteryref17_channel.j0 kq l1 l2 x22_5 a0_0 a0_1 l0_2 l0_3 = some r) ∧ Aside0 (kq ≤ k) ∧ Aside0 (wc.heap[gb644]? = some (.cells #[.int .i64 a0_0, .int .i64 a0_1, (.slice A0_2 l0_2.length c0_2), (.slice A0_3 l0_3.length c0_3)] 28 (0, 0))) ∧ Aside0 (Below w.heap.size w wc))
 case first => (
 have H := HC6.out
 clear HC6
 obtain ⟨t645, A8, H⟩ := ob_ H
 (try dsimp only at H)
 by_cases c9 : t645 = true
 {
 subst c9
 rw [if_pos rfl] at H
 have H' := Aside0.mk H
 clear H
 go_wp2_with (first | (go_at_call 67; (with_reducible refine (psalteryref14_Right.calls k _ _ l1 true _ ?side1 ?side2 A8.out).mono ?_); (case side1 => exact kC_ HR1 HB); (case side2 => exact HC1.out); rintro e w' ⟨rfl, ⟨nd, rfl⟩⟩; (try first | exact ⟨rfl, _, World.drewN_drewN _ _ _⟩ | exact ⟨rfl, _, Eq.trans (World.drewN_drewN _ _ _) (congrArg (World.drewN _) (Nat.add_assoc _ _ _))⟩)))
 repeat (go_quiet (first | (go_at_call 67; (with_reducible refine (psalteryref14_Right.calls k _ _ l1 true _ ?side1 ?side2 A8.out).mono ?_); (case side1 => exact kC_ HR1 HB); (case side2 => exact HC1.out); rintro e w' ⟨rfl, ⟨nd, rfl⟩⟩; (try first | exact ⟨rfl, _, World.drewN_drewN _ _ _⟩ | exact ⟨rfl, _, Eq.trans (World.drewN_drewN _ _ _) (congrArg (World.drewN _) (Nat.add_assoc _ _ _))⟩))); try go_wp2_with (first | (go_at_call 67; (with_reducible refine (psalteryref14_Right.calls k _ _ l1 true _ ?side1 ?side2 A8.out).mono ?_); (case side1 => exact kC_ HR1 HB); (case side2 => exact HC1.out); rintro e w' ⟨rfl, ⟨nd, rfl⟩⟩; (try first | exact ⟨rfl, _, World.drewN_drewN _ _ _⟩ | exact ⟨rfl, _, Eq.trans (World.drewN_drewN _ _ _) (congrArg (World.drewN _) (Nat.add_assoc _ _ _))⟩))))
 go_meet
 case rel => exact ⟨_, (((l2.length : Int) != 16)), rs_, H', ⟨ol_⟩, ⟨bk_ BK644⟩, ⟨bl_ HB⟩⟩}
 {
 replace c9 := Bool.eq_false_iff.mpr c9
 subst c9
 rw [if_neg (show ¬ (false = true) by decide)] at H
 have H' := Aside0.mk H
 clear H
 go_wp2_with (first | (go_at_call 67; (with_reducible refine (psalteryref14_Right.calls k _ _ l1 false _ ?side1 ?side2 A8.out).mono ?_); (case side1 => exact kC_ HR1 HB); (case side2 => exact HC1.out); rintro e w' ⟨rfl, ⟨nd, rfl⟩⟩; (try first | exact ⟨rfl, _, World.drewN_drewN _ _ _⟩ | exact ⟨rfl, _, Eq.trans (World.drewN_drewN _ _ _) (congrArg (World.drewN _) (Nat.add_assoc _ _ _))⟩)))
 repeat (go_quiet (first | (go_at_call 67; (with_reducible refine (psalteryref14_Right.calls k _ _ l1 false _ ?side1 ?side2 A8.out).mono ?_); (case side1 => exact kC_ HR1 HB); (case side2 => exact HC1.out); rintro e w' ⟨rfl, ⟨nd, rfl⟩⟩; (try first | exact ⟨rfl, _, World.drewN_drewN _ _ _⟩ | exact ⟨rfl, _, Eq.trans (World.drewN_drewN _ _ _) (congrArg (World.drewN _) (Nat.add_assoc _ _ _))⟩))); try go_wp2_with (first | (go_at_call 67; (with_reducible refine (psalteryref14_Right.calls k _ _ l1 false _ ?side1 ?side2 A8.out).mono ?_); (case side1 => exact kC_ HR1 HB); (case side2 => exact HC1.out); rintro e w' ⟨rfl, ⟨nd, rfl⟩⟩; (try first | exact ⟨rfl, _, World.drewN_drewN _ _ _⟩ | exact ⟨rfl, _, Eq.trans (World.drewN_drewN _ _ _) (congrArg (World.drewN _) (Nat.add_assoc _ _ _))⟩))))
 go_meet
 case rel => exact ⟨_, (true), rs_, H', ⟨ol_⟩, ⟨bk_ BK644⟩, ⟨bl_ HB⟩⟩})
 case rest => (
 clear HC6
 try clear c4
 try clear c4b0
 try clear c4b1
 try clear c4b2
 obtain ⟨kq, x22_5, rfl, HA, HJ5, BK644, HB⟩ := hcut
 cases kq with
 | zero => exact absurd HA.out (by simp [psalteryref17_channel.j0])
 | succ kj5 => (
 have H := HA.out
 clear HA
 simp only [psalteryref17_channel.j0] at H
 by_cases c10 : x22_5 = true
 {
 subst c10
 rw [if_pos rfl] at H
 obtain rfl := Option.some.inj H
 go_wp2
 repeat (go_quiet (fail); try go_wp2)
 go_ret
 exact ⟨by first | rfl | (simp [errW_none, errW_some] <;> rfl) | (simp [*, errW_none, errW_some] <;> rfl), bl_ HB⟩}
 {
 replace c10 := Bool.eq_false_iff.mpr c10
 subst c10
 rw [if_neg (show ¬ (false = true) by decide)] at H
 have H' := Aside0.mk H
 clear H
 go_wp2
 repeat (go_quiet (fail); try go_wp2)
 go_loopg [7] kj5 (fun kq v7 w' => ∃ (x7_2 : Int), v7 = .int .i64 x7_2 ∧ Aside0 (psalteryref17_channel.l0 kq l1 l2 x7_2 a0_0 a0_1 l0_2 l0_3 = some r) ∧ Aside0 (kq ≤ kj5) ∧ Aside0 (w'.heap[gb644]? = some (.cells #[.int .i64 a0_0, .int .i64 a0_1, (.slice A0_2 l0_2.length c0_2), (.slice A0_3 l0_3.length c0_3)] 28 (0, 0))) ∧ Aside0 (Below w.heap.size w w'))
 case atStart => exact ⟨(0), rs_, H', ⟨Nat.le_refl _⟩, ⟨bk_ BK644⟩, ⟨bl_ HB⟩⟩
 case round => (
 clear H'
 try clear c4
 try clear c4b0
 try clear c4b1
 try clear c4b2
 try clear c10
 obtain ⟨x7_2, rfl, HA, HK2, BK644, HB⟩ := hrel
 cases gk with
 | zero => exact absurd HA.out (by simp [psalteryref17_channel.l0])
 | succ k2 => (
 have H := HA.out
 clear HA
 simp only [psalteryref17_channel.l0] at H
 by_cases c11 : x7_2 < 6
 {
 rw [if_pos c11] at H
 have c11b0 : decide (x7_2 < 6) = true := decide_eq_true c11
 clear c11
 by_cases c12 : 0 ≤ x7_2
 {
 rw [if_pos c12] at H
 have c12b0 : decide (0 ≤ x7_2) = true := decide_eq_true c12
 clear c12
 by_cases c13 : x7_2 < (l1.length : Int)
 {
 rw [if_pos c13] at H
 have c13b0 : decide (x7_2 < (l1.length : Int)) = true := decide_eq_true c13
 clear c13
 by_cases c14 : 0 ≤ (rd l1 x7_2)
 {
 rw [if_pos c14] at H
 have c14b0 : decide (0 ≤ (rd l1 x7_2)) = true := decide_eq_true c14
 clear c14
 by_cases c15 : (rd l1 x7_2) < (l0_2.length : Int)
 {
 rw [if_pos c15] at H
 have c15b0 : decide ((rd l1 x7_2) < (l0_2.length : Int)) = true := decide_eq_true c15
 clear c15
 by_cases c16 : (rd l0_2 (rd l1 x7_2)) = 0
 {
 rw [if_pos c16] at H
 have c16b0 : ((rd l0_2 (rd l1 x7_2)) == 0) = true := beq_iff_eq.mpr c16
 have c16b1 : ((rd l0_2 (rd l1 x7_2)) != 0) = false := bne_eq_false_iff_eq.mpr c16
 clear c16
 obtain rfl := Option.some.inj H
 obtain ⟨hcz17_0, hcz17_1, hcz17_2, hcz17_3, hfz17_0, hfz17_1, hfz17_2, hfz17_3⟩ := e4_ BK644
 have p646 : 0 ≤ (x7_2 : Int) := of_decide_eq_true am_
 have q646 : x7_2 < (l1.length : Int) := of_decide_eq_true am_
 obtain ⟨ad646, e646, hx646_0⟩ := Kd.at_int HR1.out x7_2 p646 q646
 cases e646
 replace hx646_0 := (HB.out.cell (World.block_lt_of_cell? w _ hx646_0)).trans hx646_0
 replace p646 := eq_true p646
 replace q646 := eq_true q646
 have p647 : 0 ≤ ((rd l1 x7_2) : Int) := of_decide_eq_true am_
 have q647 : (rd l1 x7_2) < (l0_2.length : Int) := of_decide_eq_true am_
 obtain ⟨ad647, e647, hx647_0⟩ := Kd.at_int HR0_2.out (rd l1 x7_2) p647 q647
 cases e647
 replace hx647_0 := (HB.out.cell (World.block_lt_of_cell? w _ hx647_0)).trans hx647_0
 replace p647 := eq_true p647
 replace q647 := eq_true q647
 go_wp2
 repeat (go_quiet (fail); try go_wp2)
 go_ret
 exact ⟨by first | rfl | (simp [errW_none, errW_some] <;> rfl) | (simp [*, errW_none, errW_some] <;> rfl), bl_ HB⟩}
 {
 rw [if_neg c16] at H
 have c16b0 : ((rd l0_2 (rd l1 x7_2)) == 0) = false := beq_eq_false_iff_ne.mpr c16
 have c16b1 : ((rd l0_2 (rd l1 x7_2)) != 0) = true := bne_iff_ne.mpr c16
 have H' := Aside0.mk H
 clear H
 obtain ⟨hcz18_0, hcz18_1, hcz18_2, hcz18_3, hfz18_0, hfz18_1, hfz18_2, hfz18_3⟩ := e4_ BK644
 have p646 : 0 ≤ (x7_2 : Int) := of_decide_eq_true am_
 have q646 : x7_2 < (l1.length : Int) := of_decide_eq_true am_
 obtain ⟨ad646, e646, hx646_0⟩ := Kd.at_int HR1.out x7_2 p646 q646
 cases e646
 replace hx646_0 := (HB.out.cell (World.block_lt_of_cell? w _ hx646_0)).trans hx646_0
 replace p646 := eq_true p646
 replace q646 := eq_true q646
 have p647 : 0 ≤ ((rd l1 x7_2) : Int) := of_decide_eq_true am_
 have q647 : (rd l1 x7_2) < (l0_2.length : Int) := of_decide_eq_true am_
 obtain ⟨ad647, e647, hx647_0⟩ := Kd.at_int HR0_2.out (rd l1 x7_2) p647 q647
 cases e647
 replace hx647_0 := (HB.out.cell (World.block_lt_of_cell? w _ hx647_0)).trans hx647_0
 replace p647 := eq_true p647
 replace q647 := eq_true q647
 go_wp2
 repeat (go_quiet (fail); try go_wp2)
 go_roundg k2
 case measure => have := HJ5.out; have := HK2.out; omega
 case rel => exact ⟨(wrap64 (x7_2 + 1)), rs_, H', ⟨by have := HJ5.out; have := HK2.out; omega⟩, ⟨bk_ BK644⟩, ⟨bl_ HB⟩⟩}}
 {
 rw [if_neg c15] at H
 exact absurd H (by simp)}}
 {
 rw [if_neg c14] at H
 exact absurd H (by simp)}}
 {
 rw [if_neg c13] at H
 exact absurd H (by simp)}}
 {
 rw [if_neg c12] at H
 exact absurd H (by simp)}}
 {
 rw [if_neg c11] at H
 have c11b0 : decide (x7_2 < 6) = false := decide_eq_false c11
 clear c11
 have H' := Aside0.mk H
 clear H
 go_wp2
 repeat (go_quiet (fail); try go_wp2)
 go_loopg [8] k2 (fun kq v8 w' => ∃ (x8_3 : Int), v8 = .int .i64 x8_3 ∧ Aside0 (psalteryref17_channel.l1 kq l2 x8_3 = some r) ∧ Aside0 (kq ≤ k2) ∧ Aside0 (w'.heap[gb644]? = some (.cells #[.int .i64 a0_0, .int .i64 a0_1, (.slice A0_2 l0_2.length c0_2), (.slice A0_3 l0_3.length c0_3)] 28 (0, 0))) ∧ Aside0 (Below w.heap.size w w'))
 case atStart => exact ⟨(0), rs_, H', ⟨Nat.le_refl _⟩, ⟨bk_ BK644⟩, ⟨bl_ HB⟩⟩
 case round => (
 clear H'
 try clear c4
 try clear c4b0
 try clear c4b1
 try clear c4b2
 try clear c10
 try clear c11
 try clear c11b0
 obtain ⟨x8_3, rfl, HA, HK3, BK644, HB⟩ := hrel
 cases gk with
 | zero => exact absurd HA.out (by simp [psalteryref17_channel.l1])
 | succ k3 => (
 have H := HA.out
 clear HA
 simp only [psalteryref17_channel.l1] at H
 by_cases c19 : x8_3 < 16
 {
 rw [if_pos c19] at H
 have c19b0 : decide (x8_3 < 16) = true := decide_eq_true c19
 clear c19
 by_cases c20 : 0 ≤ x8_3
 {
 rw [if_pos c20] at H
 have c20b0 : decide (0 ≤ x8_3) = true := decide_eq_true c20
 clear c20
 by_cases c21 : x8_3 < (l2.length : Int)
 {
 rw [if_pos c21] at H
 have c21b0 : decide (x8_3 < (l2.length : Int)) = true := decide_eq_true c21
 clear c21
 by_cases c22 : (rd l2 x8_3) > 4194303
 {
 rw [if_pos c22] at H
 have c22b0 : decide (4194303 < (rd l2 x8_3)) = true := decide_eq_true c22
 clear c22
 obtain rfl := Option.some.inj H
 have p648 : 0 ≤ (x8_3 : Int) := of_decide_eq_true am_
 have q648 : x8_3 < (l2.length : Int) := of_decide_eq_true am_
 obtain ⟨ad648, e648, hx648_0⟩ := Kd.at_int HR2.out x8_3 p648 q648
 cases e648
 replace hx648_0 := (HB.out.cell (World.block_lt_of_cell? w _ hx648_0)).trans hx648_0
 replace p648 := eq_true p648
 replace q648 := eq_true q648
 go_wp2
 repeat (go_quiet (fail); try go_wp2)
 go_ret
 exact ⟨by first | rfl | (simp [errW_none, errW_some] <;> rfl) | (simp [*, errW_none, errW_some] <;> rfl), bl_ HB⟩}
 {
 rw [if_neg c22] at H
 have c22b0 : decide (4194303 < (rd l2 x8_3)) = false := decide_eq_false c22
 clear c22
 by_cases c23 : (rd l2 x8_3) < (-4194303)
 {
 rw [if_pos c23] at H
 have c23b0 : decide ((rd l2 x8_3) < (-4194303)) = true := decide_eq_true c23
 clear c23
 obtain rfl := Option.some.inj H
 have p648 : 0 ≤ (x8_3 : Int) := of_decide_eq_true am_
 have q648 : x8_3 < (l2.length : Int) := of_decide_eq_true am_
 obtain ⟨ad648, e648, hx648_0⟩ := Kd.at_int HR2.out x8_3 p648 q648
 cases e648
 replace hx648_0 := (HB.out.cell (World.block_lt_of_cell? w _ hx648_0)).trans hx648_0
 replace p648 := eq_true p648
 replace q648 := eq_true q648
 have p649 : 0 ≤ (x8_3 : Int) := of_decide_eq_true am_
 have q649 : x8_3 < (l2.length : Int) := of_decide_eq_true am_
 obtain ⟨ad649, e649, hx649_0⟩ := Kd.at_int HR2.out x8_3 p649 q649
 obtain rfl : ad648 = ad649 := (by injection e649)
 replace hx649_0 := (HB.out.cell (World.block_lt_of_cell? w _ hx649_0)).trans hx649_0
 replace p649 := eq_true p649
 replace q649 := eq_true q649
 go_wp2
 repeat (go_quiet (fail); try go_wp2)
 go_ret
 exact ⟨by first | rfl | (simp [errW_none, errW_some] <;> rfl) | (simp [*, errW_none, errW_some] <;> rfl), bl_ HB⟩}
 {
 rw [if_neg c23] at H
 have c23b0 : decide ((rd l2 x8_3) < (-4194303)) = false := decide_eq_false c23
 clear c23
 have H' := Aside0.mk H
 clear H
 have p648 : 0 ≤ (x8_3 : Int) := of_decide_eq_true am_
 have q648 : x8_3 < (l2.length : Int) := of_decide_eq_true am_
 obtain ⟨ad648, e648, hx648_0⟩ := Kd.at_int HR2.out x8_3 p648 q648
 cases e648
 replace hx648_0 := (HB.out.cell (World.block_lt_of_cell? w _ hx648_0)).trans hx648_0
 replace p648 := eq_true p648
 replace q648 := eq_true q648
 have p649 : 0 ≤ (x8_3 : Int) := of_decide_eq_true am_
 have q649 : x8_3 < (l2.length : Int) := of_decide_eq_true am_
 obtain ⟨ad649, e649, hx649_0⟩ := Kd.at_int HR2.out x8_3 p649 q649
 obtain rfl : ad648 = ad649 := (by injection e649)
 replace hx649_0 := (HB.out.cell (World.block_lt_of_cell? w _ hx649_0)).trans hx649_0
 replace p649 := eq_true p649
 replace q649 := eq_true q649
 go_wp2
 repeat (go_quiet (fail); try go_wp2)
 go_roundg k3
 case measure => have := HJ5.out; have := HK2.out; have := HK3.out; omega
 case rel => exact ⟨(wrap64 (x8_3 + 1)), rs_, H', ⟨by have := HJ5.out; have := HK2.out; have := HK3.out; omega⟩, ⟨bk_ BK644⟩, ⟨bl_ HB⟩⟩}}}
 {
 rw [if_neg c21] at H
 exact absurd H (by simp)}}
 {
 rw [if_neg c20] at H
 exact absurd H (by simp)}}
 {
 rw [if_neg c19] at H
 have c19b0 : decide (x8_3 < 16) = false := decide_eq_false c19
 clear c19
 obtain rfl := Option.some.inj H
 go_wp2
 repeat (go_quiet (fail); try go_wp2)
 go_ret
 exact ⟨by first | rfl | (simp [errW_none, errW_some] <;> rfl) | (simp [*, errW_none, errW_some] <;> rfl), bl_ HB⟩}))}))}))}
end Go.Proofs.Ytpdfdaoohknfoaa.P
