/- Walks. -/
import Derived.Test.YtpdfdaoohknfoaaQ1
import Derived.Test.YtpdfdaoohknfoaaPx60
import Derived.Test.YtpdfdaoohknfoaaPx63
namespace Go.Proofs.Ytpdfdaoohknfoaa.P
open Go.RowKit Go.Proofs.YtpdfdaoohknfoaaW.PrintWords Go.Proofs.YtpdfdaoohknfoaaW.PrintLast Go.Proofs.YtpdfdaoohknfoaaW.PrintMore
attribute [local go_sem] max2_int min2_int max_two min_two max_three min_three max_four min_four   -- for this text's walks alone
set_option linter.unusedVariables false
set_option linter.unusedSimpArgs false

mutual
def psalteryref17_value.j0 : Nat → List Int → Int → Bool → Int → Int → Option (Int × Int × Int)
  | 0, _, _, _, _, _ => none
  | k + 1, x0, x9, x25, x778000, x778001 => if x25 = true then (some (x778000, x778001, wrap64 (x9 - 7))) else ((psalteryref17_some.f k x0 x778000 x778001 1).bind fun bt778 => (if bt778.2.1 = 0 then ((psalteryref17_some.f k x0 bt778.1 bt778.2.1 22).bind fun bt781 => (if bt781.2.1 = 0 then (if bt778.2.2 = 1 then (psalteryref17_value.j1 k bt778.2.2 bt781.2.2 (bt781.2.2 == 0) bt781.1 bt781.2.1) else (psalteryref17_value.j1 k bt778.2.2 bt781.2.2 false bt781.1 bt781.2.1)) else (some (bt781.1, bt781.2.1, 0)))) else (some (bt778.1, bt778.2.1, 0))))
def psalteryref17_value.j1 : Nat → Int → Int → Bool → Int → Int → Option (Int × Int × Int)
  | 0, _, _, _, _, _ => none
  | k + 1, x10, x11, x54, x778000, x778001 => if x54 = true then (some (x778000, 2, 0)) else (if x10 = 1 then (some (x778000, x778001, wrap64 (-x11))) else (some (x778000, x778001, x11)))
end
def psalteryref17_value.f (k : Nat) (l0 : List Int) (a1_0 : Int) (a1_1 : Int) (l2 : List Int) : Option (Int × Int × Int) := (psalteryref17_symbol.f k l0 a1_0 a1_1 l2).bind fun bt774 => (if bt774.2.1 = 0 then (psalteryref17_value.j0 k l0 bt774.2.2 (bt774.2.2 != 15) bt774.1 bt774.2.1) else (psalteryref17_value.j0 k l0 bt774.2.2 true bt774.1 bt774.2.1))
theorem psalteryref17_value.mono_l : ∀ k, (∀ y0 y1 y2 y3 y4, LeO (psalteryref17_value.j0 k y0 y1 y2 y3 y4) (psalteryref17_value.j0 (k + 1) y0 y1 y2 y3 y4)) ∧ (∀ y0 y1 y2 y3 y4, LeO (psalteryref17_value.j1 k y0 y1 y2 y3 y4) (psalteryref17_value.j1 (k + 1) y0 y1 y2 y3 y4))
  | 0 => ⟨fun _ _ _ _ _ r h => by simp [psalteryref17_value.j0] at h, fun _ _ _ _ _ r h => by simp [psalteryref17_value.j1] at h⟩
  | k + 1 => by
    obtain ⟨ih0, ih1⟩ := psalteryref17_value.mono_l k
    refine ⟨?_, ?_⟩
    all_goals (intros; first | unfold psalteryref17_value.j0 | unfold psalteryref17_value.j1)
    all_goals with_reducible repeat' first
     | exact ih0 _ _ _ _ _
     | exact ih1 _ _ _ _ _
     | exact psalteryref17_some.mono _ _ _ _ _
     | exact psalteryref17_symbol.mono _ _ _ _ _
     | exact LeO.refl _
     | exact LeO.none _
     | refine LeO.ite ?_ ?_
     | refine LeO.bind ?_ (fun _ => ?_)
theorem psalteryref17_value.mono : ∀ a0 a1 a2 a3 k, LeO (psalteryref17_value.f k a0 a1 a2 a3) (psalteryref17_value.f (k + 1) a0 a1 a2 a3) := by
  intro a0 a1 a2 a3 k
  obtain ⟨ih0, ih1⟩ := psalteryref17_value.mono_l k
  unfold psalteryref17_value.f
  with_reducible repeat' first
   | exact ih0 _ _ _ _ _
   | exact ih1 _ _ _ _ _
   | exact psalteryref17_some.mono _ _ _ _ _
   | exact psalteryref17_symbol.mono _ _ _ _ _
   | exact LeO.refl _
   | exact LeO.none _
   | refine LeO.ite ?_ ?_
   | refine LeO.bind ?_ (fun _ => ?_)
set_option maxHeartbeats 8000000 in
set_option maxRecDepth 100000 in
theorem psalteryref17_value.calls (k : Nat) (A0 : Option Addr) (c0 : Nat) (l0 : List Int) (a1_0 : Int) (a1_1 : Int) (A2 : Option Addr) (c2 : Nat) (l2 : List Int) (r1 : Int) (r2 : Int) (r3 : Int) (w : World) (hr0 : Kd.C (Kd.int .u8) w A0 l0.length l0) (hc0 : l0.length ≤ c0) (hr2 : Kd.C (Kd.int .i64) w A2 l2.length l2) (hc2 : l2.length ≤ c2) (h : psalteryref17_value.f k l0 a1_0 a1_1 l2 = some (r1, r2, r3)) :
    Calls Try.prog 60 #[.slice A0 l0.length c0, .agg #[.int .i64 a1_0, .int .i64 a1_1], .slice A2 l2.length c2] w fun e w' => e = .returned (.tuple #[.agg #[.int .i64 r1, .int .i64 r2], .int .i64 r3]) ∧ Below w.heap.size w w' := by
 have hu101 := Try.underlying101
 have HR0 := Aside0.mk hr0
 have HC0 := Aside0.mk hc0
 clear hr0 hc0
 have HR2 := Aside0.mk hr2
 have HC2 := Aside0.mk hc2
 clear hr2 hc2
 have HB := Aside0.mk (Below.refl w.heap.size w)
 have H : ((psalteryref17_symbol.f k l0 a1_0 a1_1 l2).bind fun bt774 => (if bt774.2.1 = 0 then (psalteryref17_value.j0 k l0 bt774.2.2 (bt774.2.2 != 15) bt774.1 bt774.2.1) else (psalteryref17_value.j0 k l0 bt774.2.2 true bt774.1 bt774.2.1))) = some (r1, r2, r3) := h
 clear h
 obtain ⟨⟨t774, t775, t776⟩, A4, H⟩ := ob_ H
 (try dsimp only at H)
 have HC5 := Aside0.mk H
 clear H
 go_enter Try.func60, Try.ntmps60
 go_upto_region 2 with (first | ((with_reducible refine gate_dst (N := 4) rfl ?_); refine bx_ HB 4 #[.int .i64 a1_0, .int .i64 a1_1] 101 ?_; clear HB; intro gb772 hg w6 hb BK772 GE772 HB; have GW772 := GE772; clear hb hg) | ((with_reducible refine gate_dst (N := 6) rfl ?_); refine bx_ HB 6 #[.int .i64 0, .int .i64 0] 101 ?_; clear HB; intro gb773 hg w7 hb BK773 GE773 HB; have GW773 := GE773; obtain ⟨NB772_773, NB773_772⟩ := NN_ BK772 hg; replace BK772 := FB_ BK772 hb; clear hb hg; have hnb8 := NB772_773.out; have hnc8 := NB773_772.out; obtain ⟨hcz9_0, hcz9_1, hfz9_0, hfz9_1⟩ := e2_ BK772) | ((with_reducible refine gate_callee (f := 59) rfl ?_); refine gL_ (some 16) Try.func59 #[.slice A0 l0.length c0, .agg #[.int .i64 a1_0, .int .i64 a1_1], .slice A2 l2.length c2] ?_; (with_reducible refine (psalteryref17_symbol.calls k _ _ l0 a1_0 a1_1 _ _ l2 t774 t775 t776 _ ?side1 ?side2 ?side3 ?side4 A4.out).mono ?_); (case side1 => exact kC_ HR0 HB); (case side2 => exact HC0.out); (case side3 => exact kC_ HR2 HB); (case side4 => exact HC2.out); rintro e w10 ⟨rfl, hb⟩; refine ⟨_, rfl, ?_⟩; replace BK772 := FB_ BK772 hb; replace BK773 := FB_ BK773 hb; replace HB := BS_ HB hb; (try clear hb)) | ((with_reducible refine gate_dst (N := 8) rfl ?_); refine bx_ HB 8 #[.int .i64 0, .int .i64 0] 101 ?_; clear HB; intro gb777 hg w11 hb BK777 GE777 HB; have GW777 := GE777; obtain ⟨NB772_777, NB777_772⟩ := NN_ BK772 hg; replace BK772 := FB_ BK772 hb; obtain ⟨NB773_777, NB777_773⟩ := NN_ BK773 hg; replace BK773 := FB_ BK773 hb; clear hb hg; have hnb12 := NB777_772.out; have hnc12 := NB772_777.out; have hnb13 := NB777_773.out; have hnc13 := NB773_777.out; obtain ⟨hcz14_0, hcz14_1, hfz14_0, hfz14_1⟩ := e2_ BK777))
 (try simp only [Act.put, List.setIfInBounds_toArray, List.set_cons_zero, List.set_cons_succ])
 go_cut [25] (fun v25 wc => ∃ (kq : Nat) (x25_4 : Bool), v25 = .bool x25_4 ∧ Aside0 (psalteryref17_value.j0 kq l0 t776 x25_4 t774 t775 = some (r1, r2, r3)) ∧ Aside0 (kq ≤ k) ∧ Aside0 (wc.heap[gb772]? = some (.cells #[.int .i64 a1_0, .int .i64 a1_1] 101 (0, 0))) ∧ Aside0 (wc.heap[gb773]? = some (.cells #[.int .i64 0, .int .i64 0] 101 (0, 0))) ∧ Aside0 (wc.heap[gb777]? = some (.cells #[.int .i64 t774, .int .i64 t775] 101 (0, 0))) ∧ Aside0 (Below w.heap.size w wc))
 case first => (
 have H := HC5.out
 clear HC5
 by_cases c15 : t775 = 0
 {
 rw [if_pos c15] at H
 have c15b0 : (t775 == 0) = true := beq_iff_eq.mpr c15
 have c15b1 : (t775 != 0) = false := bne_eq_false_iff_eq.mpr c15
 clear c15
 (first | rw [c15b0] | (simp only [i64_w, i32_w]; rw [c15b0]) | skip)
 have H' := Aside0.mk H
 clear H
 have hnb16 := NB777_772.out
 have hnc16 := NB772_777.out
 have hnb17 := NB777_773.out
 have hnc17 := NB773_777.out
 obtain ⟨hcz18_0, hcz18_1, hfz18_0, hfz18_1⟩ := e2_ BK777
 go_wp2
 go_meet
 case rel => exact ⟨_, ((t776 != 15)), rs_, H', ⟨ol_⟩, ⟨bk_ BK772⟩, ⟨bk_ BK773⟩, ⟨bp_ BK777⟩, ⟨bl_ HB⟩⟩}
 {
 rw [if_neg c15] at H
 have c15b0 : (t775 == 0) = false := beq_eq_false_iff_ne.mpr c15
 have c15b1 : (t775 != 0) = true := bne_iff_ne.mpr c15
 (first | rw [c15b0] | (simp only [i64_w, i32_w]; rw [c15b0]) | skip)
 have H' := Aside0.mk H
 clear H
 have hnb19 := NB777_772.out
 have hnc19 := NB772_777.out
 have hnb20 := NB777_773.out
 have hnc20 := NB773_777.out
 obtain ⟨hcz21_0, hcz21_1, hfz21_0, hfz21_1⟩ := e2_ BK777
 go_wp2
 go_meet
 case rel => exact ⟨_, (true), rs_, H', ⟨ol_⟩, ⟨bk_ BK772⟩, ⟨bk_ BK773⟩, ⟨bp_ BK777⟩, ⟨bl_ HB⟩⟩})
 case rest => (
 clear HC5
 try clear c2
 try clear hcz14_0
 try clear hcz14_1
 try clear hcz9_0
 try clear hcz9_1
 try clear hfz14_0
 try clear hfz14_1
 try clear hfz9_0
 try clear hfz9_1
 obtain ⟨kq, x25_4, rfl, HA, HJ4, BK772, BK773, BK777, HB⟩ := hcut
 cases kq with
 | zero => exact absurd HA.out (by simp [psalteryref17_value.j0])
 | succ kj4 => (
 have H := HA.out
 clear HA
 simp only [psalteryref17_value.j0] at H
 by_cases c22 : x25_4 = true
 {
 subst c22
 rw [if_pos rfl] at H
 simp only [Option.some.injEq, Prod.mk.injEq] at H
 obtain ⟨rfl, rfl, rfl⟩ := H
 have hnb23 := NB777_772.out
 have hnc23 := NB772_777.out
 have hnb24 := NB777_773.out
 have hnc24 := NB773_777.out
 obtain ⟨hcz25_0, hcz25_1, hfz25_0, hfz25_1⟩ := e2_ BK777
 have hnb26 := NB773_772.out
 have hnc26 := NB772_773.out
 obtain ⟨hcz27_0, hcz27_1, hfz27_0, hfz27_1⟩ := e2_ BK773
 go_wp2
 refine bodyPost_ret (results_ct rfl _ _ gb773 101 #[.int .i64 t774, .int .i64 t775] (0, 0) _ rfl (bp_ BK773) Try.underlying101 rfl kf_) rfl ?_
 exact ⟨by first | rfl | (simp [errW_none, errW_some] <;> rfl) | (simp [*, errW_none, errW_some] <;> rfl), bl_ HB⟩}
 {
 replace c22 := Bool.eq_false_iff.mpr c22
 subst c22
 rw [if_neg (show ¬ (false = true) by decide)] at H
 obtain ⟨⟨t778, t779, t780⟩, A28, H⟩ := ob_ H
 (try dsimp only at H)
 by_cases c29 : t779 = 0
 {
 rw [if_pos c29] at H
 have c29b0 : (t779 == 0) = true := beq_iff_eq.mpr c29
 have c29b1 : (t779 != 0) = false := bne_eq_false_iff_eq.mpr c29
 clear c29
 obtain ⟨⟨t781, t782, t783⟩, A30, H⟩ := ob_ H
 (try dsimp only at H)
 by_cases c31 : t782 = 0
 {
 rw [if_pos c31] at H
 have c31b0 : (t782 == 0) = true := beq_iff_eq.mpr c31
 have c31b1 : (t782 != 0) = false := bne_eq_false_iff_eq.mpr c31
 clear c31
 have HC32 := Aside0.mk H
 clear H
 have hnb33 := NB777_772.out
 have hnc33 := NB772_777.out
 have hnb34 := NB777_773.out
 have hnc34 := NB773_777.out
 obtain ⟨hcz35_0, hcz35_1, hfz35_0, hfz35_1⟩ := e2_ BK777
 go_upto_region 10 with (first | ((with_reducible refine gate_callee (f := 58) rfl ?_); refine gL_ (some 32) Try.func58 #[.slice A0 l0.length c0, .agg #[.int .i64 t774, .int .i64 t775], .int .i64 1] ?_; (with_reducible refine (psalteryref17_some.calls kj4 _ _ l0 t774 t775 1 t778 t779 t780 _ ?side1 ?side2 A28.out).mono ?_); (case side1 => exact kC_ HR0 HB); (case side2 => exact HC0.out); rintro e w36 ⟨rfl, hb⟩; refine ⟨_, rfl, ?_⟩; replace BK772 := FB_ BK772 hb; replace BK773 := FB_ BK773 hb; replace BK777 := FB_ BK777 hb; replace HB := BS_ HB hb; (try clear hb); obtain ⟨hcz37_0, hcz37_1, hfz37_0, hfz37_1⟩ := e2_ BK777) | ((with_reducible refine gate_callee (f := 58) rfl ?_); refine gL_ (some 42) Try.func58 #[.slice A0 l0.length c0, .agg #[.int .i64 t778, .int .i64 t779], .int .i64 22] ?_; (with_reducible refine (psalteryref17_some.calls kj4 _ _ l0 t778 t779 22 t781 t782 t783 _ ?side1 ?side2 A30.out).mono ?_); (case side1 => exact Kd.C_below HR0.out (bl_ HB)); (case side2 => exact HC0.out); rintro e w38 ⟨rfl, hb⟩; refine ⟨_, rfl, ?_⟩; replace BK772 := FB_ BK772 hb; replace BK773 := FB_ BK773 hb; replace BK777 := Aside0.mk (blk_below (g := gb777) (o := .cells #[.int .i64 t778, .int .i64 t779] 101 (0, 0)) (bp_ BK777) hb); replace HB := BS_ HB hb; (try clear hb); obtain ⟨hcz39_0, hcz39_1, hfz39_0, hfz39_1⟩ := e2_ BK777))
 (try simp only [Act.put, List.setIfInBounds_toArray, List.set_cons_zero, List.set_cons_succ])
 go_cut [54] (fun v54 wc => ∃ (kq : Nat) (x54_31 : Bool), v54 = .bool x54_31 ∧ Aside0 (psalteryref17_value.j1 kq t780 t783 x54_31 t781 t782 = some (r1, r2, r3)) ∧ Aside0 (kq ≤ kj4) ∧ Aside0 (wc.heap[gb772]? = some (.cells #[.int .i64 a1_0, .int .i64 a1_1] 101 (0, 0))) ∧ Aside0 (wc.heap[gb773]? = some (.cells #[.int .i64 0, .int .i64 0] 101 (0, 0))) ∧ Aside0 (wc.heap[gb777]? = some (.cells #[.int .i64 t781, .int .i64 t782] 101 (0, 0))) ∧ Aside0 (Below w.heap.size w wc))
 case first => (
 have H := HC32.out
 clear HC32
 by_cases c40 : t780 = 1
 {
 rw [if_pos c40] at H
 have c40b0 : (t780 == 1) = true := beq_iff_eq.mpr c40
 have c40b1 : (t780 != 1) = false := bne_eq_false_iff_eq.mpr c40
 clear c40
 (first | rw [c40b0] | (simp only [i64_w, i32_w]; rw [c40b0]) | skip)
 have H' := Aside0.mk H
 clear H
 go_wp2
 go_meet
 case rel => exact ⟨_, ((t783 == 0)), rs_, H', ⟨by have := HJ4.out; first | omega | exact Nat.le_refl _⟩, ⟨bk_ BK772⟩, ⟨bk_ BK773⟩, ⟨bp_ BK777⟩, ⟨bl_ HB⟩⟩}
 {
 rw [if_neg c40] at H
 have c40b0 : (t780 == 1) = false := beq_eq_false_iff_ne.mpr c40
 have c40b1 : (t780 != 1) = true := bne_iff_ne.mpr c40
 (first | rw [c40b0] | (simp only [i64_w, i32_w]; rw [c40b0]) | skip)
 have H' := Aside0.mk H
 clear H
 go_wp2
 go_meet
 case rel => exact ⟨_, (false), rs_, H', ⟨by have := HJ4.out; first | omega | exact Nat.le_refl _⟩, ⟨bk_ BK772⟩, ⟨bk_ BK773⟩, ⟨bp_ BK777⟩, ⟨bl_ HB⟩⟩})
 case rest => (
 clear HC32
 try clear c2
 try clear c22
 try clear c29
 try clear c29b0
 try clear c29b1
 try clear c31
 try clear c31b0
 try clear c31b1
 try clear hcz14_0
 try clear hcz14_1
 try clear hcz35_0
 try clear hcz35_1
 try clear hcz37_0
 try clear hcz37_1
 try clear hcz39_0
 try clear hcz39_1
 try clear hcz9_0
 try clear hcz9_1
 try clear hfz14_0
 try clear hfz14_1
 try clear hfz35_0
 try clear hfz35_1
 try clear hfz37_0
 try clear hfz37_1
 try clear hfz39_0
 try clear hfz39_1
 try clear hfz9_0
 try clear hfz9_1
 obtain ⟨kq, x54_31, rfl, HA, HJ31, BK772, BK773, BK777, HB⟩ := hcut
 cases kq with
 | zero => exact absurd HA.out (by simp [psalteryref17_value.j1])
 | succ kj31 => (
 have H := HA.out
 clear HA
 simp only [psalteryref17_value.j1] at H
 by_cases c41 : x54_31 = true
 {
 subst c41
 rw [if_pos rfl] at H
 simp only [Option.some.injEq, Prod.mk.injEq] at H
 obtain ⟨rfl, rfl, rfl⟩ := H
 have hnb42 := NB777_772.out
 have hnc42 := NB772_777.out
 have hnb43 := NB777_773.out
 have hnc43 := NB773_777.out
 obtain ⟨hcz44_0, hcz44_1, hfz44_0, hfz44_1⟩ := e2_ BK777
 have hnb45 := NB773_772.out
 have hnc45 := NB772_773.out
 obtain ⟨hcz46_0, hcz46_1, hfz46_0, hfz46_1⟩ := e2_ BK773
 go_wp2
 refine bodyPost_ret (results_ct rfl _ _ gb773 101 #[.int .i64 t781, .int .i64 2] (0, 0) _ rfl (bp_ BK773) Try.underlying101 rfl kf_) rfl ?_
 exact ⟨by first | rfl | (simp [errW_none, errW_some] <;> rfl) | (simp [*, errW_none, errW_some] <;> rfl), bl_ HB⟩}
 {
 replace c41 := Bool.eq_false_iff.mpr c41
 subst c41
 rw [if_neg (show ¬ (false = true) by decide)] at H
 by_cases c47 : t780 = 1
 {
 rw [if_pos c47] at H
 have c47b0 : (t780 == 1) = true := beq_iff_eq.mpr c47
 have c47b1 : (t780 != 1) = false := bne_eq_false_iff_eq.mpr c47
 clear c47
 simp only [Option.some.injEq, Prod.mk.injEq] at H
 obtain ⟨rfl, rfl, rfl⟩ := H
 have hnb48 := NB777_772.out
 have hnc48 := NB772_777.out
 have hnb49 := NB777_773.out
 have hnc49 := NB773_777.out
 obtain ⟨hcz50_0, hcz50_1, hfz50_0, hfz50_1⟩ := e2_ BK777
 have hnb51 := NB773_772.out
 have hnc51 := NB772_773.out
 obtain ⟨hcz52_0, hcz52_1, hfz52_0, hfz52_1⟩ := e2_ BK773
 go_wp2
 refine bodyPost_ret (results_ct rfl _ _ gb773 101 #[.int .i64 t781, .int .i64 t782] (0, 0) _ rfl (bp_ BK773) Try.underlying101 rfl kf_) rfl ?_
 exact ⟨by first | rfl | (simp [errW_none, errW_some] <;> rfl) | (simp [*, errW_none, errW_some] <;> rfl), bl_ HB⟩}
 {
 rw [if_neg c47] at H
 have c47b0 : (t780 == 1) = false := beq_eq_false_iff_ne.mpr c47
 have c47b1 : (t780 != 1) = true := bne_iff_ne.mpr c47
 simp only [Option.some.injEq, Prod.mk.injEq] at H
 obtain ⟨rfl, rfl, rfl⟩ := H
 have hnb53 := NB777_772.out
 have hnc53 := NB772_777.out
 have hnb54 := NB777_773.out
 have hnc54 := NB773_777.out
 obtain ⟨hcz55_0, hcz55_1, hfz55_0, hfz55_1⟩ := e2_ BK777
 have hnb56 := NB773_772.out
 have hnc56 := NB772_773.out
 obtain ⟨hcz57_0, hcz57_1, hfz57_0, hfz57_1⟩ := e2_ BK773
 go_wp2
 refine bodyPost_ret (results_ct rfl _ _ gb773 101 #[.int .i64 t781, .int .i64 t782] (0, 0) _ rfl (bp_ BK773) Try.underlying101 rfl kf_) rfl ?_
 exact ⟨by first | rfl | (simp [errW_none, errW_some] <;> rfl) | (simp [*, errW_none, errW_some] <;> rfl), bl_ HB⟩}}))}
 {
 rw [if_neg c31] at H
 have c31b0 : (t782 == 0) = false := beq_eq_false_iff_ne.mpr c31
 have c31b1 : (t782 != 0) = true := bne_iff_ne.mpr c31
 simp only [Option.some.injEq, Prod.mk.injEq] at H
 obtain ⟨rfl, rfl, rfl⟩ := H
 have hnb58 := NB777_772.out
 have hnc58 := NB772_777.out
 have hnb59 := NB777_773.out
 have hnc59 := NB773_777.out
 obtain ⟨hcz60_0, hcz60_1, hfz60_0, hfz60_1⟩ := e2_ BK777
 go_wp2_with (first | ((with_reducible refine gate_callee (f := 58) rfl ?_); refine gL_ (some 32) Try.func58 #[.slice A0 l0.length c0, .agg #[.int .i64 t774, .int .i64 t775], .int .i64 1] ?_; (with_reducible refine (psalteryref17_some.calls kj4 _ _ l0 t774 t775 1 t778 t779 t780 _ ?side1 ?side2 A28.out).mono ?_); (case side1 => exact kC_ HR0 HB); (case side2 => exact HC0.out); rintro e w61 ⟨rfl, hb⟩; refine ⟨_, rfl, ?_⟩; replace BK772 := FB_ BK772 hb; replace BK773 := FB_ BK773 hb; replace BK777 := FB_ BK777 hb; replace HB := BS_ HB hb; (try clear hb); obtain ⟨hcz62_0, hcz62_1, hfz62_0, hfz62_1⟩ := e2_ BK777) | ((with_reducible refine gate_callee (f := 58) rfl ?_); refine gL_ (some 42) Try.func58 #[.slice A0 l0.length c0, .agg #[.int .i64 t778, .int .i64 t779], .int .i64 22] ?_; (with_reducible refine (psalteryref17_some.calls kj4 _ _ l0 t778 t779 22 t781 t782 t783 _ ?side1 ?side2 A30.out).mono ?_); (case side1 => exact Kd.C_below HR0.out (bl_ HB)); (case side2 => exact HC0.out); rintro e w63 ⟨rfl, hb⟩; refine ⟨_, rfl, ?_⟩; replace BK772 := FB_ BK772 hb; replace BK773 := FB_ BK773 hb; replace BK777 := Aside0.mk (blk_below (g := gb777) (o := .cells #[.int .i64 t778, .int .i64 t779] 101 (0, 0)) (bp_ BK777) hb); replace HB := BS_ HB hb; (try clear hb); obtain ⟨hcz64_0, hcz64_1, hfz64_0, hfz64_1⟩ := e2_ BK777; have hnb65 := NB773_772.out; have hnc65 := NB772_773.out; obtain ⟨hcz66_0, hcz66_1, hfz66_0, hfz66_1⟩ := e2_ BK773))
 refine bodyPost_ret (results_ct rfl _ _ gb773 101 #[.int .i64 t781, .int .i64 t782] (0, 0) _ rfl (bp_ BK773) Try.underlying101 rfl kf_) rfl ?_
 exact ⟨by first | rfl | (simp [errW_none, errW_some] <;> rfl) | (simp [*, errW_none, errW_some] <;> rfl), bl_ HB⟩}}
 {
 rw [if_neg c29] at H
 have c29b0 : (t779 == 0) = false := beq_eq_false_iff_ne.mpr c29
 have c29b1 : (t779 != 0) = true := bne_iff_ne.mpr c29
 simp only [Option.some.injEq, Prod.mk.injEq] at H
 obtain ⟨rfl, rfl, rfl⟩ := H
 have hnb67 := NB777_772.out
 have hnc67 := NB772_777.out
 have hnb68 := NB777_773.out
 have hnc68 := NB773_777.out
 obtain ⟨hcz69_0, hcz69_1, hfz69_0, hfz69_1⟩ := e2_ BK777
 go_wp2_with (first | ((with_reducible refine gate_callee (f := 58) rfl ?_); refine gL_ (some 32) Try.func58 #[.slice A0 l0.length c0, .agg #[.int .i64 t774, .int .i64 t775], .int .i64 1] ?_; (with_reducible refine (psalteryref17_some.calls kj4 _ _ l0 t774 t775 1 t778 t779 t780 _ ?side1 ?side2 A28.out).mono ?_); (case side1 => exact kC_ HR0 HB); (case side2 => exact HC0.out); rintro e w70 ⟨rfl, hb⟩; refine ⟨_, rfl, ?_⟩; replace BK772 := FB_ BK772 hb; replace BK773 := FB_ BK773 hb; replace BK777 := FB_ BK777 hb; replace HB := BS_ HB hb; (try clear hb); obtain ⟨hcz71_0, hcz71_1, hfz71_0, hfz71_1⟩ := e2_ BK777; have hnb72 := NB773_772.out; have hnc72 := NB772_773.out; obtain ⟨hcz73_0, hcz73_1, hfz73_0, hfz73_1⟩ := e2_ BK773))
 refine bodyPost_ret (results_ct rfl _ _ gb773 101 #[.int .i64 t778, .int .i64 t779] (0, 0) _ rfl (bp_ BK773) Try.underlying101 rfl kf_) rfl ?_
 exact ⟨by first | rfl | (simp [errW_none, errW_some] <;> rfl) | (simp [*, errW_none, errW_some] <;> rfl), bl_ HB⟩}}))
end Go.Proofs.Ytpdfdaoohknfoaa.P
