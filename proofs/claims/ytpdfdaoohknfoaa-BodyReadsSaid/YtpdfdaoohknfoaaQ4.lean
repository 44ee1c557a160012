/- Walks and what they compute, shared by the laws of this chapter. -/
import Derived.Test.YtpdfdaoohknfoaaQ1
import Derived.Test.YtpdfdaoohknfoaaQ3
import Derived.Test.YtpdfdaoohknfoaaQ2
namespace Go.Proofs.Ytpdfdaoohknfoaa.P
open Go.RowKit Go.Proofs.YtpdfdaoohknfoaaW.PrintWords Go.Proofs.YtpdfdaoohknfoaaW.PrintLast Go.Proofs.YtpdfdaoohknfoaaW.PrintMore
attribute [local go_sem] max2_int min2_int max_two min_two max_three min_three max_four min_four   -- for this text's walks alone
set_option linter.unusedVariables false
set_option linter.unusedSimpArgs false

mutual
def psalteryref16_Right.j0 : Nat → Bool → Int → Int → List Int → List Int → Option (Bool)
  | 0, _, _, _, _, _ => none
  | k + 1, x20, x160000, x160001, x160002, x160003 => if x20 = true then (some false) else (if (x160002.length : Int) = 45 then (psalteryref16_Right.j1 k ((x160003.length : Int) != 16) x160000 x160001 x160002 x160003) else (psalteryref16_Right.j1 k true x160000 x160001 x160002 x160003))
def psalteryref16_Right.j1 : Nat → Bool → Int → Int → List Int → List Int → Option (Bool)
  | 0, _, _, _, _, _ => none
  | k + 1, x30, x160000, x160001, x160002, x160003 => if x30 = true then (some false) else ((psalteryref04_Right.f k x160002).bind fun t160 => (if t160 = true then ((psalteryref04_Right.f k x160003).bind fun t161 => (if t161 = true then (if 15 < (x160003.length : Int) then (some ((rd x160003 15) != 0)) else (none)) else (some false))) else (some false)))
end
def psalteryref16_Right.f (k : Nat) (a0_0 : Int) (a0_1 : Int) (l0_2 : List Int) (l0_3 : List Int) : Option (Bool) := if a0_0 = 1 then (if a0_1 < 0 then (psalteryref16_Right.j0 k true a0_0 a0_1 l0_2 l0_3) else (psalteryref16_Right.j0 k (decide (a0_1 > 12)) a0_0 a0_1 l0_2 l0_3)) else (if a0_0 = 2 then (if a0_1 < 0 then (psalteryref16_Right.j0 k true a0_0 a0_1 l0_2 l0_3) else (psalteryref16_Right.j0 k (decide (a0_1 > 12)) a0_0 a0_1 l0_2 l0_3)) else (psalteryref16_Right.j0 k true a0_0 a0_1 l0_2 l0_3))
theorem psalteryref16_Right.mono_l : ∀ k, (∀ y0 y1 y2 y3 y4, LeO (psalteryref16_Right.j0 k y0 y1 y2 y3 y4) (psalteryref16_Right.j0 (k + 1) y0 y1 y2 y3 y4)) ∧ (∀ y0 y1 y2 y3 y4, LeO (psalteryref16_Right.j1 k y0 y1 y2 y3 y4) (psalteryref16_Right.j1 (k + 1) y0 y1 y2 y3 y4))
  | 0 => ⟨fun _ _ _ _ _ r h => by simp [psalteryref16_Right.j0] at h, fun _ _ _ _ _ r h => by simp [psalteryref16_Right.j1] at h⟩
  | k + 1 => by
    obtain ⟨ih0, ih1⟩ := psalteryref16_Right.mono_l k
    refine ⟨?_, ?_⟩
    all_goals (intros; first | unfold psalteryref16_Right.j0 | unfold psalteryref16_Right.j1)
    all_goals with_reducible repeat' first
     | exact ih0 _ _ _ _ _
     | exact ih1 _ _ _ _ _
     | exact psalteryref04_Right.mono _ _
     | exact LeO.refl _
     | exact LeO.none _
     | refine LeO.ite ?_ ?_
     | refine LeO.bind ?_ (fun _ => ?_)
theorem psalteryref16_Right.mono : ∀ a0 a1 a2 a3 k, LeO (psalteryref16_Right.f k a0 a1 a2 a3) (psalteryref16_Right.f (k + 1) a0 a1 a2 a3) := by
  intro a0 a1 a2 a3 k
  obtain ⟨ih0, ih1⟩ := psalteryref16_Right.mono_l k
  unfold psalteryref16_Right.f
  with_reducible repeat' first
   | exact ih0 _ _ _ _ _
   | exact ih1 _ _ _ _ _
   | exact psalteryref04_Right.mono _ _
   | exact LeO.refl _
   | exact LeO.none _
   | refine LeO.ite ?_ ?_
   | refine LeO.bind ?_ (fun _ => ?_)
set_option maxHeartbeats 8000000 in
set_option maxRecDepth 100000 in
theorem psalteryref16_Right.calls (k : Nat) (a0_0 : Int) (a0_1 : Int) (A0_2 : Option Addr) (c0_2 : Nat) (l0_2 : List Int) (A0_3 : Option Addr) (c0_3 : Nat) (l0_3 : List Int) (r : Bool) (w : World) (hr0_2 : Kd.C (Kd.int .i64) w A0_2 l0_2.length l0_2) (hc0_2 : l0_2.length ≤ c0_2) (hr0_3 : Kd.C (Kd.int .i64) w A0_3 l0_3.length l0_3) (hc0_3 : l0_3.length ≤ c0_3) (h : psalteryref16_Right.f k a0_0 a0_1 l0_2 l0_3 = some r) :
    Calls Try.prog 18 #[.agg #[.int .i64 a0_0, .int .i64 a0_1, .slice A0_2 l0_2.length c0_2, .slice A0_3 l0_3.length c0_3]] w fun e w' => e = .returned (.bool r) ∧ Below w.heap.size w w' := by
 have hu28 := Try.underlying28
 have HR0_2 := Aside0.mk hr0_2
 have HC0_2 := Aside0.mk hc0_2
 clear hr0_2 hc0_2
 have HR0_3 := Aside0.mk hr0_3
 have HC0_3 := Aside0.mk hc0_3
 clear hr0_3 hc0_3
 have HB := Aside0.mk (Below.refl w.heap.size w)
 have H : (if a0_0 = 1 then (if a0_1 < 0 then (psalteryref16_Right.j0 k true a0_0 a0_1 l0_2 l0_3) else (psalteryref16_Right.j0 k (decide (a0_1 > 12)) a0_0 a0_1 l0_2 l0_3)) else (if a0_0 = 2 then (if a0_1 < 0 then (psalteryref16_Right.j0 k true a0_0 a0_1 l0_2 l0_3) else (psalteryref16_Right.j0 k (decide (a0_1 > 12)) a0_0 a0_1 l0_2 l0_3)) else (psalteryref16_Right.j0 k true a0_0 a0_1 l0_2 l0_3))) = some r := h
 clear h
 have HC2 := Aside0.mk H
 clear H
 go_enter Try.func18, Try.ntmps18
 go_upto_region 1 with (first | ((with_reducible refine gate_dst (N := 1) rfl ?_); (try (refine gate_guard (by rfl) ?_; dsimp only)); refine bx_ HB 1 #[.int .i64 a0_0, .int .i64 a0_1, .slice A0_2 l0_2.length c0_2, .slice A0_3 l0_3.length c0_3] 28 ?_; clear HB; intro gb159 hg w3 hb BK159 GE159 HB; have GW159 := GE159; clear hb hg))
 (try simp only [Act.put, List.setIfInBounds_toArray, List.set_cons_zero, List.set_cons_succ])
 go_cut [20] (fun v20 wc => ∃ (kq : Nat) (x20_1 : Bool), v20 = .bool x20_1 ∧ Aside0 (psalteryref16_Right.j0 kq x20_1 a0_0 a0_1 l0_2 l0_3 = some r) ∧ Aside0 (kq ≤ k) ∧ Aside0 (wc.heap[gb159]? = some (.cells #[.int .i64 a0_0, .int .i64 a0_1, (.slice A0_2 l0_2.length c0_2), (.slice A0_3 l0_3.length c0_3)] 28 (0, 0))) ∧ Aside0 (Below w.heap.size w wc))
 case first => (
 have H := HC2.out
 clear HC2
 by_cases c4 : a0_0 = 1
 {
 rw [if_pos c4] at H
 have c4b0 : (a0_0 == 1) = true := beq_iff_eq.mpr c4
 have c4b1 : (a0_0 != 1) = false := bne_eq_false_iff_eq.mpr c4
 clear c4
 (first | rw [c4b0] | (simp only [i64_w, i32_w]; rw [c4b0]) | skip)
 by_cases c5 : a0_1 < 0
 {
 rw [if_pos c5] at H
 have c5b0 : decide (a0_1 < 0) = true := decide_eq_true c5
 clear c5
 have H' := Aside0.mk H
 clear H
 obtain ⟨hcz6_0, hcz6_1, hcz6_2, hcz6_3, hfz6_0, hfz6_1, hfz6_2, hfz6_3⟩ := e4_ BK159
 go_wp2
 go_meet
 case rel => exact ⟨_, (true), rs_, H', ⟨ol_⟩, ⟨bk_ BK159⟩, ⟨bl_ HB⟩⟩}
 {
 rw [if_neg c5] at H
 have c5b0 : decide (a0_1 < 0) = false := decide_eq_false c5
 clear c5
 have H' := Aside0.mk H
 clear H
 obtain ⟨hcz7_0, hcz7_1, hcz7_2, hcz7_3, hfz7_0, hfz7_1, hfz7_2, hfz7_3⟩ := e4_ BK159
 go_wp2
 go_meet
 case rel => exact ⟨_, (decide (a0_1 > 12)), rs_, H', ⟨ol_⟩, ⟨bk_ BK159⟩, ⟨bl_ HB⟩⟩}}
 {
 rw [if_neg c4] at H
 have c4b0 : (a0_0 == 1) = false := beq_eq_false_iff_ne.mpr c4
 have c4b1 : (a0_0 != 1) = true := bne_iff_ne.mpr c4
 (first | rw [c4b0] | (simp only [i64_w, i32_w]; rw [c4b0]) | skip)
 by_cases c8 : a0_0 = 2
 {
 rw [if_pos c8] at H
 have c8b0 : (a0_0 == 2) = true := beq_iff_eq.mpr c8
 have c8b1 : (a0_0 != 2) = false := bne_eq_false_iff_eq.mpr c8
 clear c8
 by_cases c9 : a0_1 < 0
 {
 rw [if_pos c9] at H
 have c9b0 : decide (a0_1 < 0) = true := decide_eq_true c9
 clear c9
 have H' := Aside0.mk H
 clear H
 obtain ⟨hcz10_0, hcz10_1, hcz10_2, hcz10_3, hfz10_0, hfz10_1, hfz10_2, hfz10_3⟩ := e4_ BK159
 go_wp2
 go_meet
 case rel => exact ⟨_, (true), rs_, H', ⟨ol_⟩, ⟨bk_ BK159⟩, ⟨bl_ HB⟩⟩}
 {
 rw [if_neg c9] at H
 have c9b0 : decide (a0_1 < 0) = false := decide_eq_false c9
 clear c9
 have H' := Aside0.mk H
 clear H
 obtain ⟨hcz11_0, hcz11_1, hcz11_2, hcz11_3, hfz11_0, hfz11_1, hfz11_2, hfz11_3⟩ := e4_ BK159
 go_wp2
 go_meet
 case rel => exact ⟨_, (decide (a0_1 > 12)), rs_, H', ⟨ol_⟩, ⟨bk_ BK159⟩, ⟨bl_ HB⟩⟩}}
 {
 rw [if_neg c8] at H
 have c8b0 : (a0_0 == 2) = false := beq_eq_false_iff_ne.mpr c8
 have c8b1 : (a0_0 != 2) = true := bne_iff_ne.mpr c8
 have H' := Aside0.mk H
 clear H
 obtain ⟨hcz12_0, hcz12_1, hcz12_2, hcz12_3, hfz12_0, hfz12_1, hfz12_2, hfz12_3⟩ := e4_ BK159
 go_wp2
 go_meet
 case rel => exact ⟨_, (true), rs_, H', ⟨ol_⟩, ⟨bk_ BK159⟩, ⟨bl_ HB⟩⟩}})
 case rest => (
 clear HC2
 obtain ⟨kq, x20_1, rfl, HA, HJ1, BK159, HB⟩ := hcut
 cases kq with
 | zero => exact absurd HA.out (by simp [psalteryref16_Right.j0])
 | succ kj1 => (
 have H := HA.out
 clear HA
 simp only [psalteryref16_Right.j0] at H
 by_cases c13 : x20_1 = true
 {
 subst c13
 rw [if_pos rfl] at H
 obtain rfl := Option.some.inj H
 go_wp2
 go_ret
 exact ⟨by first | rfl | (simp [errW_none, errW_some] <;> rfl) | (simp [*, errW_none, errW_some] <;> rfl), bl_ HB⟩}
 {
 replace c13 := Bool.eq_false_iff.mpr c13
 subst c13
 rw [if_neg (show ¬ (false = true) by decide)] at H
 have HC14 := Aside0.mk H
 clear H
 go_upto_region 3 with (fail)
 go_cut [30] (fun v30 wc => ∃ (kq : Nat) (x30_13 : Bool), v30 = .bool x30_13 ∧ Aside0 (psalteryref16_Right.j1 kq x30_13 a0_0 a0_1 l0_2 l0_3 = some r) ∧ Aside0 (kq ≤ kj1) ∧ Aside0 (wc.heap[gb159]? = some (.cells #[.int .i64 a0_0, .int .i64 a0_1, (.slice A0_2 l0_2.length c0_2), (.slice A0_3 l0_3.length c0_3)] 28 (0, 0))) ∧ Aside0 (Below w.heap.size w wc))
 case first => (
 have H := HC14.out
 clear HC14
 by_cases c15 : (l0_2.length : Int) = 45
 {
 rw [if_pos c15] at H
 have c15b0 : ((l0_2.length : Int) == 45) = true := beq_iff_eq.mpr c15
 have c15b1 : ((l0_2.length : Int) != 45) = false := bne_eq_false_iff_eq.mpr c15
 clear c15
 (first | rw [c15b0] | (simp only [i64_w, i32_w]; rw [c15b0]) | skip)
 have H' := Aside0.mk H
 clear H
 obtain ⟨hcz16_0, hcz16_1, hcz16_2, hcz16_3, hfz16_0, hfz16_1, hfz16_2, hfz16_3⟩ := e4_ BK159
 go_wp2
 go_meet
 case rel => exact ⟨_, (((l0_3.length : Int) != 16)), rs_, H', ⟨by have := HJ1.out; first | omega | exact Nat.le_refl _⟩, ⟨bk_ BK159⟩, ⟨bl_ HB⟩⟩}
 {
 rw [if_neg c15] at H
 have c15b0 : ((l0_2.length : Int) == 45) = false := beq_eq_false_iff_ne.mpr c15
 have c15b1 : ((l0_2.length : Int) != 45) = true := bne_iff_ne.mpr c15
 (first | rw [c15b0] | (simp only [i64_w, i32_w]; rw [c15b0]) | skip)
 have H' := Aside0.mk H
 clear H
 obtain ⟨hcz17_0, hcz17_1, hcz17_2, hcz17_3, hfz17_0, hfz17_1, hfz17_2, hfz17_3⟩ := e4_ BK159
 go_wp2
 go_meet
 case rel => exact ⟨_, (true), rs_, H', ⟨by have := HJ1.out; first | omega | exact Nat.le_refl _⟩, ⟨bk_ BK159⟩, ⟨bl_ HB⟩⟩})
 case rest => (
 clear HC14
 try clear c13
 obtain ⟨kq, x30_13, rfl, HA, HJ13, BK159, HB⟩ := hcut
 cases kq with
 | zero => exact absurd HA.out (by simp [psalteryref16_Right.j1])
 | succ kj13 => (
 have H := HA.out
 clear HA
 simp only [psalteryref16_Right.j1] at H
 by_cases c18 : x30_13 = true
 {
 subst c18
 rw [if_pos rfl] at H
 obtain rfl := Option.some.inj H
 go_wp2
 go_ret
 exact ⟨by first | rfl | (simp [errW_none, errW_some] <;> rfl) | (simp [*, errW_none, errW_some] <;> rfl), bl_ HB⟩}
 {
 replace c18 := Bool.eq_false_iff.mpr c18
 subst c18
 rw [if_neg (show ¬ (false = true) by decide)] at H
 obtain ⟨t160, A19, H⟩ := ob_ H
 (try dsimp only at H)
 by_cases c20 : t160 = true
 {
 subst c20
 rw [if_pos rfl] at H
 obtain ⟨t161, A21, H⟩ := ob_ H
 (try dsimp only at H)
 by_cases c22 : t161 = true
 {
 subst c22
 rw [if_pos rfl] at H
 by_cases c23 : 15 < (l0_3.length : Int)
 {
 rw [if_pos c23] at H
 have c23b0 : decide (15 < (l0_3.length : Int)) = true := decide_eq_true c23
 have c23b1 : decide (15 < l0_3.length) = true := decide_eq_true (by omega)
 clear c23
 obtain rfl := Option.some.inj H
 obtain ⟨hcz24_0, hcz24_1, hcz24_2, hcz24_3, hfz24_0, hfz24_1, hfz24_2, hfz24_3⟩ := e4_ BK159
 go_wp2_with (first | ((with_reducible refine gate_callee (f := 38) rfl ?_); refine gL_ (some 33) Try.func38 #[.slice A0_2 l0_2.length c0_2] ?_; (with_reducible refine (psalteryref04_Right.calls kj13 _ _ l0_2 true _ ?side1 ?side2 A19.out).mono ?_); (case side1 => exact kC_ HR0_2 HB); (case side2 => exact HC0_2.out); rintro e w' ⟨rfl, ⟨nd, rfl⟩⟩; refine ⟨_, rfl, ?_⟩) | (go_at_call 38; (with_reducible refine (psalteryref04_Right.calls kj13 _ _ l0_3 true _ ?side1 ?side2 A21.out).mono ?_); (case side1 => repeat (first | exact (Kd.C_below HR0_3.out (bl_ HB)) | (with_reducible refine Kd.C_alloc ?_ _) | (with_reducible refine Kd.C_drewN ?_ _) | (with_reducible refine Kd.C_drew ?_))); (case side2 => exact HC0_3.out); rintro e w' ⟨rfl, ⟨nd, rfl⟩⟩; have p162 : 0 ≤ (15 : Int) := (by omega); have q162 : 15 < (l0_3.length : Int) := of_decide_eq_true am_; obtain ⟨ad162, e162, hx162_0⟩ := Kd.at_int HR0_3.out 15 p162 q162; cases e162; (try simp only [show (15 : Int).toNat = 15 from rfl, Nat.reduceMul, Nat.reduceEqDiff, Go.Addr.add, ↓reduceIte] at hx162_0); have qi162 : (15 < l0_3.length) = True := eq_true (by omega); (try rw [show ((15 : Int)).toNat = 15 from rfl] at hx162_0); replace hx162_0 := (HB.out.cell (World.block_lt_of_cell? w _ hx162_0)).trans hx162_0; replace p162 := eq_true p162; replace q162 := eq_true q162))
 go_ret
 exact ⟨by first | rfl | (simp [errW_none, errW_some] <;> rfl) | (simp [*, errW_none, errW_some] <;> rfl), bl_ HB⟩}
 {
 rw [if_neg c23] at H
 exact absurd H (by simp)}}
 {
 replace c22 := Bool.eq_false_iff.mpr c22
 subst c22
 rw [if_neg (show ¬ (false = true) by decide)] at H
 obtain rfl := Option.some.inj H
 obtain ⟨hcz25_0, hcz25_1, hcz25_2, hcz25_3, hfz25_0, hfz25_1, hfz25_2, hfz25_3⟩ := e4_ BK159
 go_wp2_with (first | ((with_reducible refine gate_callee (f := 38) rfl ?_); refine gL_ (some 33) Try.func38 #[.slice A0_2 l0_2.length c0_2] ?_; (with_reducible refine (psalteryref04_Right.calls kj13 _ _ l0_2 true _ ?side1 ?side2 A19.out).mono ?_); (case side1 => exact kC_ HR0_2 HB); (case side2 => exact HC0_2.out); rintro e w' ⟨rfl, ⟨nd, rfl⟩⟩; refine ⟨_, rfl, ?_⟩) | (go_at_call 38; (with_reducible refine (psalteryref04_Right.calls kj13 _ _ l0_3 false _ ?side1 ?side2 A21.out).mono ?_); (case side1 => repeat (first | exact (Kd.C_below HR0_3.out (bl_ HB)) | (with_reducible refine Kd.C_alloc ?_ _) | (with_reducible refine Kd.C_drewN ?_ _) | (with_reducible refine Kd.C_drew ?_))); (case side2 => exact HC0_3.out); rintro e w' ⟨rfl, ⟨nd, rfl⟩⟩))
 go_ret
 exact ⟨by first | rfl | (simp [errW_none, errW_some] <;> rfl) | (simp [*, errW_none, errW_some] <;> rfl), bl_ HB⟩}}
 {
 replace c20 := Bool.eq_false_iff.mpr c20
 subst c20
 rw [if_neg (show ¬ (false = true) by decide)] at H
 obtain rfl := Option.some.inj H
 obtain ⟨hcz26_0, hcz26_1, hcz26_2, hcz26_3, hfz26_0, hfz26_1, hfz26_2, hfz26_3⟩ := e4_ BK159
 go_wp2_with (first | ((with_reducible refine gate_callee (f := 38) rfl ?_); refine gL_ (some 33) Try.func38 #[.slice A0_2 l0_2.length c0_2] ?_; (with_reducible refine (psalteryref04_Right.calls kj13 _ _ l0_2 false _ ?side1 ?side2 A19.out).mono ?_); (case side1 => exact kC_ HR0_2 HB); (case side2 => exact HC0_2.out); rintro e w' ⟨rfl, ⟨nd, rfl⟩⟩; refine ⟨_, rfl, ?_⟩))
 go_ret
 exact ⟨by first | rfl | (simp [errW_none, errW_some] <;> rfl) | (simp [*, errW_none, errW_some] <;> rfl), bl_ HB⟩}}))}))
end Go.Proofs.Ytpdfdaoohknfoaa.P
namespace Go.Proofs.Ytpdfdaoohknfoaa.P
open Go.RowKit Go.Proofs.YtpdfdaoohknfoaaW.PrintWords Go.Proofs.YtpdfdaoohknfoaaW.PrintLast Go.Proofs.YtpdfdaoohknfoaaW.PrintMore
attribute [local go_sem] max2_int min2_int max_two min_two max_three min_three max_four min_four   -- for this text's walks alone
set_option linter.unusedVariables false
set_option linter.unusedSimpArgs false

def psalteryref04_spread.f : Nat → Int → Int → Option (List Int)
  | 0, _, _ => none
  | k + 1, a0, a1 => if a1 = 0 then (some ([] : List Int)) else ((psalteryref04_spread.f k (wrap64 (Int.tdiv a0 2)) (wrap64 (a1 - 1))).bind fun t667 => (if t667.length < 17592186044416 then (some (t667 ++ [Int.tmod a0 2])) else (none)))
theorem psalteryref04_spread.mono_l : ∀ k, (∀ y0 y1, LeO (psalteryref04_spread.f k y0 y1) (psalteryref04_spread.f (k + 1) y0 y1))
  | 0 => fun _ _ r h => by simp [psalteryref04_spread.f] at h
  | k + 1 => by
    have ih0 := psalteryref04_spread.mono_l k
    · intro y0 y1
      unfold psalteryref04_spread.f
      with_reducible repeat' first
   | exact ih0 _ _
   | exact LeO.refl _
   | exact LeO.none _
   | refine LeO.ite ?_ ?_
   | refine LeO.bind ?_ (fun _ => ?_)
theorem psalteryref04_spread.mono : ∀ a0 a1 k, LeO (psalteryref04_spread.f k a0 a1) (psalteryref04_spread.f (k + 1) a0 a1) := by
  intro a0 a1 k
  have ih0 := psalteryref04_spread.mono_l k
  exact ih0 a0 a1
set_option maxHeartbeats 8000000 in
set_option maxRecDepth 100000 in
theorem psalteryref04_spread.calls (k : Nat) : ∀ (a0 : Int) (a1 : Int) (r : List Int) (w : World) (h : psalteryref04_spread.f k a0 a1 = some r),
    Calls Try.prog 69 #[.int .i64 a0, .int .i64 a1] w fun e w' => ∃ v0_ : Value, e = .returned (v0_) ∧ Kd.R (Kd.int .i64) 3 w' w.heap.size (fun _ => True) v0_ r ∧ Below w.heap.size w w' := by
 induction k using Nat.strongRecOn with
 | _ k ih =>
 intro a0 a1 r w h
 cases k with
 | zero => exact absurd h (by simp [psalteryref04_spread.f])
 | succ k =>
 simp only [psalteryref04_spread.f] at h
 have HB := Aside0.mk (Below.refl w.heap.size w)
 have H : (if a1 = 0 then (some ([] : List Int)) else ((psalteryref04_spread.f k (wrap64 (Int.tdiv a0 2)) (wrap64 (a1 - 1))).bind fun t667 => (if t667.length < 17592186044416 then (some (t667 ++ [Int.tmod a0 2])) else (none)))) = some r := h
 clear h
 by_cases c3 : a1 = 0
 {
 rw [if_pos c3] at H
 have c3b0 : (a1 == 0) = true := beq_iff_eq.mpr c3
 have c3b1 : (a1 != 0) = false := bne_eq_false_iff_eq.mpr c3
 clear c3
 obtain rfl := Option.some.inj H
 go_enter Try.func69, Try.ntmps69
 go_wp2
 go_ret
 exact ⟨_, by first | rfl | (simp [errW_none, errW_some] <;> rfl) | (simp [*, errW_none, errW_some] <;> rfl), by first | exact Kd.R_nil _ _ _ _ _ | exact Kd.N_nil _ _ _ _ _ | exact Kd.V_nil _ _ _ _ _ | exact Kd.Q_nil _ _ _ _ _ | exact Kd.S_nil _ _ _ _ _, bl_ HB⟩}
 {
 rw [if_neg c3] at H
 have c3b0 : (a1 == 0) = false := beq_eq_false_iff_ne.mpr c3
 have c3b1 : (a1 != 0) = true := bne_iff_ne.mpr c3
 obtain ⟨t667, A4, H⟩ := ob_ H
 (try dsimp only at H)
 by_cases c5 : t667.length < 17592186044416
 {
 rw [if_pos c5] at H
 have LMc5 := Aside0.mk c5
 clear c5
 obtain ⟨y670, hy670⟩ : ∃ y_ : List Int, y_ = (t667 ++ [Int.tmod a0 2]) := ⟨_, rfl⟩
 replace H : (some y670) = some r := by first | (rw [hy670]; with_reducible exact H) | (have H2_ := (Option.bind_some _ _).symm.trans H; rw [hy670]; with_reducible exact H2_) | (have H2_ := (Option.bind_some _ _).symm.trans H; with_reducible exact H2_) | with_reducible exact H | (rw [hy670]; exact H) | exact H
 have Ny670 := Aside0.mk hy670
 clear hy670
 obtain rfl := Option.some.inj H
 go_enter Try.func69, Try.ntmps69
 go_wp2_with (first | ((with_reducible refine gate_callee (f := 69) rfl ?_); refine gL_ (some 11) Try.func69 #[.int .i64 (wrap64 (Int.tdiv a0 2)), .int .i64 (wrap64 (a1 - 1))] ?_; (with_reducible refine (ih k (by omega) (wrap64 (Int.tdiv a0 2)) (wrap64 (a1 - 1)) t667 _ A4.out).mono ?_); rintro e w6 ⟨v668, rfl, ho0, hb⟩; refine ⟨_, rfl, ?_⟩; have HO669 := Aside0.mk (Kd.R_lower ho0 (bs_ HB)); replace HB := BS_ HB hb; (try clear hb); (try clear hk); (try clear ho0)) | ((with_reducible refine gate_builtin (b := .append) (xs := #[.tmp 11, .tmp 14]) rfl ?_); at_builtin; refine Kd.R_append (Kd.int .i64) (w0 := w) w.heap.size rfl (.tmp 11) (.tmp 14) 22 3 (.int .i64 0) 8 rfl Try.underlying22 info3 rfl (by decide) (by omega) v668 t667 (Int.tmod a0 2) [.int .i64 (Int.tmod a0 2)] (fun _ => True) (fun _ => False) rfl rfl ?aP (fun _ hk => hk.elim) ?aF ?aO ?aB ?aS ?aL ?_; (case aP => exact rfl); (case aB => exact (bl_ HB)); (case aF => exact (fun _ _ => trivial)); (case aO => exact (kR_ HO669)); (case aS => exact (bs_ HB)); (case aL => have := LMc5.out; omega); intro v671 w7 ho hb hg hat; rw [← Ny670.out] at ho; replace HB := Aside0.mk (hb); have HO672 := Aside0.mk (ho); clear HO669; clear ho hb hg hat))
 go_ret
 exact ⟨_, by first | rfl | (simp [errW_none, errW_some] <;> rfl) | (simp [*, errW_none, errW_some] <;> rfl), by (with_reducible repeat (first | apply Kd.R_alloc | apply Kd.R_drewN | apply Kd.R_drew)); exact HO672.out, bl_ HB⟩}
 {
 rw [if_neg c5] at H
 exact absurd H (by simp)}}
end Go.Proofs.Ytpdfdaoohknfoaa.P
namespace Go.Proofs.Ytpdfdaoohknfoaa.P
open Go.RowKit Go.Proofs.YtpdfdaoohknfoaaW.PrintWords Go.Proofs.YtpdfdaoohknfoaaW.PrintLast Go.Proofs.YtpdfdaoohknfoaaW.PrintMore
attribute [local go_sem] max2_int min2_int max_two min_two max_three min_three max_four min_four   -- for this text's walks alone
set_option linter.unusedVariables false
set_option linter.unusedSimpArgs false

mutual
def psalteryref04_Code.l0 : Nat → List Int → Int → Int → Int → Option (List Int)
  | 0, _, _, _, _ => none
  | k + 1, x0, x1, x5, x6 => if x6 ≤ 16 then (psalteryref04_Code.l1 k x0 x1 x5 x6 0) else (some ([] : List Int))
def psalteryref04_Code.l1 : Nat → List Int → Int → Int → Int → Int → Option (List Int)
  | 0, _, _, _, _, _ => none
  | k + 1, x0, x1, x5, x6, x7 => if x7 < (x0.length : Int) then (if 0 ≤ x7 then (if (rd x0 x7) = x6 then (if x7 = x1 then ((psalteryref04_spread.f k x5 x6).bind fun t674 => (some t674)) else (psalteryref04_Code.l1 k x0 x1 (wrap64 (x5 + 1)) x6 (wrap64 (x7 + 1)))) else (psalteryref04_Code.l1 k x0 x1 x5 x6 (wrap64 (x7 + 1)))) else (none)) else (psalteryref04_Code.l0 k x0 x1 (wrap64 (x5 * 2)) (wrap64 (x6 + 1)))
end
def psalteryref04_Code.f (k : Nat) (l0 : List Int) (a1 : Int) : Option (List Int) := psalteryref04_Code.l0 k l0 a1 0 1
theorem psalteryref04_Code.mono_l : ∀ k, (∀ y0 y1 y2 y3, LeO (psalteryref04_Code.l0 k y0 y1 y2 y3) (psalteryref04_Code.l0 (k + 1) y0 y1 y2 y3)) ∧ (∀ y0 y1 y2 y3 y4, LeO (psalteryref04_Code.l1 k y0 y1 y2 y3 y4) (psalteryref04_Code.l1 (k + 1) y0 y1 y2 y3 y4))
  | 0 => ⟨fun _ _ _ _ r h => by simp [psalteryref04_Code.l0] at h, fun _ _ _ _ _ r h => by simp [psalteryref04_Code.l1] at h⟩
  | k + 1 => by
    obtain ⟨ih0, ih1⟩ := psalteryref04_Code.mono_l k
    refine ⟨?_, ?_⟩
    all_goals (intros; first | unfold psalteryref04_Code.l0 | unfold psalteryref04_Code.l1)
    all_goals with_reducible repeat' first
     | exact ih0 _ _ _ _
     | exact ih1 _ _ _ _ _
     | exact psalteryref04_spread.mono _ _ _
     | exact LeO.refl _
     | exact LeO.none _
     | refine LeO.ite ?_ ?_
     | refine LeO.bind ?_ (fun _ => ?_)
theorem psalteryref04_Code.mono : ∀ a0 a1 k, LeO (psalteryref04_Code.f k a0 a1) (psalteryref04_Code.f (k + 1) a0 a1) := by
  intro a0 a1 k
  obtain ⟨ih0, ih1⟩ := psalteryref04_Code.mono_l k
  unfold psalteryref04_Code.f
  with_reducible repeat' first
   | exact ih0 _ _ _ _
   | exact ih1 _ _ _ _ _
   | exact psalteryref04_spread.mono _ _ _
   | exact LeO.refl _
   | exact LeO.none _
   | refine LeO.ite ?_ ?_
   | refine LeO.bind ?_ (fun _ => ?_)
set_option maxHeartbeats 8000000 in
set_option maxRecDepth 100000 in
theorem psalteryref04_Code.calls (k : Nat) (A0 : Option Addr) (c0 : Nat) (l0 : List Int) (a1 : Int) (r : List Int) (w : World) (hr0 : Kd.C (Kd.int .i64) w A0 l0.length l0) (hc0 : l0.length ≤ c0) (h : psalteryref04_Code.f k l0 a1 = some r) :
    Calls Try.prog 53 #[.slice A0 l0.length c0, .int .i64 a1] w fun e w' => ∃ v0_ : Value, e = .returned (v0_) ∧ Kd.R (Kd.int .i64) 3 w' w.heap.size (fun _ => True) v0_ r ∧ Below w.heap.size w w' := by
 have HR0 := Aside0.mk hr0
 have HC0 := Aside0.mk hc0
 clear hr0 hc0
 have HB := Aside0.mk (Below.refl w.heap.size w)
 have H : (psalteryref04_Code.l0 k l0 a1 0 1) = some r := h
 clear h
 have H' := Aside0.mk H
 clear H
 go_enter Try.func53, Try.ntmps53
 go_wp2
 go_loopg [5, 6] k (fun kq v5 v6 w' => ∃ (x5_1 : Int) (x6_1 : Int), v5 = .int .i64 x5_1 ∧ v6 = .int .i64 x6_1 ∧ Aside0 (psalteryref04_Code.l0 kq l0 a1 x5_1 x6_1 = some r) ∧ Aside0 (kq ≤ k) ∧ Aside0 (Below w.heap.size w w'))
 case atStart => exact ⟨(0), (1), rs_, rs_, H', ⟨Nat.le_refl _⟩, ⟨bl_ HB⟩⟩
 case round => (
 clear H'
 obtain ⟨x5_1, x6_1, rfl, rfl, HA, HK1, HB⟩ := hrel
 cases gk with
 | zero => exact absurd HA.out (by simp [psalteryref04_Code.l0])
 | succ k1 => (
 have H := HA.out
 clear HA
 simp only [psalteryref04_Code.l0] at H
 by_cases c3 : x6_1 ≤ 16
 {
 rw [if_pos c3] at H
 have c3b0 : decide (x6_1 ≤ 16) = true := decide_eq_true c3
 clear c3
 have H' := Aside0.mk H
 clear H
 go_wp2
 go_loopg [5, 7] k1 (fun kq v5 v7 w' => ∃ (x5_2 : Int) (x7_2 : Int), v5 = .int .i64 x5_2 ∧ v7 = .int .i64 x7_2 ∧ Aside0 (psalteryref04_Code.l1 kq l0 a1 x5_2 x6_1 x7_2 = some r) ∧ Aside0 (kq ≤ k1) ∧ Aside0 (Below w.heap.size w w'))
 case atStart => exact ⟨(x5_1), (0), rs_, rs_, H', ⟨Nat.le_refl _⟩, ⟨bl_ HB⟩⟩
 case round => (
 clear H'
 try clear c3
 try clear c3b0
 obtain ⟨x5_2, x7_2, rfl, rfl, HA, HK2, HB⟩ := hrel
 cases gk with
 | zero => exact absurd HA.out (by simp [psalteryref04_Code.l1])
 | succ k2 => (
 have H := HA.out
 clear HA
 simp only [psalteryref04_Code.l1] at H
 by_cases c4 : x7_2 < (l0.length : Int)
 {
 rw [if_pos c4] at H
 have c4b0 : decide (x7_2 < (l0.length : Int)) = true := decide_eq_true c4
 clear c4
 by_cases c5 : 0 ≤ x7_2
 {
 rw [if_pos c5] at H
 have c5b0 : decide (0 ≤ x7_2) = true := decide_eq_true c5
 clear c5
 by_cases c6 : (rd l0 x7_2) = x6_1
 {
 rw [if_pos c6] at H
 have c6b0 : ((rd l0 x7_2) == x6_1) = true := beq_iff_eq.mpr c6
 have c6b1 : ((rd l0 x7_2) != x6_1) = false := bne_eq_false_iff_eq.mpr c6
 clear c6
 by_cases c7 : x7_2 = a1
 {
 rw [if_pos c7] at H
 have c7b0 : (x7_2 == a1) = true := beq_iff_eq.mpr c7
 have c7b1 : (x7_2 != a1) = false := bne_eq_false_iff_eq.mpr c7
 clear c7
 replace H := Option.bind_eq_some_iff.mp H
 obtain ⟨t674, A80, H⟩ := H
 replace H : (some t674) = some r := H
 have A8 := Aside0.mk A80
 clear A80
 obtain rfl := Option.some.inj H
 have p673 : 0 ≤ (x7_2 : Int) := of_decide_eq_true am_
 have q673 : x7_2 < (l0.length : Int) := of_decide_eq_true am_
 obtain ⟨ad673, e673, hx673_0⟩ := Kd.at_int HR0.out x7_2 p673 q673
 cases e673
 replace hx673_0 := (HB.out.cell (World.block_lt_of_cell? w _ hx673_0)).trans hx673_0
 replace p673 := eq_true p673
 replace q673 := eq_true q673
 go_wp2_with (first | ((with_reducible refine gate_callee (f := 69) rfl ?_); refine gL_ (some 27) Try.func69 #[.int .i64 x5_2, .int .i64 x6_1] ?_; (with_reducible refine (psalteryref04_spread.calls k2 x5_2 x6_1 t674 _ A8.out).mono ?_); rintro e w9 ⟨v675, rfl, ho0, hb⟩; refine ⟨_, rfl, ?_⟩; have HO676 := Aside0.mk (Kd.R_lower ho0 (bs_ HB)); replace HB := BS_ HB hb; (try clear hb); (try clear ho0)))
 go_ret
 exact ⟨_, by first | rfl | (simp [errW_none, errW_some] <;> rfl) | (simp [*, errW_none, errW_some] <;> rfl), by (with_reducible repeat (first | apply Kd.R_alloc | apply Kd.R_drewN | apply Kd.R_drew)); exact HO676.out, bl_ HB⟩}
 {
 rw [if_neg c7] at H
 have c7b0 : (x7_2 == a1) = false := beq_eq_false_iff_ne.mpr c7
 have c7b1 : (x7_2 != a1) = true := bne_iff_ne.mpr c7
 have H' := Aside0.mk H
 clear H
 have p673 : 0 ≤ (x7_2 : Int) := of_decide_eq_true am_
 have q673 : x7_2 < (l0.length : Int) := of_decide_eq_true am_
 obtain ⟨ad673, e673, hx673_0⟩ := Kd.at_int HR0.out x7_2 p673 q673
 cases e673
 replace hx673_0 := (HB.out.cell (World.block_lt_of_cell? w _ hx673_0)).trans hx673_0
 replace p673 := eq_true p673
 replace q673 := eq_true q673
 go_wp2
 go_roundg k2
 case measure => have := HK1.out; have := HK2.out; omega
 case rel => exact ⟨(wrap64 (x5_2 + 1)), (wrap64 (x7_2 + 1)), rs_, rs_, H', ⟨by have := HK1.out; have := HK2.out; omega⟩, ⟨bl_ HB⟩⟩}}
 {
 rw [if_neg c6] at H
 have c6b0 : ((rd l0 x7_2) == x6_1) = false := beq_eq_false_iff_ne.mpr c6
 have c6b1 : ((rd l0 x7_2) != x6_1) = true := bne_iff_ne.mpr c6
 have H' := Aside0.mk H
 clear H
 have p673 : 0 ≤ (x7_2 : Int) := of_decide_eq_true am_
 have q673 : x7_2 < (l0.length : Int) := of_decide_eq_true am_
 obtain ⟨ad673, e673, hx673_0⟩ := Kd.at_int HR0.out x7_2 p673 q673
 cases e673
 replace hx673_0 := (HB.out.cell (World.block_lt_of_cell? w _ hx673_0)).trans hx673_0
 replace p673 := eq_true p673
 replace q673 := eq_true q673
 go_wp2
 go_roundg k2
 case measure => have := HK1.out; have := HK2.out; omega
 case rel => exact ⟨(x5_2), (wrap64 (x7_2 + 1)), rs_, rs_, H', ⟨by have := HK1.out; have := HK2.out; omega⟩, ⟨bl_ HB⟩⟩}}
 {
 rw [if_neg c5] at H
 exact absurd H (by simp)}}
 {
 rw [if_neg c4] at H
 have c4b0 : decide (x7_2 < (l0.length : Int)) = false := decide_eq_false c4
 clear c4
 have H' := Aside0.mk H
 clear H
 go_wp2
 go_roundg k2
 case measure => have := HK1.out; have := HK2.out; omega
 case rel => exact ⟨(wrap64 (x5_2 * 2)), (wrap64 (x6_1 + 1)), rs_, rs_, H', ⟨by have := HK1.out; have := HK2.out; omega⟩, ⟨bl_ HB⟩⟩}))}
 {
 rw [if_neg c3] at H
 have c3b0 : decide (x6_1 ≤ 16) = false := decide_eq_false c3
 clear c3
 obtain rfl := Option.some.inj H
 go_wp2
 go_ret
 exact ⟨_, by first | rfl | (simp [errW_none, errW_some] <;> rfl) | (simp [*, errW_none, errW_some] <;> rfl), by first | exact Kd.R_nil _ _ _ _ _ | exact Kd.N_nil _ _ _ _ _ | exact Kd.V_nil _ _ _ _ _ | exact Kd.Q_nil _ _ _ _ _ | exact Kd.S_nil _ _ _ _ _, bl_ HB⟩}))
end Go.Proofs.Ytpdfdaoohknfoaa.P
namespace Go.Proofs.Ytpdfdaoohknfoaa.P
open Go.RowKit Go.Proofs.YtpdfdaoohknfoaaW.PrintWords Go.Proofs.YtpdfdaoohknfoaaW.PrintLast Go.Proofs.YtpdfdaoohknfoaaW.PrintMore
attribute [local go_sem] max2_int min2_int max_two min_two max_three min_three max_four min_four   -- for this text's walks alone
set_option linter.unusedVariables false
set_option linter.unusedSimpArgs false

mutual
def psalteryref01_Bits.l0 : Nat → List Int → List Int → Int → Option (List Int)
  | 0, _, _, _ => none
  | k + 1, x0, x3, x4 => if x4 < (x0.length : Int) then (if 0 ≤ x4 then (psalteryref01_Bits.l1 k x0 x3 x4 (wrap64 (rd x0 x4)) 0) else (none)) else (some x3)
def psalteryref01_Bits.l1 : Nat → List Int → List Int → Int → Int → Int → Option (List Int)
  | 0, _, _, _, _, _ => none
  | k + 1, x0, x3, x4, x5, x6 => if x6 < 8 then (if x3.length < 17592186044416 then (psalteryref01_Bits.l1 k x0 (x3 ++ [Int.tmod x5 2]) x4 (wrap64 (Int.tdiv x5 2)) (wrap64 (x6 + 1))) else (none)) else (psalteryref01_Bits.l0 k x0 x3 (wrap64 (x4 + 1)))
end
def psalteryref01_Bits.f (k : Nat) (l0 : List Int) : Option (List Int) := psalteryref01_Bits.l0 k l0 ([] : List Int) 0
theorem psalteryref01_Bits.mono_l : ∀ k, (∀ y0 y1 y2, LeO (psalteryref01_Bits.l0 k y0 y1 y2) (psalteryref01_Bits.l0 (k + 1) y0 y1 y2)) ∧ (∀ y0 y1 y2 y3 y4, LeO (psalteryref01_Bits.l1 k y0 y1 y2 y3 y4) (psalteryref01_Bits.l1 (k + 1) y0 y1 y2 y3 y4))
  | 0 => ⟨fun _ _ _ r h => by simp [psalteryref01_Bits.l0] at h, fun _ _ _ _ _ r h => by simp [psalteryref01_Bits.l1] at h⟩
  | k + 1 => by
    obtain ⟨ih0, ih1⟩ := psalteryref01_Bits.mono_l k
    refine ⟨?_, ?_⟩
    all_goals (intros; first | unfold psalteryref01_Bits.l0 | unfold psalteryref01_Bits.l1)
    all_goals with_reducible repeat' first
     | exact ih0 _ _ _
     | exact ih1 _ _ _ _ _
     | exact LeO.refl _
     | exact LeO.none _
     | refine LeO.ite ?_ ?_
     | refine LeO.bind ?_ (fun _ => ?_)
theorem psalteryref01_Bits.mono : ∀ a0 k, LeO (psalteryref01_Bits.f k a0) (psalteryref01_Bits.f (k + 1) a0) := by
  intro a0 k
  obtain ⟨ih0, ih1⟩ := psalteryref01_Bits.mono_l k
  unfold psalteryref01_Bits.f
  with_reducible repeat' first
   | exact ih0 _ _ _
   | exact ih1 _ _ _ _ _
   | exact LeO.refl _
   | exact LeO.none _
   | refine LeO.ite ?_ ?_
   | refine LeO.bind ?_ (fun _ => ?_)
set_option maxHeartbeats 8000000 in
set_option maxRecDepth 100000 in
theorem psalteryref01_Bits.calls (k : Nat) (A0 : Option Addr) (c0 : Nat) (l0 : List Int) (r : List Int) (w : World) (hr0 : Kd.C (Kd.int .u8) w A0 l0.length l0) (hc0 : l0.length ≤ c0) (h : psalteryref01_Bits.f k l0 = some r) :
    Calls Try.prog 61 #[.slice A0 l0.length c0] w fun e w' => ∃ v0_ : Value, e = .returned (v0_) ∧ Kd.R (Kd.int .i64) 3 w' w.heap.size (fun _ => True) v0_ r ∧ Below w.heap.size w w' := by
 have HR0 := Aside0.mk hr0
 have HC0 := Aside0.mk hc0
 clear hr0 hc0
 have HB := Aside0.mk (Below.refl w.heap.size w)
 have H : (psalteryref01_Bits.l0 k l0 ([] : List Int) 0) = some r := h
 clear h
 have H' := Aside0.mk H
 clear H
 go_enter Try.func61, Try.ntmps61
 go_wp2
 go_loopg [3, 4] k (fun kq v3 v4 w' => ∃ (x3_1 : List Int) (x4_1 : Int), v4 = .int .i64 x4_1 ∧ Aside0 (psalteryref01_Bits.l0 kq l0 x3_1 x4_1 = some r) ∧ Aside0 (kq ≤ k) ∧ Aside0 (Kd.R (Kd.int .i64) 3 w' w.heap.size (fun _ => True) v3 x3_1) ∧ Aside0 (Below w.heap.size w w'))
 case atStart => exact ⟨(([] : List Int)), (0), rs_, H', ⟨Nat.le_refl _⟩, ⟨by first | exact Kd.R_nil _ _ _ _ _ | exact Kd.N_nil _ _ _ _ _ | exact Kd.V_nil _ _ _ _ _ | exact Kd.Q_nil _ _ _ _ _ | exact Kd.S_nil _ _ _ _ _⟩, ⟨bl_ HB⟩⟩
 case round => (
 clear H'
 obtain ⟨x3_1, x4_1, rfl, HA, HK1, HO_3, HB⟩ := hrel
 cases gk with
 | zero => exact absurd HA.out (by simp [psalteryref01_Bits.l0])
 | succ k1 => (
 have H := HA.out
 clear HA
 simp only [psalteryref01_Bits.l0] at H
 by_cases c2 : x4_1 < (l0.length : Int)
 {
 rw [if_pos c2] at H
 have c2b0 : decide (x4_1 < (l0.length : Int)) = true := decide_eq_true c2
 clear c2
 by_cases c3 : 0 ≤ x4_1
 {
 rw [if_pos c3] at H
 have c3b0 : decide (0 ≤ x4_1) = true := decide_eq_true c3
 clear c3
 have H' := Aside0.mk H
 clear H
 have p266 : 0 ≤ (x4_1 : Int) := of_decide_eq_true am_
 have q266 : x4_1 < (l0.length : Int) := of_decide_eq_true am_
 obtain ⟨ad266, e266, hx266_0⟩ := Kd.at_int HR0.out x4_1 p266 q266
 cases e266
 replace hx266_0 := (HB.out.cell (World.block_lt_of_cell? w _ hx266_0)).trans hx266_0
 replace p266 := eq_true p266
 replace q266 := eq_true q266
 go_wp2
 go_loopg [3, 5, 6] k1 (fun kq v3 v5 v6 w' => ∃ (x3_2 : List Int) (x5_2 : Int) (x6_2 : Int), v5 = .int .i64 x5_2 ∧ v6 = .int .i64 x6_2 ∧ Aside0 (psalteryref01_Bits.l1 kq l0 x3_2 x4_1 x5_2 x6_2 = some r) ∧ Aside0 (kq ≤ k1) ∧ Aside0 (Kd.R (Kd.int .i64) 3 w' w.heap.size (fun _ => True) v3 x3_2) ∧ Aside0 (Below w.heap.size w w'))
 case atStart => exact ⟨(x3_1), (wrap64 (rd l0 x4_1)), (0), rs_, rs_, H', ⟨Nat.le_refl _⟩, ⟨kR_ HO_3⟩, ⟨bl_ HB⟩⟩
 case round => (
 clear H'
 try clear c2
 try clear c2b0
 try clear c3
 try clear c3b0
 try clear hx266_0
 try clear p266
 try clear q266
 obtain ⟨x3_2, x5_2, x6_2, rfl, rfl, HA, HK2, HO_3, HB⟩ := hrel
 cases gk with
 | zero => exact absurd HA.out (by simp [psalteryref01_Bits.l1])
 | succ k2 => (
 have H := HA.out
 clear HA
 simp only [psalteryref01_Bits.l1] at H
 by_cases c4 : x6_2 < 8
 {
 rw [if_pos c4] at H
 have c4b0 : decide (x6_2 < 8) = true := decide_eq_true c4
 clear c4
 by_cases c5 : x3_2.length < 17592186044416
 {
 rw [if_pos c5] at H
 have LMc5 := Aside0.mk c5
 clear c5
 obtain ⟨y267, hy267⟩ : ∃ y_ : List Int, y_ = (x3_2 ++ [Int.tmod x5_2 2]) := ⟨_, rfl⟩
 replace H : (psalteryref01_Bits.l1 k2 l0 y267 x4_1 (wrap64 (Int.tdiv x5_2 2)) (wrap64 (x6_2 + 1))) = some r := by first | (rw [hy267]; with_reducible exact H) | (have H2_ := (Option.bind_some _ _).symm.trans H; rw [hy267]; with_reducible exact H2_) | (have H2_ := (Option.bind_some _ _).symm.trans H; with_reducible exact H2_) | with_reducible exact H | (rw [hy267]; exact H) | exact H
 have Ny267 := Aside0.mk hy267
 clear hy267
 have H' := Aside0.mk H
 clear H
 go_wp2_with (first | ((with_reducible refine gate_builtin (b := .append) (xs := #[.tmp 22, .tmp 25]) rfl ?_); at_builtin; refine Kd.R_append (Kd.int .i64) (w0 := w) w.heap.size rfl (.tmp 22) (.tmp 25) 22 3 (.int .i64 0) 8 rfl Try.underlying22 info3 rfl (by decide) (by omega) u3 x3_2 (Int.tmod x5_2 2) [.int .i64 (Int.tmod x5_2 2)] (fun _ => True) (fun _ => False) rfl rfl ?aP (fun _ hk => hk.elim) ?aF ?aO ?aB ?aS ?aL ?_; (case aP => exact rfl); (case aB => exact (bl_ HB)); (case aF => exact (fun _ _ => trivial)); (case aO => exact (kR_ HO_3)); (case aS => exact (bs_ HB)); (case aL => have := LMc5.out; omega); intro v268 w6 ho hb hg hat; rw [← Ny267.out] at ho; replace HB := Aside0.mk (hb); have HO269 := Aside0.mk (ho); clear HO_3; clear ho hb hg hat))
 go_roundg k2
 case measure => have := HK1.out; have := HK2.out; omega
 case rel => exact ⟨(y267), (wrap64 (Int.tdiv x5_2 2)), (wrap64 (x6_2 + 1)), rs_, rs_, H', ⟨by have := HK1.out; have := HK2.out; omega⟩, ⟨kR_ HO269⟩, ⟨bl_ HB⟩⟩}
 {
 rw [if_neg c5] at H
 exact absurd H (by simp)}}
 {
 rw [if_neg c4] at H
 have c4b0 : decide (x6_2 < 8) = false := decide_eq_false c4
 clear c4
 have H' := Aside0.mk H
 clear H
 go_wp2
 go_roundg k2
 case measure => have := HK1.out; have := HK2.out; omega
 case rel => exact ⟨(x3_2), (wrap64 (x4_1 + 1)), rs_, H', ⟨by have := HK1.out; have := HK2.out; omega⟩, ⟨kR_ HO_3⟩, ⟨bl_ HB⟩⟩}))}
 {
 rw [if_neg c3] at H
 exact absurd H (by simp)}}
 {
 rw [if_neg c2] at H
 have c2b0 : decide (x4_1 < (l0.length : Int)) = false := decide_eq_false c2
 clear c2
 obtain rfl := Option.some.inj H
 go_wp2
 go_ret
 exact ⟨_, by first | rfl | (simp [errW_none, errW_some] <;> rfl) | (simp [*, errW_none, errW_some] <;> rfl), by (with_reducible repeat (first | apply Kd.R_alloc | apply Kd.R_drewN | apply Kd.R_drew)); exact HO_3.out, bl_ HB⟩}))
end Go.Proofs.Ytpdfdaoohknfoaa.P
namespace Go.Proofs.Ytpdfdaoohknfoaa.P
open Go.RowKit Go.Proofs.YtpdfdaoohknfoaaW.PrintWords Go.Proofs.YtpdfdaoohknfoaaW.PrintLast Go.Proofs.YtpdfdaoohknfoaaW.PrintMore
attribute [local go_sem] max2_int min2_int max_two min_two max_three min_three max_four min_four   -- for this text's walks alone
set_option linter.unusedVariables false
set_option linter.unusedSimpArgs false

def psalteryref06_Same.l0 : Nat → List Int → List Int → Int → Option (Bool)
  | 0, _, _, _ => none
  | k + 1, x0, x1, x5 => if x5 < (x0.length : Int) then (if 0 ≤ x5 then (if x5 < (x1.length : Int) then (if (rd x0 x5) = (rd x1 x5) then (psalteryref06_Same.l0 k x0 x1 (wrap64 (x5 + 1))) else (some false)) else (none)) else (none)) else (some true)
def psalteryref06_Same.f (k : Nat) (l0 : List Int) (l1 : List Int) : Option (Bool) := if (l0.length : Int) = (l1.length : Int) then (psalteryref06_Same.l0 k l0 l1 0) else (some false)
theorem psalteryref06_Same.mono_l : ∀ k, (∀ y0 y1 y2, LeO (psalteryref06_Same.l0 k y0 y1 y2) (psalteryref06_Same.l0 (k + 1) y0 y1 y2))
  | 0 => fun _ _ _ r h => by simp [psalteryref06_Same.l0] at h
  | k + 1 => by
    have ih0 := psalteryref06_Same.mono_l k
    · intro y0 y1 y2
      unfold psalteryref06_Same.l0
      with_reducible repeat' first
   | exact ih0 _ _ _
   | exact LeO.refl _
   | exact LeO.none _
   | refine LeO.ite ?_ ?_
   | refine LeO.bind ?_ (fun _ => ?_)
theorem psalteryref06_Same.mono : ∀ a0 a1 k, LeO (psalteryref06_Same.f k a0 a1) (psalteryref06_Same.f (k + 1) a0 a1) := by
  intro a0 a1 k
  have ih0 := psalteryref06_Same.mono_l k
  unfold psalteryref06_Same.f
  with_reducible repeat' first
   | exact ih0 _ _ _
   | exact LeO.refl _
   | exact LeO.none _
   | refine LeO.ite ?_ ?_
   | refine LeO.bind ?_ (fun _ => ?_)
set_option maxHeartbeats 8000000 in
set_option maxRecDepth 100000 in
theorem psalteryref06_Same.calls (k : Nat) (A0 : Option Addr) (c0 : Nat) (l0 : List Int) (A1 : Option Addr) (c1 : Nat) (l1 : List Int) (r : Bool) (w : World) (hr0 : Kd.C (Kd.int .i64) w A0 l0.length l0) (hc0 : l0.length ≤ c0) (hr1 : Kd.C (Kd.int .i64) w A1 l1.length l1) (hc1 : l1.length ≤ c1) (h : psalteryref06_Same.f k l0 l1 = some r) :
    Calls Try.prog 39 #[.slice A0 l0.length c0, .slice A1 l1.length c1] w fun e w' => e = .returned (.bool r) ∧ Drawn0 w w' := by
 have HR0 := Aside0.mk hr0
 have HC0 := Aside0.mk hc0
 clear hr0 hc0
 have HR1 := Aside0.mk hr1
 have HC1 := Aside0.mk hc1
 clear hr1 hc1
 have H : (if (l0.length : Int) = (l1.length : Int) then (psalteryref06_Same.l0 k l0 l1 0) else (some false)) = some r := h
 clear h
 by_cases c3 : (l0.length : Int) = (l1.length : Int)
 {
 rw [if_pos c3] at H
 have c3b0 : ((l0.length : Int) == (l1.length : Int)) = true := beq_iff_eq.mpr c3
 have c3b1 : ((l0.length : Int) != (l1.length : Int)) = false := bne_eq_false_iff_eq.mpr c3
 have c3b2 : (l0.length == l1.length) = true := by first | simpa using c3 | (simp at c3 ⊢; omega)
 clear c3
 have H' := Aside0.mk H
 clear H
 go_enter Try.func39, Try.ntmps39
 go_wp2
 repeat (go_quiet (fail); try go_wp2)
 go_loopg [5] k (fun kq v5 w' => ∃ (x5_1 : Int), v5 = .int .i64 x5_1 ∧ Aside0 (psalteryref06_Same.l0 kq l0 l1 x5_1 = some r) ∧ Aside0 (kq ≤ k) ∧ Drawn0 w w')
 case atStart => exact ⟨(0), rs_, H', ⟨Nat.le_refl _⟩, by repeat (first | exact Drawn0.refl _ | apply Drawn0.step)⟩
 case round => (
 clear H'
 try clear c3
 try clear c3b0
 try clear c3b1
 try clear c3b2
 obtain ⟨x5_1, rfl, HA, HK1, ⟨m1, rfl⟩⟩ := hrel
 cases gk with
 | zero => exact absurd HA.out (by simp [psalteryref06_Same.l0])
 | succ k1 => (
 have H := HA.out
 clear HA
 simp only [psalteryref06_Same.l0] at H
 by_cases c4 : x5_1 < (l0.length : Int)
 {
 rw [if_pos c4] at H
 have c4b0 : decide (x5_1 < (l0.length : Int)) = true := decide_eq_true c4
 clear c4
 by_cases c5 : 0 ≤ x5_1
 {
 rw [if_pos c5] at H
 have c5b0 : decide (0 ≤ x5_1) = true := decide_eq_true c5
 clear c5
 by_cases c6 : x5_1 < (l1.length : Int)
 {
 rw [if_pos c6] at H
 have c6b0 : decide (x5_1 < (l1.length : Int)) = true := decide_eq_true c6
 clear c6
 by_cases c7 : (rd l0 x5_1) = (rd l1 x5_1)
 {
 rw [if_pos c7] at H
 have c7b0 : ((rd l0 x5_1) == (rd l1 x5_1)) = true := beq_iff_eq.mpr c7
 have c7b1 : ((rd l0 x5_1) != (rd l1 x5_1)) = false := bne_eq_false_iff_eq.mpr c7
 clear c7
 have H' := Aside0.mk H
 clear H
 have p165 : 0 ≤ (x5_1 : Int) := of_decide_eq_true am_
 have q165 : x5_1 < (l0.length : Int) := of_decide_eq_true am_
 obtain ⟨ad165, e165, hx165_0⟩ := Kd.at_int HR0.out x5_1 p165 q165
 cases e165
 replace p165 := eq_true p165
 replace q165 := eq_true q165
 have p166 : 0 ≤ (x5_1 : Int) := of_decide_eq_true am_
 have q166 : x5_1 < (l1.length : Int) := of_decide_eq_true am_
 obtain ⟨ad166, e166, hx166_0⟩ := Kd.at_int HR1.out x5_1 p166 q166
 cases e166
 replace p166 := eq_true p166
 replace q166 := eq_true q166
 go_wp2
 repeat (go_quiet (fail); try go_wp2)
 go_roundg k1
 case measure => have := HK1.out; omega
 case rel => exact ⟨(wrap64 (x5_1 + 1)), rs_, H', ⟨by have := HK1.out; omega⟩, by repeat (first | exact Drawn0.refl _ | apply Drawn0.step)⟩}
 {
 rw [if_neg c7] at H
 have c7b0 : ((rd l0 x5_1) == (rd l1 x5_1)) = false := beq_eq_false_iff_ne.mpr c7
 have c7b1 : ((rd l0 x5_1) != (rd l1 x5_1)) = true := bne_iff_ne.mpr c7
 obtain rfl := Option.some.inj H
 have p165 : 0 ≤ (x5_1 : Int) := of_decide_eq_true am_
 have q165 : x5_1 < (l0.length : Int) := of_decide_eq_true am_
 obtain ⟨ad165, e165, hx165_0⟩ := Kd.at_int HR0.out x5_1 p165 q165
 cases e165
 replace p165 := eq_true p165
 replace q165 := eq_true q165
 have p166 : 0 ≤ (x5_1 : Int) := of_decide_eq_true am_
 have q166 : x5_1 < (l1.length : Int) := of_decide_eq_true am_
 obtain ⟨ad166, e166, hx166_0⟩ := Kd.at_int HR1.out x5_1 p166 q166
 cases e166
 replace p166 := eq_true p166
 replace q166 := eq_true q166
 go_wp2
 repeat (go_quiet (fail); try go_wp2)
 go_ret
 exact ⟨by first | rfl | (simp; done) | (simp [*]; done), by repeat (first | exact Drawn0.refl _ | apply Drawn0.step)⟩}}
 {
 rw [if_neg c6] at H
 exact absurd H (by simp)}}
 {
 rw [if_neg c5] at H
 exact absurd H (by simp)}}
 {
 rw [if_neg c4] at H
 have c4b0 : decide (x5_1 < (l0.length : Int)) = false := decide_eq_false c4
 clear c4
 obtain rfl := Option.some.inj H
 go_wp2
 repeat (go_quiet (fail); try go_wp2)
 go_ret
 exact ⟨by first | rfl | (simp; done) | (simp [*]; done), by repeat (first | exact Drawn0.refl _ | apply Drawn0.step)⟩}))}
 {
 rw [if_neg c3] at H
 have c3b0 : ((l0.length : Int) == (l1.length : Int)) = false := beq_eq_false_iff_ne.mpr c3
 have c3b1 : ((l0.length : Int) != (l1.length : Int)) = true := bne_iff_ne.mpr c3
 have c3b2 : (l0.length == l1.length) = false := by first | simpa using c3 | (simp at c3 ⊢; omega)
 obtain rfl := Option.some.inj H
 go_enter Try.func39, Try.ntmps39
 go_wp2
 repeat (go_quiet (fail); try go_wp2)
 go_ret
 exact ⟨by first | rfl | (simp; done) | (simp [*]; done), by repeat (first | exact Drawn0.refl _ | apply Drawn0.step)⟩}
end Go.Proofs.Ytpdfdaoohknfoaa.P
namespace Go.Proofs.Ytpdfdaoohknfoaa.P
open Go.RowKit Go.Proofs.YtpdfdaoohknfoaaW.PrintWords Go.Proofs.YtpdfdaoohknfoaaW.PrintLast Go.Proofs.YtpdfdaoohknfoaaW.PrintMore
attribute [local go_sem] max2_int min2_int max_two min_two max_three min_three max_four min_four   -- for this text's walks alone
set_option linter.unusedVariables false
set_option linter.unusedSimpArgs false

def psalteryref16_Same.f (k : Nat) (a0_0 : Int) (a0_1 : Int) (l0_2 : List Int) (l0_3 : List Int) (a1_0 : Int) (a1_1 : Int) (l1_2 : List Int) (l1_3 : List Int) : Option (Bool) := if a0_0 = a1_0 then (if a0_1 = a1_1 then ((psalteryref06_Same.f k l0_2 l1_2).bind fun t169 => (if t169 = true then ((psalteryref06_Same.f k l0_3 l1_3).bind fun t170 => (some t170)) else (some false))) else (some false)) else (some false)
theorem psalteryref16_Same.mono : ∀ a0 a1 a2 a3 a4 a5 a6 a7 k, LeO (psalteryref16_Same.f k a0 a1 a2 a3 a4 a5 a6 a7) (psalteryref16_Same.f (k + 1) a0 a1 a2 a3 a4 a5 a6 a7) := by
  intro a0 a1 a2 a3 a4 a5 a6 a7 k
  unfold psalteryref16_Same.f
  with_reducible repeat' first
   | exact psalteryref06_Same.mono _ _ _
   | exact LeO.refl _
   | exact LeO.none _
   | refine LeO.ite ?_ ?_
   | refine LeO.bind ?_ (fun _ => ?_)
end Go.Proofs.Ytpdfdaoohknfoaa.P
namespace Go.Proofs.Ytpdfdaoohknfoaa.P
open Go.RowKit Go.Proofs.YtpdfdaoohknfoaaW.PrintWords Go.Proofs.YtpdfdaoohknfoaaW.PrintLast Go.Proofs.YtpdfdaoohknfoaaW.PrintMore
attribute [local go_sem] max2_int min2_int max_two min_two max_three min_three max_four min_four   -- for this text's walks alone
set_option linter.unusedVariables false
set_option linter.unusedSimpArgs false

def vhead_Write.put (k : Nat) (B : List Int) (N v n : Int) : Option (List Int × Int) := (bits_Put.f k B N (IntKind.u64.wrap v) n).bind fun r => some (r.1, r.2.1)
def vhead_Write.list (k : Nat) : List Int → List Int → Int → Option (List Int × Int)
  | [], B, N => some (B, N)
  | v :: l, B, N => (vhead_Write.put k B N v 5).bind fun r => vhead_Write.list k l r.1 r.2
def vhead_Write.f (k : Nat) (a0_0 : Int) (a0_1 : Int) (l0_2 : List Int) (l0_3 : List Int) : Option (List Int × Int) :=
  (vhead_Right.f k a0_0 a0_1 l0_2 l0_3).bind fun t => if t = true then (if l0_2.length ≤ 1000 ∧ l0_3.length ≤ 1000 then
    ((vhead_Write.put k [] 0 22099 16).bind fun r1 => (vhead_Write.put k r1.1 r1.2 (wrap64 (a0_0 - 1)) 1).bind fun r2 => (vhead_Write.put k r2.1 r2.2 a0_1 4).bind fun r3 =>
      (vhead_Write.list k l0_2 r3.1 r3.2).bind fun r4 => (vhead_Write.list k l0_3 r4.1 r4.2).bind fun r5 => some (r5.1, 0)) else none) else some (([] : List Int), 1)
theorem vhead_Write.put_mono (k : Nat) (B : List Int) (N v n : Int) : LeO (vhead_Write.put k B N v n) (vhead_Write.put (k + 1) B N v n) := LeO.bind (bits_Put.mono _ _ _ _ _) (fun _ => LeO.refl _)
theorem vhead_Write.list_mono (k : Nat) : ∀ (l B : List Int) (N : Int), LeO (vhead_Write.list k l B N) (vhead_Write.list (k + 1) l B N)
  | [], _, _ => LeO.refl _
  | v :: l, B, N => LeO.bind (vhead_Write.put_mono k B N v 5) (fun _ => vhead_Write.list_mono k l _ _)
theorem vhead_Write.mono : ∀ a0 a1 a2 a3 k, LeO (vhead_Write.f k a0 a1 a2 a3) (vhead_Write.f (k + 1) a0 a1 a2 a3) := by
  intro a0 a1 a2 a3 k
  exact LeO.bind (vhead_Right.mono _ _ _ _ _) (fun _ => LeO.ite (LeO.ite (LeO.bind (vhead_Write.put_mono _ _ _ _ _) (fun _ => LeO.bind (vhead_Write.put_mono _ _ _ _ _) (fun _ => LeO.bind (vhead_Write.put_mono _ _ _ _ _) (fun _ => LeO.bind (vhead_Write.list_mono _ _ _ _) (fun _ => LeO.bind (vhead_Write.list_mono _ _ _ _) (fun _ => LeO.refl _)))))) (LeO.refl _)) (LeO.refl _))
end Go.Proofs.Ytpdfdaoohknfoaa.P
namespace Go.Proofs.Ytpdfdaoohknfoaa.P
open Go.RowKit Go.Proofs.YtpdfdaoohknfoaaW.PrintWords Go.Proofs.YtpdfdaoohknfoaaW.PrintLast Go.Proofs.YtpdfdaoohknfoaaW.PrintMore
attribute [local go_sem] max2_int min2_int max_two min_two max_three min_three max_four min_four   -- for this text's walks alone
set_option linter.unusedVariables false
set_option linter.unusedSimpArgs false

def vhead_Read.get (k : Nat) (l : List Int) (x n : Int) : Option (Int × Int) := (bits_Get.f k l x n).bind fun r => some (r.1, wrap64 r.2.1)
def vhead_Read.list (k : Nat) (l : List Int) : Nat → Int → List Int → Option (List Int × Int)
  | 0, x, out => some (out, x)
  | d + 1, x, out => (vhead_Read.get k l x 5).bind fun r => vhead_Read.list k l d r.1 (out ++ [r.2])
def vhead_Read.no (e : Int) : Option (Int × Int × List Int × List Int × Int) := some (0, 0, [], [], e)
def vhead_Read.f (k : Nat) (l0 : List Int) : Option (Int × Int × List Int × List Int × Int) :=
  if (l0.length : Int) < 41 then vhead_Read.no 4 else if (l0.length : Int) > 41 then vhead_Read.no 2 else
    (vhead_Read.get k l0 0 16).bind fun r1 => if r1.2 = 22099 then
      (vhead_Read.get k l0 r1.1 1).bind fun r2 => (vhead_Read.get k l0 r2.1 4).bind fun r3 => (vhead_Read.list k l0 45 r3.1 []).bind fun r4 => (vhead_Read.list k l0 16 r4.2 []).bind fun r5 =>
        (bits_Left.f l0 r5.2).bind fun m => (vhead_Read.get k l0 r5.2 m).bind fun r6 => if r6.2 = 0 then
          (vhead_Right.f k (wrap64 (r2.2 + 1)) r3.2 r4.1 r5.1).bind fun t => if t = true then some (wrap64 (r2.2 + 1), r3.2, r4.1, r5.1, 0) else vhead_Read.no 2
        else vhead_Read.no 2
    else vhead_Read.no 2
theorem vhead_Read.get_mono (k : Nat) (l : List Int) (x n : Int) : LeO (vhead_Read.get k l x n) (vhead_Read.get (k + 1) l x n) := LeO.bind (bits_Get.mono _ _ _ _) (fun _ => LeO.refl _)
theorem vhead_Read.list_mono (k : Nat) (l : List Int) : ∀ (d : Nat) (x : Int) (out : List Int), LeO (vhead_Read.list k l d x out) (vhead_Read.list (k + 1) l d x out)
  | 0, _, _ => LeO.refl _
  | d + 1, x, _ => LeO.bind (vhead_Read.get_mono k l x 5) (fun _ => vhead_Read.list_mono k l d _ _)
theorem vhead_Read.mono : ∀ a0 k, LeO (vhead_Read.f k a0) (vhead_Read.f (k + 1) a0) := by
  intro a0 k
  exact LeO.ite (LeO.refl _) (LeO.ite (LeO.refl _) (LeO.bind (vhead_Read.get_mono _ _ _ _) (fun _ => LeO.ite (LeO.bind (vhead_Read.get_mono _ _ _ _) (fun _ => LeO.bind (vhead_Read.get_mono _ _ _ _) (fun _ => LeO.bind (vhead_Read.list_mono _ _ _ _ _) (fun _ => LeO.bind (vhead_Read.list_mono _ _ _ _ _) (fun _ => LeO.bind (LeO.refl _) (fun _ => LeO.bind (vhead_Read.get_mono _ _ _ _) (fun _ => LeO.ite (LeO.bind (vhead_Right.mono _ _ _ _ _) (fun _ => LeO.refl _)) (LeO.refl _)))))))) (LeO.refl _))))
end Go.Proofs.Ytpdfdaoohknfoaa.P
namespace Go.Proofs.Ytpdfdaoohknfoaa.P
open Go.RowKit Go.Proofs.YtpdfdaoohknfoaaW.PrintWords Go.Proofs.YtpdfdaoohknfoaaW.PrintLast Go.Proofs.YtpdfdaoohknfoaaW.PrintMore
attribute [local go_sem] max2_int min2_int max_two min_two max_three min_three max_four min_four   -- for this text's walks alone
set_option linter.unusedVariables false
set_option linter.unusedSimpArgs false

def psalterylaw16_knows.f (k : Nat)  : Option (Bool) := (vhead_Plain.f k 1 0).bind fun bt130 => ((vhead_Write.f k bt130.1 bt130.2.1 bt130.2.2.1 bt130.2.2.2).bind fun bt138 => ((vhead_Read.f k bt138.1).bind fun bt142 => (if (bt138.1.length : Int) = 41 then (if bt138.2 = 0 then (if 0 < (bt138.1.length : Int) then (if (rd bt138.1 0) = 83 then (if 1 < (bt138.1.length : Int) then (if (rd bt138.1 1) = 86 then (if bt142.1 = 1 then (if (bt142.2.2.1.length : Int) = 45 then (if (bt142.2.2.2.1.length : Int) = 16 then (if bt142.2.2.2.2 = 0 then ((vhead_Right.f k bt142.1 bt142.2.1 bt142.2.2.1 bt142.2.2.2.1).bind fun t154 => (some t154)) else (some false)) else (some false)) else (some false)) else (some false)) else (some false)) else (none)) else (some false)) else (none)) else (some false)) else (some false))))
theorem psalterylaw16_knows.mono : ∀ k, LeO (psalterylaw16_knows.f k ) (psalterylaw16_knows.f (k + 1) ) := by
  intro  k
  unfold psalterylaw16_knows.f
  with_reducible repeat' first
   | exact vhead_Plain.mono _ _ _
   | exact vhead_Read.mono _ _
   | exact vhead_Right.mono _ _ _ _ _
   | exact vhead_Write.mono _ _ _ _ _
   | exact LeO.refl _
   | exact LeO.none _
   | refine LeO.ite ?_ ?_
   | refine LeO.bind ?_ (fun _ => ?_)
end Go.Proofs.Ytpdfdaoohknfoaa.P
