/- Walks. -/
import Derived.Test.YtpdfdaoohknfoaaQ1
import Derived.Test.YtpdfdaoohknfoaaQ3
import Derived.Test.YtpdfdaoohknfoaaQ4
import Derived.Test.YtpdfdaoohknfoaaPx61
namespace Go.Proofs.Ytpdfdaoohknfoaa.P
open Go.RowKit Go.Proofs.YtpdfdaoohknfoaaW.PrintWords Go.Proofs.YtpdfdaoohknfoaaW.PrintLast Go.Proofs.YtpdfdaoohknfoaaW.PrintMore
attribute [local go_sem] max2_int min2_int max_two min_two max_three min_three max_four min_four   -- for this text's walks alone
set_option linter.unusedVariables false
set_option linter.unusedSimpArgs false

mutual
def psalteryref04_Read.j0 : Nat → List Int → Int → List Int → Bool → Option (Int × Int × Int)
  | 0, _, _, _, _ => none
  | k + 1, x0, x1, x2, x19 => if x19 = true then (some (0, 0, 1)) else ((psalteryref01_Bits.f k x0).bind fun t759 => (if x1 ≥ (t759.length : Int) then (some (0, 0, 4)) else (psalteryref04_Read.l0 k x1 x2 t759 0 0)))
def psalteryref04_Read.l0 : Nat → Int → List Int → List Int → Int → Int → Option (Int × Int × Int)
  | 0, _, _, _, _, _ => none
  | k + 1, x1, x2, x9, x10, x11 => if x11 < (x2.length : Int) then (if 0 ≤ x11 then (if (rd x2 x11) > 0 then ((psalteryref04_Code.f k x2 x11).bind fun t763 => ((psalteryref04_same.f k x9 x1 t763).bind fun t766 => (if t766 = true then (some (x11, (t763.length : Int), 0)) else (psalteryref04_Read.l0 k x1 x2 x9 (wrap64 (x10 + 1)) (wrap64 (x11 + 1)))))) else (psalteryref04_Read.l0 k x1 x2 x9 x10 (wrap64 (x11 + 1)))) else (none)) else (if x10 = 1 then (some (0, 0, 2)) else (some (0, 0, 4)))
end
def psalteryref04_Read.f (k : Nat) (l0 : List Int) (a1 : Int) (l2 : List Int) : Option (Int × Int × Int) := (psalteryref04_Right.f k l2).bind fun t758 => (if t758 = true then (psalteryref04_Read.j0 k l0 a1 l2 (decide (a1 < 0))) else (psalteryref04_Read.j0 k l0 a1 l2 true))
theorem psalteryref04_Read.mono_l : ∀ k, (∀ y0 y1 y2 y3, LeO (psalteryref04_Read.j0 k y0 y1 y2 y3) (psalteryref04_Read.j0 (k + 1) y0 y1 y2 y3)) ∧ (∀ y0 y1 y2 y3 y4, LeO (psalteryref04_Read.l0 k y0 y1 y2 y3 y4) (psalteryref04_Read.l0 (k + 1) y0 y1 y2 y3 y4))
  | 0 => ⟨fun _ _ _ _ r h => by simp [psalteryref04_Read.j0] at h, fun _ _ _ _ _ r h => by simp [psalteryref04_Read.l0] at h⟩
  | k + 1 => by
    obtain ⟨ih0, ih1⟩ := psalteryref04_Read.mono_l k
    refine ⟨?_, ?_⟩
    all_goals (intros; first | unfold psalteryref04_Read.j0 | unfold psalteryref04_Read.l0)
    all_goals with_reducible repeat' first
     | exact ih0 _ _ _ _
     | exact ih1 _ _ _ _ _
     | exact psalteryref01_Bits.mono _ _
     | exact psalteryref04_Code.mono _ _ _
     | exact psalteryref04_Right.mono _ _
     | exact psalteryref04_same.mono _ _ _ _
     | exact LeO.refl _
     | exact LeO.none _
     | refine LeO.ite ?_ ?_
     | refine LeO.bind ?_ (fun _ => ?_)
theorem psalteryref04_Read.mono : ∀ a0 a1 a2 k, LeO (psalteryref04_Read.f k a0 a1 a2) (psalteryref04_Read.f (k + 1) a0 a1 a2) := by
  intro a0 a1 a2 k
  obtain ⟨ih0, ih1⟩ := psalteryref04_Read.mono_l k
  unfold psalteryref04_Read.f
  with_reducible repeat' first
   | exact ih0 _ _ _ _
   | exact ih1 _ _ _ _ _
   | exact psalteryref01_Bits.mono _ _
   | exact psalteryref04_Code.mono _ _ _
   | exact psalteryref04_Right.mono _ _
   | exact psalteryref04_same.mono _ _ _ _
   | exact LeO.refl _
   | exact LeO.none _
   | refine LeO.ite ?_ ?_
   | refine LeO.bind ?_ (fun _ => ?_)
set_option maxHeartbeats 8000000 in
set_option maxRecDepth 100000 in
theorem psalteryref04_Read.calls (k : Nat) (A0 : Option Addr) (c0 : Nat) (l0 : List Int) (a1 : Int) (A2 : Option Addr) (c2 : Nat) (l2 : List Int) (r1 : Int) (r2 : Int) (r3 : Int) (w : World) (hr0 : Kd.C (Kd.int .u8) w A0 l0.length l0) (hc0 : l0.length ≤ c0) (hr2 : Kd.C (Kd.int .i64) w A2 l2.length l2) (hc2 : l2.length ≤ c2) (h : psalteryref04_Read.f k l0 a1 l2 = some (r1, r2, r3)) :
    Calls Try.prog 70 #[.slice A0 l0.length c0, .int .i64 a1, .slice A2 l2.length c2] w fun e w' => e = .returned (.tuple #[.int .i64 r1, .int .i64 r2, .int .i64 r3]) ∧ Below w.heap.size w w' := by
 have HR0 := Aside0.mk hr0
 have HC0 := Aside0.mk hc0
 clear hr0 hc0
 have HR2 := Aside0.mk hr2
 have HC2 := Aside0.mk hc2
 clear hr2 hc2
 have HB := Aside0.mk (Below.refl w.heap.size w)
 have H : ((psalteryref04_Right.f k l2).bind fun t758 => (if t758 = true then (psalteryref04_Read.j0 k l0 a1 l2 (decide (a1 < 0))) else (psalteryref04_Read.j0 k l0 a1 l2 true))) = some (r1, r2, r3) := h
 clear h
 have HC4 := Aside0.mk H
 clear H
 go_enter Try.func70, Try.ntmps70
 go_upto_region 1 with (fail)
 go_cut [19] (fun v19 wc => ∃ (kq : Nat) (x19_3 : Bool), v19 = .bool x19_3 ∧ Aside0 (psalteryref04_Read.j0 kq l0 a1 l2 x19_3 = some (r1, r2, r3)) ∧ Aside0 (kq ≤ k) ∧ Aside0 (Below w.heap.size w wc))
 case first => (
 have H := HC4.out
 clear HC4
 obtain ⟨t758, A5, H⟩ := ob_ H
 (try dsimp only at H)
 by_cases c6 : t758 = true
 {
 subst c6
 rw [if_pos rfl] at H
 have H' := Aside0.mk H
 clear H
 go_wp2_with (first | ((with_reducible refine gate_callee (f := 38) rfl ?_); refine gL_ (some 14) Try.func38 #[.slice A2 l2.length c2] ?_; (with_reducible refine (psalteryref04_Right.calls k _ _ l2 true _ ?side1 ?side2 A5.out).mono ?_); (case side1 => exact kC_ HR2 HB); (case side2 => exact HC2.out); rintro e w' ⟨rfl, ⟨nd, rfl⟩⟩; refine ⟨_, rfl, ?_⟩))
 go_meet
 case rel => exact ⟨_, (decide (a1 < 0)), rs_, H', ⟨ol_⟩, ⟨bl_ HB⟩⟩}
 {
 replace c6 := Bool.eq_false_iff.mpr c6
 subst c6
 rw [if_neg (show ¬ (false = true) by decide)] at H
 have H' := Aside0.mk H
 clear H
 go_wp2_with (first | ((with_reducible refine gate_callee (f := 38) rfl ?_); refine gL_ (some 14) Try.func38 #[.slice A2 l2.length c2] ?_; (with_reducible refine (psalteryref04_Right.calls k _ _ l2 false _ ?side1 ?side2 A5.out).mono ?_); (case side1 => exact kC_ HR2 HB); (case side2 => exact HC2.out); rintro e w' ⟨rfl, ⟨nd, rfl⟩⟩; refine ⟨_, rfl, ?_⟩))
 go_meet
 case rel => exact ⟨_, (true), rs_, H', ⟨ol_⟩, ⟨bl_ HB⟩⟩})
 case rest => (
 clear HC4
 obtain ⟨kq, x19_3, rfl, HA, HJ3, HB⟩ := hcut
 cases kq with
 | zero => exact absurd HA.out (by simp [psalteryref04_Read.j0])
 | succ kj3 => (
 have H := HA.out
 clear HA
 simp only [psalteryref04_Read.j0] at H
 by_cases c7 : x19_3 = true
 {
 subst c7
 rw [if_pos rfl] at H
 simp only [Option.some.injEq, Prod.mk.injEq] at H
 obtain ⟨rfl, rfl, rfl⟩ := H
 go_wp2
 go_ret3
 exact ⟨by first | rfl | (simp [errW_none, errW_some] <;> rfl) | (simp [*, errW_none, errW_some] <;> rfl), bl_ HB⟩}
 {
 replace c7 := Bool.eq_false_iff.mpr c7
 subst c7
 rw [if_neg (show ¬ (false = true) by decide)] at H
 obtain ⟨t759, A8, H⟩ := ob_ H
 (try dsimp only at H)
 by_cases c9 : a1 ≥ (t759.length : Int)
 {
 rw [if_pos c9] at H
 have c9b0 : decide ((t759.length : Int) ≤ a1) = true := decide_eq_true c9
 clear c9
 simp only [Option.some.injEq, Prod.mk.injEq] at H
 obtain ⟨rfl, rfl, rfl⟩ := H
 go_wp2_with (first | ((with_reducible refine gate_callee (f := 61) rfl ?_); refine gL_ (some 21) Try.func61 #[.slice A0 l0.length c0] ?_; (with_reducible refine (psalteryref01_Bits.calls kj3 _ _ l0 t759 _ ?side1 ?side2 A8.out).mono ?_); (case side1 => exact kC_ HR0 HB); (case side2 => exact HC0.out); rintro e w10 ⟨v760, rfl, ho0, hb⟩; refine ⟨_, rfl, ?_⟩; have HO761 := Aside0.mk (Kd.R_lower ho0 (bs_ HB)); replace HB := BS_ HB hb; (try clear hb); (try clear ho0); obtain ⟨Ao11, co11, eo11⟩ := Kd.R_slice HO761.out; subst eo11))
 go_ret3
 exact ⟨by first | rfl | (simp [errW_none, errW_some] <;> rfl) | (simp [*, errW_none, errW_some] <;> rfl), bl_ HB⟩}
 {
 rw [if_neg c9] at H
 have c9b0 : decide ((t759.length : Int) ≤ a1) = false := decide_eq_false c9
 clear c9
 have H' := Aside0.mk H
 clear H
 go_wp2_with (first | ((with_reducible refine gate_callee (f := 61) rfl ?_); refine gL_ (some 21) Try.func61 #[.slice A0 l0.length c0] ?_; (with_reducible refine (psalteryref01_Bits.calls kj3 _ _ l0 t759 _ ?side1 ?side2 A8.out).mono ?_); (case side1 => exact kC_ HR0 HB); (case side2 => exact HC0.out); rintro e w12 ⟨v760, rfl, ho0, hb⟩; refine ⟨_, rfl, ?_⟩; have HO761 := Aside0.mk (Kd.R_lower ho0 (bs_ HB)); replace HB := BS_ HB hb; (try clear hb); (try clear ho0); obtain ⟨Ao13, co13, eo13⟩ := Kd.R_slice HO761.out; subst eo13))
 go_loopg [10, 11] kj3 (fun kq v10 v11 w' => ∃ (x10_2 : Int) (x11_2 : Int), v10 = .int .i64 x10_2 ∧ v11 = .int .i64 x11_2 ∧ Aside0 (psalteryref04_Read.l0 kq a1 l2 t759 x10_2 x11_2 = some (r1, r2, r3)) ∧ Aside0 (kq ≤ kj3) ∧ Aside0 (Kd.R (Kd.int .i64) 3 w' w.heap.size (fun _ => True) (.slice Ao13 t759.length co13) t759) ∧ Aside0 (Below w.heap.size w w'))
 case atStart => exact ⟨(0), (0), rs_, rs_, H', ⟨Nat.le_refl _⟩, ⟨kR_ HO761⟩, ⟨bl_ HB⟩⟩
 case round => (
 clear H'
 try clear c7
 try clear c9
 try clear c9b0
 obtain ⟨x10_2, x11_2, rfl, rfl, HA, HK2, HO_9, HB⟩ := hrel
 cases gk with
 | zero => exact absurd HA.out (by simp [psalteryref04_Read.l0])
 | succ k2 => (
 have H := HA.out
 clear HA
 simp only [psalteryref04_Read.l0] at H
 by_cases c14 : x11_2 < (l2.length : Int)
 {
 rw [if_pos c14] at H
 have c14b0 : decide (x11_2 < (l2.length : Int)) = true := decide_eq_true c14
 clear c14
 by_cases c15 : 0 ≤ x11_2
 {
 rw [if_pos c15] at H
 have c15b0 : decide (0 ≤ x11_2) = true := decide_eq_true c15
 clear c15
 by_cases c16 : (rd l2 x11_2) > 0
 {
 rw [if_pos c16] at H
 have c16b0 : decide (0 < (rd l2 x11_2)) = true := decide_eq_true c16
 clear c16
 obtain ⟨t763, A17, H⟩ := ob_ H
 (try dsimp only at H)
 obtain ⟨t766, A18, H⟩ := ob_ H
 (try dsimp only at H)
 by_cases c19 : t766 = true
 {
 subst c19
 rw [if_pos rfl] at H
 simp only [Option.some.injEq, Prod.mk.injEq] at H
 obtain ⟨rfl, rfl, rfl⟩ := H
 have p762 : 0 ≤ (x11_2 : Int) := of_decide_eq_true am_
 have q762 : x11_2 < (l2.length : Int) := of_decide_eq_true am_
 obtain ⟨ad762, e762, hx762_0⟩ := Kd.at_int HR2.out x11_2 p762 q762
 cases e762
 replace hx762_0 := (HB.out.cell (World.block_lt_of_cell? w _ hx762_0)).trans hx762_0
 replace p762 := eq_true p762
 replace q762 := eq_true q762
 go_wp2_with (first | ((with_reducible refine gate_callee (f := 53) rfl ?_); refine gL_ (some 41) Try.func53 #[.slice (some ad762) l2.length c2, .int .i64 x11_2] ?_; (with_reducible refine (psalteryref04_Code.calls k2 _ _ l2 x11_2 t763 _ ?side1 ?side2 A17.out).mono ?_); (case side1 => exact kC_ HR2 HB); (case side2 => exact HC2.out); rintro e w20 ⟨v764, rfl, ho0, hb⟩; refine ⟨_, rfl, ?_⟩; have HO765 := Aside0.mk (Kd.R_lower (Kd.R_new' ho0 (Kd.R_lt (kR_ HO_9))) (bs_ HB)); replace HO_9 := Aside0.mk (Kd.R_elder' (kR_ HO_9) (Kd.R_base ho0) hb); replace HB := BS_ HB hb; (try clear hb); (try clear ho0); obtain ⟨Ao21, co21, eo21⟩ := Kd.R_slice HO765.out; subst eo21) | ((with_reducible refine gate_callee (f := 74) rfl ?_); refine gL_ (some 45) Try.func74 #[.slice Ao13 t759.length co13, .int .i64 a1, .slice Ao21 t763.length co21] ?_; (with_reducible refine (psalteryref04_same.calls k2 _ _ t759 a1 _ _ t763 true _ ?side1 ?side2 ?side3 ?side4 A18.out).mono ?_); (case side1 => exact kCt_ (Kd.R_reads' HO_9.out).2.2); (case side2 => exact (Kd.R_reads' HO_9.out).2.1); (case side3 => exact kCt_ (Kd.R_reads' HO765.out).2.2); (case side4 => exact (Kd.R_reads' HO765.out).2.1); rintro e w' ⟨rfl, ⟨nd, rfl⟩⟩; refine ⟨_, rfl, ?_⟩))
 go_ret3
 exact ⟨by first | rfl | (simp [errW_none, errW_some] <;> rfl) | (simp [*, errW_none, errW_some] <;> rfl), bl_ HB⟩}
 {
 replace c19 := Bool.eq_false_iff.mpr c19
 subst c19
 rw [if_neg (show ¬ (false = true) by decide)] at H
 have H' := Aside0.mk H
 clear H
 have p762 : 0 ≤ (x11_2 : Int) := of_decide_eq_true am_
 have q762 : x11_2 < (l2.length : Int) := of_decide_eq_true am_
 obtain ⟨ad762, e762, hx762_0⟩ := Kd.at_int HR2.out x11_2 p762 q762
 cases e762
 replace hx762_0 := (HB.out.cell (World.block_lt_of_cell? w _ hx762_0)).trans hx762_0
 replace p762 := eq_true p762
 replace q762 := eq_true q762
 go_wp2_with (first | ((with_reducible refine gate_callee (f := 53) rfl ?_); refine gL_ (some 41) Try.func53 #[.slice (some ad762) l2.length c2, .int .i64 x11_2] ?_; (with_reducible refine (psalteryref04_Code.calls k2 _ _ l2 x11_2 t763 _ ?side1 ?side2 A17.out).mono ?_); (case side1 => exact kC_ HR2 HB); (case side2 => exact HC2.out); rintro e w22 ⟨v764, rfl, ho0, hb⟩; refine ⟨_, rfl, ?_⟩; have HO765 := Aside0.mk (Kd.R_lower (Kd.R_new' ho0 (Kd.R_lt (kR_ HO_9))) (bs_ HB)); replace HO_9 := Aside0.mk (Kd.R_elder' (kR_ HO_9) (Kd.R_base ho0) hb); replace HB := BS_ HB hb; (try clear hb); (try clear ho0); obtain ⟨Ao23, co23, eo23⟩ := Kd.R_slice HO765.out; subst eo23) | ((with_reducible refine gate_callee (f := 74) rfl ?_); refine gL_ (some 45) Try.func74 #[.slice Ao13 t759.length co13, .int .i64 a1, .slice Ao23 t763.length co23] ?_; (with_reducible refine (psalteryref04_same.calls k2 _ _ t759 a1 _ _ t763 false _ ?side1 ?side2 ?side3 ?side4 A18.out).mono ?_); (case side1 => exact kCt_ (Kd.R_reads' HO_9.out).2.2); (case side2 => exact (Kd.R_reads' HO_9.out).2.1); (case side3 => exact kCt_ (Kd.R_reads' HO765.out).2.2); (case side4 => exact (Kd.R_reads' HO765.out).2.1); rintro e w' ⟨rfl, ⟨nd, rfl⟩⟩; refine ⟨_, rfl, ?_⟩))
 go_roundg k2
 case measure => have := HJ3.out; have := HK2.out; omega
 case rel => exact ⟨(wrap64 (x10_2 + 1)), (wrap64 (x11_2 + 1)), rs_, rs_, H', ⟨by have := HJ3.out; have := HK2.out; omega⟩, ⟨by (with_reducible repeat (first | apply Kd.R_alloc | apply Kd.R_drewN | apply Kd.R_drew)); exact Kd.R_mono HO_9.out (fun _ hk => trivial)⟩, ⟨bl_ HB⟩⟩}}
 {
 rw [if_neg c16] at H
 have c16b0 : decide (0 < (rd l2 x11_2)) = false := decide_eq_false c16
 clear c16
 have H' := Aside0.mk H
 clear H
 have p762 : 0 ≤ (x11_2 : Int) := of_decide_eq_true am_
 have q762 : x11_2 < (l2.length : Int) := of_decide_eq_true am_
 obtain ⟨ad762, e762, hx762_0⟩ := Kd.at_int HR2.out x11_2 p762 q762
 cases e762
 replace hx762_0 := (HB.out.cell (World.block_lt_of_cell? w _ hx762_0)).trans hx762_0
 replace p762 := eq_true p762
 replace q762 := eq_true q762
 go_wp2
 go_roundg k2
 case measure => have := HJ3.out; have := HK2.out; omega
 case rel => exact ⟨(x10_2), (wrap64 (x11_2 + 1)), rs_, rs_, H', ⟨by have := HJ3.out; have := HK2.out; omega⟩, ⟨kR_ HO_9⟩, ⟨bl_ HB⟩⟩}}
 {
 rw [if_neg c15] at H
 exact absurd H (by simp)}}
 {
 rw [if_neg c14] at H
 have c14b0 : decide (x11_2 < (l2.length : Int)) = false := decide_eq_false c14
 clear c14
 by_cases c24 : x10_2 = 1
 {
 rw [if_pos c24] at H
 have c24b0 : (x10_2 == 1) = true := beq_iff_eq.mpr c24
 have c24b1 : (x10_2 != 1) = false := bne_eq_false_iff_eq.mpr c24
 clear c24
 simp only [Option.some.injEq, Prod.mk.injEq] at H
 obtain ⟨rfl, rfl, rfl⟩ := H
 go_wp2
 go_ret3
 exact ⟨by first | rfl | (simp [errW_none, errW_some] <;> rfl) | (simp [*, errW_none, errW_some] <;> rfl), bl_ HB⟩}
 {
 rw [if_neg c24] at H
 have c24b0 : (x10_2 == 1) = false := beq_eq_false_iff_ne.mpr c24
 have c24b1 : (x10_2 != 1) = true := bne_iff_ne.mpr c24
 simp only [Option.some.injEq, Prod.mk.injEq] at H
 obtain ⟨rfl, rfl, rfl⟩ := H
 go_wp2
 go_ret3
 exact ⟨by first | rfl | (simp [errW_none, errW_some] <;> rfl) | (simp [*, errW_none, errW_some] <;> rfl), bl_ HB⟩}}))}}))
end Go.Proofs.Ytpdfdaoohknfoaa.P
