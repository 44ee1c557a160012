/- Walks. -/
import Derived.Test.YtpdfdaoohknfoaaQ1
import Derived.Test.YtpdfdaoohknfoaaQ4
namespace Go.Proofs.Ytpdfdaoohknfoaa.P
open Go.RowKit Go.Proofs.YtpdfdaoohknfoaaW.PrintWords Go.Proofs.YtpdfdaoohknfoaaW.PrintLast Go.Proofs.YtpdfdaoohknfoaaW.PrintMore
attribute [local go_sem] max2_int min2_int max_two min_two max_three min_three max_four min_four   -- for this text's walks alone
set_option linter.unusedVariables false
set_option linter.unusedSimpArgs false

mutual
def psalteryref01_Get.j0 : Nat → List Int → Int → Int → Bool → Option (Int × Int)
  | 0, _, _, _, _ => none
  | k + 1, x0, x1, x2, x20 => if x20 = true then (some (0, 1)) else ((psalteryref01_Bits.f k x0).bind fun t270 => (if x1 > (t270.length : Int) then (psalteryref01_Get.j1 k x1 x2 t270 true) else (psalteryref01_Get.j1 k x1 x2 t270 (decide (x2 > (wrap64 ((t270.length : Int) - x1)))))))
def psalteryref01_Get.j1 : Nat → Int → Int → List Int → Bool → Option (Int × Int)
  | 0, _, _, _, _ => none
  | k + 1, x1, x2, x8, x34 => if x34 = true then (some (0, 4)) else (psalteryref01_Get.l0 k x1 x8 0 (wrap64 (x2 - 1)))
def psalteryref01_Get.l0 : Nat → Int → List Int → Int → Int → Option (Int × Int)
  | 0, _, _, _, _ => none
  | k + 1, x1, x8, x9, x10 => if x10 ≥ 0 then (if 0 ≤ (wrap64 (x1 + x10)) then (if (wrap64 (x1 + x10)) < (x8.length : Int) then (psalteryref01_Get.l0 k x1 x8 (IntKind.u64.wrap ((IntKind.u64.wrap (x9 * 2)) + (IntKind.u64.wrap (rd x8 (wrap64 (x1 + x10)))))) (wrap64 (x10 - 1))) else (none)) else (none)) else (some (x9, 0))
end
def psalteryref01_Get.f (k : Nat) (l0 : List Int) (a1 : Int) (a2 : Int) : Option (Int × Int) := if a2 < 0 then (psalteryref01_Get.j0 k l0 a1 a2 true) else (if a2 > 32 then (psalteryref01_Get.j0 k l0 a1 a2 true) else (psalteryref01_Get.j0 k l0 a1 a2 (decide (a1 < 0))))
theorem psalteryref01_Get.mono_l : ∀ k, (∀ y0 y1 y2 y3, LeO (psalteryref01_Get.j0 k y0 y1 y2 y3) (psalteryref01_Get.j0 (k + 1) y0 y1 y2 y3)) ∧ (∀ y0 y1 y2 y3, LeO (psalteryref01_Get.j1 k y0 y1 y2 y3) (psalteryref01_Get.j1 (k + 1) y0 y1 y2 y3)) ∧ (∀ y0 y1 y2 y3, LeO (psalteryref01_Get.l0 k y0 y1 y2 y3) (psalteryref01_Get.l0 (k + 1) y0 y1 y2 y3))
  | 0 => ⟨fun _ _ _ _ r h => by simp [psalteryref01_Get.j0] at h, fun _ _ _ _ r h => by simp [psalteryref01_Get.j1] at h, fun _ _ _ _ r h => by simp [psalteryref01_Get.l0] at h⟩
  | k + 1 => by
    obtain ⟨ih0, ih1, ih2⟩ := psalteryref01_Get.mono_l k
    refine ⟨?_, ?_, ?_⟩
    all_goals (intros; first | unfold psalteryref01_Get.j0 | unfold psalteryref01_Get.j1 | unfold psalteryref01_Get.l0)
    all_goals with_reducible repeat' first
     | exact ih0 _ _ _ _
     | exact ih1 _ _ _ _
     | exact ih2 _ _ _ _
     | exact psalteryref01_Bits.mono _ _
     | exact LeO.refl _
     | exact LeO.none _
     | refine LeO.ite ?_ ?_
     | refine LeO.bind ?_ (fun _ => ?_)
theorem psalteryref01_Get.mono : ∀ a0 a1 a2 k, LeO (psalteryref01_Get.f k a0 a1 a2) (psalteryref01_Get.f (k + 1) a0 a1 a2) := by
  intro a0 a1 a2 k
  obtain ⟨ih0, ih1, ih2⟩ := psalteryref01_Get.mono_l k
  unfold psalteryref01_Get.f
  with_reducible repeat' first
   | exact ih0 _ _ _ _
   | exact ih1 _ _ _ _
   | exact ih2 _ _ _ _
   | exact psalteryref01_Bits.mono _ _
   | exact LeO.refl _
   | exact LeO.none _
   | refine LeO.ite ?_ ?_
   | refine LeO.bind ?_ (fun _ => ?_)
set_option maxHeartbeats 8000000 in
set_option maxRecDepth 100000 in
theorem psalteryref01_Get.calls (k : Nat) (A0 : Option Addr) (c0 : Nat) (l0 : List Int) (a1 : Int) (a2 : Int) (r1 : Int) (r2 : Int) (w : World) (hr0 : Kd.C (Kd.int .u8) w A0 l0.length l0) (hc0 : l0.length ≤ c0) (h : psalteryref01_Get.f k l0 a1 a2 = some (r1, r2)) :
    Calls Try.prog 65 #[.slice A0 l0.length c0, .int .i64 a1, .int .i64 a2] w fun e w' => e = .returned (.tuple #[.int .u64 r1, .int .i64 r2]) ∧ Below w.heap.size w w' := by
 have HR0 := Aside0.mk hr0
 have HC0 := Aside0.mk hc0
 clear hr0 hc0
 have HB := Aside0.mk (Below.refl w.heap.size w)
 have H : (if a2 < 0 then (psalteryref01_Get.j0 k l0 a1 a2 true) else (if a2 > 32 then (psalteryref01_Get.j0 k l0 a1 a2 true) else (psalteryref01_Get.j0 k l0 a1 a2 (decide (a1 < 0))))) = some (r1, r2) := h
 clear h
 have HC4 := Aside0.mk H
 clear H
 go_enter Try.func65, Try.ntmps65
 go_upto_region 1 with (fail)
 go_cut [20] (fun v20 wc => ∃ (kq : Nat) (x20_3 : Bool), v20 = .bool x20_3 ∧ Aside0 (psalteryref01_Get.j0 kq l0 a1 a2 x20_3 = some (r1, r2)) ∧ Aside0 (kq ≤ k) ∧ Aside0 (Below w.heap.size w wc))
 case first => (
 have H := HC4.out
 clear HC4
 by_cases c5 : a2 < 0
 {
 rw [if_pos c5] at H
 have c5b0 : decide (a2 < 0) = true := decide_eq_true c5
 clear c5
 (first | rw [c5b0] | (simp only [i64_w, i32_w]; rw [c5b0]) | skip)
 have H' := Aside0.mk H
 clear H
 go_wp2
 go_meet
 case rel => exact ⟨_, (true), rs_, H', ⟨ol_⟩, ⟨bl_ HB⟩⟩}
 {
 rw [if_neg c5] at H
 have c5b0 : decide (a2 < 0) = false := decide_eq_false c5
 clear c5
 (first | rw [c5b0] | (simp only [i64_w, i32_w]; rw [c5b0]) | skip)
 by_cases c6 : a2 > 32
 {
 rw [if_pos c6] at H
 have c6b0 : decide (32 < a2) = true := decide_eq_true c6
 clear c6
 have H' := Aside0.mk H
 clear H
 go_wp2
 go_meet
 case rel => exact ⟨_, (true), rs_, H', ⟨ol_⟩, ⟨bl_ HB⟩⟩}
 {
 rw [if_neg c6] at H
 have c6b0 : decide (32 < a2) = false := decide_eq_false c6
 clear c6
 have H' := Aside0.mk H
 clear H
 go_wp2
 go_meet
 case rel => exact ⟨_, (decide (a1 < 0)), rs_, H', ⟨ol_⟩, ⟨bl_ HB⟩⟩}})
 case rest => (
 clear HC4
 obtain ⟨kq, x20_3, rfl, HA, HJ3, HB⟩ := hcut
 cases kq with
 | zero => exact absurd HA.out (by simp [psalteryref01_Get.j0])
 | succ kj3 => (
 have H := HA.out
 clear HA
 simp only [psalteryref01_Get.j0] at H
 by_cases c7 : x20_3 = true
 {
 subst c7
 rw [if_pos rfl] at H
 simp only [Option.some.injEq, Prod.mk.injEq] at H
 obtain ⟨rfl, rfl⟩ := H
 go_wp2
 go_ret2
 exact ⟨by first | rfl | (simp [errW_none, errW_some] <;> rfl) | (simp [*, errW_none, errW_some] <;> rfl), bl_ HB⟩}
 {
 replace c7 := Bool.eq_false_iff.mpr c7
 subst c7
 rw [if_neg (show ¬ (false = true) by decide)] at H
 obtain ⟨t270, A8, H⟩ := ob_ H
 (try dsimp only at H)
 have HC9 := Aside0.mk H
 clear H
 go_upto_region 4 with (first | ((with_reducible refine gate_callee (f := 61) rfl ?_); refine gL_ (some 22) Try.func61 #[.slice A0 l0.length c0] ?_; (with_reducible refine (psalteryref01_Bits.calls kj3 _ _ l0 t270 _ ?side1 ?side2 A8.out).mono ?_); (case side1 => exact kC_ HR0 HB); (case side2 => exact HC0.out); rintro e w10 ⟨v271, rfl, ho0, hb⟩; refine ⟨_, rfl, ?_⟩; have HO272 := Aside0.mk (Kd.R_lower ho0 (bs_ HB)); replace HB := BS_ HB hb; (try clear hb); (try clear ho0)))
 (try simp only [Act.put, List.setIfInBounds_toArray, List.set_cons_zero, List.set_cons_succ])
 go_cut [34] (fun v34 wc => ∃ (kq : Nat) (x34_8 : Bool), v34 = .bool x34_8 ∧ Aside0 (psalteryref01_Get.j1 kq a1 a2 t270 x34_8 = some (r1, r2)) ∧ Aside0 (kq ≤ kj3) ∧ Aside0 (Kd.R (Kd.int .i64) 3 wc w.heap.size (fun _ => True) v271 t270) ∧ Aside0 (Below w.heap.size w wc))
 case first => (
 have H := HC9.out
 clear HC9
 by_cases c11 : a1 > (t270.length : Int)
 {
 rw [if_pos c11] at H
 have c11b0 : decide ((t270.length : Int) < a1) = true := decide_eq_true c11
 clear c11
 (first | rw [c11b0] | (simp only [i64_w, i32_w]; rw [c11b0]) | skip)
 have H' := Aside0.mk H
 clear H
 obtain ⟨Ao12, co12, eo12⟩ := Kd.R_slice HO272.out
 subst eo12
 go_wp2
 go_meet
 case rel => exact ⟨_, (true), rs_, H', ⟨by have := HJ3.out; first | omega | exact Nat.le_refl _⟩, ⟨kR_ HO272⟩, ⟨bl_ HB⟩⟩}
 {
 rw [if_neg c11] at H
 have c11b0 : decide ((t270.length : Int) < a1) = false := decide_eq_false c11
 clear c11
 (first | rw [c11b0] | (simp only [i64_w, i32_w]; rw [c11b0]) | skip)
 have H' := Aside0.mk H
 clear H
 obtain ⟨Ao13, co13, eo13⟩ := Kd.R_slice HO272.out
 subst eo13
 go_wp2
 go_meet
 case rel => exact ⟨_, (decide (a2 > (wrap64 ((t270.length : Int) - a1)))), rs_, H', ⟨by have := HJ3.out; first | omega | exact Nat.le_refl _⟩, ⟨kR_ HO272⟩, ⟨bl_ HB⟩⟩})
 case rest => (
 clear HC9
 try clear c7
 obtain ⟨kq, x34_8, rfl, HA, HJ8, HO_8, HB⟩ := hcut
 cases kq with
 | zero => exact absurd HA.out (by simp [psalteryref01_Get.j1])
 | succ kj8 => (
 have H := HA.out
 clear HA
 simp only [psalteryref01_Get.j1] at H
 by_cases c14 : x34_8 = true
 {
 subst c14
 rw [if_pos rfl] at H
 simp only [Option.some.injEq, Prod.mk.injEq] at H
 obtain ⟨rfl, rfl⟩ := H
 go_wp2
 go_ret2
 exact ⟨by first | rfl | (simp [errW_none, errW_some] <;> rfl) | (simp [*, errW_none, errW_some] <;> rfl), bl_ HB⟩}
 {
 replace c14 := Bool.eq_false_iff.mpr c14
 subst c14
 rw [if_neg (show ¬ (false = true) by decide)] at H
 have H' := Aside0.mk H
 clear H
 go_wp2
 go_loopg [9, 10] kj8 (fun kq v9 v10 w' => ∃ (x9_3 : Int) (x10_3 : Int), v9 = .int .u64 x9_3 ∧ v10 = .int .i64 x10_3 ∧ Aside0 (psalteryref01_Get.l0 kq a1 t270 x9_3 x10_3 = some (r1, r2)) ∧ Aside0 (kq ≤ kj8) ∧ Aside0 (Kd.R (Kd.int .i64) 3 w' w.heap.size (fun _ => True) v271 t270) ∧ Aside0 (Below w.heap.size w w'))
 case atStart => exact ⟨(0), (wrap64 (a2 - 1)), rs_, rs_, H', ⟨Nat.le_refl _⟩, ⟨kR_ HO_8⟩, ⟨bl_ HB⟩⟩
 case round => (
 clear H'
 try clear c7
 try clear c14
 obtain ⟨x9_3, x10_3, rfl, rfl, HA, HK3, HO_8, HB⟩ := hrel
 cases gk with
 | zero => exact absurd HA.out (by simp [psalteryref01_Get.l0])
 | succ k3 => (
 have H := HA.out
 clear HA
 simp only [psalteryref01_Get.l0] at H
 by_cases c15 : x10_3 ≥ 0
 {
 rw [if_pos c15] at H
 have c15b0 : decide (0 ≤ x10_3) = true := decide_eq_true c15
 clear c15
 obtain ⟨ji16, hji16⟩ : ∃ j_ : Int, (wrap64 (a1 + x10_3)) = j_ := ⟨_, rfl⟩
 replace H : (if 0 ≤ (ji16) then (if (ji16) < (t270.length : Int) then (psalteryref01_Get.l0 k3 a1 t270 (IntKind.u64.wrap ((IntKind.u64.wrap (x9_3 * 2)) + (IntKind.u64.wrap (rd t270 (ji16))))) (wrap64 (x10_3 - 1))) else (none)) else (none)) = some (r1, r2) := by first | (rw [hji16] at H; exact H) | (simp only [hji16] at H ⊢; exact H)
 have hji16w : (IntKind.i64.wrap (a1 + x10_3)) = ji16 := (i64_w _).trans hji16
 by_cases c17 : 0 ≤ (ji16)
 {
 rw [if_pos c17] at H
 have c17b0 : decide (0 ≤ (ji16)) = true := decide_eq_true c17
 clear c17
 by_cases c18 : (ji16) < (t270.length : Int)
 {
 rw [if_pos c18] at H
 have c18b0 : decide ((ji16) < (t270.length : Int)) = true := decide_eq_true c18
 clear c18
 have H' := Aside0.mk H
 clear H
 obtain ⟨Ao19, co19, eo19⟩ := Kd.R_slice HO_8.out
 subst eo19
 have p273 : 0 ≤ ((ji16) : Int) := of_decide_eq_true am_
 have q273 : (ji16) < (t270.length : Int) := of_decide_eq_true am_
 obtain ⟨ad273, e273, hx273_0⟩ := Kd.at_int (Kd.R_reads' HO_8.out).2.2 (ji16) p273 q273
 cases e273
 replace p273 := eq_true p273
 replace q273 := eq_true q273
 go_wp2
 first | go_roundg k3 | (subst hji16; go_roundg k3)
 case measure => have := HJ3.out; have := HJ8.out; have := HK3.out; omega
 case rel => exact ⟨(IntKind.u64.wrap ((IntKind.u64.wrap (x9_3 * 2)) + (IntKind.u64.wrap (rd t270 (ji16))))), (wrap64 (x10_3 - 1)), (by first | rfl | (simp; done) | (simp only [← hji16] <;> (first | rfl | simp)) | (simp [*]; done)), rs_, H', ⟨by have := HJ3.out; have := HJ8.out; have := HK3.out; omega⟩, ⟨kR_ HO_8⟩, ⟨bl_ HB⟩⟩}
 {
 rw [if_neg c18] at H
 exact absurd H (by simp)}}
 {
 rw [if_neg c17] at H
 exact absurd H (by simp)}}
 {
 rw [if_neg c15] at H
 have c15b0 : decide (0 ≤ x10_3) = false := decide_eq_false c15
 clear c15
 simp only [Option.some.injEq, Prod.mk.injEq] at H
 obtain ⟨rfl, rfl⟩ := H
 go_wp2
 go_ret2
 exact ⟨by first | rfl | (simp [errW_none, errW_some] <;> rfl) | (simp [*, errW_none, errW_some] <;> rfl), bl_ HB⟩}))}))}))
end Go.Proofs.Ytpdfdaoohknfoaa.P
