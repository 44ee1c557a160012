/- Words, walks and what they compute, as the law's proof needs them. -/
import Derived.Test.YtdajlfijkbafiaaN3
set_option linter.unusedVariables false
set_option linter.unusedSimpArgs false
namespace Go.Proofs.Ytdajlfijkbafiaa.P
open Go.RowKit Go.Proofs.YtdajlfijkbafiaaW.PrintWords Go.Proofs.YtdajlfijkbafiaaW.PrintLast Go.Proofs.YtdajlfijkbafiaaW.PrintMore
attribute [local go_sem] max2_int min2_int max_two min_two max_three min_three max_four min_four
def vcodec_silent.l0 : Nat → List Int → Int → Int → Option (Bool)
  | 0, _, _, _ => none
  | k + 1, x5, x6, x7 => if x7 < x6 then (if 0 ≤ x7 then (if x7 < (x5.length : Int) then (if (rd x5 x7) = 0 then (vcodec_silent.l0 k x5 x6 (wrap64 (x7 + 1))) else (some false)) else (none)) else (none)) else (some true)
def vcodec_silent.f (k : Nat) (l0 : List Int) : Option (Bool) := vcodec_silent.l0 k l0 (l0.length : Int) 0
theorem vcodec_silent.mono_l : ∀ k, (∀ y0 y1 y2, LeO (vcodec_silent.l0 k y0 y1 y2) (vcodec_silent.l0 (k + 1) y0 y1 y2))
  | 0 => fun _ _ _ r h => by simp [vcodec_silent.l0] at h
  | k + 1 => by
    have ih0 := vcodec_silent.mono_l k
    · intro y0 y1 y2
      unfold vcodec_silent.l0
      with_reducible repeat' first
   | exact ih0 _ _ _
   | exact LeO.refl _
   | exact LeO.none _
   | refine LeO.ite ?_ ?_
   | refine LeO.bind ?_ (fun _ => ?_)
theorem vcodec_silent.mono : ∀ a0 k, LeO (vcodec_silent.f k a0) (vcodec_silent.f (k + 1) a0) := by
  intro a0 k
  have ih0 := vcodec_silent.mono_l k
  unfold vcodec_silent.f
  with_reducible repeat' first
   | exact ih0 _ _ _
   | exact LeO.refl _
   | exact LeO.none _
   | refine LeO.ite ?_ ?_
   | refine LeO.bind ?_ (fun _ => ?_)
set_option maxHeartbeats 8000000 in
set_option maxRecDepth 100000 in
theorem vcodec_silent.calls (k : Nat) (A0 : Option Addr) (c0 : Nat) (l0 : List Int) (r : Bool) (w : World) (hr0 : Kd.C (Kd.int .i64) w A0 l0.length l0) (hc0 : l0.length ≤ c0) (h : vcodec_silent.f k l0 = some r) :
    Calls Try.prog 39 #[.slice A0 l0.length c0] w fun e w' => e = .returned (.bool r) ∧ Drawn0 w w' := by
 have HR0 := Aside0.mk hr0
 have HC0 := Aside0.mk hc0
 clear hr0 hc0
 have H : (vcodec_silent.l0 k l0 (l0.length : Int) 0) = some r := h
 clear h
 have H' := Aside0.mk H
 clear H
 go_enter Try.func39, Try.ntmps39
 go_wp2
 go_loopg [7] k (fun kq v7 w' => ∃ (x7_1 : Int), v7 = .int .i64 x7_1 ∧ Aside0 (vcodec_silent.l0 kq l0 (l0.length : Int) x7_1 = some r) ∧ Aside0 (kq ≤ k) ∧ Drawn0 w w')
 case atStart => exact ⟨(0), rs_, H', ⟨Nat.le_refl _⟩, by repeat (first | exact Drawn0.refl _ | apply Drawn0.step)⟩
 case round => (
 clear H'
 obtain ⟨x7_1, rfl, HA, HK1, ⟨m1, rfl⟩⟩ := hrel
 cases gk with
 | zero => exact absurd HA.out (by simp [vcodec_silent.l0])
 | succ k1 => (
 have H := HA.out
 clear HA
 simp only [vcodec_silent.l0] at H
 by_cases c2 : x7_1 < (l0.length : Int)
 {
 rw [if_pos c2] at H
 have c2b0 : decide (x7_1 < (l0.length : Int)) = true := decide_eq_true c2
 clear c2
 by_cases c3 : 0 ≤ x7_1
 {
 rw [if_pos c3] at H
 have c3b0 : decide (0 ≤ x7_1) = true := decide_eq_true c3
 clear c3
 by_cases c4 : x7_1 < (l0.length : Int)
 {
 rw [if_pos c4] at H
 have c4b0 : decide (x7_1 < (l0.length : Int)) = true := decide_eq_true c4
 clear c4
 by_cases c5 : (rd l0 x7_1) = 0
 {
 rw [if_pos c5] at H
 have c5b0 : ((rd l0 x7_1) == 0) = true := beq_iff_eq.mpr c5
 have c5b1 : ((rd l0 x7_1) != 0) = false := bne_eq_false_iff_eq.mpr c5
 clear c5
 have H' := Aside0.mk H
 clear H
 have p355 : 0 ≤ (x7_1 : Int) := of_decide_eq_true am_
 have q355 : x7_1 < (l0.length : Int) := of_decide_eq_true am_
 obtain ⟨ad355, e355, hx355_0⟩ := Kd.at_int HR0.out x7_1 p355 q355
 cases e355
 replace p355 := eq_true p355
 replace q355 := eq_true q355
 go_wp2
 go_roundg k1
 case measure => have := HK1.out; omega
 case rel => exact ⟨(wrap64 (x7_1 + 1)), rs_, H', ⟨by have := HK1.out; omega⟩, by repeat (first | exact Drawn0.refl _ | apply Drawn0.step)⟩}
 {
 rw [if_neg c5] at H
 have c5b0 : ((rd l0 x7_1) == 0) = false := beq_eq_false_iff_ne.mpr c5
 have c5b1 : ((rd l0 x7_1) != 0) = true := bne_iff_ne.mpr c5
 obtain rfl := Option.some.inj H
 have p355 : 0 ≤ (x7_1 : Int) := of_decide_eq_true am_
 have q355 : x7_1 < (l0.length : Int) := of_decide_eq_true am_
 obtain ⟨ad355, e355, hx355_0⟩ := Kd.at_int HR0.out x7_1 p355 q355
 cases e355
 replace p355 := eq_true p355
 replace q355 := eq_true q355
 go_wp2
 go_ret
 exact ⟨by first | rfl | (simp; done) | (simp [*]; done), by repeat (first | exact Drawn0.refl _ | apply Drawn0.step)⟩}}
 {
 rw [if_neg c4] at H
 exact absurd H (by simp)}}
 {
 rw [if_neg c3] at H
 exact absurd H (by simp)}}
 {
 rw [if_neg c2] at H
 have c2b0 : decide (x7_1 < (l0.length : Int)) = false := decide_eq_false c2
 clear c2
 obtain rfl := Option.some.inj H
 go_wp2
 go_ret
 exact ⟨by first | rfl | (simp; done) | (simp [*]; done), by repeat (first | exact Drawn0.refl _ | apply Drawn0.step)⟩}))
def couple_coupling.f  : Option (Int) := some 1099511627776
set_option maxHeartbeats 8000000 in
set_option maxRecDepth 100000 in
theorem couple_coupling.calls  (r : Int) (w : World) (h : couple_coupling.f  = some r) :
    Calls Try.prog 78 #[] w fun e w' => e = .returned (.agg #[.int .i64 r, .func (.func 100) #[] #[]]) ∧ Below w.heap.size w w' := by
 have hu101 := Try.underlying101
 have HB := Aside0.mk (Below.refl w.heap.size w)
 have H : (some 1099511627776) = some r := h
 clear h
 obtain rfl := Option.some.inj H
 go_enter Try.func78, Try.ntmps78
 go_wp2_with (first | ((with_reducible refine gate_dst (N := 0) rfl ?_); refine bx_ HB 0 #[.int .i64 0, .nilFunc] 101 ?_; clear HB; intro gb356 hg w1 hb BK356 GE356 HB; have GW356 := GE356; clear hb hg; obtain ⟨hcz2_0, hcz2_1, hfz2_0, hfz2_1⟩ := e2_ BK356))
 refine bodyPost_ret (results_cell_row rfl _ _ gb356 101 #[.int .i64 1099511627776, .func (.func 100) #[] #[]] (0, 0) _ rfl (bp_ BK356) Try.underlying101 rfl kf_) rfl ?_
 exact ⟨by first | rfl | (simp [errW_none, errW_some] <;> rfl) | (simp [*, errW_none, errW_some] <;> rfl), bl_ HB⟩
def couple_couple.f (a0 : Int) (a1 : Int) : Option (Int × Int) := if (mx a0 (wrap64 (-a0))) > (mx a1 (wrap64 (-a1))) then (if a0 > 0 then (some (a0, wrap64 (a0 - a1))) else (some (a0, wrap64 (a1 - a0)))) else (if a1 > 0 then (some (a1, wrap64 (a0 - a1))) else (some (a1, wrap64 (a1 - a0))))
set_option maxHeartbeats 8000000 in
set_option maxRecDepth 100000 in
theorem couple_couple.calls (a0 : Int) (a1 : Int) (r1 : Int) (r2 : Int) (w : World) (h : couple_couple.f a0 a1 = some (r1, r2)) :
    Calls Try.prog 100 #[.int .i64 a0, .int .i64 a1] w fun e w' => e = .returned (.tuple #[.int .i64 r1, .int .i64 r2]) ∧ Below w.heap.size w w' := by
 have HB := Aside0.mk (Below.refl w.heap.size w)
 have H : (if (mx a0 (wrap64 (-a0))) > (mx a1 (wrap64 (-a1))) then (if a0 > 0 then (some (a0, wrap64 (a0 - a1))) else (some (a0, wrap64 (a1 - a0)))) else (if a1 > 0 then (some (a1, wrap64 (a0 - a1))) else (some (a1, wrap64 (a1 - a0))))) = some (r1, r2) := h
 clear h
 obtain ⟨ji3, hji3⟩ : ∃ j_ : Int, (mx a0 (wrap64 (-a0))) = j_ := ⟨_, rfl⟩
 replace H : (if (ji3) > (mx a1 (wrap64 (-a1))) then (if a0 > 0 then (some (a0, wrap64 (a0 - a1))) else (some (a0, wrap64 (a1 - a0)))) else (if a1 > 0 then (some (a1, wrap64 (a0 - a1))) else (some (a1, wrap64 (a1 - a0))))) = some (r1, r2) := by first | (rw [hji3] at H; exact H) | (simp only [hji3] at H ⊢; exact H)
 have hji3_ : (if a0 < (wrap64 (-a0)) then (wrap64 (-a0)) else a0) = ji3 := hji3
 obtain ⟨ji4, hji4⟩ : ∃ j_ : Int, (mx a1 (wrap64 (-a1))) = j_ := ⟨_, rfl⟩
 replace H : (if (ji3) > (ji4) then (if a0 > 0 then (some (a0, wrap64 (a0 - a1))) else (some (a0, wrap64 (a1 - a0)))) else (if a1 > 0 then (some (a1, wrap64 (a0 - a1))) else (some (a1, wrap64 (a1 - a0))))) = some (r1, r2) := by first | (rw [hji4] at H; exact H) | (simp only [hji4] at H ⊢; exact H)
 have hji4_ : (if a1 < (wrap64 (-a1)) then (wrap64 (-a1)) else a1) = ji4 := hji4
 by_cases c5 : (ji3) > (ji4)
 {
 rw [if_pos c5] at H
 have c5b0 : decide ((ji4) < (ji3)) = true := decide_eq_true c5
 clear c5
 by_cases c6 : a0 > 0
 {
 rw [if_pos c6] at H
 have c6b0 : decide (0 < a0) = true := decide_eq_true c6
 clear c6
 simp only [Option.some.injEq, Prod.mk.injEq] at H
 obtain ⟨rfl, rfl⟩ := H
 go_enter Try.func100, Try.ntmps100
 go_wp2
 go_ret2
 exact ⟨by first | rfl | (simp [errW_none, errW_some] <;> rfl) | (simp only [← hji3, ← hji4]; first | rfl | (simp [errW_none, errW_some] <;> rfl)) | (simp [*, errW_none, errW_some] <;> rfl), bl_ HB⟩}
 {
 rw [if_neg c6] at H
 have c6b0 : decide (0 < a0) = false := decide_eq_false c6
 clear c6
 simp only [Option.some.injEq, Prod.mk.injEq] at H
 obtain ⟨rfl, rfl⟩ := H
 go_enter Try.func100, Try.ntmps100
 go_wp2
 go_ret2
 exact ⟨by first | rfl | (simp [errW_none, errW_some] <;> rfl) | (simp only [← hji3, ← hji4]; first | rfl | (simp [errW_none, errW_some] <;> rfl)) | (simp [*, errW_none, errW_some] <;> rfl), bl_ HB⟩}}
 {
 rw [if_neg c5] at H
 have c5b0 : decide ((ji4) < (ji3)) = false := decide_eq_false c5
 clear c5
 by_cases c7 : a1 > 0
 {
 rw [if_pos c7] at H
 have c7b0 : decide (0 < a1) = true := decide_eq_true c7
 clear c7
 simp only [Option.some.injEq, Prod.mk.injEq] at H
 obtain ⟨rfl, rfl⟩ := H
 go_enter Try.func100, Try.ntmps100
 go_wp2
 go_ret2
 exact ⟨by first | rfl | (simp [errW_none, errW_some] <;> rfl) | (simp only [← hji3, ← hji4]; first | rfl | (simp [errW_none, errW_some] <;> rfl)) | (simp [*, errW_none, errW_some] <;> rfl), bl_ HB⟩}
 {
 rw [if_neg c7] at H
 have c7b0 : decide (0 < a1) = false := decide_eq_false c7
 clear c7
 simp only [Option.some.injEq, Prod.mk.injEq] at H
 obtain ⟨rfl, rfl⟩ := H
 go_enter Try.func100, Try.ntmps100
 go_wp2
 go_ret2
 exact ⟨by first | rfl | (simp [errW_none, errW_some] <;> rfl) | (simp only [← hji3, ← hji4]; first | rfl | (simp [errW_none, errW_some] <;> rfl)) | (simp [*, errW_none, errW_some] <;> rfl), bl_ HB⟩}}
def couple_way_one_by_couple_couple.f (k : Nat) (a0_0 : Int) (a1 : Int) (a2 : Int) : Option (Int × Int × Int) := (couple_within.f k a0_0 (([a1, a2] : List Int))).bind fun t361 => (if t361 = true then ((couple_couple.f a1 a2).bind fun bt362 => (some (bt362.1, bt362.2, 0))) else (some (0, 0, 1)))
theorem couple_way_one_by_couple_couple.mono : ∀ a0 a1 a2 k, LeO (couple_way_one_by_couple_couple.f k a0 a1 a2) (couple_way_one_by_couple_couple.f (k + 1) a0 a1 a2) := by
  intro a0 a1 a2 k
  unfold couple_way_one_by_couple_couple.f
  with_reducible repeat' first
   | exact couple_within.mono _ _ _
   | exact LeO.refl _
   | exact LeO.none _
   | refine LeO.ite ?_ ?_
   | refine LeO.bind ?_ (fun _ => ?_)
set_option maxHeartbeats 8000000 in
set_option maxRecDepth 100000 in
theorem couple_way_one_by_couple_couple.calls (k : Nat) (a0_0 : Int) (a1 : Int) (a2 : Int) (r1 : Int) (r2 : Int) (r3 : Int) (w : World) (h : couple_way_one_by_couple_couple.f k a0_0 a1 a2 = some (r1, r2, r3)) :
    Calls Try.prog 94 #[.agg #[.int .i64 a0_0, .func (.func 100) #[] #[]], .int .i64 a1, .int .i64 a2] w fun e w' => e = .returned (.tuple #[.int .i64 r1, .int .i64 r2, .int .i64 r3]) ∧ Below w.heap.size w w' := by
 have hu101 := Try.underlying101
 have HB := Aside0.mk (Below.refl w.heap.size w)
 have H : ((couple_within.f k a0_0 (([a1, a2] : List Int))).bind fun t361 => (if t361 = true then ((couple_couple.f a1 a2).bind fun bt362 => (some (bt362.1, bt362.2, 0))) else (some (0, 0, 1)))) = some (r1, r2, r3) := h
 clear h
 obtain ⟨y358, hy358⟩ : ∃ y_ : List Int, y_ = (([a1, a2] : List Int)) := ⟨_, rfl⟩
 replace H : ((couple_within.f k a0_0 y358).bind fun t361 => (if t361 = true then ((couple_couple.f a1 a2).bind fun bt362 => (some (bt362.1, bt362.2, 0))) else (some (0, 0, 1)))) = some (r1, r2, r3) := by first | (rw [hy358]; with_reducible exact H) | (have H2_ := (Option.bind_some _ _).symm.trans H; rw [hy358]; with_reducible exact H2_) | (have H2_ := (Option.bind_some _ _).symm.trans H; with_reducible exact H2_) | with_reducible exact H | (rw [hy358]; exact H) | exact H
 have Ny358 := Aside0.mk hy358
 clear hy358
 obtain ⟨t361, A4, H⟩ := ob_ H
 (try dsimp only at H)
 by_cases c5 : t361 = true
 {
 subst c5
 rw [if_pos rfl] at H
 obtain ⟨⟨t362, t363⟩, A6, H⟩ := ob_ H
 (try dsimp only at H)
 simp only [Option.some.injEq, Prod.mk.injEq] at H
 obtain ⟨rfl, rfl, rfl⟩ := H
 go_enter Try.func94, Try.ntmps94
 go_wp2_with (first | ((with_reducible refine gate_dst (N := 3) rfl ?_); refine bx_ HB 3 #[.int .i64 a0_0, .func (.func 100) #[] #[]] 101 ?_; clear HB; intro gb357 hg w7 hb BK357 GE357 HB; have GW357 := GE357; clear hb hg; obtain ⟨hcz8_0, hcz8_1, hfz8_0, hfz8_1⟩ := e2_ BK357) | ((with_reducible refine gate_dst (N := 15) rfl ?_); refine Kd.R_lit (Kd.int .i64) _ 2 ?hg (N := 15) ?hd (xs := ([a1, a2] : List Int)) (inner := [.int .i64 a1, .int .i64 a2]) (ok := fun _ => True) (okp := fun _ => True) ?hr ?hp (fun _ hk => hk) trivial (Below.refl _ _) (Nat.le_refl _) (by simp) ?_; (case hd => rfl); (case hg => rfl); (case hr => first | (go_simp; done) | (go_simp; rfl)); (case hp => exact (Reps.one (show Kd.M (Kd.int .i64) _ _ _ a1 [.int .i64 a1] from rfl) (Reps.one (show Kd.M (Kd.int .i64) _ _ _ a2 [.int .i64 a2] from rfl) (Reps.none _ _)))); intro v359 w9 ho10 hb hg_ hnew_; clear hg_ hnew_; (first | rw [← Ny358.out] at ho10 | (simp only [Int.reduceToNat] at ho10; rw [← Ny358.out] at ho10)); have HO360 := Aside0.mk (Kd.R_lower ho10 (bs_ HB)); replace BK357 := FB_ BK357 hb; replace HB := BS_ HB hb; clear hb ho10; obtain ⟨Ao11, co11, eo11⟩ := Kd.R_slice HO360.out; subst eo11) | ((with_reducible refine gate_callee (f := 111) rfl ?_); refine gL_ (some 16) Try.func111 #[.int .i64 a0_0, .slice Ao11 y358.length co11] ?_; (with_reducible refine (couple_within.calls k a0_0 _ _ y358 true _ ?side1 ?side2 A4.out).mono ?_); (case side1 => exact kCt_ (Kd.R_reads' HO360.out).2.2); (case side2 => exact (Kd.R_reads' HO360.out).2.1); rintro e w' ⟨rfl, ⟨nd, rfl⟩⟩; refine ⟨_, rfl, ?_⟩; obtain ⟨hcz12_0, hcz12_1, hfz12_0, hfz12_1⟩ := e2_ BK357) | (go_at_call 100; (with_reducible refine (couple_couple.calls a1 a2 t362 t363 _ A6.out).mono ?_); rintro e w13 ⟨rfl, hb⟩; replace HO360 := FR_ HO360 hb; replace BK357 := FB_ BK357 hb; replace HB := BS_ HB hb; (try clear hb); (try clear hk)))
 go_ret3
 exact ⟨by first | rfl | (simp [errW_none, errW_some] <;> rfl) | (simp [*, errW_none, errW_some] <;> rfl), bl_ HB⟩}
 {
 replace c5 := Bool.eq_false_iff.mpr c5
 subst c5
 rw [if_neg (show ¬ (false = true) by decide)] at H
 simp only [Option.some.injEq, Prod.mk.injEq] at H
 obtain ⟨rfl, rfl, rfl⟩ := H
 go_enter Try.func94, Try.ntmps94
 go_wp2_with (first | ((with_reducible refine gate_dst (N := 3) rfl ?_); refine bx_ HB 3 #[.int .i64 a0_0, .func (.func 100) #[] #[]] 101 ?_; clear HB; intro gb357 hg w14 hb BK357 GE357 HB; have GW357 := GE357; clear hb hg; obtain ⟨hcz15_0, hcz15_1, hfz15_0, hfz15_1⟩ := e2_ BK357) | ((with_reducible refine gate_dst (N := 15) rfl ?_); refine Kd.R_lit (Kd.int .i64) _ 2 ?hg (N := 15) ?hd (xs := ([a1, a2] : List Int)) (inner := [.int .i64 a1, .int .i64 a2]) (ok := fun _ => True) (okp := fun _ => True) ?hr ?hp (fun _ hk => hk) trivial (Below.refl _ _) (Nat.le_refl _) (by simp) ?_; (case hd => rfl); (case hg => rfl); (case hr => first | (go_simp; done) | (go_simp; rfl)); (case hp => exact (Reps.one (show Kd.M (Kd.int .i64) _ _ _ a1 [.int .i64 a1] from rfl) (Reps.one (show Kd.M (Kd.int .i64) _ _ _ a2 [.int .i64 a2] from rfl) (Reps.none _ _)))); intro v359 w16 ho17 hb hg_ hnew_; clear hg_ hnew_; (first | rw [← Ny358.out] at ho17 | (simp only [Int.reduceToNat] at ho17; rw [← Ny358.out] at ho17)); have HO360 := Aside0.mk (Kd.R_lower ho17 (bs_ HB)); replace BK357 := FB_ BK357 hb; replace HB := BS_ HB hb; clear hb ho17; obtain ⟨Ao18, co18, eo18⟩ := Kd.R_slice HO360.out; subst eo18) | ((with_reducible refine gate_callee (f := 111) rfl ?_); refine gL_ (some 16) Try.func111 #[.int .i64 a0_0, .slice Ao18 y358.length co18] ?_; (with_reducible refine (couple_within.calls k a0_0 _ _ y358 false _ ?side1 ?side2 A4.out).mono ?_); (case side1 => exact kCt_ (Kd.R_reads' HO360.out).2.2); (case side2 => exact (Kd.R_reads' HO360.out).2.1); rintro e w' ⟨rfl, ⟨nd, rfl⟩⟩; refine ⟨_, rfl, ?_⟩))
 go_ret3
 exact ⟨by first | rfl | (simp [errW_none, errW_some] <;> rfl) | (simp [*, errW_none, errW_some] <;> rfl), bl_ HB⟩}
def couple_way_all_by_couple_couple.l0 : Nat → List Int → List Int → List Int → List Int → Int → Int → Int → Option (List Int × List Int × Int)
  | 0, _, _, _, _, _, _, _ => none
  | k + 1, x1, x2, x9, x10, x21, x22, x365000 => if x22 < x21 then (if 0 ≤ x22 then (if x22 < (x1.length : Int) then (if x22 < (x2.length : Int) then ((couple_way_one_by_couple_couple.f k x365000 (rd x1 x22) (rd x2 x22)).bind fun bt367 => (if bt367.2.2 = 0 then (if x9.length < 17592186044416 then (if x10.length < 17592186044416 then (couple_way_all_by_couple_couple.l0 k x1 x2 (x9 ++ [bt367.1]) (x10 ++ [bt367.2.1]) x21 (wrap64 (x22 + 1)) x365000) else (none)) else (none)) else (some (([] : List Int), ([] : List Int), bt367.2.2)))) else (none)) else (none)) else (none)) else (some (x9, x10, 0))
def couple_way_all_by_couple_couple.f (k : Nat) (a0_0 : Int) (l1 : List Int) (l2 : List Int) : Option (List Int × List Int × Int) := if (l1.length : Int) = (l2.length : Int) then (couple_way_all_by_couple_couple.l0 k l1 l2 ([] : List Int) ([] : List Int) (l1.length : Int) 0 a0_0) else (some (([] : List Int), ([] : List Int), 1))
theorem couple_way_all_by_couple_couple.mono_l : ∀ k, (∀ y0 y1 y2 y3 y4 y5 y6, LeO (couple_way_all_by_couple_couple.l0 k y0 y1 y2 y3 y4 y5 y6) (couple_way_all_by_couple_couple.l0 (k + 1) y0 y1 y2 y3 y4 y5 y6))
  | 0 => fun _ _ _ _ _ _ _ r h => by simp [couple_way_all_by_couple_couple.l0] at h
  | k + 1 => by
    have ih0 := couple_way_all_by_couple_couple.mono_l k
    · intro y0 y1 y2 y3 y4 y5 y6
      unfold couple_way_all_by_couple_couple.l0
      with_reducible repeat' first
   | exact ih0 _ _ _ _ _ _ _
   | exact couple_way_one_by_couple_couple.mono _ _ _ _
   | exact LeO.refl _
   | exact LeO.none _
   | refine LeO.ite ?_ ?_
   | refine LeO.bind ?_ (fun _ => ?_)
theorem couple_way_all_by_couple_couple.mono : ∀ a0 a1 a2 k, LeO (couple_way_all_by_couple_couple.f k a0 a1 a2) (couple_way_all_by_couple_couple.f (k + 1) a0 a1 a2) := by
  intro a0 a1 a2 k
  have ih0 := couple_way_all_by_couple_couple.mono_l k
  unfold couple_way_all_by_couple_couple.f
  with_reducible repeat' first
   | exact ih0 _ _ _ _ _ _ _
   | exact couple_way_one_by_couple_couple.mono _ _ _ _
   | exact LeO.refl _
   | exact LeO.none _
   | refine LeO.ite ?_ ?_
   | refine LeO.bind ?_ (fun _ => ?_)
def couple_way_all_by_couple_couple.T7 : Bool × List (List Nat × List Nat) := (true, [([], []), ([], []), ([], []), ([1, 2], [1, 2]), ([3], [3]), ([], []), ([], []), ([5, 6], [5, 6]), ([7], [7]), ([0, 4, 8], [0, 4, 8]), ([9], [9]), ([10], [10]), ([10], [10]), ([10], [10]), ([11, 9, 0, 1, 2, 3, 4, 5, 6, 7, 8, 9, 10, 11], [11]), ([12, 14, 0, 1, 2, 3, 4, 5, 6, 7, 8, 9, 10, 11, 12, 14], [12]), ([13, 15, 0, 1, 2, 3, 4, 5, 6, 7, 8, 9, 10, 11, 12, 13, 14, 15], [13])])
def couple_way_all_by_couple_couple.B7 : List Nat := [0, 0, 0, 6, 14, 0, 0, 96, 224, 511, 1023, 2047, 2047, 2047, 4095, 24575, 65535]
theorem couple_way_all_by_couple_couple.tab7 : rtab .any (opsOf Try.f67 7) = couple_way_all_by_couple_couple.T7 := by kernel_rfl
theorem couple_way_all_by_couple_couple.bits7 : waitsOk couple_way_all_by_couple_couple.T7.2 couple_way_all_by_couple_couple.B7 = true := by kernel_rfl
set_option maxHeartbeats 8000000 in
set_option maxRecDepth 100000 in
theorem couple_way_all_by_couple_couple.calls (k : Nat) (a0_0 : Int) (A1 : Option Addr) (c1 : Nat) (l1 : List Int) (A2 : Option Addr) (c2 : Nat) (l2 : List Int) (r1 : List Int) (r2 : List Int) (r3 : Int) (w : World) (hr1 : Kd.C (Kd.int .i64) w A1 l1.length l1) (hc1 : l1.length ≤ c1) (hr2 : Kd.C (Kd.int .i64) w A2 l2.length l2) (hc2 : l2.length ≤ c2) (h : couple_way_all_by_couple_couple.f k a0_0 l1 l2 = some (r1, r2, r3)) :
    Calls Try.prog 67 #[.agg #[.int .i64 a0_0, .func (.func 100) #[] #[]], .slice A1 l1.length c1, .slice A2 l2.length c2] w fun e w' => ∃ v0_ v1_ : Value, e = .returned (.tuple #[v0_, v1_, .int .i64 r3]) ∧ Kd.R (Kd.int .i64) 2 w' w.heap.size (fun k_ => some k_ ≠ (v1_ : Value).ownBlock) v0_ r1 ∧ Kd.R (Kd.int .i64) 2 w' w.heap.size (fun k_ => some k_ ≠ (v0_ : Value).ownBlock) v1_ r2 ∧ Below w.heap.size w w' := by
 have hu101 := Try.underlying101
 have HR1 := Aside0.mk hr1
 have HC1 := Aside0.mk hc1
 clear hr1 hc1
 have HR2 := Aside0.mk hr2
 have HC2 := Aside0.mk hc2
 clear hr2 hc2
 have HB := Aside0.mk (Below.refl w.heap.size w)
 have H : (if (l1.length : Int) = (l2.length : Int) then (couple_way_all_by_couple_couple.l0 k l1 l2 ([] : List Int) ([] : List Int) (l1.length : Int) 0 a0_0) else (some (([] : List Int), ([] : List Int), 1))) = some (r1, r2, r3) := h
 clear h
 by_cases c4 : (l1.length : Int) = (l2.length : Int)
 {
 rw [if_pos c4] at H
 have c4b0 : ((l1.length : Int) == (l2.length : Int)) = true := beq_iff_eq.mpr c4
 have c4b1 : ((l1.length : Int) != (l2.length : Int)) = false := bne_eq_false_iff_eq.mpr c4
 have c4b2 : (l1.length == l2.length) = true := by first | simpa using c4 | (simp at c4 ⊢; omega)
 clear c4
 have H' := Aside0.mk H
 clear H
 go_enter Try.func67, Try.ntmps67
 go_wp2_with (first | ((with_reducible refine gate_dst (N := 3) rfl ?_); refine bx_ HB 3 #[.int .i64 a0_0, .func (.func 100) #[] #[]] 101 ?_; clear HB; intro gb364 hg w5 hb BK364 GE364 HB; have GW364 := GE364; clear hb hg))
 go_loopg [9, 10, 22] k (fun kq v9 v10 v22 w' => ∃ (x9_1 : List Int) (x10_1 : List Int) (x22_1 : Int), v22 = .int .i64 x22_1 ∧ Aside0 (couple_way_all_by_couple_couple.l0 kq l1 l2 x9_1 x10_1 (l1.length : Int) x22_1 a0_0 = some (r1, r2, r3)) ∧ Aside0 (kq ≤ k) ∧ Aside0 (Kd.R (Kd.int .i64) 2 w' w.heap.size (fun k_ => some k_ ≠ (v10 : Value).ownBlock) v9 x9_1) ∧ Aside0 (Kd.R (Kd.int .i64) 2 w' w.heap.size (fun k_ => some k_ ≠ (v9 : Value).ownBlock) v10 x10_1) ∧ Aside0 (w'.heap[gb364]? = some (.cells #[.int .i64 a0_0, .func (.func 100) #[] #[]] 101 (0, 0))) ∧ Aside0 (Below w.heap.size w w'))
 case atStart => exact ⟨(([] : List Int)), (([] : List Int)), (0), rs_, H', ⟨Nat.le_refl _⟩, ⟨by first | exact Kd.R_nil _ _ _ _ _ | exact Kd.N_nil _ _ _ _ _ | exact Kd.V_nil _ _ _ _ _ | exact Kd.Q_nil _ _ _ _ _ | exact Kd.S_nil _ _ _ _ _⟩, ⟨by first | exact Kd.R_nil _ _ _ _ _ | exact Kd.N_nil _ _ _ _ _ | exact Kd.V_nil _ _ _ _ _ | exact Kd.Q_nil _ _ _ _ _ | exact Kd.S_nil _ _ _ _ _⟩, ⟨bk_ BK364⟩, ⟨bl_ HB⟩⟩
 case round => (
 clear H'
 try clear c4
 try clear c4b0
 try clear c4b1
 try clear c4b2
 obtain ⟨x9_1, x10_1, x22_1, rfl, HA, HK1, HO_9, HO_10, BK364, HB⟩ := hrel
 cases gk with
 | zero => exact absurd HA.out (by simp [couple_way_all_by_couple_couple.l0])
 | succ k1 => (
 have H := HA.out
 clear HA
 simp only [couple_way_all_by_couple_couple.l0] at H
 by_cases c6 : x22_1 < (l1.length : Int)
 {
 rw [if_pos c6] at H
 have c6b0 : decide (x22_1 < (l1.length : Int)) = true := decide_eq_true c6
 clear c6
 by_cases c7 : 0 ≤ x22_1
 {
 rw [if_pos c7] at H
 have c7b0 : decide (0 ≤ x22_1) = true := decide_eq_true c7
 clear c7
 by_cases c8 : x22_1 < (l1.length : Int)
 {
 rw [if_pos c8] at H
 have c8b0 : decide (x22_1 < (l1.length : Int)) = true := decide_eq_true c8
 clear c8
 by_cases c9 : x22_1 < (l2.length : Int)
 {
 rw [if_pos c9] at H
 have c9b0 : decide (x22_1 < (l2.length : Int)) = true := decide_eq_true c9
 clear c9
 obtain ⟨⟨t367, t368, t369⟩, A10, H⟩ := ob_ H
 (try dsimp only at H)
 by_cases c11 : t369 = 0
 {
 rw [if_pos c11] at H
 have c11b0 : (t369 == 0) = true := beq_iff_eq.mpr c11
 have c11b1 : (t369 != 0) = false := bne_eq_false_iff_eq.mpr c11
 clear c11
 by_cases c12 : x9_1.length < 17592186044416
 {
 rw [if_pos c12] at H
 have LMc12 := Aside0.mk c12
 clear c12
 obtain ⟨y370, hy370⟩ : ∃ y_ : List Int, y_ = (x9_1 ++ [t367]) := ⟨_, rfl⟩
 replace H : (if x10_1.length < 17592186044416 then (couple_way_all_by_couple_couple.l0 k1 l1 l2 y370 (x10_1 ++ [t368]) (l1.length : Int) (wrap64 (x22_1 + 1)) a0_0) else (none)) = some (r1, r2, r3) := by first | (rw [hy370]; with_reducible exact H) | (have H2_ := (Option.bind_some _ _).symm.trans H; rw [hy370]; with_reducible exact H2_) | (have H2_ := (Option.bind_some _ _).symm.trans H; with_reducible exact H2_) | with_reducible exact H | (rw [hy370]; exact H) | exact H
 have Ny370 := Aside0.mk hy370
 clear hy370
 by_cases c13 : x10_1.length < 17592186044416
 {
 rw [if_pos c13] at H
 have LMc13 := Aside0.mk c13
 clear c13
 obtain ⟨y373, hy373⟩ : ∃ y_ : List Int, y_ = (x10_1 ++ [t368]) := ⟨_, rfl⟩
 replace H : (couple_way_all_by_couple_couple.l0 k1 l1 l2 y370 y373 (l1.length : Int) (wrap64 (x22_1 + 1)) a0_0) = some (r1, r2, r3) := by first | (rw [hy373]; with_reducible exact H) | (have H2_ := (Option.bind_some _ _).symm.trans H; rw [hy373]; with_reducible exact H2_) | (have H2_ := (Option.bind_some _ _).symm.trans H; with_reducible exact H2_) | with_reducible exact H | (rw [hy373]; exact H) | exact H
 have Ny373 := Aside0.mk hy373
 clear hy373
 have H' := Aside0.mk H
 clear H
 try go_wp2
 replace HO_9 := Aside0.mk (Kd.R_drew HO_9.out)
 replace HO_10 := Aside0.mk (Kd.R_drew HO_10.out)
 replace BK364 := Aside0.mk (blk_drew BK364.out)
 replace HB := Aside0.mk (below_drew1 HB.out)
 have p365 : 0 ≤ (x22_1 : Int) := of_decide_eq_true am_
 have q365 : x22_1 < (l1.length : Int) := of_decide_eq_true am_
 obtain ⟨ad365, e365, hx365_0⟩ := Kd.at_int HR1.out x22_1 p365 q365
 have hw365_0 := hx365_0
 cases e365
 replace hx365_0 := (HB.out.cell (World.block_lt_of_cell? w _ hx365_0)).trans hx365_0
 replace p365 := eq_true p365
 replace q365 := eq_true q365
 have p366 : 0 ≤ (x22_1 : Int) := of_decide_eq_true am_
 have q366 : x22_1 < (l2.length : Int) := of_decide_eq_true am_
 obtain ⟨ad366, e366, hx366_0⟩ := Kd.at_int HR2.out x22_1 p366 q366
 have hw366_0 := hx366_0
 cases e366
 replace hx366_0 := (HB.out.cell (World.block_lt_of_cell? w _ hx366_0)).trans hx366_0
 replace p366 := eq_true p366
 replace q366 := eq_true q366
 refine start_ (n := 17) (S := fun w' => w'.cell? ⟨gb364, 0, none⟩ = some (.int .i64 a0_0) ∧ w'.cell? ⟨gb364, 1, none⟩ = some (.func (.func 100) #[] #[]) ∧ w'.cell? (ad365.add (x22_1).toNat) = some (.int .i64 (rd l1 x22_1)) ∧ w'.cell? (ad366.add (x22_1).toNat) = some (.int .i64 (rd l2 x22_1))) (ds := []) (B_ 17 0) kf_ rfl rfl ⟨ce_ BK364 0, ce_ BK364 1, ((HB.out.cell (World.block_lt_of_cell? w _ hw365_0)).trans hw365_0), ((HB.out.cell (World.block_lt_of_cell? w _ hw366_0)).trans hw366_0)⟩ (fun hHeld => ?_); refine with_tabW couple_way_all_by_couple_couple.tab7 couple_way_all_by_couple_couple.bits7 (fun HT_ HW_ => ?_)
 generalize wr.drew = w14 at HO_9 HO_10 BK364 HB hx365_0 hx366_0 hHeld ⊢
 refine pu_ 1 (some 27) (B_ 17 2) HT_ ?_
 refine pu_ 2 (some 28) (B_ 17 6) HT_ ?_
 refine pu_ 3 (some 29) (B_ 17 14) HT_ ?_
 refine pu_ 5 (some 31) (B_ 17 46) HT_ ?_
 refine pu_ 6 (some 32) (B_ 17 110) HT_ ?_
 refine pu_ 7 (some 33) (B_ 17 238) HT_ ?_
 refine take_ (i := 0) (N := some 26) (v := ?_) (a' := ?_) (B_ 17 239) rfl rfl (take_ofW HT_.out HW_.out kf_) (fun _ _ _ h => h) (Or.inl ⟨by rfl, ?_⟩) hHeld ?_ ?_
 rotate_left
 {
 rintro w' ⟨s0, s1, s2, s3⟩
 go_simp
 with_reducible rfl}
 rotate_left
 {
 exact sp_}
 refine take_ (i := 4) (N := some 30) (v := ?_) (a' := ?_) (B_ 17 255) rfl rfl (take_ofW HT_.out HW_.out kf_) (fun _ _ _ h => h) (Or.inl ⟨by rfl, ?_⟩) hHeld ?_ ?_
 rotate_left
 {
 rintro w' ⟨s0, s1, s2, s3⟩
 go_simp
 with_reducible rfl}
 rotate_left
 {
 exact sp_}
 refine take_ (i := 8) (N := some 34) (v := ?_) (a' := ?_) (B_ 17 511) rfl rfl (take_ofW HT_.out HW_.out kf_) (fun _ _ _ h => h) (Or.inl ⟨by rfl, ?_⟩) hHeld ?_ ?_
 rotate_left
 {
 rintro w' ⟨s0, s1, s2, s3⟩
 go_simp
 with_reducible rfl}
 rotate_left
 {
 exact sp_}
 refine one_ (i := 9) (N := some 35) (B_ 17 1023) rfl rfl (one_of HT_.out kf_) (by decide) (fun K hK => ?_)
 refine goes_ Try.func94 kf_ rfl #[.agg #[.int .i64 a0_0, .func (.func 100) #[] #[]], .int .i64 (rd l1 x22_1), .int .i64 (rd l2 x22_1)] (by rfl) rfl rfl ar_ ?_
 with_reducible refine (couple_way_one_by_couple_couple.calls k1 a0_0 (rd l1 x22_1) (rd l2 x22_1) t367 t368 t369 _ A10.out).mono ?_
 rintro e w15 ⟨rfl, hb⟩
 refine ⟨_, rfl, ?_⟩
 replace HO_9 := FR_ HO_9 hb
 replace HO_10 := FR_ HO_10 hb
 replace BK364 := FB_ BK364 hb
 replace HB := BS_ HB hb
 (try clear hb)
 refine hK.out _ _ ⟨ce_ BK364 0, ce_ BK364 1, ((HB.out.cell (World.block_lt_of_cell? w _ hw365_0)).trans hw365_0), ((HB.out.cell (World.block_lt_of_cell? w _ hw366_0)).trans hw366_0)⟩ (fun hHeld => ?_)
 clear hK K
 refine norm_ (a' := ?_) ?_ ?_
 rotate_left
 {
 show Act.put _ (some 35) _ = _
 exact sp_}
 refine pu_ 10 (some 25) (B_ 17 2047) HT_ ?_
 refine pu_ 11 (some 36) (B_ 17 4095) HT_ ?_
 refine pu_ 12 (some 37) (B_ 17 8191) HT_ ?_
 refine pu_ 13 (some 38) (B_ 17 16383) HT_ ?_
 refine pu_ 14 (some 12) (B_ 17 32767) HT_ ?_
 refine pu_ 15 (some 13) (B_ 17 65535) HT_ ?_
 refine pu_ 16 (some 14) (B_ 17 131071) HT_ ?_
 refine done_ (done_of HT_.out kf_) ?_
 try go_wp2_with (first | ((with_reducible refine gate_builtin (b := .append) (xs := #[.tmp 42, .tmp 44]) rfl ?_); at_builtin; refine Kd.R_append (Kd.int .i64) (w0 := w) w.heap.size rfl (.tmp 42) (.tmp 44) 53 2 (.int .i64 0) 8 rfl Try.underlying53 info2 rfl (by decide) (by omega) u9 x9_1 t367 [.int .i64 t367] (fun k_ => some k_ ≠ (u10 : Value).ownBlock) (fun _ => False) rfl rfl ?aP (fun _ hk => hk.elim) ?aF ?aO ?aB ?aS ?aL ?_; (case aP => exact rfl); (case aB => exact (bl_ HB)); (case aF => exact (fun k_ hk => Kd.fresh' (Kd.R_lt (kR_ HO_10)) k_ hk)); (case aO => exact (kR_ HO_9)); (case aS => exact (bs_ HB)); (case aL => have := LMc12.out; omega); intro v371 w16 ho hb hg hat; rw [← Ny370.out] at ho; replace HO_10 := Aside0.mk (Kd.R_after (ok := (fun _ => True)) (by (with_reducible repeat (first | apply Kd.R_alloc | apply Kd.R_drewN | apply Kd.R_drew)); exact Kd.R_mono HO_10.out (fun _ hk => ⟨trivial, hk⟩)) hg hat); replace BK364 := (FG_ BK364 hg (Kd.R_ne HO_9.out BK364.out (by decide))); replace HB := Aside0.mk (hb); have HO372 := Aside0.mk (ho); clear HO_9; clear ho hb hg hat) | ((with_reducible refine gate_builtin (b := .append) (xs := #[.tmp 46, .tmp 48]) rfl ?_); at_builtin; refine Kd.R_append (Kd.int .i64) (w0 := w) w.heap.size rfl (.tmp 46) (.tmp 48) 53 2 (.int .i64 0) 8 rfl Try.underlying53 info2 rfl (by decide) (by omega) u10 x10_1 t368 [.int .i64 t368] (fun k_ => some k_ ≠ (v371 : Value).ownBlock) (fun _ => False) rfl rfl ?aP (fun _ hk => hk.elim) ?aF ?aO ?aB ?aS ?aL ?_; (case aP => exact rfl); (case aB => exact (bl_ HB)); (case aF => exact (fun k_ hk => Kd.fresh' (Kd.R_lt (kR_ HO372)) k_ hk)); (case aO => exact (by (with_reducible repeat (first | apply Kd.R_alloc | apply Kd.R_drewN | apply Kd.R_drew)); exact Kd.R_mono HO_10.out (fun _ hk => hk.2))); (case aS => exact (bs_ HB)); (case aL => have := LMc13.out; omega); intro v374 w17 ho hb hg hat; rw [← Ny373.out] at ho; replace BK364 := (FG_ BK364 hg (Kd.R_ne HO_10.out BK364.out (by decide))); replace HO372 := Aside0.mk (Kd.R_after (ok := (fun _ => True)) (by (with_reducible repeat (first | apply Kd.R_alloc | apply Kd.R_drewN | apply Kd.R_drew)); exact Kd.R_mono HO372.out (fun _ hk => ⟨trivial, hk⟩)) hg hat); replace HB := Aside0.mk (hb); have HO375 := Aside0.mk (ho); clear HO_10; clear ho hb hg hat))
 go_roundg k1
 case measure => have := HK1.out; omega
 case rel => exact ⟨(y370), (y373), (wrap64 (x22_1 + 1)), rs_, H', ⟨by have := HK1.out; omega⟩, ⟨by (with_reducible repeat (first | apply Kd.R_alloc | apply Kd.R_drewN | apply Kd.R_drew)); exact Kd.R_mono HO372.out (fun _ hk => hk.2)⟩, ⟨kR_ HO375⟩, ⟨bk_ BK364⟩, ⟨bl_ HB⟩⟩}
 {
 rw [if_neg c13] at H
 exact absurd H (by simp)}}
 {
 rw [if_neg c12] at H
 exact absurd H (by simp)}}
 {
 rw [if_neg c11] at H
 have c11b0 : (t369 == 0) = false := beq_eq_false_iff_ne.mpr c11
 have c11b1 : (t369 != 0) = true := bne_iff_ne.mpr c11
 simp only [Option.some.injEq, Prod.mk.injEq] at H
 obtain ⟨rfl, rfl, rfl⟩ := H
 try go_wp2
 replace HO_9 := Aside0.mk (Kd.R_drew HO_9.out)
 replace HO_10 := Aside0.mk (Kd.R_drew HO_10.out)
 replace BK364 := Aside0.mk (blk_drew BK364.out)
 replace HB := Aside0.mk (below_drew1 HB.out)
 have p365 : 0 ≤ (x22_1 : Int) := of_decide_eq_true am_
 have q365 : x22_1 < (l1.length : Int) := of_decide_eq_true am_
 obtain ⟨ad365, e365, hx365_0⟩ := Kd.at_int HR1.out x22_1 p365 q365
 have hw365_0 := hx365_0
 cases e365
 replace hx365_0 := (HB.out.cell (World.block_lt_of_cell? w _ hx365_0)).trans hx365_0
 replace p365 := eq_true p365
 replace q365 := eq_true q365
 have p366 : 0 ≤ (x22_1 : Int) := of_decide_eq_true am_
 have q366 : x22_1 < (l2.length : Int) := of_decide_eq_true am_
 obtain ⟨ad366, e366, hx366_0⟩ := Kd.at_int HR2.out x22_1 p366 q366
 have hw366_0 := hx366_0
 cases e366
 replace hx366_0 := (HB.out.cell (World.block_lt_of_cell? w _ hx366_0)).trans hx366_0
 replace p366 := eq_true p366
 replace q366 := eq_true q366
 refine start_ (n := 17) (S := fun w' => w'.cell? ⟨gb364, 0, none⟩ = some (.int .i64 a0_0) ∧ w'.cell? ⟨gb364, 1, none⟩ = some (.func (.func 100) #[] #[]) ∧ w'.cell? (ad365.add (x22_1).toNat) = some (.int .i64 (rd l1 x22_1)) ∧ w'.cell? (ad366.add (x22_1).toNat) = some (.int .i64 (rd l2 x22_1))) (ds := []) (B_ 17 0) kf_ rfl rfl ⟨ce_ BK364 0, ce_ BK364 1, ((HB.out.cell (World.block_lt_of_cell? w _ hw365_0)).trans hw365_0), ((HB.out.cell (World.block_lt_of_cell? w _ hw366_0)).trans hw366_0)⟩ (fun hHeld => ?_); refine with_tabW couple_way_all_by_couple_couple.tab7 couple_way_all_by_couple_couple.bits7 (fun HT_ HW_ => ?_)
 generalize wr.drew = w18 at HO_9 HO_10 BK364 HB hx365_0 hx366_0 hHeld ⊢
 refine pu_ 1 (some 27) (B_ 17 2) HT_ ?_
 refine pu_ 2 (some 28) (B_ 17 6) HT_ ?_
 refine pu_ 3 (some 29) (B_ 17 14) HT_ ?_
 refine pu_ 5 (some 31) (B_ 17 46) HT_ ?_
 refine pu_ 6 (some 32) (B_ 17 110) HT_ ?_
 refine pu_ 7 (some 33) (B_ 17 238) HT_ ?_
 refine take_ (i := 0) (N := some 26) (v := ?_) (a' := ?_) (B_ 17 239) rfl rfl (take_ofW HT_.out HW_.out kf_) (fun _ _ _ h => h) (Or.inl ⟨by rfl, ?_⟩) hHeld ?_ ?_
 rotate_left
 {
 rintro w' ⟨s0, s1, s2, s3⟩
 go_simp
 with_reducible rfl}
 rotate_left
 {
 exact sp_}
 refine take_ (i := 4) (N := some 30) (v := ?_) (a' := ?_) (B_ 17 255) rfl rfl (take_ofW HT_.out HW_.out kf_) (fun _ _ _ h => h) (Or.inl ⟨by rfl, ?_⟩) hHeld ?_ ?_
 rotate_left
 {
 rintro w' ⟨s0, s1, s2, s3⟩
 go_simp
 with_reducible rfl}
 rotate_left
 {
 exact sp_}
 refine take_ (i := 8) (N := some 34) (v := ?_) (a' := ?_) (B_ 17 511) rfl rfl (take_ofW HT_.out HW_.out kf_) (fun _ _ _ h => h) (Or.inl ⟨by rfl, ?_⟩) hHeld ?_ ?_
 rotate_left
 {
 rintro w' ⟨s0, s1, s2, s3⟩
 go_simp
 with_reducible rfl}
 rotate_left
 {
 exact sp_}
 refine one_ (i := 9) (N := some 35) (B_ 17 1023) rfl rfl (one_of HT_.out kf_) (by decide) (fun K hK => ?_)
 refine goes_ Try.func94 kf_ rfl #[.agg #[.int .i64 a0_0, .func (.func 100) #[] #[]], .int .i64 (rd l1 x22_1), .int .i64 (rd l2 x22_1)] (by rfl) rfl rfl ar_ ?_
 with_reducible refine (couple_way_one_by_couple_couple.calls k1 a0_0 (rd l1 x22_1) (rd l2 x22_1) t367 t368 t369 _ A10.out).mono ?_
 rintro e w19 ⟨rfl, hb⟩
 refine ⟨_, rfl, ?_⟩
 replace HO_9 := FR_ HO_9 hb
 replace HO_10 := FR_ HO_10 hb
 replace BK364 := FB_ BK364 hb
 replace HB := BS_ HB hb
 (try clear hb)
 refine hK.out _ _ ⟨ce_ BK364 0, ce_ BK364 1, ((HB.out.cell (World.block_lt_of_cell? w _ hw365_0)).trans hw365_0), ((HB.out.cell (World.block_lt_of_cell? w _ hw366_0)).trans hw366_0)⟩ (fun hHeld => ?_)
 clear hK K
 refine norm_ (a' := ?_) ?_ ?_
 rotate_left
 {
 show Act.put _ (some 35) _ = _
 exact sp_}
 refine pu_ 10 (some 25) (B_ 17 2047) HT_ ?_
 refine pu_ 11 (some 36) (B_ 17 4095) HT_ ?_
 refine pu_ 12 (some 37) (B_ 17 8191) HT_ ?_
 refine pu_ 13 (some 38) (B_ 17 16383) HT_ ?_
 refine pu_ 14 (some 12) (B_ 17 32767) HT_ ?_
 refine pu_ 15 (some 13) (B_ 17 65535) HT_ ?_
 refine pu_ 16 (some 14) (B_ 17 131071) HT_ ?_
 refine done_ (done_of HT_.out kf_) ?_
 try go_wp2
 go_ret3
 exact ⟨_, _, by first | rfl | (simp [errW_none, errW_some] <;> rfl) | (simp [*, errW_none, errW_some] <;> rfl), by first | exact Kd.R_nil _ _ _ _ _ | exact Kd.N_nil _ _ _ _ _ | exact Kd.V_nil _ _ _ _ _ | exact Kd.Q_nil _ _ _ _ _ | exact Kd.S_nil _ _ _ _ _, by first | exact Kd.R_nil _ _ _ _ _ | exact Kd.N_nil _ _ _ _ _ | exact Kd.V_nil _ _ _ _ _ | exact Kd.Q_nil _ _ _ _ _ | exact Kd.S_nil _ _ _ _ _, bl_ HB⟩}}
 {
 rw [if_neg c9] at H
 exact absurd H (by simp)}}
 {
 rw [if_neg c8] at H
 exact absurd H (by simp)}}
 {
 rw [if_neg c7] at H
 exact absurd H (by simp)}}
 {
 rw [if_neg c6] at H
 have c6b0 : decide (x22_1 < (l1.length : Int)) = false := decide_eq_false c6
 clear c6
 simp only [Option.some.injEq, Prod.mk.injEq] at H
 obtain ⟨rfl, rfl, rfl⟩ := H
 go_wp2
 go_ret3
 exact ⟨_, _, by first | rfl | (simp [errW_none, errW_some] <;> rfl) | (simp [*, errW_none, errW_some] <;> rfl), by (with_reducible repeat (first | apply Kd.R_alloc | apply Kd.R_drewN | apply Kd.R_drew)); exact HO_9.out, by (with_reducible repeat (first | apply Kd.R_alloc | apply Kd.R_drewN | apply Kd.R_drew)); exact HO_10.out, bl_ HB⟩}))}
 {
 rw [if_neg c4] at H
 have c4b0 : ((l1.length : Int) == (l2.length : Int)) = false := beq_eq_false_iff_ne.mpr c4
 have c4b1 : ((l1.length : Int) != (l2.length : Int)) = true := bne_iff_ne.mpr c4
 have c4b2 : (l1.length == l2.length) = false := by first | simpa using c4 | (simp at c4 ⊢; omega)
 simp only [Option.some.injEq, Prod.mk.injEq] at H
 obtain ⟨rfl, rfl, rfl⟩ := H
 go_enter Try.func67, Try.ntmps67
 go_wp2_with (first | ((with_reducible refine gate_dst (N := 3) rfl ?_); refine bx_ HB 3 #[.int .i64 a0_0, .func (.func 100) #[] #[]] 101 ?_; clear HB; intro gb364 hg w20 hb BK364 GE364 HB; have GW364 := GE364; clear hb hg))
 go_ret3
 exact ⟨_, _, by first | rfl | (simp [errW_none, errW_some] <;> rfl) | (simp [*, errW_none, errW_some] <;> rfl), by first | exact Kd.R_nil _ _ _ _ _ | exact Kd.N_nil _ _ _ _ _ | exact Kd.V_nil _ _ _ _ _ | exact Kd.Q_nil _ _ _ _ _ | exact Kd.S_nil _ _ _ _ _, by first | exact Kd.R_nil _ _ _ _ _ | exact Kd.N_nil _ _ _ _ _ | exact Kd.V_nil _ _ _ _ _ | exact Kd.Q_nil _ _ _ _ _ | exact Kd.S_nil _ _ _ _ _, bl_ HB⟩}
def couple_CoupleAll.f (k : Nat) (l0 : List Int) (l1 : List Int) : Option (List Int × List Int × Int) := (couple_coupling.f).bind fun t376 => ((couple_way_all_by_couple_couple.f k t376 l0 l1).bind fun bt377 => (some (bt377.1, bt377.2.1, bt377.2.2)))
theorem couple_CoupleAll.mono : ∀ a0 a1 k, LeO (couple_CoupleAll.f k a0 a1) (couple_CoupleAll.f (k + 1) a0 a1) := by
  intro a0 a1 k
  unfold couple_CoupleAll.f
  with_reducible repeat' first
   | exact couple_way_all_by_couple_couple.mono _ _ _ _
   | exact LeO.refl _
   | exact LeO.none _
   | refine LeO.ite ?_ ?_
   | refine LeO.bind ?_ (fun _ => ?_)
set_option maxHeartbeats 8000000 in
set_option maxRecDepth 100000 in
theorem couple_CoupleAll.calls (k : Nat) (A0 : Option Addr) (c0 : Nat) (l0 : List Int) (A1 : Option Addr) (c1 : Nat) (l1 : List Int) (r1 : List Int) (r2 : List Int) (r3 : Int) (w : World) (hr0 : Kd.C (Kd.int .i64) w A0 l0.length l0) (hc0 : l0.length ≤ c0) (hr1 : Kd.C (Kd.int .i64) w A1 l1.length l1) (hc1 : l1.length ≤ c1) (h : couple_CoupleAll.f k l0 l1 = some (r1, r2, r3)) :
    Calls Try.prog 40 #[.slice A0 l0.length c0, .slice A1 l1.length c1] w fun e w' => ∃ v0_ v1_ : Value, e = .returned (.tuple #[v0_, v1_, .int .i64 r3]) ∧ Kd.R (Kd.int .i64) 2 w' w.heap.size (fun k_ => some k_ ≠ (v1_ : Value).ownBlock) v0_ r1 ∧ Kd.R (Kd.int .i64) 2 w' w.heap.size (fun k_ => some k_ ≠ (v0_ : Value).ownBlock) v1_ r2 ∧ Below w.heap.size w w' := by
 have HR0 := Aside0.mk hr0
 have HC0 := Aside0.mk hc0
 clear hr0 hc0
 have HR1 := Aside0.mk hr1
 have HC1 := Aside0.mk hc1
 clear hr1 hc1
 have HB := Aside0.mk (Below.refl w.heap.size w)
 have H : ((couple_coupling.f).bind fun t376 => ((couple_way_all_by_couple_couple.f k t376 l0 l1).bind fun bt377 => (some (bt377.1, bt377.2.1, bt377.2.2)))) = some (r1, r2, r3) := h
 clear h
 obtain ⟨t376, A3, H⟩ := ob_ H
 (try dsimp only at H)
 obtain ⟨⟨t377, t380, t383⟩, A4, H⟩ := ob_ H
 (try dsimp only at H)
 simp only [Option.some.injEq, Prod.mk.injEq] at H
 obtain ⟨rfl, rfl, rfl⟩ := H
 go_enter Try.func40, Try.ntmps40
 go_wp2_with (first | ((with_reducible refine gate_callee (f := 78) rfl ?_); refine gL_ (some 7) Try.func78 #[] ?_; (with_reducible refine (couple_coupling.calls  t376 _ A3.out).mono ?_); rintro e w5 ⟨rfl, hb⟩; refine ⟨_, rfl, ?_⟩; replace HB := BS_ HB hb; (try clear hb)) | ((with_reducible refine gate_callee (f := 67) rfl ?_); refine gL_ (some 10) Try.func67 #[.agg #[.int .i64 t376, .func (.func 100) #[] #[]], .slice A0 l0.length c0, .slice A1 l1.length c1] ?_; (with_reducible refine (couple_way_all_by_couple_couple.calls k t376 _ _ l0 _ _ l1 t377 t380 t383 _ ?side1 ?side2 ?side3 ?side4 A4.out).mono ?_); (case side1 => exact kC_ HR0 HB); (case side2 => exact HC0.out); (case side3 => exact kC_ HR1 HB); (case side4 => exact HC1.out); rintro e w6 ⟨v378, v381, rfl, ho0, ho1, hb⟩; refine ⟨_, rfl, ?_⟩; have HO379 := Aside0.mk (Kd.R_lower ho0 (bs_ HB)); have HO382 := Aside0.mk (Kd.R_lower ho1 (bs_ HB)); replace HB := BS_ HB hb; (try clear hb); (try clear ho0); (try clear ho1)))
 go_ret3
 exact ⟨_, _, by first | rfl | (simp [errW_none, errW_some] <;> rfl) | (simp [*, errW_none, errW_some] <;> rfl), by (with_reducible repeat (first | apply Kd.R_alloc | apply Kd.R_drewN | apply Kd.R_drew)); exact HO379.out, by (with_reducible repeat (first | apply Kd.R_alloc | apply Kd.R_drewN | apply Kd.R_drew)); exact HO382.out, bl_ HB⟩
end Go.Proofs.Ytdajlfijkbafiaa.P
