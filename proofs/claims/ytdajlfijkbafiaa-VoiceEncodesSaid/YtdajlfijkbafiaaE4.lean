/- Words, walks and what they compute, as the law's proof needs them. -/
import Derived.Test.YtdajlfijkbafiaaE3
set_option linter.unusedVariables false
set_option linter.unusedSimpArgs false
namespace Go.Proofs.Ytdajlfijkbafiaa.P
open Go.RowKit Go.Proofs.YtdajlfijkbafiaaW.PrintWords Go.Proofs.YtdajlfijkbafiaaW.PrintLast Go.Proofs.YtdajlfijkbafiaaW.PrintMore
attribute [local go_sem] max2_int min2_int max_two min_two max_three min_three max_four min_four
def couple_within.l0 : Nat → Int → List Int → Int → Int → Option (Bool)
  | 0, _, _, _, _ => none
  | k + 1, x0, x7, x8, x9 => if x9 < x8 then (if 0 ≤ x9 then (if x9 < (x7.length : Int) then ((num_Clamp.f (rd x7 x9) (wrap64 (-x0)) x0).bind fun a0 => (if (rd x7 x9) = a0 then (couple_within.l0 k x0 x7 x8 (wrap64 (x9 + 1))) else (some false))) else (none)) else (none)) else (some true)
def couple_within.f (k : Nat) (a0 : Int) (l1 : List Int) : Option (Bool) := couple_within.l0 k a0 l1 (l1.length : Int) 0
theorem couple_within.mono_l : ∀ k, (∀ y0 y1 y2 y3, LeO (couple_within.l0 k y0 y1 y2 y3) (couple_within.l0 (k + 1) y0 y1 y2 y3))
  | 0 => fun _ _ _ _ r h => by simp [couple_within.l0] at h
  | k + 1 => by
    have a0 := couple_within.mono_l k
    · intro y0 y1 y2 y3
      unfold couple_within.l0
      with_reducible repeat' first
   | apply a0
   | exact LeO.refl _
   | exact LeO.none _
   | refine LeO.ite ?_ ?_
   | refine LeO.bind ?_ (fun _ => ?_)
theorem couple_within.mono : ∀ a0 a1 k, LeO (couple_within.f k a0 a1) (couple_within.f (k + 1) a0 a1) := by
  intro a0 a1 k
  have b0 := couple_within.mono_l k
  unfold couple_within.f
  with_reducible repeat' first
   | apply b0
   | exact LeO.refl _
   | exact LeO.none _
   | refine LeO.ite ?_ ?_
   | refine LeO.bind ?_ (fun _ => ?_)
set_option maxHeartbeats 8000000 in
set_option maxRecDepth 100000 in
theorem couple_within.calls (k : Nat) (a0 : Int) (A1 : Option Addr) (c1 : Nat) (l1 : List Int) (r : Bool) (w : World) (hr1 : Kd.C (Kd.int .i64) w A1 l1.length l1) (hc1 : l1.length ≤ c1) (h : couple_within.f k a0 l1 = some r) :
    Calls Try.prog 111 #[.int .i64 a0, .slice A1 l1.length c1] w fun e w' => e = .returned (.bool r) ∧ Drawn0 w w' := by
 have i0 := a_ hr1
 have q0 := a_ hc1
 clear hr1 hc1
 have H : (couple_within.l0 k a0 l1 (l1.length : Int) 0) = some r := h
 clear h
 have H' := a_ H
 clear H
 go_enter Try.func111, Try.ntmps111
 go_wp2
 go_loopg [9] k (fun kq v9 w' => ∃ (b0 : Int), v9 = .int .i64 b0 ∧ Aside0 (couple_within.l0 kq a0 l1 (l1.length : Int) b0 = some r) ∧ Aside0 (kq ≤ k) ∧ Drawn0 w w')
 case atStart => exact ⟨(0), rs_, H', ⟨Nat.le_refl _⟩, dr_⟩
 case round => (
 clear H'
 obtain ⟨b0, rfl, HA, j0, ⟨m1, rfl⟩⟩ := hrel
 cases gk with
 | zero => exact absurd HA.out (by simp [couple_within.l0])
 | succ k1 => (
 have H := HA.out
 clear HA
 simp only [couple_within.l0] at H
 replace H := id_ H
 rcases H with ⟨k0, H⟩ | ⟨k0, H⟩
 {
 replace H := gd_ H
 obtain ⟨o0, H⟩ := H
 replace H := gd_ H
 obtain ⟨p0, H⟩ := H
 obtain ⟨g0, A6, H⟩ := ob_ H
 (try dsimp only at H)
 replace H := ie_ H
 rcases H with ⟨m0, n0, H⟩ | ⟨c7, m0, n0, H⟩
 {
 have H' := a_ H
 clear H
 have c0 : 0 ≤ (b0 : Int) := dm_
 have d0 : b0 < (l1.length : Int) := dm_
 obtain ⟨h0, e0, f0⟩ := Kd.at_int i0.out b0 c0 d0
 cases e0
 replace c0 := eq_true c0
 replace d0 := eq_true d0
 go_wp2_with (first | ((with_reducible refine gate_callee (f := 73) rfl ?_); refine gL_ (some 18) Try.func73 #[.int .i64 (rd l1 b0), .int .i64 (wrap64 (-a0)), .int .i64 a0] ?_; (with_reducible refine (num_Clamp.calls (rd l1 b0) (wrap64 (-a0)) a0 g0 _ A6.out).mono ?_); rintro e w' ⟨rfl, ⟨nd, rfl⟩⟩; refine ⟨_, rfl, ?_⟩))
 go_roundg k1
 case measure => have := j0.out; omega
 case rel => exact ⟨(wrap64 (b0 + 1)), rs_, H', ⟨by have := j0.out; omega⟩, dr_⟩}
 {
 obtain rfl := Option.some.inj H
 have c0 : 0 ≤ (b0 : Int) := dm_
 have d0 : b0 < (l1.length : Int) := dm_
 obtain ⟨h0, e0, f0⟩ := Kd.at_int i0.out b0 c0 d0
 cases e0
 replace c0 := eq_true c0
 replace d0 := eq_true d0
 go_wp2_with (first | ((with_reducible refine gate_callee (f := 73) rfl ?_); refine gL_ (some 18) Try.func73 #[.int .i64 (rd l1 b0), .int .i64 (wrap64 (-a0)), .int .i64 a0] ?_; (with_reducible refine (num_Clamp.calls (rd l1 b0) (wrap64 (-a0)) a0 g0 _ A6.out).mono ?_); rintro e w' ⟨rfl, ⟨nd, rfl⟩⟩; refine ⟨_, rfl, ?_⟩))
 go_ret
 exact ⟨es_, dr_⟩}}
 {
 obtain rfl := Option.some.inj H
 go_wp2
 go_ret
 exact ⟨es_, dr_⟩}))
def couple_couple.f (a0 : Int) (a1 : Int) : Option (Int × Int) := if (mx a0 (wrap64 (-a0))) > (mx a1 (wrap64 (-a1))) then (if a0 > 0 then (some (a0, wrap64 (a0 - a1))) else (some (a0, wrap64 (a1 - a0)))) else (if a1 > 0 then (some (a1, wrap64 (a0 - a1))) else (some (a1, wrap64 (a1 - a0))))
set_option maxHeartbeats 8000000 in
set_option maxRecDepth 100000 in
theorem couple_couple.calls (a0 : Int) (a1 : Int) (r1 : Int) (r2 : Int) (w : World) (h : couple_couple.f a0 a1 = some (r1, r2)) :
    Calls Try.prog 100 #[.int .i64 a0, .int .i64 a1] w fun e w' => e = .returned (.tuple #[.int .i64 r1, .int .i64 r2]) ∧ Below w.heap.size w w' := by
 have HB := a_ (Below.refl w.heap.size w)
 have H : (if (mx a0 (wrap64 (-a0))) > (mx a1 (wrap64 (-a1))) then (if a0 > 0 then (some (a0, wrap64 (a0 - a1))) else (some (a0, wrap64 (a1 - a0)))) else (if a1 > 0 then (some (a1, wrap64 (a0 - a1))) else (some (a1, wrap64 (a1 - a0))))) = some (r1, r2) := h
 clear h
 obtain ⟨d0, b0⟩ : ∃ j_ : Int, (mx a0 (wrap64 (-a0))) = j_ := ⟨_, rfl⟩
 replace H : (if (d0) > (mx a1 (wrap64 (-a1))) then (if a0 > 0 then (some (a0, wrap64 (a0 - a1))) else (some (a0, wrap64 (a1 - a0)))) else (if a1 > 0 then (some (a1, wrap64 (a0 - a1))) else (some (a1, wrap64 (a1 - a0))))) = some (r1, r2) := by first | (rw [b0] at H; exact H) | (simp only [b0] at H ⊢; exact H)
 have hji3_ : (if a0 < (wrap64 (-a0)) then (wrap64 (-a0)) else a0) = d0 := b0
 obtain ⟨e0, c0⟩ : ∃ j_ : Int, (mx a1 (wrap64 (-a1))) = j_ := ⟨_, rfl⟩
 replace H : (if (d0) > (e0) then (if a0 > 0 then (some (a0, wrap64 (a0 - a1))) else (some (a0, wrap64 (a1 - a0)))) else (if a1 > 0 then (some (a1, wrap64 (a0 - a1))) else (some (a1, wrap64 (a1 - a0))))) = some (r1, r2) := by first | (rw [c0] at H; exact H) | (simp only [c0] at H ⊢; exact H)
 have hji4_ : (if a1 < (wrap64 (-a1)) then (wrap64 (-a1)) else a1) = e0 := c0
 replace H := ii_ H
 rcases H with ⟨c5, H⟩ | ⟨c5, H⟩
 {
 have f0 : decide ((e0) < (d0)) = true := decide_eq_true c5
 clear c5
 replace H := ii_ H
 rcases H with ⟨c6, H⟩ | ⟨c6, H⟩
 {
 have g0 : decide (0 < a0) = true := decide_eq_true c6
 clear c6
 simp only [Option.some.injEq, Prod.mk.injEq] at H
 obtain ⟨rfl, rfl⟩ := H
 go_enter Try.func100, Try.ntmps100
 go_wp2
 go_ret2
 exact ⟨by first | rfl | (simp [errW_none, errW_some] <;> rfl) | (simp only [← b0, ← c0]; first | rfl | (simp [errW_none, errW_some] <;> rfl)) | (simp [*, errW_none, errW_some] <;> rfl), bl_ HB⟩}
 {
 have g0 : decide (0 < a0) = false := decide_eq_false c6
 clear c6
 simp only [Option.some.injEq, Prod.mk.injEq] at H
 obtain ⟨rfl, rfl⟩ := H
 go_enter Try.func100, Try.ntmps100
 go_wp2
 go_ret2
 exact ⟨by first | rfl | (simp [errW_none, errW_some] <;> rfl) | (simp only [← b0, ← c0]; first | rfl | (simp [errW_none, errW_some] <;> rfl)) | (simp [*, errW_none, errW_some] <;> rfl), bl_ HB⟩}}
 {
 have f0 : decide ((e0) < (d0)) = false := decide_eq_false c5
 clear c5
 replace H := ii_ H
 rcases H with ⟨c7, H⟩ | ⟨c7, H⟩
 {
 have h0 : decide (0 < a1) = true := decide_eq_true c7
 clear c7
 simp only [Option.some.injEq, Prod.mk.injEq] at H
 obtain ⟨rfl, rfl⟩ := H
 go_enter Try.func100, Try.ntmps100
 go_wp2
 go_ret2
 exact ⟨by first | rfl | (simp [errW_none, errW_some] <;> rfl) | (simp only [← b0, ← c0]; first | rfl | (simp [errW_none, errW_some] <;> rfl)) | (simp [*, errW_none, errW_some] <;> rfl), bl_ HB⟩}
 {
 have h0 : decide (0 < a1) = false := decide_eq_false c7
 clear c7
 simp only [Option.some.injEq, Prod.mk.injEq] at H
 obtain ⟨rfl, rfl⟩ := H
 go_enter Try.func100, Try.ntmps100
 go_wp2
 go_ret2
 exact ⟨by first | rfl | (simp [errW_none, errW_some] <;> rfl) | (simp only [← b0, ← c0]; first | rfl | (simp [errW_none, errW_some] <;> rfl)) | (simp [*, errW_none, errW_some] <;> rfl), bl_ HB⟩}}
def couple_way_one_by_couple_couple.f (k : Nat) (b0 : Int) (a1 : Int) (a2 : Int) : Option (Int × Int × Int) := (couple_within.f k b0 (([a1, a2] : List Int))).bind fun c0 => (if c0 = true then ((couple_couple.f a1 a2).bind fun a0 => (some (a0.1, a0.2, 0))) else (some (0, 0, 1)))
theorem couple_way_one_by_couple_couple.mono : ∀ a0 a1 a2 k, LeO (couple_way_one_by_couple_couple.f k a0 a1 a2) (couple_way_one_by_couple_couple.f (k + 1) a0 a1 a2) := by
  intro a0 a1 a2 k
  unfold couple_way_one_by_couple_couple.f
  with_reducible repeat' first
   | apply couple_within.mono
   | exact LeO.refl _
   | exact LeO.none _
   | refine LeO.ite ?_ ?_
   | refine LeO.bind ?_ (fun _ => ?_)
set_option maxHeartbeats 8000000 in
set_option maxRecDepth 100000 in
theorem couple_way_one_by_couple_couple.calls (k : Nat) (c0 : Int) (a1 : Int) (a2 : Int) (r1 : Int) (r2 : Int) (r3 : Int) (w : World) (h : couple_way_one_by_couple_couple.f k c0 a1 a2 = some (r1, r2, r3)) :
    Calls Try.prog 94 #[.agg #[.int .i64 c0, .func (.func 100) #[] #[]], .int .i64 a1, .int .i64 a2] w fun e w' => e = .returned (.tuple #[.int .i64 r1, .int .i64 r2, .int .i64 r3]) ∧ Below w.heap.size w w' := by
 have K0 := Try.underlying101
 have HB := a_ (Below.refl w.heap.size w)
 have H : ((couple_within.f k c0 (([a1, a2] : List Int))).bind fun k0 => (if k0 = true then ((couple_couple.f a1 a2).bind fun j0 => (some (j0.1, j0.2, 0))) else (some (0, 0, 1)))) = some (r1, r2, r3) := h
 clear h
 obtain ⟨h0, d0⟩ : ∃ y_ : List Int, y_ = (([a1, a2] : List Int)) := ⟨_, rfl⟩
 first | replace H := by_ H d0 | rw [← d0] at H
 have e0 := a_ d0
 clear d0
 obtain ⟨k0, A4, H⟩ := ob_ H
 (try dsimp only at H)
 replace H := ib_ H
 rcases H with ⟨rfl, H⟩ | ⟨rfl, H⟩
 {
 obtain ⟨⟨n0, o0⟩, A6, H⟩ := ob_ H
 (try dsimp only at H)
 simp only [Option.some.injEq, Prod.mk.injEq] at H
 obtain ⟨rfl, rfl, rfl⟩ := H
 go_enter Try.func94, Try.ntmps94
 go_wp2_with (first | ((with_reducible refine gate_dst (N := 3) rfl ?_); refine bx_ HB 3 #[.int .i64 c0, .func (.func 100) #[] #[]] 101 ?_; clear HB; intro l0 hg w7 hb a0 i0 HB; have m0 := i0; clear hb hg; obtain ⟨G0, H0, I0, J0⟩ := e2_ a0) | ((with_reducible refine gate_dst (N := 15) rfl ?_); refine Kd.R_lit (Kd.int .i64) _ 2 ?hg (N := 15) ?hd (xs := ([a1, a2] : List Int)) (inner := [.int .i64 a1, .int .i64 a2]) (ok := fun _ => True) (okp := fun _ => True) ?hr ?hp (fun _ hk => hk) trivial (Below.refl _ _) (Nat.le_refl _) (by simp) ?_; (case hd => rfl); (case hg => rfl); (case hr => first | (go_simp; done) | (go_simp; rfl)); (case hp => exact (Reps.one (show Kd.M (Kd.int .i64) _ _ _ a1 [.int .i64 a1] from rfl) (Reps.one (show Kd.M (Kd.int .i64) _ _ _ a2 [.int .i64 a2] from rfl) (Reps.none _ _)))); intro p0 w9 f0 hb hg_ hnew_; clear hg_ hnew_; (first | rw [← e0.out] at f0 | (simp only [Int.reduceToNat] at f0; rw [← e0.out] at f0)); have b0 := a_ (Kd.R_lower f0 (bs_ HB)); replace a0 := FB_ a0 hb; replace HB := BS_ HB hb; clear hb f0; obtain ⟨q0, r0, s0⟩ := Kd.R_slice b0.out; subst s0) | ((with_reducible refine gate_callee (f := 111) rfl ?_); refine gL_ (some 16) Try.func111 #[.int .i64 c0, .slice q0 h0.length r0] ?_; (with_reducible refine (couple_within.calls k c0 _ _ h0 true _ ?side1 ?side2 A4.out).mono ?_); (case side1 => exact kCt_ (Kd.R_reads' b0.out).2.2); (case side2 => exact (Kd.R_reads' b0.out).2.1); rintro e w' ⟨rfl, ⟨nd, rfl⟩⟩; refine ⟨_, rfl, ?_⟩; obtain ⟨y0, z0, A0, B0⟩ := e2_ a0) | (go_at_call 100; (with_reducible refine (couple_couple.calls a1 a2 n0 o0 _ A6.out).mono ?_); rintro e L0 ⟨rfl, hb⟩; replace b0 := FR_ b0 hb; replace a0 := FB_ a0 hb; replace HB := BS_ HB hb; (try clear hb); (try clear hk)))
 go_ret3
 exact ⟨er_, bl_ HB⟩}
 {
 simp only [Option.some.injEq, Prod.mk.injEq] at H
 obtain ⟨rfl, rfl, rfl⟩ := H
 go_enter Try.func94, Try.ntmps94
 go_wp2_with (first | ((with_reducible refine gate_dst (N := 3) rfl ?_); refine bx_ HB 3 #[.int .i64 c0, .func (.func 100) #[] #[]] 101 ?_; clear HB; intro l0 hg M0 hb a0 i0 HB; have m0 := i0; clear hb hg; obtain ⟨C0, D0, E0, F0⟩ := e2_ a0) | ((with_reducible refine gate_dst (N := 15) rfl ?_); refine Kd.R_lit (Kd.int .i64) _ 2 ?hg (N := 15) ?hd (xs := ([a1, a2] : List Int)) (inner := [.int .i64 a1, .int .i64 a2]) (ok := fun _ => True) (okp := fun _ => True) ?hr ?hp (fun _ hk => hk) trivial (Below.refl _ _) (Nat.le_refl _) (by simp) ?_; (case hd => rfl); (case hg => rfl); (case hr => first | (go_simp; done) | (go_simp; rfl)); (case hp => exact (Reps.one (show Kd.M (Kd.int .i64) _ _ _ a1 [.int .i64 a1] from rfl) (Reps.one (show Kd.M (Kd.int .i64) _ _ _ a2 [.int .i64 a2] from rfl) (Reps.none _ _)))); intro p0 N0 g0 hb hg_ hnew_; clear hg_ hnew_; (first | rw [← e0.out] at g0 | (simp only [Int.reduceToNat] at g0; rw [← e0.out] at g0)); have b0 := a_ (Kd.R_lower g0 (bs_ HB)); replace a0 := FB_ a0 hb; replace HB := BS_ HB hb; clear hb g0; obtain ⟨t0, v0, w0⟩ := Kd.R_slice b0.out; subst w0) | ((with_reducible refine gate_callee (f := 111) rfl ?_); refine gL_ (some 16) Try.func111 #[.int .i64 c0, .slice t0 h0.length v0] ?_; (with_reducible refine (couple_within.calls k c0 _ _ h0 false _ ?side1 ?side2 A4.out).mono ?_); (case side1 => exact kCt_ (Kd.R_reads' b0.out).2.2); (case side2 => exact (Kd.R_reads' b0.out).2.1); rintro e w' ⟨rfl, ⟨nd, rfl⟩⟩; refine ⟨_, rfl, ?_⟩))
 go_ret3
 exact ⟨er_, bl_ HB⟩}
def couple_way_all_by_couple_couple.l0 : Nat → List Int → List Int → List Int → List Int → Int → Int → Int → Option (List Int × List Int × Int)
  | 0, _, _, _, _, _, _, _ => none
  | k + 1, x1, x2, x9, d0, e0, b0, c0 => if b0 < e0 then (if 0 ≤ b0 then (if b0 < (x1.length : Int) then (if b0 < (x2.length : Int) then ((couple_way_one_by_couple_couple.f k c0 (rd x1 b0) (rd x2 b0)).bind fun a0 => (if a0.2.2 = 0 then (if x9.length < 17592186044416 then (if d0.length < 17592186044416 then (couple_way_all_by_couple_couple.l0 k x1 x2 (x9 ++ [a0.1]) (d0 ++ [a0.2.1]) e0 (wrap64 (b0 + 1)) c0) else (none)) else (none)) else (some (([] : List Int), ([] : List Int), a0.2.2)))) else (none)) else (none)) else (none)) else (some (x9, d0, 0))
def couple_way_all_by_couple_couple.f (k : Nat) (a0 : Int) (l1 : List Int) (l2 : List Int) : Option (List Int × List Int × Int) := if (l1.length : Int) = (l2.length : Int) then (couple_way_all_by_couple_couple.l0 k l1 l2 ([] : List Int) ([] : List Int) (l1.length : Int) 0 a0) else (some (([] : List Int), ([] : List Int), 1))
theorem couple_way_all_by_couple_couple.mono_l : ∀ k, (∀ y0 y1 y2 y3 y4 y5 y6, LeO (couple_way_all_by_couple_couple.l0 k y0 y1 y2 y3 y4 y5 y6) (couple_way_all_by_couple_couple.l0 (k + 1) y0 y1 y2 y3 y4 y5 y6))
  | 0 => fun _ _ _ _ _ _ _ r h => by simp [couple_way_all_by_couple_couple.l0] at h
  | k + 1 => by
    have a0 := couple_way_all_by_couple_couple.mono_l k
    · intro y0 y1 y2 y3 y4 y5 y6
      unfold couple_way_all_by_couple_couple.l0
      with_reducible repeat' first
   | apply a0
   | apply couple_way_one_by_couple_couple.mono
   | exact LeO.refl _
   | exact LeO.none _
   | refine LeO.ite ?_ ?_
   | refine LeO.bind ?_ (fun _ => ?_)
theorem couple_way_all_by_couple_couple.mono : ∀ a0 a1 a2 k, LeO (couple_way_all_by_couple_couple.f k a0 a1 a2) (couple_way_all_by_couple_couple.f (k + 1) a0 a1 a2) := by
  intro a0 a1 a2 k
  have b0 := couple_way_all_by_couple_couple.mono_l k
  unfold couple_way_all_by_couple_couple.f
  with_reducible repeat' first
   | apply b0
   | apply couple_way_one_by_couple_couple.mono
   | exact LeO.refl _
   | exact LeO.none _
   | refine LeO.ite ?_ ?_
   | refine LeO.bind ?_ (fun _ => ?_)
def couple_way_all_by_couple_couple.T7 : Bool × List (List Nat × List Nat) := (true, [([], []), ([], []), ([], []), ([1, 2], [1, 2]), ([3], [3]), ([], []), ([], []), ([5, 6], [5, 6]), ([7], [7]), ([0, 4, 8], [0, 4, 8]), ([9], [9]), ([10], [10]), ([10], [10]), ([10], [10]), ([11, 9, 0, 1, 2, 3, 4, 5, 6, 7, 8, 9, 10, 11], [11]), ([12, 14, 0, 1, 2, 3, 4, 5, 6, 7, 8, 9, 10, 11, 12, 14], [12]), ([13, 15, 0, 1, 2, 3, 4, 5, 6, 7, 8, 9, 10, 11, 12, 13, 14, 15], [13])])
def couple_way_all_by_couple_couple.B7 : List Nat := [0, 0, 0, 6, 14, 0, 0, 96, 224, 511, 1023, 2047, 2047, 2047, 4095, 24575, 65535]
theorem couple_way_all_by_couple_couple.tab7 : rtab .any (opsOf Try.f67 7) = couple_way_all_by_couple_couple.T7 := by kernel_rfl
theorem couple_way_all_by_couple_couple.bits7 : waitsOk couple_way_all_by_couple_couple.T7.2 couple_way_all_by_couple_couple.B7 = true := by kernel_rfl
set_option maxHeartbeats 8000000 in
set_option maxRecDepth 100000 in
theorem couple_way_all_by_couple_couple.calls (k : Nat) (g0 : Int) (A1 : Option Addr) (c1 : Nat) (l1 : List Int) (A2 : Option Addr) (c2 : Nat) (l2 : List Int) (r1 : List Int) (r2 : List Int) (r3 : Int) (w : World) (hr1 : Kd.C (Kd.int .i64) w A1 l1.length l1) (hc1 : l1.length ≤ c1) (hr2 : Kd.C (Kd.int .i64) w A2 l2.length l2) (hc2 : l2.length ≤ c2) (h : couple_way_all_by_couple_couple.f k g0 l1 l2 = some (r1, r2, r3)) :
    Calls Try.prog 67 #[.agg #[.int .i64 g0, .func (.func 100) #[] #[]], .slice A1 l1.length c1, .slice A2 l2.length c2] w fun e w' => ∃ v0_ v1_ : Value, e = .returned (.tuple #[v0_, v1_, .int .i64 r3]) ∧ Kd.R (Kd.int .i64) 2 w' w.heap.size (fun k_ => no_ k_ v1_) v0_ r1 ∧ Kd.R (Kd.int .i64) 2 w' w.heap.size (fun k_ => no_ k_ v0_) v1_ r2 ∧ Below w.heap.size w w' := by
 have e1 := Try.underlying101
 have R0 := a_ hr1
 have m1 := a_ hc1
 clear hr1 hc1
 have S0 := a_ hr2
 have n1 := a_ hc2
 clear hr2 hc2
 have HB := a_ (Below.refl w.heap.size w)
 have H : (if (l1.length : Int) = (l2.length : Int) then (couple_way_all_by_couple_couple.l0 k l1 l2 ([] : List Int) ([] : List Int) (l1.length : Int) 0 g0) else (some (([] : List Int), ([] : List Int), 1))) = some (r1, r2, r3) := h
 clear h
 replace H := ii_ H
 rcases H with ⟨c4, H⟩ | ⟨c4, H⟩
 {
 have F0 : ((l1.length : Int) == (l2.length : Int)) = true := beq_iff_eq.mpr c4
 have G0 : ((l1.length : Int) != (l2.length : Int)) = false := bne_eq_false_iff_eq.mpr c4
 have H0 : (l1.length == l2.length) = true := by first | simpa using c4 | (simp at c4 ⊢; omega)
 clear c4
 have H' := a_ H
 clear H
 go_enter Try.func67, Try.ntmps67
 go_wp2_with (first | ((with_reducible refine gate_dst (N := 3) rfl ?_); refine bx_ HB 3 #[.int .i64 g0, .func (.func 100) #[] #[]] 101 ?_; clear HB; intro j0 hg w5 hb b0 A0 HB; have J0 := A0; clear hb hg))
 go_loopg [9, 10, 22] k (fun kq v9 T0 d1 w' => ∃ (v0 : List Int) (p0 : List Int) (a0 : Int), d1 = .int .i64 a0 ∧ Aside0 (couple_way_all_by_couple_couple.l0 kq l1 l2 v0 p0 (l1.length : Int) a0 g0 = some (r1, r2, r3)) ∧ Aside0 (kq ≤ k) ∧ Aside0 (Kd.R (Kd.int .i64) 2 w' w.heap.size (fun k_ => no_ k_ T0) v9 v0) ∧ Aside0 (Kd.R (Kd.int .i64) 2 w' w.heap.size (fun k_ => no_ k_ v9) T0 p0) ∧ Aside0 (w'.heap[j0]? = some (.cells #[.int .i64 g0, .func (.func 100) #[] #[]] 101 (0, 0))) ∧ Aside0 (Below w.heap.size w w'))
 case atStart => exact ⟨(([] : List Int)), (([] : List Int)), (0), rs_, H', ⟨Nat.le_refl _⟩, ⟨kn_⟩, ⟨kn_⟩, ⟨bk_ b0⟩, ⟨bl_ HB⟩⟩
 case round => (
 clear H'
 try clear c4
 try clear F0
 try clear G0
 try clear H0
 obtain ⟨v0, p0, a0, rfl, HA, U0, f0, c0, b0, HB⟩ := hrel
 cases gk with
 | zero => exact absurd HA.out (by simp [couple_way_all_by_couple_couple.l0])
 | succ k1 => (
 have H := HA.out
 clear HA
 simp only [couple_way_all_by_couple_couple.l0] at H
 replace H := id_ H
 rcases H with ⟨Y0, H⟩ | ⟨Y0, H⟩
 {
 replace H := gd_ H
 obtain ⟨f1, H⟩ := H
 replace H := gd_ H
 obtain ⟨h1, H⟩ := H
 replace H := gd_ H
 obtain ⟨i1, H⟩ := H
 obtain ⟨⟨y0, z0, I0⟩, V0, H⟩ := ob_ H
 (try dsimp only at H)
 replace H := ie_ H
 rcases H with ⟨K0, L0, H⟩ | ⟨o1, K0, L0, H⟩
 {
 replace H := gt_ H
 obtain ⟨W0, H⟩ := H
 have M0 := a_ W0
 clear W0
 obtain ⟨Z0, q0⟩ : ∃ y_ : List Int, y_ = (v0 ++ [y0]) := ⟨_, rfl⟩
 first | replace H := by_ H q0 | rw [← q0] at H
 have N0 := a_ q0
 clear q0
 replace H := gt_ H
 obtain ⟨X0, H⟩ := H
 have O0 := a_ X0
 clear X0
 obtain ⟨a1, r0⟩ : ∃ y_ : List Int, y_ = (p0 ++ [z0]) := ⟨_, rfl⟩
 first | replace H := by_ H r0 | rw [← r0] at H
 have P0 := a_ r0
 clear r0
 have H' := a_ H
 clear H
 try go_wp2
 replace f0 := a_ (Kd.R_drew f0.out)
 replace c0 := a_ (Kd.R_drew c0.out)
 replace b0 := a_ (blk_drew b0.out)
 replace HB := a_ (below_drew1 HB.out)
 have k0 : 0 ≤ (a0 : Int) := dm_
 have m0 : a0 < (l1.length : Int) := dm_
 obtain ⟨B0, D0, d0⟩ := Kd.at_int R0.out a0 k0 m0
 have h0 := d0
 cases D0
 replace d0 := hc_ HB d0
 replace k0 := eq_true k0
 replace m0 := eq_true m0
 have n0 : 0 ≤ (a0 : Int) := dm_
 have o0 : a0 < (l2.length : Int) := dm_
 obtain ⟨C0, E0, e0⟩ := Kd.at_int S0.out a0 n0 o0
 have i0 := e0
 cases E0
 replace e0 := hc_ HB e0
 replace n0 := eq_true n0
 replace o0 := eq_true o0
 refine start_ (n := 17) (S := fun w' => w'.cell? ⟨j0, 0, none⟩ = some (.int .i64 g0) ∧ w'.cell? ⟨j0, 1, none⟩ = some (.func (.func 100) #[] #[]) ∧ w'.cell? (B0.add (a0).toNat) = some (.int .i64 (rd l1 a0)) ∧ w'.cell? (C0.add (a0).toNat) = some (.int .i64 (rd l2 a0))) (ds := []) (B_ 17 0) kf_ rfl rfl ⟨ce_ b0 0, ce_ b0 1, (hc_ HB h0), (hc_ HB i0)⟩ (fun hHeld => ?_); refine with_tabW couple_way_all_by_couple_couple.tab7 couple_way_all_by_couple_couple.bits7 (fun HT_ HW_ => ?_)
 generalize wr.drew = p1 at f0 c0 b0 HB d0 e0 hHeld ⊢
 refine pu_ 1 (some 27) (B_ 17 2) HT_ ?_
 refine pu_ 2 (some 28) (B_ 17 6) HT_ ?_
 refine pu_ 3 (some 29) (B_ 17 14) HT_ ?_
 refine pu_ 5 (some 31) (B_ 17 46) HT_ ?_
 refine pu_ 6 (some 32) (B_ 17 110) HT_ ?_
 refine pu_ 7 (some 33) (B_ 17 238) HT_ ?_
 refine take_ (i := 0) (N := some 26) (v := ?_) (a' := ?_) (B_ 17 239) rfl rfl (take_ofW HT_.out HW_.out kf_) (fun _ _ _ h => h) (Or.inl ⟨by rfl, ?_⟩) hHeld ?_ ?_
 rotate_left
 {
 rintro w' ⟨s0, s1, s2, s3⟩
 go_simp
 with_reducible rfl}
 rotate_left
 {
 exact sp_}
 refine take_ (i := 4) (N := some 30) (v := ?_) (a' := ?_) (B_ 17 255) rfl rfl (take_ofW HT_.out HW_.out kf_) (fun _ _ _ h => h) (Or.inl ⟨by rfl, ?_⟩) hHeld ?_ ?_
 rotate_left
 {
 rintro w' ⟨s0, s1, s2, s3⟩
 go_simp
 with_reducible rfl}
 rotate_left
 {
 exact sp_}
 refine take_ (i := 8) (N := some 34) (v := ?_) (a' := ?_) (B_ 17 511) rfl rfl (take_ofW HT_.out HW_.out kf_) (fun _ _ _ h => h) (Or.inl ⟨by rfl, ?_⟩) hHeld ?_ ?_
 rotate_left
 {
 rintro w' ⟨s0, s1, s2, s3⟩
 go_simp
 with_reducible rfl}
 rotate_left
 {
 exact sp_}
 refine one_ (i := 9) (N := some 35) (B_ 17 1023) rfl rfl (one_of HT_.out kf_) (by decide) (fun K hK => ?_)
 refine goes_ Try.func94 kf_ rfl #[.agg #[.int .i64 g0, .func (.func 100) #[] #[]], .int .i64 (rd l1 a0), .int .i64 (rd l2 a0)] (by rfl) rfl rfl ar_ ?_
 with_reducible refine (couple_way_one_by_couple_couple.calls k1 g0 (rd l1 a0) (rd l2 a0) y0 z0 I0 _ V0.out).mono ?_
 rintro e q1 ⟨rfl, hb⟩
 refine ⟨_, rfl, ?_⟩
 replace f0 := FR_ f0 hb
 replace c0 := FR_ c0 hb
 replace b0 := FB_ b0 hb
 replace HB := BS_ HB hb
 (try clear hb)
 refine hK.out _ _ ⟨ce_ b0 0, ce_ b0 1, (hc_ HB h0), (hc_ HB i0)⟩ (fun hHeld => ?_)
 clear hK K
 refine norm_ (a' := ?_) ?_ ?_
 rotate_left
 {
 show Act.put _ (some 35) _ = _
 exact sp_}
 refine pu_ 10 (some 25) (B_ 17 2047) HT_ ?_
 refine pu_ 11 (some 36) (B_ 17 4095) HT_ ?_
 refine pu_ 12 (some 37) (B_ 17 8191) HT_ ?_
 refine pu_ 13 (some 38) (B_ 17 16383) HT_ ?_
 refine pu_ 14 (some 12) (B_ 17 32767) HT_ ?_
 refine pu_ 15 (some 13) (B_ 17 65535) HT_ ?_
 refine pu_ 16 (some 14) (B_ 17 131071) HT_ ?_
 refine done_ (done_of HT_.out kf_) ?_
 try go_wp2_with (first | ((with_reducible refine gate_builtin (b := .append) (xs := #[.tmp 42, .tmp 44]) rfl ?_); at_builtin; refine Kd.R_append (Kd.int .i64) (w0 := w) w.heap.size rfl (.tmp 42) (.tmp 44) 53 2 (.int .i64 0) 8 rfl Try.underlying53 info2 rfl (by decide) (by omega) u9 v0 y0 [.int .i64 y0] (fun k_ => no_ k_ u10) (fun _ => False) rfl rfl ?aP (fun _ hk => hk.elim) ?aF ?aO ?aB ?aS ?aL ?_; (case aP => exact rfl); (case aB => exact (bl_ HB)); (case aF => exact (fun k_ hk => Kd.fresh' (Kd.R_lt (kR_ c0)) k_ hk)); (case aO => exact (kR_ f0)); (case aS => exact (bs_ HB)); (case aL => have := M0.out; omega); intro b1 t1 ho hb hg hat; rw [← N0.out] at ho; replace c0 := a_ (Kd.R_after (ok := (fun _ => True)) (by (with_reducible repeat (first | apply Kd.R_alloc | apply Kd.R_drewN | apply Kd.R_drew)); exact Kd.R_mono c0.out (fun _ hk => ⟨trivial, hk⟩)) hg hat); replace b0 := (FG_ b0 hg (Kd.R_ne f0.out b0.out (by decide))); replace HB := a_ (hb); have t0 := a_ (ho); clear f0; clear ho hb hg hat) | ((with_reducible refine gate_builtin (b := .append) (xs := #[.tmp 46, .tmp 48]) rfl ?_); at_builtin; refine Kd.R_append (Kd.int .i64) (w0 := w) w.heap.size rfl (.tmp 46) (.tmp 48) 53 2 (.int .i64 0) 8 rfl Try.underlying53 info2 rfl (by decide) (by omega) u10 p0 z0 [.int .i64 z0] (fun k_ => no_ k_ b1) (fun _ => False) rfl rfl ?aP (fun _ hk => hk.elim) ?aF ?aO ?aB ?aS ?aL ?_; (case aP => exact rfl); (case aB => exact (bl_ HB)); (case aF => exact (fun k_ hk => Kd.fresh' (Kd.R_lt (kR_ t0)) k_ hk)); (case aO => exact (by (with_reducible repeat (first | apply Kd.R_alloc | apply Kd.R_drewN | apply Kd.R_drew)); exact Kd.R_mono c0.out (fun _ hk => hk.2))); (case aS => exact (bs_ HB)); (case aL => have := O0.out; omega); intro j1 v1 ho hb hg hat; rw [← P0.out] at ho; replace b0 := (FG_ b0 hg (Kd.R_ne c0.out b0.out (by decide))); replace t0 := a_ (Kd.R_after (ok := (fun _ => True)) (by (with_reducible repeat (first | apply Kd.R_alloc | apply Kd.R_drewN | apply Kd.R_drew)); exact Kd.R_mono t0.out (fun _ hk => ⟨trivial, hk⟩)) hg hat); replace HB := a_ (hb); have Q0 := a_ (ho); clear c0; clear ho hb hg hat))
 go_roundg k1
 case measure => have := U0.out; omega
 case rel => exact ⟨(Z0), (a1), (wrap64 (a0 + 1)), rs_, H', ⟨by have := U0.out; omega⟩, ⟨by (with_reducible repeat (first | apply Kd.R_alloc | apply Kd.R_drewN | apply Kd.R_drew)); exact Kd.R_mono t0.out (fun _ hk => hk.2)⟩, ⟨kR_ Q0⟩, ⟨bk_ b0⟩, ⟨bl_ HB⟩⟩}
 {
 simp only [Option.some.injEq, Prod.mk.injEq] at H
 obtain ⟨rfl, rfl, rfl⟩ := H
 try go_wp2
 replace f0 := a_ (Kd.R_drew f0.out)
 replace c0 := a_ (Kd.R_drew c0.out)
 replace b0 := a_ (blk_drew b0.out)
 replace HB := a_ (below_drew1 HB.out)
 have k0 : 0 ≤ (a0 : Int) := dm_
 have m0 : a0 < (l1.length : Int) := dm_
 obtain ⟨B0, D0, d0⟩ := Kd.at_int R0.out a0 k0 m0
 have h0 := d0
 cases D0
 replace d0 := hc_ HB d0
 replace k0 := eq_true k0
 replace m0 := eq_true m0
 have n0 : 0 ≤ (a0 : Int) := dm_
 have o0 : a0 < (l2.length : Int) := dm_
 obtain ⟨C0, E0, e0⟩ := Kd.at_int S0.out a0 n0 o0
 have i0 := e0
 cases E0
 replace e0 := hc_ HB e0
 replace n0 := eq_true n0
 replace o0 := eq_true o0
 refine start_ (n := 17) (S := fun w' => w'.cell? ⟨j0, 0, none⟩ = some (.int .i64 g0) ∧ w'.cell? ⟨j0, 1, none⟩ = some (.func (.func 100) #[] #[]) ∧ w'.cell? (B0.add (a0).toNat) = some (.int .i64 (rd l1 a0)) ∧ w'.cell? (C0.add (a0).toNat) = some (.int .i64 (rd l2 a0))) (ds := []) (B_ 17 0) kf_ rfl rfl ⟨ce_ b0 0, ce_ b0 1, (hc_ HB h0), (hc_ HB i0)⟩ (fun hHeld => ?_); refine with_tabW couple_way_all_by_couple_couple.tab7 couple_way_all_by_couple_couple.bits7 (fun HT_ HW_ => ?_)
 generalize wr.drew = y1 at f0 c0 b0 HB d0 e0 hHeld ⊢
 refine pu_ 1 (some 27) (B_ 17 2) HT_ ?_
 refine pu_ 2 (some 28) (B_ 17 6) HT_ ?_
 refine pu_ 3 (some 29) (B_ 17 14) HT_ ?_
 refine pu_ 5 (some 31) (B_ 17 46) HT_ ?_
 refine pu_ 6 (some 32) (B_ 17 110) HT_ ?_
 refine pu_ 7 (some 33) (B_ 17 238) HT_ ?_
 refine take_ (i := 0) (N := some 26) (v := ?_) (a' := ?_) (B_ 17 239) rfl rfl (take_ofW HT_.out HW_.out kf_) (fun _ _ _ h => h) (Or.inl ⟨by rfl, ?_⟩) hHeld ?_ ?_
 rotate_left
 {
 rintro w' ⟨s0, s1, s2, s3⟩
 go_simp
 with_reducible rfl}
 rotate_left
 {
 exact sp_}
 refine take_ (i := 4) (N := some 30) (v := ?_) (a' := ?_) (B_ 17 255) rfl rfl (take_ofW HT_.out HW_.out kf_) (fun _ _ _ h => h) (Or.inl ⟨by rfl, ?_⟩) hHeld ?_ ?_
 rotate_left
 {
 rintro w' ⟨s0, s1, s2, s3⟩
 go_simp
 with_reducible rfl}
 rotate_left
 {
 exact sp_}
 refine take_ (i := 8) (N := some 34) (v := ?_) (a' := ?_) (B_ 17 511) rfl rfl (take_ofW HT_.out HW_.out kf_) (fun _ _ _ h => h) (Or.inl ⟨by rfl, ?_⟩) hHeld ?_ ?_
 rotate_left
 {
 rintro w' ⟨s0, s1, s2, s3⟩
 go_simp
 with_reducible rfl}
 rotate_left
 {
 exact sp_}
 refine one_ (i := 9) (N := some 35) (B_ 17 1023) rfl rfl (one_of HT_.out kf_) (by decide) (fun K hK => ?_)
 refine goes_ Try.func94 kf_ rfl #[.agg #[.int .i64 g0, .func (.func 100) #[] #[]], .int .i64 (rd l1 a0), .int .i64 (rd l2 a0)] (by rfl) rfl rfl ar_ ?_
 with_reducible refine (couple_way_one_by_couple_couple.calls k1 g0 (rd l1 a0) (rd l2 a0) y0 z0 I0 _ V0.out).mono ?_
 rintro e z1 ⟨rfl, hb⟩
 refine ⟨_, rfl, ?_⟩
 replace f0 := FR_ f0 hb
 replace c0 := FR_ c0 hb
 replace b0 := FB_ b0 hb
 replace HB := BS_ HB hb
 (try clear hb)
 refine hK.out _ _ ⟨ce_ b0 0, ce_ b0 1, (hc_ HB h0), (hc_ HB i0)⟩ (fun hHeld => ?_)
 clear hK K
 refine norm_ (a' := ?_) ?_ ?_
 rotate_left
 {
 show Act.put _ (some 35) _ = _
 exact sp_}
 refine pu_ 10 (some 25) (B_ 17 2047) HT_ ?_
 refine pu_ 11 (some 36) (B_ 17 4095) HT_ ?_
 refine pu_ 12 (some 37) (B_ 17 8191) HT_ ?_
 refine pu_ 13 (some 38) (B_ 17 16383) HT_ ?_
 refine pu_ 14 (some 12) (B_ 17 32767) HT_ ?_
 refine pu_ 15 (some 13) (B_ 17 65535) HT_ ?_
 refine pu_ 16 (some 14) (B_ 17 131071) HT_ ?_
 refine done_ (done_of HT_.out kf_) ?_
 try go_wp2
 go_ret3
 exact ⟨_, _, er_, kn_, kn_, bl_ HB⟩}}
 {
 simp only [Option.some.injEq, Prod.mk.injEq] at H
 obtain ⟨rfl, rfl, rfl⟩ := H
 go_wp2
 go_ret3
 exact ⟨_, _, er_, kR_ f0, kR_ c0, bl_ HB⟩}))}
 {
 have F0 : ((l1.length : Int) == (l2.length : Int)) = false := beq_eq_false_iff_ne.mpr c4
 have G0 : ((l1.length : Int) != (l2.length : Int)) = true := bne_iff_ne.mpr c4
 have H0 : (l1.length == l2.length) = false := by first | simpa using c4 | (simp at c4 ⊢; omega)
 simp only [Option.some.injEq, Prod.mk.injEq] at H
 obtain ⟨rfl, rfl, rfl⟩ := H
 go_enter Try.func67, Try.ntmps67
 go_wp2_with (first | ((with_reducible refine gate_dst (N := 3) rfl ?_); refine bx_ HB 3 #[.int .i64 g0, .func (.func 100) #[] #[]] 101 ?_; clear HB; intro j0 hg B1 hb b0 A0 HB; have J0 := A0; clear hb hg))
 go_ret3
 exact ⟨_, _, er_, kn_, kn_, bl_ HB⟩}
def couple_CoupleAll.f (k : Nat) (l0 : List Int) (l1 : List Int) : Option (List Int × List Int × Int) := (couple_coupling.f).bind fun b0 => ((couple_way_all_by_couple_couple.f k b0 l0 l1).bind fun a0 => (some (a0.1, a0.2.1, a0.2.2)))
theorem couple_CoupleAll.mono : ∀ a0 a1 k, LeO (couple_CoupleAll.f k a0 a1) (couple_CoupleAll.f (k + 1) a0 a1) := by
  intro a0 a1 k
  unfold couple_CoupleAll.f
  with_reducible repeat' first
   | apply couple_way_all_by_couple_couple.mono
   | exact LeO.refl _
   | exact LeO.none _
   | refine LeO.ite ?_ ?_
   | refine LeO.bind ?_ (fun _ => ?_)
set_option maxHeartbeats 8000000 in
set_option maxRecDepth 100000 in
theorem couple_CoupleAll.calls (k : Nat) (A0 : Option Addr) (c0 : Nat) (l0 : List Int) (A1 : Option Addr) (c1 : Nat) (l1 : List Int) (r1 : List Int) (r2 : List Int) (r3 : Int) (w : World) (hr0 : Kd.C (Kd.int .i64) w A0 l0.length l0) (hc0 : l0.length ≤ c0) (hr1 : Kd.C (Kd.int .i64) w A1 l1.length l1) (hc1 : l1.length ≤ c1) (h : couple_CoupleAll.f k l0 l1 = some (r1, r2, r3)) :
    Calls Try.prog 40 #[.slice A0 l0.length c0, .slice A1 l1.length c1] w fun e w' => ∃ v0_ v1_ : Value, e = .returned (.tuple #[v0_, v1_, .int .i64 r3]) ∧ Kd.R (Kd.int .i64) 2 w' w.heap.size (fun k_ => no_ k_ v1_) v0_ r1 ∧ Kd.R (Kd.int .i64) 2 w' w.heap.size (fun k_ => no_ k_ v0_) v1_ r2 ∧ Below w.heap.size w w' := by
 have k0 := a_ hr0
 have m0 := a_ hc0
 clear hr0 hc0
 have n0 := a_ hr1
 have o0 := a_ hc1
 clear hr1 hc1
 have HB := a_ (Below.refl w.heap.size w)
 have H : ((couple_coupling.f).bind fun a0 => ((couple_way_all_by_couple_couple.f k a0 l0 l1).bind fun b0 => (some (b0.1, b0.2.1, b0.2.2)))) = some (r1, r2, r3) := h
 clear h
 obtain ⟨a0, A3, H⟩ := ob_ H
 (try dsimp only at H)
 obtain ⟨⟨h0, i0, j0⟩, A4, H⟩ := ob_ H
 (try dsimp only at H)
 simp only [Option.some.injEq, Prod.mk.injEq] at H
 obtain ⟨rfl, rfl, rfl⟩ := H
 go_enter Try.func40, Try.ntmps40
 go_wp2_with (first | ((with_reducible refine gate_callee (f := 78) rfl ?_); refine gL_ (some 7) Try.func78 #[] ?_; (with_reducible refine (couple_coupling.calls  a0 _ A3.out).mono ?_); rintro e w5 ⟨rfl, hb⟩; refine ⟨_, rfl, ?_⟩; replace HB := BS_ HB hb; (try clear hb)) | ((with_reducible refine gate_callee (f := 67) rfl ?_); refine gL_ (some 10) Try.func67 #[.agg #[.int .i64 a0, .func (.func 100) #[] #[]], .slice A0 l0.length c0, .slice A1 l1.length c1] ?_; (with_reducible refine (couple_way_all_by_couple_couple.calls k a0 _ _ l0 _ _ l1 h0 i0 j0 _ ?side1 ?side2 ?side3 ?side4 A4.out).mono ?_); (case side1 => exact kC_ k0 HB); (case side2 => exact m0.out); (case side3 => exact kC_ n0 HB); (case side4 => exact o0.out); rintro e w6 ⟨p0, q0, rfl, f0, g0, hb⟩; refine ⟨_, rfl, ?_⟩; have d0 := a_ (Kd.R_lower f0 (bs_ HB)); have e0 := a_ (Kd.R_lower g0 (bs_ HB)); replace HB := BS_ HB hb; (try clear hb); (try clear f0); (try clear g0)))
 go_ret3
 exact ⟨_, _, er_, kR_ d0, kR_ e0, bl_ HB⟩
def vcodec_Encode.l0 : Nat → List (List Int) → Int → Int → Int → Int → List Int → List Int → List (List Int) → List (List Int) → Option ((List (List Int)) × (List (List Int)) × Int)
  | 0, _, _, _, _, _, _, _, _, _ => none
  | k + 1, h0, k0, g0, c0, d0, e0, f0, b0, a0 => if g0 < k0 then (if 0 ≤ g0 then (if g0 < (h0.length : Int) then ((vcodec_codec_posts.f k c0 d0 e0 f0 (rd_L2 h0 g0)).bind fun m0 => ((floor_Floor.f k m0).bind fun r0 => ((remap_Quantize.f k (rd_L2 h0 g0) r0.1).bind fun i0 => ((vcodec_silent.f k i0.1).bind fun s0 => (if s0 = true then ((some (([([] : List Int)] : List (List Int)) : List (List Int))).bind fun n0 => (if b0.length + n0.length < 5864062014805 then ((some (([([] : List Int)] : List (List Int)) : List (List Int))).bind fun o0 => (if a0.length + o0.length < 5864062014805 then (vcodec_Encode.l0 k h0 k0 (wrap64 (g0 + 1)) c0 d0 e0 f0 (b0 ++ n0) (a0 ++ o0)) else (none))) else (none))) else ((some (([m0] : List (List Int)) : List (List Int))).bind fun p0 => (if b0.length + p0.length < 5864062014805 then ((some (([i0.1] : List (List Int)) : List (List Int))).bind fun q0 => (if a0.length + q0.length < 5864062014805 then (vcodec_Encode.l0 k h0 k0 (wrap64 (g0 + 1)) c0 d0 e0 f0 (b0 ++ p0) (a0 ++ q0)) else (none))) else (none)))))))) else (none)) else (none)) else ((vcodec_codec_both.f c0 d0 e0 f0 b0).bind fun t0 => (if t0 = true then (if 0 < (a0.length : Int) then (if 1 < (a0.length : Int) then ((couple_CoupleAll.f k (rd_L2 a0 0) (rd_L2 a0 1)).bind fun j0 => (some (b0, ((a0.set (0 : Int).toNat j0.1).set (1 : Int).toNat j0.2.1), 0))) else (none)) else (none)) else (some (b0, a0, 0))))
def vcodec_Encode.f (k : Nat) (b0 : Int) (c0 : Int) (d0 : List Int) (e0 : List Int) (a0 : List (List Int)) : Option ((List (List Int)) × (List (List Int)) × Int) := (vcodec_Right.f k b0 c0 d0 e0 a0).bind fun f0 => (if f0 = true then (vcodec_Encode.l0 k a0 (a0.length : Int) 0 b0 c0 d0 e0 ([] : List (List Int)) ([] : List (List Int))) else (some (([] : List (List Int)), ([] : List (List Int)), 1)))
theorem vcodec_Encode.mono_l : ∀ k, (∀ y0 y1 y2 y3 y4 y5 y6 y7 y8, LeO (vcodec_Encode.l0 k y0 y1 y2 y3 y4 y5 y6 y7 y8) (vcodec_Encode.l0 (k + 1) y0 y1 y2 y3 y4 y5 y6 y7 y8))
  | 0 => fun _ _ _ _ _ _ _ _ _ r h => by simp [vcodec_Encode.l0] at h
  | k + 1 => by
    have a0 := vcodec_Encode.mono_l k
    · intro y0 y1 y2 y3 y4 y5 y6 y7 y8
      unfold vcodec_Encode.l0
      with_reducible repeat' first
   | apply a0
   | apply couple_CoupleAll.mono
   | apply floor_Floor.mono
   | apply remap_Quantize.mono
   | apply vcodec_Right.mono
   | apply vcodec_codec_posts.mono
   | apply vcodec_silent.mono
   | exact LeO.refl _
   | exact LeO.none _
   | refine LeO.ite ?_ ?_
   | refine LeO.bind ?_ (fun _ => ?_)
theorem vcodec_Encode.mono : ∀ a0 a1 a2 a3 a4 k, LeO (vcodec_Encode.f k a0 a1 a2 a3 a4) (vcodec_Encode.f (k + 1) a0 a1 a2 a3 a4) := by
  intro a0 a1 a2 a3 a4 k
  have b0 := vcodec_Encode.mono_l k
  unfold vcodec_Encode.f
  with_reducible repeat' first
   | apply b0
   | apply couple_CoupleAll.mono
   | apply floor_Floor.mono
   | apply remap_Quantize.mono
   | apply vcodec_Right.mono
   | apply vcodec_codec_posts.mono
   | apply vcodec_silent.mono
   | exact LeO.refl _
   | exact LeO.none _
   | refine LeO.ite ?_ ?_
   | refine LeO.bind ?_ (fun _ => ?_)
def vcodec_Encode.T13 : Bool × List (List Nat × List Nat) := (true, [([], []), ([0], [0]), ([], []), ([2], [2]), ([1, 3], [1, 3]), ([], []), ([5], [5]), ([], []), ([7], [7]), ([6, 8, 4], [6, 8]), ([0, 1, 2, 3, 4, 5, 6], []), ([10, 4, 9, 0, 1, 2, 3, 4, 5, 6], [4, 10]), ([0, 1, 2, 3, 4, 5, 6, 7, 8, 9, 10, 11], []), ([12, 9, 11, 0, 1, 2, 3, 4, 5, 6, 7, 8, 9, 10, 11], [9, 12])])
def vcodec_Encode.B13 : List Nat := [0, 1, 0, 4, 15, 0, 32, 0, 128, 511, 127, 2047, 4095, 8191]
theorem vcodec_Encode.tab13 : rtab .any (opsOf Try.f15 13) = vcodec_Encode.T13 := by kernel_rfl
theorem vcodec_Encode.bits13 : waitsOk vcodec_Encode.T13.2 vcodec_Encode.B13 = true := by kernel_rfl
def vcodec_Encode.T16 : Bool × List (List Nat × List Nat) := (true, [([], []), ([0], [0]), ([], []), ([2], [2]), ([], []), ([4], [4]), ([5], [5]), ([6], [6]), ([], []), ([8], [8]), ([9], [9]), ([10], [10]), ([7, 11], [7, 11]), ([12], [12]), ([13], [13]), ([13], [13]), ([13], [13]), ([1, 0, 1, 4, 5, 6, 7, 8, 9, 10, 11, 12, 13, 14], [1]), ([17, 14, 12, 0, 1, 4, 5, 6, 7, 8, 9, 10, 11, 12, 13, 14], [14, 17]), ([3, 0, 1, 2, 3, 4, 5, 6, 7, 8, 9, 10, 11, 12, 13, 14, 15, 17, 18], [3]), ([19, 15, 18, 0, 1, 2, 3, 4, 5, 6, 7, 8, 9, 10, 11, 12, 13, 14, 15, 17, 18], [15, 19])])
def vcodec_Encode.B16 : List Nat := [0, 1, 0, 4, 0, 16, 48, 112, 0, 256, 768, 1792, 4080, 8176, 16368, 16368, 16368, 32755, 163827, 458751, 983039]
theorem vcodec_Encode.tab16 : rtab .any (opsOf Try.f15 16) = vcodec_Encode.T16 := by kernel_rfl
theorem vcodec_Encode.bits16 : waitsOk vcodec_Encode.T16.2 vcodec_Encode.B16 = true := by kernel_rfl
set_option maxHeartbeats 8000000 in
set_option maxRecDepth 100000 in
theorem vcodec_Encode.calls (k : Nat) (A0 : Int) (B0 : Int) (F0 : Option Addr) (G0 : Nat) (y0 : List Int) (H0 : Option Addr) (I0 : Nat) (z0 : List Int) (s2 : Option Addr) (b1 : Nat) (N0 : List (List Int)) (r1 : List (List Int)) (r2 : List (List Int)) (r3 : Int) (w : World) (hr0_2 : Kd.C (Kd.int .i64) w F0 y0.length y0) (hc0_2 : y0.length ≤ G0) (hr0_3 : Kd.C (Kd.int .i64) w H0 z0.length z0) (hc0_3 : z0.length ≤ I0) (hr1_0 : Kd.C (Kd.slice 2 (Kd.int .i64)) w s2 N0.length N0) (hc1_0 : N0.length ≤ b1) (h : vcodec_Encode.f k A0 B0 y0 z0 N0 = some (r1, r2, r3)) :
    Calls Try.prog 15 #[.agg #[.int .i64 A0, .int .i64 B0, .slice F0 y0.length G0, .slice H0 z0.length I0], .agg #[.slice s2 N0.length b1]] w fun e w' => ∃ v0_ v1_ : Value, e = .returned (.tuple #[.agg #[v0_, v1_], .int .i64 r3]) ∧ Kd.N (Kd.slice 3 (Kd.int .i64)) 22 w' w.heap.size (fun k_ => (w.heap.size ≤ k_) ∧ no_ k_ v1_) v0_ r1 ∧ Kd.N (Kd.slice 2 (Kd.int .i64)) 53 w' w.heap.size (fun k_ => (w.heap.size ≤ k_) ∧ no_ k_ v0_) v1_ r2 ∧ Below w.heap.size w w' := by
 have x9 := Try.underlying24
 have y9 := Try.underlying37
 have z9 := Try.underlying28
 have A9 := Try.underlying61
 have B2 := a_ hr0_2
 have C2 := a_ hc0_2
 clear hr0_2 hc0_2
 have D2 := a_ hr0_3
 have E2 := a_ hc0_3
 clear hr0_3 hc0_3
 have R2 := a_ hr1_0
 have g4 := a_ hc1_0
 clear hr1_0 hc1_0
 have HB := a_ (Below.refl w.heap.size w)
 have H : ((vcodec_Right.f k A0 B0 y0 z0 N0).bind fun X4 => (if X4 = true then (vcodec_Encode.l0 k N0 (N0.length : Int) 0 A0 B0 y0 z0 ([] : List (List Int)) ([] : List (List Int))) else (some (([] : List (List Int)), ([] : List (List Int)), 1)))) = some (r1, r2, r3) := h
 clear h
 obtain ⟨X4, A3, H⟩ := ob_ H
 (try dsimp only at H)
 replace H := ib_ H
 rcases H with ⟨rfl, H⟩ | ⟨rfl, H⟩
 {
 have H' := a_ H
 clear H
 go_enter Try.func15, Try.ntmps15
 go_wp2_with (first | ((with_reducible refine gate_dst (N := 2) rfl ?_); refine bx_ HB 2 #[.int .i64 A0, .int .i64 B0, .slice F0 y0.length G0, .slice H0 z0.length I0] 24 ?_; clear HB; intro m0 hg w5 hb g0 S2 HB; have s5 := S2; clear hb hg) | ((with_reducible refine gate_dst (N := 3) rfl ?_); refine bx_ HB 3 #[.slice s2 N0.length b1] 37 ?_; clear HB; intro n0 hg w6 hb h0 T2 HB; have t5 := T2; obtain ⟨t2, v2⟩ := NN_ g0 hg; replace g0 := FB_ g0 hb; clear hb hg) | ((with_reducible refine gate_dst (N := 4) rfl ?_); refine bx_ HB 4 #[.slice none 0 0, .slice none 0 0] 28 ?_; clear HB; intro i0 hg w7 hb j0 U2 HB; have v5 := U2; obtain ⟨S1, T1⟩ := NN_ g0 hg; replace g0 := FB_ g0 hb; obtain ⟨U1, V1⟩ := NN_ h0 hg; replace h0 := FB_ h0 hb; clear hb hg; have B9 := t2.out; have C9 := v2.out; have D9 := S1.out; have E9 := T1.out; obtain ⟨s4, t4, v4, w4, x4, y4, z4, A4⟩ := e4_ g0; have F8 := U1.out; have G8 := V1.out; obtain ⟨B4, C4⟩ := e1_ h0) | ((with_reducible refine gate_callee (f := 16) rfl ?_); refine gL_ (some 17) Try.func16 #[.agg #[.int .i64 A0, .int .i64 B0, .slice F0 y0.length G0, .slice H0 z0.length I0], .agg #[.slice s2 N0.length b1]] ?_; (with_reducible refine (vcodec_Right.calls k A0 B0 _ _ y0 _ _ z0 _ _ N0 true _ ?side1 ?side2 ?side3 ?side4 ?side5 ?side6 A3.out).mono ?_); (case side1 => exact kC_ B2 HB); (case side2 => exact C2.out); (case side3 => exact kC_ D2 HB); (case side4 => exact E2.out); (case side5 => exact kC_ R2 HB); (case side6 => exact g4.out); rintro e R9 ⟨rfl, hb⟩; refine ⟨_, rfl, ?_⟩; replace g0 := FB_ g0 hb; replace h0 := FB_ h0 hb; replace j0 := FB_ j0 hb; replace HB := BS_ HB hb; (try clear hb); obtain ⟨D4, E4, F4, G4, H4, I4, J4, K4⟩ := e4_ g0) | ((with_reducible refine gate_dst (N := 6) rfl ?_); refine bx_ HB 6 #[.int .i64 0, .int .i64 0, .slice none 0 0, .slice none 0 0] 61 ?_; clear HB; intro o0 hg S9 hb k0 h4 HB; have H8 := h4; obtain ⟨W1, X1⟩ := NN_ g0 hg; replace g0 := FB_ g0 hb; obtain ⟨Y1, Z1⟩ := NN_ h0 hg; replace h0 := FB_ h0 hb; obtain ⟨a2, b2⟩ := NN_ j0 hg; replace j0 := FB_ j0 hb; clear hb hg; have I8 := X1.out; have J8 := W1.out; have K8 := Z1.out; have L8 := Y1.out; have M8 := b2.out; have N8 := a2.out; obtain ⟨L4, M4, N4, O4, P4, Q4, R4, S4⟩ := e4_ k0) | ((with_reducible refine gate_dst (N := 7) rfl ?_); refine bx_ HB 7 #[.slice none 0 0, .slice none 0 0] 28 ?_; clear HB; intro f0 hg T9 hb e0 i4 HB; have O8 := i4; obtain ⟨N1, O1⟩ := NN_ g0 hg; replace g0 := FB_ g0 hb; obtain ⟨C1, D1⟩ := NN_ h0 hg; replace h0 := FB_ h0 hb; obtain ⟨P1, Q1⟩ := NN_ j0 hg; replace j0 := FB_ j0 hb; obtain ⟨q1, t1⟩ := NP_ (.cells #[.int .i64 A0, .int .i64 B0, .slice F0 y0.length G0, .slice H0 z0.length I0] 61 (0, 0)) k0 hg; replace k0 := a_ (blk_below (g := o0) (o := .cells #[.int .i64 A0, .int .i64 B0, .slice F0 y0.length G0, .slice H0 z0.length I0] 61 (0, 0)) (bp_ k0) hb); clear hb hg; have P8 := C1.out; have Q8 := D1.out; obtain ⟨T4, U4⟩ := e1_ h0))
 go_loopg [25] k (fun kq Q7 w' => ∃ (j1 : Int) (d0 : List (List Int)) (a0 : List (List Int)) (F2 : Value) (G2 : Value), Q7 = .int .i64 j1 ∧ Aside0 (vcodec_Encode.l0 kq N0 (N0.length : Int) j1 A0 B0 y0 z0 d0 a0 = some (r1, r2, r3)) ∧ Aside0 (kq ≤ k) ∧ Aside0 (Kd.N (Kd.slice 3 (Kd.int .i64)) 22 w' w.heap.size (fun k_ => (w.heap.size ≤ k_) ∧ no_ k_ G2 ∧ k_ ≠ m0 ∧ k_ ≠ n0 ∧ k_ ≠ i0 ∧ k_ ≠ o0 ∧ k_ ≠ f0) F2 d0) ∧ Aside0 (Kd.N (Kd.slice 2 (Kd.int .i64)) 53 w' w.heap.size (fun k_ => (w.heap.size ≤ k_) ∧ no_ k_ F2 ∧ k_ ≠ m0 ∧ k_ ≠ n0 ∧ k_ ≠ i0 ∧ k_ ≠ o0 ∧ k_ ≠ f0) G2 a0) ∧ Aside0 (w'.heap[m0]? = some (.cells #[.int .i64 A0, .int .i64 B0, (.slice F0 y0.length G0), (.slice H0 z0.length I0)] 24 (0, 0))) ∧ Aside0 (w'.heap[n0]? = some (.cells #[(.slice s2 N0.length b1)] 37 (0, 0))) ∧ Aside0 (w'.heap[i0]? = some (.cells #[(.slice none 0 0), (.slice none 0 0)] 28 (0, 0))) ∧ Aside0 (w'.heap[o0]? = some (.cells #[.int .i64 A0, .int .i64 B0, (.slice F0 y0.length G0), (.slice H0 z0.length I0)] 61 (0, 0))) ∧ Aside0 (w'.heap[f0]? = some (.cells #[F2, G2] 28 (0, 0))) ∧ Aside0 (Below w.heap.size w w'))
 case atStart => exact ⟨(0), (([] : List (List Int))), (([] : List (List Int))), (.slice none 0 0), (.slice none 0 0), rs_, H', ⟨Nat.le_refl _⟩, ⟨kn_⟩, ⟨kn_⟩, ⟨bk_ g0⟩, ⟨bk_ h0⟩, ⟨bk_ j0⟩, ⟨bk_ k0⟩, ⟨bk_ e0⟩, ⟨bl_ HB⟩⟩
 case round => (
 clear H'
 try clear c4
 try clear s4 t4 v4 w4 x4 y4 z4 A4
 try clear B4 C4
 try clear D4 E4 F4 G4 H4 I4 J4 K4
 try clear L4 M4 N4 O4 P4 Q4 R4 S4
 try clear T4 U4
 obtain ⟨j1, d0, a0, F2, G2, rfl, HA, j4, c0, b0, g0, h0, j0, k0, e0, HB⟩ := hrel
 cases gk with
 | zero => exact absurd HA.out (by simp [vcodec_Encode.l0])
 | succ k1 => (
 have H := HA.out
 clear HA
 simp only [vcodec_Encode.l0] at H
 replace H := id_ H
 rcases H with ⟨x5, H⟩ | ⟨x5, H⟩
 {
 replace H := gd_ H
 obtain ⟨R8, H⟩ := H
 replace H := gd_ H
 obtain ⟨S8, H⟩ := H
 obtain ⟨C0, I5, H⟩ := ob_ H
 (try dsimp only at H)
 obtain ⟨⟨q0, Y4⟩, J5, H⟩ := ob_ H
 (try dsimp only at H)
 obtain ⟨⟨v0, Z4⟩, K5, H⟩ := ob_ H
 (try dsimp only at H)
 obtain ⟨F9, L5, H⟩ := ob_ H
 (try dsimp only at H)
 replace H := ib_ H
 rcases H with ⟨rfl, H⟩ | ⟨rfl, H⟩
 {
 obtain ⟨J1, V2⟩ : ∃ y_ : List (List Int), y_ = (([([] : List Int)] : List (List Int))) := ⟨_, rfl⟩
 first | replace H := by_ H V2 | rw [← V2] at H
 have W2 := a_ V2
 clear V2
 replace H := gt_ H
 obtain ⟨M5, H⟩ := H
 have G3 := a_ M5
 clear M5
 obtain ⟨j3, X2⟩ : ∃ y_ : List (List Int), y_ = (d0 ++ J1) := ⟨_, rfl⟩
 first | replace H := by_ H X2 | rw [← X2] at H
 have H3 := a_ X2
 clear X2
 obtain ⟨k3, Y2⟩ : ∃ y_ : List (List Int), y_ = (([([] : List Int)] : List (List Int))) := ⟨_, rfl⟩
 first | replace H := by_ H Y2 | rw [← Y2] at H
 have H2 := a_ Y2
 clear Y2
 replace H := gt_ H
 obtain ⟨N5, H⟩ := H
 have y5 := a_ N5
 clear N5
 obtain ⟨I3, Z2⟩ : ∃ y_ : List (List Int), y_ = (a0 ++ k3) := ⟨_, rfl⟩
 first | replace H := by_ H Z2 | rw [← Z2] at H
 have z5 := a_ Z2
 clear Z2
 have H' := a_ H
 clear H
 have J2 : 0 ≤ (j1 : Int) := dm_
 have K2 : j1 < (N0.length : Int) := dm_
 obtain ⟨c1, w2, y2, V3, i2, j2, k2⟩ := at_L2 R2.out j1 J2 K2
 cases V3
 replace i2 := hc_ HB i2
 have l2 := a_ k2
 have m2 := a_ j2
 clear k2 j2
 replace J2 := eq_true J2
 replace K2 := eq_true K2
 have T8 := X1.out
 have U8 := W1.out
 have V8 := Z1.out
 have W8 := Y1.out
 have X8 := b2.out
 have Y8 := a2.out
 have Z8 := q1.out
 have a9 := t1.out
 obtain ⟨A7, B7, C7, D7, E7, F7, G7, H7⟩ := e4_ k0
 try go_wp2_with (first | ((with_reducible refine gate_callee (f := 37) rfl ?_); refine gL_ (some 31) Try.func37 #[.agg #[.int .i64 A0, .int .i64 B0, .slice F0 y0.length G0, .slice H0 z0.length I0], .slice w2 (rd_L2 N0 j1).length y2] ?_; (with_reducible refine (vcodec_codec_posts.calls k1 A0 B0 _ _ y0 _ _ z0 _ _ (rd_L2 N0 j1) C0 _ ?side1 ?side2 ?side3 ?side4 ?side5 ?side6 I5.out).mono ?_); (case side1 => exact kC_ B2 HB); (case side2 => exact C2.out); (case side3 => exact kC_ D2 HB); (case side4 => exact E2.out); (case side5 => exact kC_ l2 HB); (case side6 => exact m2.out); rintro e U9 ⟨b6, rfl, a1, hb⟩; refine ⟨_, rfl, ?_⟩; replace c0 := a_ (Kd.N_elder' (kN_ c0) (Kd.R_base a1) hb); replace b0 := a_ (Kd.N_elder' (kN_ b0) (Kd.R_base a1) hb); have r0 := a_ (Kd.R_lower (Kd.R_newM (M := fun k_ => (w.heap.size ≤ k_)) a1 (bs_ HB) (fun k_ h_ => h_)) (bs_ HB)); replace g0 := FB_ g0 hb; replace h0 := FB_ h0 hb; replace j0 := FB_ j0 hb; replace k0 := FB_ k0 hb; replace e0 := FB_ e0 hb; replace HB := BS_ HB hb; (try clear hb); (try clear a1); obtain ⟨S0, T0, c6⟩ := Kd.R_slice r0.out; subst c6) | ((with_reducible refine gate_callee (f := 34) rfl ?_); refine gL_ (some 34) Try.func34 #[.slice S0 C0.length T0] ?_; (with_reducible refine (floor_Floor.calls k1 _ _ C0 q0 Y4 _ ?side1 ?side2 J5.out).mono ?_); (case side1 => exact kCt_ (Kd.R_reads' r0.out).2.2); (case side2 => exact (Kd.R_reads' r0.out).2.1); rintro e V9 ⟨d6, rfl, a1, hb⟩; refine ⟨_, rfl, ?_⟩; replace c0 := a_ (Kd.N_elder' (kN_ c0) (Kd.R_base a1) hb); replace b0 := a_ (Kd.N_elder' (kN_ b0) (Kd.R_base a1) hb); replace r0 := FR_ r0 hb; have p0 := a_ (Kd.R_lower (Kd.R_newM (M := fun k_ => (w.heap.size ≤ k_)) a1 (bs_ HB) (fun k_ h_ => h_)) (bs_ HB)); replace g0 := FB_ g0 hb; replace h0 := FB_ h0 hb; replace j0 := FB_ j0 hb; replace k0 := FB_ k0 hb; replace e0 := FB_ e0 hb; replace HB := BS_ HB hb; (try clear hb); (try clear a1); obtain ⟨O0, P0, e6⟩ := Kd.R_slice p0.out; subst e6) | ((with_reducible refine gate_callee (f := 38) rfl ?_); refine gL_ (some 40) Try.func38 #[.slice w2 (rd_L2 N0 j1).length y2, .slice O0 q0.length P0] ?_; (with_reducible refine (remap_Quantize.calls k1 _ _ (rd_L2 N0 j1) _ _ q0 v0 Z4 _ ?side1 ?side2 ?side3 ?side4 K5.out).mono ?_); (case side1 => exact kC_ l2 HB); (case side2 => exact m2.out); (case side3 => exact kCt_ (Kd.R_reads' p0.out).2.2); (case side4 => exact (Kd.R_reads' p0.out).2.1); rintro e k4 ⟨f6, rfl, a1, hb⟩; refine ⟨_, rfl, ?_⟩; replace c0 := a_ (Kd.N_elder' (kN_ c0) (Kd.R_base a1) hb); replace b0 := a_ (Kd.N_elder' (kN_ b0) (Kd.R_base a1) hb); replace r0 := FR_ r0 hb; have t0 := a_ (Kd.R_lower (Kd.R_new' (Kd.R_newM (M := fun k_ => (w.heap.size ≤ k_)) a1 (bs_ HB) (fun k_ h_ => h_)) (Kd.R_lt (kR_ p0))) (bs_ HB)); replace p0 := a_ (Kd.R_elder' (kR_ p0) (Kd.R_base a1) hb); replace g0 := FB_ g0 hb; replace h0 := FB_ h0 hb; replace j0 := FB_ j0 hb; replace k0 := FB_ k0 hb; replace e0 := FB_ e0 hb; replace HB := BS_ HB hb; (try clear hb); (try clear a1); obtain ⟨Q0, R0, g6⟩ := Kd.R_slice t0.out; subst g6) | ((with_reducible refine gate_callee (f := 39) rfl ?_); refine gL_ (some 44) Try.func39 #[.slice Q0 v0.length R0] ?_; (with_reducible refine (vcodec_silent.calls k1 _ _ v0 true _ ?side1 ?side2 L5.out).mono ?_); (case side1 => exact kCt_ (Kd.R_reads' t0.out).2.2); (case side2 => exact (Kd.R_reads' t0.out).2.1); rintro e w' ⟨rfl, ⟨nd, rfl⟩⟩; refine ⟨_, rfl, ?_⟩; (try (rw [drewN_self k4]; generalize hq_ : World.drewN k4 _ = k4; have n0_ := a_ (Kd.N_at hq_ c0.out); have n1_ := a_ (Kd.N_at hq_ b0.out); have n2_ := a_ (Kd.R_at hq_ r0.out); have n3_ := a_ (Kd.R_at hq_ p0.out); have n4_ := a_ (Kd.R_at hq_ t0.out); have n5_ := a_ (blk_at hq_ g0.out); have n6_ := a_ (blk_at hq_ h0.out); have n7_ := a_ (blk_at hq_ j0.out); have n8_ := a_ (blk_at hq_ k0.out); have n9_ := a_ (blk_at hq_ e0.out); have n10_ := a_ (below_at hq_ HB.out); clear hq_ c0 b0 r0 p0 t0 g0 h0 j0 k0 e0 HB; have c0 := n0_; have b0 := n1_; have r0 := n2_; have p0 := n3_; have t0 := n4_; have g0 := n5_; have h0 := n6_; have j0 := n7_; have k0 := n8_; have e0 := n9_; have HB := n10_; clear n0_ n1_ n2_ n3_ n4_ n5_ n6_ n7_ n8_ n9_ n10_)); obtain ⟨X0, Y0, h6⟩ := Kd.N_slice c0.out; subst h6; obtain ⟨L0, M0, i6⟩ := Kd.N_slice b0.out; subst i6))
 replace c0 := a_ (Kd.N_drew c0.out)
 replace b0 := a_ (Kd.N_drew b0.out)
 replace r0 := a_ (Kd.R_drew r0.out)
 replace p0 := a_ (Kd.R_drew p0.out)
 replace t0 := a_ (Kd.R_drew t0.out)
 replace g0 := a_ (blk_drew g0.out)
 replace h0 := a_ (blk_drew h0.out)
 replace j0 := a_ (blk_drew j0.out)
 replace k0 := a_ (blk_drew k0.out)
 replace e0 := a_ (blk_drew e0.out)
 replace HB := a_ (below_drew1 HB.out)
 refine start_ (n := 14) (S := fun w' => w'.cell? ⟨f0, 0, none⟩ = some (.slice X0 d0.length Y0) ∧ w'.cell? ⟨f0, 1, none⟩ = some (.slice L0 a0.length M0)) (ds := [11, 13]) (B_ 14 0) kf_ rfl rfl ⟨ce_ e0 0, ce_ e0 1⟩ (fun hHeld => ?_); refine with_tabW vcodec_Encode.tab13 vcodec_Encode.bits13 (fun HT_ HW_ => ?_)
 generalize k4.drew = W9 at c0 b0 r0 p0 t0 g0 h0 j0 k0 e0 HB hHeld ⊢
 refine pu_ 0 (some 45) (B_ 14 1) HT_ ?_
 refine pu_ 2 (some 47) (B_ 14 5) HT_ ?_
 refine pu_ 5 (some 50) (B_ 14 37) HT_ ?_
 refine pu_ 7 (some 52) (B_ 14 165) HT_ ?_
 refine take_ (i := 1) (N := some 46) (v := ?_) (a' := ?_) (B_ 14 167) rfl rfl (take_ofW HT_.out HW_.out kf_) (fun _ _ _ h => h) (Or.inl ⟨by rfl, ?_⟩) hHeld ?_ ?_
 rotate_left
 {
 rintro w' ⟨s0, s1⟩
 go_simp
 with_reducible rfl}
 rotate_left
 {
 exact sp_}
 refine take_ (i := 6) (N := some 51) (v := ?_) (a' := ?_) (B_ 14 231) rfl rfl (take_ofW HT_.out HW_.out kf_) (fun _ _ _ h => h) (Or.inl ⟨by rfl, ?_⟩) hHeld ?_ ?_
 rotate_left
 {
 rintro w' ⟨s0, s1⟩
 go_simp
 with_reducible rfl}
 rotate_left
 {
 exact sp_}
 refine join_ (σ := Value × Value × Value) 4 (B_ 14 1535) (fun s_ => [(48, s_.1), (49, s_.2.1), (53, s_.2.2), (55, .pointer (some ⟨f0, 0, none⟩))]) (fun s_ w' => (w'.cell? ⟨f0, 0, none⟩ = some (.slice X0 d0.length Y0) ∧ w'.cell? ⟨f0, 1, none⟩ = some (.slice L0 a0.length M0)) ∧ (Kd.R (Kd.int .i64) 3 w' w.heap.size (fun k_ => (w.heap.size ≤ k_)) (.slice S0 C0.length T0) C0) ∧ (Kd.R (Kd.int .i64) 2 w' w.heap.size (fun k_ => (w.heap.size ≤ k_) ∧ no_ k_ (.slice Q0 v0.length R0)) (.slice O0 q0.length P0) q0) ∧ (Kd.R (Kd.int .i64) 2 w' w.heap.size (fun k_ => (w.heap.size ≤ k_) ∧ no_ k_ (.slice O0 q0.length P0)) (.slice Q0 v0.length R0) v0) ∧ (Kd.N (Kd.slice 3 (Kd.int .i64)) 22 w' w.heap.size (fun k_ => (w.heap.size ≤ k_) ∧ no_ k_ (.slice S0 C0.length T0) ∧ no_ k_ (.slice O0 q0.length P0) ∧ no_ k_ (.slice Q0 v0.length R0) ∧ no_ k_ s_.2.1 ∧ no_ k_ s_.2.2 ∧ no_ k_ (.slice L0 a0.length M0) ∧ k_ ≠ m0 ∧ k_ ≠ n0 ∧ k_ ≠ i0 ∧ k_ ≠ o0 ∧ k_ ≠ f0) s_.1 J1) ∧ (Kd.N (Kd.slice 3 (Kd.int .i64)) 22 w' w.heap.size (fun k_ => (w.heap.size ≤ k_) ∧ no_ k_ (.slice S0 C0.length T0) ∧ no_ k_ (.slice O0 q0.length P0) ∧ no_ k_ (.slice Q0 v0.length R0) ∧ no_ k_ s_.2.2 ∧ no_ k_ (.slice L0 a0.length M0) ∧ k_ ≠ m0 ∧ k_ ≠ n0 ∧ k_ ≠ i0 ∧ k_ ≠ o0 ∧ k_ ≠ f0) s_.2.1 j3) ∧ (Kd.N (Kd.slice 2 (Kd.int .i64)) 53 w' w.heap.size (fun k_ => (w.heap.size ≤ k_) ∧ no_ k_ (.slice S0 C0.length T0) ∧ no_ k_ (.slice O0 q0.length P0) ∧ no_ k_ (.slice Q0 v0.length R0) ∧ no_ k_ s_.1 ∧ no_ k_ s_.2.1 ∧ no_ k_ (.slice L0 a0.length M0) ∧ k_ ≠ m0 ∧ k_ ≠ n0 ∧ k_ ≠ i0 ∧ k_ ≠ o0 ∧ k_ ≠ f0) s_.2.2 k3) ∧ (Kd.N (Kd.slice 2 (Kd.int .i64)) 53 w' w.heap.size (fun k_ => (w.heap.size ≤ k_) ∧ no_ k_ (.slice S0 C0.length T0) ∧ no_ k_ (.slice O0 q0.length P0) ∧ no_ k_ (.slice Q0 v0.length R0) ∧ no_ k_ s_.1 ∧ no_ k_ s_.2.1 ∧ no_ k_ s_.2.2 ∧ k_ ≠ m0 ∧ k_ ≠ n0 ∧ k_ ≠ i0 ∧ k_ ≠ o0 ∧ k_ ≠ f0) (.slice L0 a0.length M0) a0) ∧ (w'.heap[m0]? = some (.cells #[.int .i64 A0, .int .i64 B0, .slice F0 y0.length G0, .slice H0 z0.length I0] 24 (0, 0))) ∧ (w'.heap[n0]? = some (.cells #[.slice (some c1) N0.length b1] 37 (0, 0))) ∧ (w'.heap[i0]? = some (.cells #[.slice none 0 0, .slice none 0 0] 28 (0, 0))) ∧ (w'.heap[o0]? = some (.cells #[.int .i64 A0, .int .i64 B0, .slice F0 y0.length G0, .slice H0 z0.length I0] 61 (0, 0))) ∧ (w'.heap[f0]? = some (.cells #[.slice X0 d0.length Y0, .slice L0 a0.length M0] 28 (0, 0))) ∧ (Below w.heap.size w w')) ?_ ?_
 rotate_left
 {
 intro hCont
 refine two_ (i := 3) (j := 8) (Ni := some 48) (Nj := some 53) (B_ 14 239) (B_ 14 487) rfl rfl rfl rfl (two_of HT_.out kf_) (by decide) (by decide) (fun K hK => ?_) (fun K hK => ?_)
 {
 skip
 refine Kd.N_lit_step (Kd.slice 3 (Kd.int .i64)) _ 22 ?hg (N' := 48) ?hd (xs := ([([] : List Int)] : List (List Int))) (inner := [.slice none 0 0]) (ok := (fun k_ => (w.heap.size ≤ k_) ∧ no_ k_ (.slice X0 d0.length Y0) ∧ no_ k_ (.slice L0 a0.length M0) ∧ no_ k_ (.slice S0 C0.length T0) ∧ no_ k_ (.slice O0 q0.length P0) ∧ no_ k_ (.slice Q0 v0.length R0) ∧ k_ ≠ m0 ∧ k_ ≠ n0 ∧ k_ ≠ i0 ∧ k_ ≠ o0 ∧ k_ ≠ f0)) (okp := (fun k_ => (w.heap.size ≤ k_) ∧ no_ k_ (.slice X0 d0.length Y0) ∧ no_ k_ (.slice L0 a0.length M0) ∧ no_ k_ (.slice S0 C0.length T0) ∧ no_ k_ (.slice O0 q0.length P0) ∧ no_ k_ (.slice Q0 v0.length R0) ∧ k_ ≠ m0 ∧ k_ ≠ n0 ∧ k_ ≠ i0 ∧ k_ ≠ o0 ∧ k_ ≠ f0)) ?hr ?hp (fun _ hk => hk) (fr_ (P := (fun k_ => (w.heap.size ≤ k_) ∧ no_ k_ (.slice X0 d0.length Y0) ∧ no_ k_ (.slice L0 a0.length M0) ∧ no_ k_ (.slice S0 C0.length T0) ∧ no_ k_ (.slice O0 q0.length P0) ∧ no_ k_ (.slice Q0 v0.length R0) ∧ k_ ≠ m0 ∧ k_ ≠ n0 ∧ k_ ≠ i0 ∧ k_ ≠ o0 ∧ k_ ≠ f0)) (fun k_ hk => ⟨(Nat.le_trans (bs_ HB) hk), Kd.fresh' (Kd.N_lt (kN_ c0)) k_ hk, Kd.fresh' (Kd.N_lt (kN_ b0)) k_ hk, Kd.fresh' (Kd.R_lt (kR_ r0)) k_ hk, Kd.fresh' (Kd.R_lt (kR_ p0)) k_ hk, Kd.fresh' (Kd.R_lt (kR_ t0)) k_ hk, Kd.freshB (g := m0) (o := .cells #[.int .i64 A0, .int .i64 B0, .slice F0 y0.length G0, .slice H0 z0.length I0] 24 (0, 0)) (bk_ g0) k_ hk, Kd.freshB (g := n0) (o := .cells #[.slice (some c1) N0.length b1] 37 (0, 0)) (bk_ h0) k_ hk, Kd.freshB (g := i0) (o := .cells #[.slice none 0 0, .slice none 0 0] 28 (0, 0)) (bk_ j0) k_ hk, Kd.freshB (g := o0) (o := .cells #[.int .i64 A0, .int .i64 B0, .slice F0 y0.length G0, .slice H0 z0.length I0] 61 (0, 0)) (bk_ k0) k_ hk, Kd.freshB (g := f0) (o := .cells #[.slice X0 d0.length Y0, .slice L0 a0.length M0] 28 (0, 0)) (bk_ e0) k_ hk⟩)) (Below.refl _ _) (Nat.le_refl _) (by simp) ?_; (case hd => rfl); (case hg => rfl); (case hr => first | (go_simp; done) | (go_simp; rfl)); (case hp => exact (Reps.one (show Kd.FK (Kd.slice 3 (Kd.int .i64)) _ _ ([] : List Int) [.slice none 0 0] from (Kd.FK_slice_mk (Nat.le_refl _) (Kd.F_nil _ _ _))) (Reps.none _ _)))
 intro q2 R7 L1 hb hg_ hnew_
 clear hg_ hnew_
 (first | rw [← W2.out] at L1 | (simp only [Int.reduceToNat] at L1; rw [← W2.out] at L1))
 replace c0 := a_ (Kd.N_elder' (kN_ c0) (Kd.N_base L1) hb)
 replace b0 := a_ (Kd.N_elder' (kN_ b0) (Kd.N_base L1) hb)
 replace r0 := FR_ r0 hb
 replace p0 := FR_ p0 hb
 replace t0 := FR_ t0 hb
 have Z0 := a_ (Kd.N_lower L1 (bs_ HB))
 replace g0 := FB_ g0 hb
 replace h0 := FB_ h0 hb
 replace j0 := FB_ j0 hb
 replace k0 := FB_ k0 hb
 replace e0 := FB_ e0 hb
 replace HB := BS_ HB hb
 clear hb L1
 refine hK.out _ _ ⟨ce_ e0 0, ce_ e0 1⟩ (fun hHeld => ?_)
 clear hK K
 refine norm_ (a' := ?_) ?_ ?_
 rotate_left
 {
 show Act.put _ (some 48) _ = _
 exact sp_}
 refine two_ (i := 4) (j := 8) (Ni := some 49) (Nj := some 53) (B_ 14 255) (B_ 14 495) rfl rfl rfl rfl (two_of HT_.out kf_) (by decide) (by decide) (fun K hK => ?_) (fun K hK => ?_)
 {
 skip
 obtain ⟨l3, m3, a5⟩ := Kd.N_slice Z0.out
 (first | subst a5 | (injection a5 with f1_ f2_ f3_; have f4_ := f1_.symm; have f5_ := f3_.symm; clear f1_ f2_ f3_; subst f4_; subst f5_))
 refine Kd.N_append_rows_step (Kd.slice 3 (Kd.int .i64)) (w0 := w) w.heap.size (by rfl) (.tmp 46) (.tmp 48) 25 22 (.slice none 0 0) 24 rfl Try.underlying25 info22 rfl (by decide) (by omega) (.slice X0 d0.length Y0) d0 J1 _ _ _ (fun k_ => (w.heap.size ≤ k_) ∧ no_ k_ (.slice L0 a0.length M0) ∧ no_ k_ (.slice S0 C0.length T0) ∧ no_ k_ (.slice O0 q0.length P0) ∧ no_ k_ (.slice Q0 v0.length R0) ∧ k_ ≠ m0 ∧ k_ ≠ n0 ∧ k_ ≠ i0 ∧ k_ ≠ o0 ∧ k_ ≠ f0) (fun k_ => ((fun k_ => (w.heap.size ≤ k_) ∧ no_ k_ (.slice L0 a0.length M0) ∧ no_ k_ (.slice S0 C0.length T0) ∧ no_ k_ (.slice O0 q0.length P0) ∧ no_ k_ (.slice Q0 v0.length R0) ∧ k_ ≠ m0 ∧ k_ ≠ n0 ∧ k_ ≠ i0 ∧ k_ ≠ o0 ∧ k_ ≠ f0)) k_ ∧ no_ k_ (.slice X0 d0.length Y0)) rfl rfl ?aO ?aR (fun _ hk => hk) ?aF ?aB ?aS ?aL ?_
 (case aR => exact (by skip; exact Kd.N_F (Kd.N_mono (ok' := (fun k_ => ((fun k_ => (w.heap.size ≤ k_) ∧ no_ k_ (.slice L0 a0.length M0) ∧ no_ k_ (.slice S0 C0.length T0) ∧ no_ k_ (.slice O0 q0.length P0) ∧ no_ k_ (.slice Q0 v0.length R0) ∧ k_ ≠ m0 ∧ k_ ≠ n0 ∧ k_ ≠ i0 ∧ k_ ≠ o0 ∧ k_ ≠ f0)) k_ ∧ no_ k_ (.slice X0 d0.length Y0))) (Z0.out) cj_)))
 (case aB => exact (bl_ HB))
 (case aF => exact (fun k_ hk => ⟨(Nat.le_trans (bs_ HB) hk), Kd.fresh' (Kd.N_lt (kN_ b0)) k_ hk, Kd.fresh' (Kd.R_lt (kR_ r0)) k_ hk, Kd.fresh' (Kd.R_lt (kR_ p0)) k_ hk, Kd.fresh' (Kd.R_lt (kR_ t0)) k_ hk, Kd.freshB (g := m0) (o := .cells #[.int .i64 A0, .int .i64 B0, .slice F0 y0.length G0, .slice H0 z0.length I0] 24 (0, 0)) (bk_ g0) k_ hk, Kd.freshB (g := n0) (o := .cells #[.slice (some c1) N0.length b1] 37 (0, 0)) (bk_ h0) k_ hk, Kd.freshB (g := i0) (o := .cells #[.slice none 0 0, .slice none 0 0] 28 (0, 0)) (bk_ j0) k_ hk, Kd.freshB (g := o0) (o := .cells #[.int .i64 A0, .int .i64 B0, .slice F0 y0.length G0, .slice H0 z0.length I0] 61 (0, 0)) (bk_ k0) k_ hk, Kd.freshB (g := f0) (o := .cells #[.slice X0 d0.length Y0, .slice L0 a0.length M0] 28 (0, 0)) (bk_ e0) k_ hk⟩))
 (case aO => exact (by (with_reducible repeat (first | apply Kd.N_alloc | apply Kd.N_drewN | apply Kd.N_drew)); exact Kd.N_mono c0.out cj_))
 (case aS => exact (bs_ HB))
 (case aL => have := G3.out; omega)
 intro R1 O5 ho hb hg hat
 rw [← H3.out] at ho
 replace b0 := a_ (Kd.N_afterv (ok := (fun k_ => (w.heap.size ≤ k_) ∧ no_ k_ (.slice S0 C0.length T0) ∧ no_ k_ (.slice O0 q0.length P0) ∧ no_ k_ (.slice Q0 v0.length R0) ∧ no_ k_ (.slice l3 J1.length m3) ∧ k_ ≠ m0 ∧ k_ ≠ n0 ∧ k_ ≠ i0 ∧ k_ ≠ o0 ∧ k_ ≠ f0)) (by (with_reducible repeat (first | apply Kd.N_alloc | apply Kd.N_drewN | apply Kd.N_drew)); exact Kd.N_mono b0.out cj_) hg hat)
 replace g0 := (FG_ g0 hg (Kd.N_ne c0.out g0.out (by decide)))
 replace h0 := (FG_ h0 hg (Kd.N_ne c0.out h0.out (by decide)))
 replace j0 := (FG_ j0 hg (Kd.N_ne c0.out j0.out (by decide)))
 replace k0 := (FG_ k0 hg (Kd.N_ne c0.out k0.out (by decide)))
 replace e0 := (FG_ e0 hg (Kd.N_ne c0.out e0.out (by decide)))
 replace r0 := a_ (Kd.R_over' (kR_ r0) (Kd.N_typed (kN_ c0)) (by decide) hg)
 replace p0 := a_ (Kd.R_over' (kR_ p0) (Kd.N_typed (kN_ c0)) (by decide) hg)
 replace t0 := a_ (Kd.R_over' (kR_ t0) (Kd.N_typed (kN_ c0)) (by decide) hg)
 replace Z0 := a_ (Kd.N_afterv (ok := (fun k_ => (w.heap.size ≤ k_) ∧ no_ k_ (.slice L0 a0.length M0) ∧ no_ k_ (.slice S0 C0.length T0) ∧ no_ k_ (.slice O0 q0.length P0) ∧ no_ k_ (.slice Q0 v0.length R0) ∧ k_ ≠ m0 ∧ k_ ≠ n0 ∧ k_ ≠ i0 ∧ k_ ≠ o0 ∧ k_ ≠ f0)) (by (with_reducible repeat (first | apply Kd.N_alloc | apply Kd.N_drewN | apply Kd.N_drew)); exact Kd.N_mono Z0.out cj_) hg hat)
 replace HB := a_ (hb)
 have B1 := a_ (ho)
 clear c0
 clear ho hb hg hat
 refine hK.out _ _ ⟨ce_ e0 0, ce_ e0 1⟩ (fun hHeld => ?_)
 clear hK K
 refine norm_ (a' := ?_) ?_ ?_
 rotate_left
 {
 show Act.put _ (some 49) _ = _
 exact sp_}
 refine pu_ 10 (some 55) (B_ 14 1279) HT_ ?_
 refine one_ (i := 8) (N := some 53) (B_ 14 1535) rfl rfl (one_of HT_.out kf_) (by decide) (fun K hK => ?_)
 refine Kd.N_lit_step (Kd.slice 2 (Kd.int .i64)) _ 53 ?hg (N' := 53) ?hd (xs := ([([] : List Int)] : List (List Int))) (inner := [.slice none 0 0]) (ok := (fun k_ => (w.heap.size ≤ k_) ∧ no_ k_ (.slice L0 a0.length M0) ∧ no_ k_ (.slice S0 C0.length T0) ∧ no_ k_ (.slice O0 q0.length P0) ∧ no_ k_ (.slice Q0 v0.length R0) ∧ no_ k_ (.slice l3 J1.length m3) ∧ no_ k_ R1 ∧ k_ ≠ m0 ∧ k_ ≠ n0 ∧ k_ ≠ i0 ∧ k_ ≠ o0 ∧ k_ ≠ f0)) (okp := (fun k_ => (w.heap.size ≤ k_) ∧ no_ k_ (.slice L0 a0.length M0) ∧ no_ k_ (.slice S0 C0.length T0) ∧ no_ k_ (.slice O0 q0.length P0) ∧ no_ k_ (.slice Q0 v0.length R0) ∧ no_ k_ (.slice l3 J1.length m3) ∧ no_ k_ R1 ∧ k_ ≠ m0 ∧ k_ ≠ n0 ∧ k_ ≠ i0 ∧ k_ ≠ o0 ∧ k_ ≠ f0)) ?hr ?hp (fun _ hk => hk) (fr_ (P := (fun k_ => (w.heap.size ≤ k_) ∧ no_ k_ (.slice L0 a0.length M0) ∧ no_ k_ (.slice S0 C0.length T0) ∧ no_ k_ (.slice O0 q0.length P0) ∧ no_ k_ (.slice Q0 v0.length R0) ∧ no_ k_ (.slice l3 J1.length m3) ∧ no_ k_ R1 ∧ k_ ≠ m0 ∧ k_ ≠ n0 ∧ k_ ≠ i0 ∧ k_ ≠ o0 ∧ k_ ≠ f0)) (fun k_ hk => ⟨(Nat.le_trans (bs_ HB) hk), Kd.fresh' (Kd.N_lt (kN_ b0)) k_ hk, Kd.fresh' (Kd.R_lt (kR_ r0)) k_ hk, Kd.fresh' (Kd.R_lt (kR_ p0)) k_ hk, Kd.fresh' (Kd.R_lt (kR_ t0)) k_ hk, Kd.fresh' (Kd.N_lt (kN_ Z0)) k_ hk, Kd.fresh' (Kd.N_lt (kN_ B1)) k_ hk, Kd.freshB (g := m0) (o := .cells #[.int .i64 A0, .int .i64 B0, .slice F0 y0.length G0, .slice H0 z0.length I0] 24 (0, 0)) (bk_ g0) k_ hk, Kd.freshB (g := n0) (o := .cells #[.slice (some c1) N0.length b1] 37 (0, 0)) (bk_ h0) k_ hk, Kd.freshB (g := i0) (o := .cells #[.slice none 0 0, .slice none 0 0] 28 (0, 0)) (bk_ j0) k_ hk, Kd.freshB (g := o0) (o := .cells #[.int .i64 A0, .int .i64 B0, .slice F0 y0.length G0, .slice H0 z0.length I0] 61 (0, 0)) (bk_ k0) k_ hk, Kd.freshB (g := f0) (o := .cells #[.slice X0 d0.length Y0, .slice L0 a0.length M0] 28 (0, 0)) (bk_ e0) k_ hk⟩)) (Below.refl _ _) (Nat.le_refl _) (by simp) ?_; (case hd => rfl); (case hg => rfl); (case hr => first | (go_simp; done) | (go_simp; rfl)); (case hp => exact (Reps.one (show Kd.FK (Kd.slice 2 (Kd.int .i64)) _ _ ([] : List Int) [.slice none 0 0] from (Kd.FK_slice_mk (Nat.le_refl _) (Kd.F_nil _ _ _))) (Reps.none _ _)))
 intro v1 P5 z2 hb hg_ hnew_
 clear hg_ hnew_
 (first | rw [← H2.out] at z2 | (simp only [Int.reduceToNat] at z2; rw [← H2.out] at z2))
 replace b0 := a_ (Kd.N_elder' (kN_ b0) (Kd.N_base z2) hb)
 replace r0 := FR_ r0 hb
 replace p0 := FR_ p0 hb
 replace t0 := FR_ t0 hb
 replace Z0 := a_ (Kd.N_elder' (kN_ Z0) (Kd.N_base z2) hb)
 replace B1 := a_ (Kd.N_elder' (kN_ B1) (Kd.N_base z2) hb)
 have l1 := a_ (Kd.N_lower z2 (bs_ HB))
 replace g0 := FB_ g0 hb
 replace h0 := FB_ h0 hb
 replace j0 := FB_ j0 hb
 replace k0 := FB_ k0 hb
 replace e0 := FB_ e0 hb
 replace HB := BS_ HB hb
 clear hb z2
 refine hK.out _ _ ⟨ce_ e0 0, ce_ e0 1⟩ (fun hHeld => ?_)
 clear hK K
 refine norm_ (a' := ?_) ?_ ?_
 rotate_left
 {
 show Act.put _ (some 53) _ = _
 exact sp_}
 exact norm_ pa_ (hCont (.slice l3 J1.length m3, R1, v1) _ ⟨hHeld, (by (with_reducible repeat (first | apply Kd.R_alloc | apply Kd.R_drewN | apply Kd.R_drew)); exact Kd.R_mono r0.out (fun _ hk => hk.1)), (by (with_reducible repeat (first | apply Kd.R_alloc | apply Kd.R_drewN | apply Kd.R_drew)); exact Kd.R_mono p0.out (fun _ hk => ⟨hk.1.1, hk.2⟩)), (by (with_reducible repeat (first | apply Kd.R_alloc | apply Kd.R_drewN | apply Kd.R_drew)); exact Kd.R_mono t0.out (fun _ hk => ⟨hk.1.1, hk.2⟩)), (by (with_reducible repeat (first | apply Kd.N_alloc | apply Kd.N_drewN | apply Kd.N_drew)); exact Kd.N_mono Z0.out cj_), (by (with_reducible repeat (first | apply Kd.N_alloc | apply Kd.N_drewN | apply Kd.N_drew)); exact Kd.N_mono B1.out cj_), (by (with_reducible repeat (first | apply Kd.N_alloc | apply Kd.N_drewN | apply Kd.N_drew)); exact Kd.N_mono l1.out cj_), (by (with_reducible repeat (first | apply Kd.N_alloc | apply Kd.N_drewN | apply Kd.N_drew)); exact Kd.N_mono b0.out cj_), (bk_ g0), (bk_ h0), (bk_ j0), (bk_ k0), (bk_ e0), (bl_ HB)⟩)}
 {
 skip
 refine Kd.N_lit_step (Kd.slice 2 (Kd.int .i64)) _ 53 ?hg (N' := 53) ?hd (xs := ([([] : List Int)] : List (List Int))) (inner := [.slice none 0 0]) (ok := (fun k_ => (w.heap.size ≤ k_) ∧ no_ k_ (.slice X0 d0.length Y0) ∧ no_ k_ (.slice L0 a0.length M0) ∧ no_ k_ (.slice S0 C0.length T0) ∧ no_ k_ (.slice O0 q0.length P0) ∧ no_ k_ (.slice Q0 v0.length R0) ∧ no_ k_ q2 ∧ k_ ≠ m0 ∧ k_ ≠ n0 ∧ k_ ≠ i0 ∧ k_ ≠ o0 ∧ k_ ≠ f0)) (okp := (fun k_ => (w.heap.size ≤ k_) ∧ no_ k_ (.slice X0 d0.length Y0) ∧ no_ k_ (.slice L0 a0.length M0) ∧ no_ k_ (.slice S0 C0.length T0) ∧ no_ k_ (.slice O0 q0.length P0) ∧ no_ k_ (.slice Q0 v0.length R0) ∧ no_ k_ q2 ∧ k_ ≠ m0 ∧ k_ ≠ n0 ∧ k_ ≠ i0 ∧ k_ ≠ o0 ∧ k_ ≠ f0)) ?hr ?hp (fun _ hk => hk) (fr_ (P := (fun k_ => (w.heap.size ≤ k_) ∧ no_ k_ (.slice X0 d0.length Y0) ∧ no_ k_ (.slice L0 a0.length M0) ∧ no_ k_ (.slice S0 C0.length T0) ∧ no_ k_ (.slice O0 q0.length P0) ∧ no_ k_ (.slice Q0 v0.length R0) ∧ no_ k_ q2 ∧ k_ ≠ m0 ∧ k_ ≠ n0 ∧ k_ ≠ i0 ∧ k_ ≠ o0 ∧ k_ ≠ f0)) (fun k_ hk => ⟨(Nat.le_trans (bs_ HB) hk), Kd.fresh' (Kd.N_lt (kN_ c0)) k_ hk, Kd.fresh' (Kd.N_lt (kN_ b0)) k_ hk, Kd.fresh' (Kd.R_lt (kR_ r0)) k_ hk, Kd.fresh' (Kd.R_lt (kR_ p0)) k_ hk, Kd.fresh' (Kd.R_lt (kR_ t0)) k_ hk, Kd.fresh' (Kd.N_lt (kN_ Z0)) k_ hk, Kd.freshB (g := m0) (o := .cells #[.int .i64 A0, .int .i64 B0, .slice F0 y0.length G0, .slice H0 z0.length I0] 24 (0, 0)) (bk_ g0) k_ hk, Kd.freshB (g := n0) (o := .cells #[.slice (some c1) N0.length b1] 37 (0, 0)) (bk_ h0) k_ hk, Kd.freshB (g := i0) (o := .cells #[.slice none 0 0, .slice none 0 0] 28 (0, 0)) (bk_ j0) k_ hk, Kd.freshB (g := o0) (o := .cells #[.int .i64 A0, .int .i64 B0, .slice F0 y0.length G0, .slice H0 z0.length I0] 61 (0, 0)) (bk_ k0) k_ hk, Kd.freshB (g := f0) (o := .cells #[.slice X0 d0.length Y0, .slice L0 a0.length M0] 28 (0, 0)) (bk_ e0) k_ hk⟩)) (Below.refl _ _) (Nat.le_refl _) (by simp) ?_; (case hd => rfl); (case hg => rfl); (case hr => first | (go_simp; done) | (go_simp; rfl)); (case hp => exact (Reps.one (show Kd.FK (Kd.slice 2 (Kd.int .i64)) _ _ ([] : List Int) [.slice none 0 0] from (Kd.FK_slice_mk (Nat.le_refl _) (Kd.F_nil _ _ _))) (Reps.none _ _)))
 intro v1 O5 E1 hb hg_ hnew_
 clear hg_ hnew_
 (first | rw [← H2.out] at E1 | (simp only [Int.reduceToNat] at E1; rw [← H2.out] at E1))
 replace c0 := a_ (Kd.N_elder' (kN_ c0) (Kd.N_base E1) hb)
 replace b0 := a_ (Kd.N_elder' (kN_ b0) (Kd.N_base E1) hb)
 replace r0 := FR_ r0 hb
 replace p0 := FR_ p0 hb
 replace t0 := FR_ t0 hb
 replace Z0 := a_ (Kd.N_elder' (kN_ Z0) (Kd.N_base E1) hb)
 have l1 := a_ (Kd.N_lower E1 (bs_ HB))
 replace g0 := FB_ g0 hb
 replace h0 := FB_ h0 hb
 replace j0 := FB_ j0 hb
 replace k0 := FB_ k0 hb
 replace e0 := FB_ e0 hb
 replace HB := BS_ HB hb
 clear hb E1
 obtain ⟨L2, M2, n3⟩ := Kd.N_slice Z0.out
 (first | subst n3 | (injection n3 with f1_ f2_ f3_; have f4_ := f1_.symm; have f5_ := f3_.symm; clear f1_ f2_ f3_; subst f4_; subst f5_))
 refine hK.out _ _ ⟨ce_ e0 0, ce_ e0 1⟩ (fun hHeld => ?_)
 clear hK K
 refine norm_ (a' := ?_) ?_ ?_
 rotate_left
 {
 show Act.put _ (some 53) _ = _
 exact sp_}
 refine one_ (i := 4) (N := some 49) (B_ 14 511) rfl rfl (one_of HT_.out kf_) (by decide) (fun K hK => ?_)
 refine Kd.N_append_rows_step (Kd.slice 3 (Kd.int .i64)) (w0 := w) w.heap.size (by rfl) (.tmp 46) (.tmp 48) 25 22 (.slice none 0 0) 24 rfl Try.underlying25 info22 rfl (by decide) (by omega) (.slice X0 d0.length Y0) d0 J1 _ _ _ (fun k_ => (w.heap.size ≤ k_) ∧ no_ k_ (.slice L0 a0.length M0) ∧ no_ k_ (.slice S0 C0.length T0) ∧ no_ k_ (.slice O0 q0.length P0) ∧ no_ k_ (.slice Q0 v0.length R0) ∧ no_ k_ v1 ∧ k_ ≠ m0 ∧ k_ ≠ n0 ∧ k_ ≠ i0 ∧ k_ ≠ o0 ∧ k_ ≠ f0) (fun k_ => ((fun k_ => (w.heap.size ≤ k_) ∧ no_ k_ (.slice L0 a0.length M0) ∧ no_ k_ (.slice S0 C0.length T0) ∧ no_ k_ (.slice O0 q0.length P0) ∧ no_ k_ (.slice Q0 v0.length R0) ∧ no_ k_ v1 ∧ k_ ≠ m0 ∧ k_ ≠ n0 ∧ k_ ≠ i0 ∧ k_ ≠ o0 ∧ k_ ≠ f0)) k_ ∧ no_ k_ (.slice X0 d0.length Y0)) rfl rfl ?aO ?aR (fun _ hk => hk) ?aF ?aB ?aS ?aL ?_
 (case aR => exact (by skip; exact Kd.N_F (Kd.N_mono (ok' := (fun k_ => ((fun k_ => (w.heap.size ≤ k_) ∧ no_ k_ (.slice L0 a0.length M0) ∧ no_ k_ (.slice S0 C0.length T0) ∧ no_ k_ (.slice O0 q0.length P0) ∧ no_ k_ (.slice Q0 v0.length R0) ∧ no_ k_ v1 ∧ k_ ≠ m0 ∧ k_ ≠ n0 ∧ k_ ≠ i0 ∧ k_ ≠ o0 ∧ k_ ≠ f0)) k_ ∧ no_ k_ (.slice X0 d0.length Y0))) (Z0.out) cj_)))
 (case aB => exact (bl_ HB))
 (case aF => exact (fun k_ hk => ⟨(Nat.le_trans (bs_ HB) hk), Kd.fresh' (Kd.N_lt (kN_ b0)) k_ hk, Kd.fresh' (Kd.R_lt (kR_ r0)) k_ hk, Kd.fresh' (Kd.R_lt (kR_ p0)) k_ hk, Kd.fresh' (Kd.R_lt (kR_ t0)) k_ hk, Kd.fresh' (Kd.N_lt (kN_ l1)) k_ hk, Kd.freshB (g := m0) (o := .cells #[.int .i64 A0, .int .i64 B0, .slice F0 y0.length G0, .slice H0 z0.length I0] 24 (0, 0)) (bk_ g0) k_ hk, Kd.freshB (g := n0) (o := .cells #[.slice (some c1) N0.length b1] 37 (0, 0)) (bk_ h0) k_ hk, Kd.freshB (g := i0) (o := .cells #[.slice none 0 0, .slice none 0 0] 28 (0, 0)) (bk_ j0) k_ hk, Kd.freshB (g := o0) (o := .cells #[.int .i64 A0, .int .i64 B0, .slice F0 y0.length G0, .slice H0 z0.length I0] 61 (0, 0)) (bk_ k0) k_ hk, Kd.freshB (g := f0) (o := .cells #[.slice X0 d0.length Y0, .slice L0 a0.length M0] 28 (0, 0)) (bk_ e0) k_ hk⟩))
 (case aO => exact (by (with_reducible repeat (first | apply Kd.N_alloc | apply Kd.N_drewN | apply Kd.N_drew)); exact Kd.N_mono c0.out cj_))
 (case aS => exact (bs_ HB))
 (case aL => have := G3.out; omega)
 intro R1 P5 ho hb hg hat
 rw [← H3.out] at ho
 replace b0 := a_ (Kd.N_afterv (ok := (fun k_ => (w.heap.size ≤ k_) ∧ no_ k_ (.slice S0 C0.length T0) ∧ no_ k_ (.slice O0 q0.length P0) ∧ no_ k_ (.slice Q0 v0.length R0) ∧ no_ k_ (.slice L2 J1.length M2) ∧ no_ k_ v1 ∧ k_ ≠ m0 ∧ k_ ≠ n0 ∧ k_ ≠ i0 ∧ k_ ≠ o0 ∧ k_ ≠ f0)) (by (with_reducible repeat (first | apply Kd.N_alloc | apply Kd.N_drewN | apply Kd.N_drew)); exact Kd.N_mono b0.out cj_) hg hat)
 replace g0 := (FG_ g0 hg (Kd.N_ne c0.out g0.out (by decide)))
 replace h0 := (FG_ h0 hg (Kd.N_ne c0.out h0.out (by decide)))
 replace j0 := (FG_ j0 hg (Kd.N_ne c0.out j0.out (by decide)))
 replace k0 := (FG_ k0 hg (Kd.N_ne c0.out k0.out (by decide)))
 replace e0 := (FG_ e0 hg (Kd.N_ne c0.out e0.out (by decide)))
 replace r0 := a_ (Kd.R_over' (kR_ r0) (Kd.N_typed (kN_ c0)) (by decide) hg)
 replace p0 := a_ (Kd.R_over' (kR_ p0) (Kd.N_typed (kN_ c0)) (by decide) hg)
 replace t0 := a_ (Kd.R_over' (kR_ t0) (Kd.N_typed (kN_ c0)) (by decide) hg)
 replace Z0 := a_ (Kd.N_afterv (ok := (fun k_ => (w.heap.size ≤ k_) ∧ no_ k_ (.slice L0 a0.length M0) ∧ no_ k_ (.slice S0 C0.length T0) ∧ no_ k_ (.slice O0 q0.length P0) ∧ no_ k_ (.slice Q0 v0.length R0) ∧ no_ k_ v1 ∧ k_ ≠ m0 ∧ k_ ≠ n0 ∧ k_ ≠ i0 ∧ k_ ≠ o0 ∧ k_ ≠ f0)) (by (with_reducible repeat (first | apply Kd.N_alloc | apply Kd.N_drewN | apply Kd.N_drew)); exact Kd.N_mono Z0.out cj_) hg hat)
 replace l1 := a_ (Kd.N_afterv (ok := (fun k_ => (w.heap.size ≤ k_) ∧ no_ k_ (.slice L0 a0.length M0) ∧ no_ k_ (.slice S0 C0.length T0) ∧ no_ k_ (.slice O0 q0.length P0) ∧ no_ k_ (.slice Q0 v0.length R0) ∧ no_ k_ (.slice L2 J1.length M2) ∧ k_ ≠ m0 ∧ k_ ≠ n0 ∧ k_ ≠ i0 ∧ k_ ≠ o0 ∧ k_ ≠ f0)) (by (with_reducible repeat (first | apply Kd.N_alloc | apply Kd.N_drewN | apply Kd.N_drew)); exact Kd.N_mono l1.out cj_) hg hat)
 replace HB := a_ (hb)
 have B1 := a_ (ho)
 clear c0
 clear ho hb hg hat
 refine hK.out _ _ ⟨ce_ e0 0, ce_ e0 1⟩ (fun hHeld => ?_)
 clear hK K
 refine norm_ (a' := ?_) ?_ ?_
 rotate_left
 {
 show Act.put _ (some 49) _ = _
 exact sp_}
 refine pu_ 10 (some 55) (B_ 14 1535) HT_ ?_
 exact norm_ pa_ (hCont (.slice L2 J1.length M2, R1, v1) _ ⟨hHeld, (by (with_reducible repeat (first | apply Kd.R_alloc | apply Kd.R_drewN | apply Kd.R_drew)); exact Kd.R_mono r0.out (fun _ hk => hk.1)), (by (with_reducible repeat (first | apply Kd.R_alloc | apply Kd.R_drewN | apply Kd.R_drew)); exact Kd.R_mono p0.out (fun _ hk => ⟨hk.1.1, hk.2⟩)), (by (with_reducible repeat (first | apply Kd.R_alloc | apply Kd.R_drewN | apply Kd.R_drew)); exact Kd.R_mono t0.out (fun _ hk => ⟨hk.1.1, hk.2⟩)), (by (with_reducible repeat (first | apply Kd.N_alloc | apply Kd.N_drewN | apply Kd.N_drew)); exact Kd.N_mono Z0.out cj_), (by (with_reducible repeat (first | apply Kd.N_alloc | apply Kd.N_drewN | apply Kd.N_drew)); exact Kd.N_mono B1.out cj_), (by (with_reducible repeat (first | apply Kd.N_alloc | apply Kd.N_drewN | apply Kd.N_drew)); exact Kd.N_mono l1.out cj_), (by (with_reducible repeat (first | apply Kd.N_alloc | apply Kd.N_drewN | apply Kd.N_drew)); exact Kd.N_mono b0.out cj_), (bk_ g0), (bk_ h0), (bk_ j0), (bk_ k0), (bk_ e0), (bl_ HB)⟩)}}
 {
 skip
 refine Kd.N_lit_step (Kd.slice 2 (Kd.int .i64)) _ 53 ?hg (N' := 53) ?hd (xs := ([([] : List Int)] : List (List Int))) (inner := [.slice none 0 0]) (ok := (fun k_ => (w.heap.size ≤ k_) ∧ no_ k_ (.slice X0 d0.length Y0) ∧ no_ k_ (.slice L0 a0.length M0) ∧ no_ k_ (.slice S0 C0.length T0) ∧ no_ k_ (.slice O0 q0.length P0) ∧ no_ k_ (.slice Q0 v0.length R0) ∧ k_ ≠ m0 ∧ k_ ≠ n0 ∧ k_ ≠ i0 ∧ k_ ≠ o0 ∧ k_ ≠ f0)) (okp := (fun k_ => (w.heap.size ≤ k_) ∧ no_ k_ (.slice X0 d0.length Y0) ∧ no_ k_ (.slice L0 a0.length M0) ∧ no_ k_ (.slice S0 C0.length T0) ∧ no_ k_ (.slice O0 q0.length P0) ∧ no_ k_ (.slice Q0 v0.length R0) ∧ k_ ≠ m0 ∧ k_ ≠ n0 ∧ k_ ≠ i0 ∧ k_ ≠ o0 ∧ k_ ≠ f0)) ?hr ?hp (fun _ hk => hk) (fr_ (P := (fun k_ => (w.heap.size ≤ k_) ∧ no_ k_ (.slice X0 d0.length Y0) ∧ no_ k_ (.slice L0 a0.length M0) ∧ no_ k_ (.slice S0 C0.length T0) ∧ no_ k_ (.slice O0 q0.length P0) ∧ no_ k_ (.slice Q0 v0.length R0) ∧ k_ ≠ m0 ∧ k_ ≠ n0 ∧ k_ ≠ i0 ∧ k_ ≠ o0 ∧ k_ ≠ f0)) (fun k_ hk => ⟨(Nat.le_trans (bs_ HB) hk), Kd.fresh' (Kd.N_lt (kN_ c0)) k_ hk, Kd.fresh' (Kd.N_lt (kN_ b0)) k_ hk, Kd.fresh' (Kd.R_lt (kR_ r0)) k_ hk, Kd.fresh' (Kd.R_lt (kR_ p0)) k_ hk, Kd.fresh' (Kd.R_lt (kR_ t0)) k_ hk, Kd.freshB (g := m0) (o := .cells #[.int .i64 A0, .int .i64 B0, .slice F0 y0.length G0, .slice H0 z0.length I0] 24 (0, 0)) (bk_ g0) k_ hk, Kd.freshB (g := n0) (o := .cells #[.slice (some c1) N0.length b1] 37 (0, 0)) (bk_ h0) k_ hk, Kd.freshB (g := i0) (o := .cells #[.slice none 0 0, .slice none 0 0] 28 (0, 0)) (bk_ j0) k_ hk, Kd.freshB (g := o0) (o := .cells #[.int .i64 A0, .int .i64 B0, .slice F0 y0.length G0, .slice H0 z0.length I0] 61 (0, 0)) (bk_ k0) k_ hk, Kd.freshB (g := f0) (o := .cells #[.slice X0 d0.length Y0, .slice L0 a0.length M0] 28 (0, 0)) (bk_ e0) k_ hk⟩)) (Below.refl _ _) (Nat.le_refl _) (by simp) ?_; (case hd => rfl); (case hg => rfl); (case hr => first | (go_simp; done) | (go_simp; rfl)); (case hp => exact (Reps.one (show Kd.FK (Kd.slice 2 (Kd.int .i64)) _ _ ([] : List Int) [.slice none 0 0] from (Kd.FK_slice_mk (Nat.le_refl _) (Kd.F_nil _ _ _))) (Reps.none _ _)))
 intro v1 R7 L1 hb hg_ hnew_
 clear hg_ hnew_
 (first | rw [← H2.out] at L1 | (simp only [Int.reduceToNat] at L1; rw [← H2.out] at L1))
 replace c0 := a_ (Kd.N_elder' (kN_ c0) (Kd.N_base L1) hb)
 replace b0 := a_ (Kd.N_elder' (kN_ b0) (Kd.N_base L1) hb)
 replace r0 := FR_ r0 hb
 replace p0 := FR_ p0 hb
 replace t0 := FR_ t0 hb
 have l1 := a_ (Kd.N_lower L1 (bs_ HB))
 replace g0 := FB_ g0 hb
 replace h0 := FB_ h0 hb
 replace j0 := FB_ j0 hb
 replace k0 := FB_ k0 hb
 replace e0 := FB_ e0 hb
 replace HB := BS_ HB hb
 clear hb L1
 refine hK.out _ _ ⟨ce_ e0 0, ce_ e0 1⟩ (fun hHeld => ?_)
 clear hK K
 refine norm_ (a' := ?_) ?_ ?_
 rotate_left
 {
 show Act.put _ (some 53) _ = _
 exact sp_}
 refine one_ (i := 3) (N := some 48) (B_ 14 495) rfl rfl (one_of HT_.out kf_) (by decide) (fun K hK => ?_)
 refine Kd.N_lit_step (Kd.slice 3 (Kd.int .i64)) _ 22 ?hg (N' := 48) ?hd (xs := ([([] : List Int)] : List (List Int))) (inner := [.slice none 0 0]) (ok := (fun k_ => (w.heap.size ≤ k_) ∧ no_ k_ (.slice X0 d0.length Y0) ∧ no_ k_ (.slice L0 a0.length M0) ∧ no_ k_ (.slice S0 C0.length T0) ∧ no_ k_ (.slice O0 q0.length P0) ∧ no_ k_ (.slice Q0 v0.length R0) ∧ no_ k_ v1 ∧ k_ ≠ m0 ∧ k_ ≠ n0 ∧ k_ ≠ i0 ∧ k_ ≠ o0 ∧ k_ ≠ f0)) (okp := (fun k_ => (w.heap.size ≤ k_) ∧ no_ k_ (.slice X0 d0.length Y0) ∧ no_ k_ (.slice L0 a0.length M0) ∧ no_ k_ (.slice S0 C0.length T0) ∧ no_ k_ (.slice O0 q0.length P0) ∧ no_ k_ (.slice Q0 v0.length R0) ∧ no_ k_ v1 ∧ k_ ≠ m0 ∧ k_ ≠ n0 ∧ k_ ≠ i0 ∧ k_ ≠ o0 ∧ k_ ≠ f0)) ?hr ?hp (fun _ hk => hk) (fr_ (P := (fun k_ => (w.heap.size ≤ k_) ∧ no_ k_ (.slice X0 d0.length Y0) ∧ no_ k_ (.slice L0 a0.length M0) ∧ no_ k_ (.slice S0 C0.length T0) ∧ no_ k_ (.slice O0 q0.length P0) ∧ no_ k_ (.slice Q0 v0.length R0) ∧ no_ k_ v1 ∧ k_ ≠ m0 ∧ k_ ≠ n0 ∧ k_ ≠ i0 ∧ k_ ≠ o0 ∧ k_ ≠ f0)) (fun k_ hk => ⟨(Nat.le_trans (bs_ HB) hk), Kd.fresh' (Kd.N_lt (kN_ c0)) k_ hk, Kd.fresh' (Kd.N_lt (kN_ b0)) k_ hk, Kd.fresh' (Kd.R_lt (kR_ r0)) k_ hk, Kd.fresh' (Kd.R_lt (kR_ p0)) k_ hk, Kd.fresh' (Kd.R_lt (kR_ t0)) k_ hk, Kd.fresh' (Kd.N_lt (kN_ l1)) k_ hk, Kd.freshB (g := m0) (o := .cells #[.int .i64 A0, .int .i64 B0, .slice F0 y0.length G0, .slice H0 z0.length I0] 24 (0, 0)) (bk_ g0) k_ hk, Kd.freshB (g := n0) (o := .cells #[.slice (some c1) N0.length b1] 37 (0, 0)) (bk_ h0) k_ hk, Kd.freshB (g := i0) (o := .cells #[.slice none 0 0, .slice none 0 0] 28 (0, 0)) (bk_ j0) k_ hk, Kd.freshB (g := o0) (o := .cells #[.int .i64 A0, .int .i64 B0, .slice F0 y0.length G0, .slice H0 z0.length I0] 61 (0, 0)) (bk_ k0) k_ hk, Kd.freshB (g := f0) (o := .cells #[.slice X0 d0.length Y0, .slice L0 a0.length M0] 28 (0, 0)) (bk_ e0) k_ hk⟩)) (Below.refl _ _) (Nat.le_refl _) (by simp) ?_; (case hd => rfl); (case hg => rfl); (case hr => first | (go_simp; done) | (go_simp; rfl)); (case hp => exact (Reps.one (show Kd.FK (Kd.slice 3 (Kd.int .i64)) _ _ ([] : List Int) [.slice none 0 0] from (Kd.FK_slice_mk (Nat.le_refl _) (Kd.F_nil _ _ _))) (Reps.none _ _)))
 intro q2 O5 E1 hb hg_ hnew_
 clear hg_ hnew_
 (first | rw [← W2.out] at E1 | (simp only [Int.reduceToNat] at E1; rw [← W2.out] at E1))
 replace c0 := a_ (Kd.N_elder' (kN_ c0) (Kd.N_base E1) hb)
 replace b0 := a_ (Kd.N_elder' (kN_ b0) (Kd.N_base E1) hb)
 replace r0 := FR_ r0 hb
 replace p0 := FR_ p0 hb
 replace t0 := FR_ t0 hb
 replace l1 := a_ (Kd.N_elder' (kN_ l1) (Kd.N_base E1) hb)
 have Z0 := a_ (Kd.N_lower E1 (bs_ HB))
 replace g0 := FB_ g0 hb
 replace h0 := FB_ h0 hb
 replace j0 := FB_ j0 hb
 replace k0 := FB_ k0 hb
 replace e0 := FB_ e0 hb
 replace HB := BS_ HB hb
 clear hb E1
 obtain ⟨L2, M2, n3⟩ := Kd.N_slice Z0.out
 (first | subst n3 | (injection n3 with f1_ f2_ f3_; have f4_ := f1_.symm; have f5_ := f3_.symm; clear f1_ f2_ f3_; subst f4_; subst f5_))
 refine hK.out _ _ ⟨ce_ e0 0, ce_ e0 1⟩ (fun hHeld => ?_)
 clear hK K
 refine norm_ (a' := ?_) ?_ ?_
 rotate_left
 {
 show Act.put _ (some 48) _ = _
 exact sp_}
 refine one_ (i := 4) (N := some 49) (B_ 14 511) rfl rfl (one_of HT_.out kf_) (by decide) (fun K hK => ?_)
 refine Kd.N_append_rows_step (Kd.slice 3 (Kd.int .i64)) (w0 := w) w.heap.size (by rfl) (.tmp 46) (.tmp 48) 25 22 (.slice none 0 0) 24 rfl Try.underlying25 info22 rfl (by decide) (by omega) (.slice X0 d0.length Y0) d0 J1 _ _ _ (fun k_ => (w.heap.size ≤ k_) ∧ no_ k_ (.slice L0 a0.length M0) ∧ no_ k_ (.slice S0 C0.length T0) ∧ no_ k_ (.slice O0 q0.length P0) ∧ no_ k_ (.slice Q0 v0.length R0) ∧ no_ k_ v1 ∧ k_ ≠ m0 ∧ k_ ≠ n0 ∧ k_ ≠ i0 ∧ k_ ≠ o0 ∧ k_ ≠ f0) (fun k_ => ((fun k_ => (w.heap.size ≤ k_) ∧ no_ k_ (.slice L0 a0.length M0) ∧ no_ k_ (.slice S0 C0.length T0) ∧ no_ k_ (.slice O0 q0.length P0) ∧ no_ k_ (.slice Q0 v0.length R0) ∧ no_ k_ v1 ∧ k_ ≠ m0 ∧ k_ ≠ n0 ∧ k_ ≠ i0 ∧ k_ ≠ o0 ∧ k_ ≠ f0)) k_ ∧ no_ k_ (.slice X0 d0.length Y0)) rfl rfl ?aO ?aR (fun _ hk => hk) ?aF ?aB ?aS ?aL ?_
 (case aR => exact (by skip; exact Kd.N_F (Kd.N_mono (ok' := (fun k_ => ((fun k_ => (w.heap.size ≤ k_) ∧ no_ k_ (.slice L0 a0.length M0) ∧ no_ k_ (.slice S0 C0.length T0) ∧ no_ k_ (.slice O0 q0.length P0) ∧ no_ k_ (.slice Q0 v0.length R0) ∧ no_ k_ v1 ∧ k_ ≠ m0 ∧ k_ ≠ n0 ∧ k_ ≠ i0 ∧ k_ ≠ o0 ∧ k_ ≠ f0)) k_ ∧ no_ k_ (.slice X0 d0.length Y0))) (Z0.out) cj_)))
 (case aB => exact (bl_ HB))
 (case aF => exact (fun k_ hk => ⟨(Nat.le_trans (bs_ HB) hk), Kd.fresh' (Kd.N_lt (kN_ b0)) k_ hk, Kd.fresh' (Kd.R_lt (kR_ r0)) k_ hk, Kd.fresh' (Kd.R_lt (kR_ p0)) k_ hk, Kd.fresh' (Kd.R_lt (kR_ t0)) k_ hk, Kd.fresh' (Kd.N_lt (kN_ l1)) k_ hk, Kd.freshB (g := m0) (o := .cells #[.int .i64 A0, .int .i64 B0, .slice F0 y0.length G0, .slice H0 z0.length I0] 24 (0, 0)) (bk_ g0) k_ hk, Kd.freshB (g := n0) (o := .cells #[.slice (some c1) N0.length b1] 37 (0, 0)) (bk_ h0) k_ hk, Kd.freshB (g := i0) (o := .cells #[.slice none 0 0, .slice none 0 0] 28 (0, 0)) (bk_ j0) k_ hk, Kd.freshB (g := o0) (o := .cells #[.int .i64 A0, .int .i64 B0, .slice F0 y0.length G0, .slice H0 z0.length I0] 61 (0, 0)) (bk_ k0) k_ hk, Kd.freshB (g := f0) (o := .cells #[.slice X0 d0.length Y0, .slice L0 a0.length M0] 28 (0, 0)) (bk_ e0) k_ hk⟩))
 (case aO => exact (by (with_reducible repeat (first | apply Kd.N_alloc | apply Kd.N_drewN | apply Kd.N_drew)); exact Kd.N_mono c0.out cj_))
 (case aS => exact (bs_ HB))
 (case aL => have := G3.out; omega)
 intro R1 P5 ho hb hg hat
 rw [← H3.out] at ho
 replace b0 := a_ (Kd.N_afterv (ok := (fun k_ => (w.heap.size ≤ k_) ∧ no_ k_ (.slice S0 C0.length T0) ∧ no_ k_ (.slice O0 q0.length P0) ∧ no_ k_ (.slice Q0 v0.length R0) ∧ no_ k_ v1 ∧ no_ k_ (.slice L2 J1.length M2) ∧ k_ ≠ m0 ∧ k_ ≠ n0 ∧ k_ ≠ i0 ∧ k_ ≠ o0 ∧ k_ ≠ f0)) (by (with_reducible repeat (first | apply Kd.N_alloc | apply Kd.N_drewN | apply Kd.N_drew)); exact Kd.N_mono b0.out cj_) hg hat)
 replace g0 := (FG_ g0 hg (Kd.N_ne c0.out g0.out (by decide)))
 replace h0 := (FG_ h0 hg (Kd.N_ne c0.out h0.out (by decide)))
 replace j0 := (FG_ j0 hg (Kd.N_ne c0.out j0.out (by decide)))
 replace k0 := (FG_ k0 hg (Kd.N_ne c0.out k0.out (by decide)))
 replace e0 := (FG_ e0 hg (Kd.N_ne c0.out e0.out (by decide)))
 replace r0 := a_ (Kd.R_over' (kR_ r0) (Kd.N_typed (kN_ c0)) (by decide) hg)
 replace p0 := a_ (Kd.R_over' (kR_ p0) (Kd.N_typed (kN_ c0)) (by decide) hg)
 replace t0 := a_ (Kd.R_over' (kR_ t0) (Kd.N_typed (kN_ c0)) (by decide) hg)
 replace l1 := a_ (Kd.N_afterv (ok := (fun k_ => (w.heap.size ≤ k_) ∧ no_ k_ (.slice L0 a0.length M0) ∧ no_ k_ (.slice S0 C0.length T0) ∧ no_ k_ (.slice O0 q0.length P0) ∧ no_ k_ (.slice Q0 v0.length R0) ∧ no_ k_ (.slice L2 J1.length M2) ∧ k_ ≠ m0 ∧ k_ ≠ n0 ∧ k_ ≠ i0 ∧ k_ ≠ o0 ∧ k_ ≠ f0)) (by (with_reducible repeat (first | apply Kd.N_alloc | apply Kd.N_drewN | apply Kd.N_drew)); exact Kd.N_mono l1.out cj_) hg hat)
 replace Z0 := a_ (Kd.N_afterv (ok := (fun k_ => (w.heap.size ≤ k_) ∧ no_ k_ (.slice L0 a0.length M0) ∧ no_ k_ (.slice S0 C0.length T0) ∧ no_ k_ (.slice O0 q0.length P0) ∧ no_ k_ (.slice Q0 v0.length R0) ∧ no_ k_ v1 ∧ k_ ≠ m0 ∧ k_ ≠ n0 ∧ k_ ≠ i0 ∧ k_ ≠ o0 ∧ k_ ≠ f0)) (by (with_reducible repeat (first | apply Kd.N_alloc | apply Kd.N_drewN | apply Kd.N_drew)); exact Kd.N_mono Z0.out cj_) hg hat)
 replace HB := a_ (hb)
 have B1 := a_ (ho)
 clear c0
 clear ho hb hg hat
 refine hK.out _ _ ⟨ce_ e0 0, ce_ e0 1⟩ (fun hHeld => ?_)
 clear hK K
 refine norm_ (a' := ?_) ?_ ?_
 rotate_left
 {
 show Act.put _ (some 49) _ = _
 exact sp_}
 refine pu_ 10 (some 55) (B_ 14 1535) HT_ ?_
 exact norm_ pa_ (hCont (.slice L2 J1.length M2, R1, v1) _ ⟨hHeld, (by (with_reducible repeat (first | apply Kd.R_alloc | apply Kd.R_drewN | apply Kd.R_drew)); exact Kd.R_mono r0.out (fun _ hk => hk.1)), (by (with_reducible repeat (first | apply Kd.R_alloc | apply Kd.R_drewN | apply Kd.R_drew)); exact Kd.R_mono p0.out (fun _ hk => ⟨hk.1.1, hk.2⟩)), (by (with_reducible repeat (first | apply Kd.R_alloc | apply Kd.R_drewN | apply Kd.R_drew)); exact Kd.R_mono t0.out (fun _ hk => ⟨hk.1.1, hk.2⟩)), (by (with_reducible repeat (first | apply Kd.N_alloc | apply Kd.N_drewN | apply Kd.N_drew)); exact Kd.N_mono Z0.out cj_), (by (with_reducible repeat (first | apply Kd.N_alloc | apply Kd.N_drewN | apply Kd.N_drew)); exact Kd.N_mono B1.out cj_), (by (with_reducible repeat (first | apply Kd.N_alloc | apply Kd.N_drewN | apply Kd.N_drew)); exact Kd.N_mono l1.out cj_), (by (with_reducible repeat (first | apply Kd.N_alloc | apply Kd.N_drewN | apply Kd.N_drew)); exact Kd.N_mono b0.out cj_), (bk_ g0), (bk_ h0), (bk_ j0), (bk_ k0), (bk_ e0), (bl_ HB)⟩)}}
 clear c0 b0 r0 p0 t0 g0 h0 j0 k0 e0 HB
 rintro ⟨q2, R1, v1⟩ Q5 ⟨hS_, h0_, h1_, h2_, h3_, h4_, h5_, h6_, h7_, h8_, h9_, h10_, h11_, h12_⟩
 (try dsimp only at h0_ h1_ h2_ h3_ h4_ h5_ h6_ h7_ h8_ h9_ h10_ h11_ h12_)
 have r0 := a_ h0_
 have p0 := a_ h1_
 have t0 := a_ h2_
 have Z0 := a_ h3_
 have B1 := a_ h4_
 have l1 := a_ h5_
 have b0 := a_ h6_
 have g0 := a_ h7_
 have h0 := a_ h8_
 have j0 := a_ h9_
 have k0 := a_ h10_
 have e0 := a_ h11_
 have HB := a_ h12_
 clear h0_ h1_ h2_ h3_ h4_ h5_ h6_ h7_ h8_ h9_ h10_ h11_ h12_
 have hHeld : Q5.cell? ⟨f0, 0, none⟩ = some (.slice X0 d0.length Y0) ∧ Q5.cell? ⟨f0, 1, none⟩ = some (.slice L0 a0.length M0) := hS_
 obtain ⟨b5, c5, d5⟩ := Kd.N_slice l1.out
 (first | subst d5 | (injection d5 with f1_ f2_ f3_; have f4_ := f1_.symm; have f5_ := f3_.symm; clear f1_ f2_ f3_; subst f4_; subst f5_))
 refine norm_ (a' := ?_) ?_ ?_
 rotate_left
 {
 simp only [putAll, Act.put, List.setIfInBounds_toArray, List.set_cons_zero, List.set_cons_succ]
 rfl}
 refine one_ (i := 9) (N := some 54) (B_ 14 2047) rfl rfl (one_of HT_.out kf_) (by decide) (fun K hK => ?_)
 refine Kd.N_append_rows_step (Kd.slice 2 (Kd.int .i64)) (w0 := w) w.heap.size (by rfl) (.tmp 51) (.tmp 53) 26 53 (.slice none 0 0) 24 rfl Try.underlying26 info53 rfl (by decide) (by omega) (.slice L0 a0.length M0) a0 k3 _ _ _ (fun k_ => (w.heap.size ≤ k_) ∧ no_ k_ (.slice S0 C0.length T0) ∧ no_ k_ (.slice O0 q0.length P0) ∧ no_ k_ (.slice Q0 v0.length R0) ∧ no_ k_ q2 ∧ no_ k_ R1 ∧ k_ ≠ m0 ∧ k_ ≠ n0 ∧ k_ ≠ i0 ∧ k_ ≠ o0 ∧ k_ ≠ f0) (fun k_ => ((fun k_ => (w.heap.size ≤ k_) ∧ no_ k_ (.slice S0 C0.length T0) ∧ no_ k_ (.slice O0 q0.length P0) ∧ no_ k_ (.slice Q0 v0.length R0) ∧ no_ k_ q2 ∧ no_ k_ R1 ∧ k_ ≠ m0 ∧ k_ ≠ n0 ∧ k_ ≠ i0 ∧ k_ ≠ o0 ∧ k_ ≠ f0)) k_ ∧ no_ k_ (.slice L0 a0.length M0)) rfl rfl ?aO ?aR (fun _ hk => hk) ?aF ?aB ?aS ?aL ?_
 (case aR => exact (by skip; exact Kd.N_F (Kd.N_mono (ok' := (fun k_ => ((fun k_ => (w.heap.size ≤ k_) ∧ no_ k_ (.slice S0 C0.length T0) ∧ no_ k_ (.slice O0 q0.length P0) ∧ no_ k_ (.slice Q0 v0.length R0) ∧ no_ k_ q2 ∧ no_ k_ R1 ∧ k_ ≠ m0 ∧ k_ ≠ n0 ∧ k_ ≠ i0 ∧ k_ ≠ o0 ∧ k_ ≠ f0)) k_ ∧ no_ k_ (.slice L0 a0.length M0))) (l1.out) cj_)))
 (case aB => exact (bl_ HB))
 (case aF => exact (fun k_ hk => ⟨(Nat.le_trans (bs_ HB) hk), Kd.fresh' (Kd.R_lt (kR_ r0)) k_ hk, Kd.fresh' (Kd.R_lt (kR_ p0)) k_ hk, Kd.fresh' (Kd.R_lt (kR_ t0)) k_ hk, Kd.fresh' (Kd.N_lt (kN_ Z0)) k_ hk, Kd.fresh' (Kd.N_lt (kN_ B1)) k_ hk, Kd.freshB (g := m0) (o := .cells #[.int .i64 A0, .int .i64 B0, .slice F0 y0.length G0, .slice H0 z0.length I0] 24 (0, 0)) (bk_ g0) k_ hk, Kd.freshB (g := n0) (o := .cells #[.slice (some c1) N0.length b1] 37 (0, 0)) (bk_ h0) k_ hk, Kd.freshB (g := i0) (o := .cells #[.slice none 0 0, .slice none 0 0] 28 (0, 0)) (bk_ j0) k_ hk, Kd.freshB (g := o0) (o := .cells #[.int .i64 A0, .int .i64 B0, .slice F0 y0.length G0, .slice H0 z0.length I0] 61 (0, 0)) (bk_ k0) k_ hk, Kd.freshB (g := f0) (o := .cells #[.slice X0 d0.length Y0, .slice L0 a0.length M0] 28 (0, 0)) (bk_ e0) k_ hk⟩))
 (case aO => exact (by (with_reducible repeat (first | apply Kd.N_alloc | apply Kd.N_drewN | apply Kd.N_drew)); exact Kd.N_mono b0.out cj_))
 (case aS => exact (bs_ HB))
 (case aL => have := y5.out; omega)
 intro G9 R5 ho hb hg hat
 rw [← z5.out] at ho
 replace g0 := (FG_ g0 hg (Kd.N_ne b0.out g0.out (by decide)))
 replace h0 := (FG_ h0 hg (Kd.N_ne b0.out h0.out (by decide)))
 replace j0 := (FG_ j0 hg (Kd.N_ne b0.out j0.out (by decide)))
 replace k0 := (FG_ k0 hg (Kd.N_ne b0.out k0.out (by decide)))
 replace e0 := (FG_ e0 hg (Kd.N_ne b0.out e0.out (by decide)))
 replace r0 := a_ (Kd.R_over' (kR_ r0) (Kd.N_typed (kN_ b0)) (by decide) hg)
 replace p0 := a_ (Kd.R_over' (kR_ p0) (Kd.N_typed (kN_ b0)) (by decide) hg)
 replace t0 := a_ (Kd.R_over' (kR_ t0) (Kd.N_typed (kN_ b0)) (by decide) hg)
 replace Z0 := a_ (Kd.N_afterv (ok := (fun k_ => (w.heap.size ≤ k_) ∧ no_ k_ (.slice S0 C0.length T0) ∧ no_ k_ (.slice O0 q0.length P0) ∧ no_ k_ (.slice Q0 v0.length R0) ∧ no_ k_ R1 ∧ no_ k_ (.slice b5 k3.length c5) ∧ k_ ≠ m0 ∧ k_ ≠ n0 ∧ k_ ≠ i0 ∧ k_ ≠ o0 ∧ k_ ≠ f0)) (by (with_reducible repeat (first | apply Kd.N_alloc | apply Kd.N_drewN | apply Kd.N_drew)); exact Kd.N_mono Z0.out cj_) hg hat)
 replace B1 := a_ (Kd.N_afterv (ok := (fun k_ => (w.heap.size ≤ k_) ∧ no_ k_ (.slice S0 C0.length T0) ∧ no_ k_ (.slice O0 q0.length P0) ∧ no_ k_ (.slice Q0 v0.length R0) ∧ no_ k_ (.slice b5 k3.length c5) ∧ k_ ≠ m0 ∧ k_ ≠ n0 ∧ k_ ≠ i0 ∧ k_ ≠ o0 ∧ k_ ≠ f0)) (by (with_reducible repeat (first | apply Kd.N_alloc | apply Kd.N_drewN | apply Kd.N_drew)); exact Kd.N_mono B1.out cj_) hg hat)
 replace l1 := a_ (Kd.N_afterv (ok := (fun k_ => (w.heap.size ≤ k_) ∧ no_ k_ (.slice S0 C0.length T0) ∧ no_ k_ (.slice O0 q0.length P0) ∧ no_ k_ (.slice Q0 v0.length R0) ∧ no_ k_ q2 ∧ no_ k_ R1 ∧ k_ ≠ m0 ∧ k_ ≠ n0 ∧ k_ ≠ i0 ∧ k_ ≠ o0 ∧ k_ ≠ f0)) (by (with_reducible repeat (first | apply Kd.N_alloc | apply Kd.N_drewN | apply Kd.N_drew)); exact Kd.N_mono l1.out cj_) hg hat)
 replace HB := a_ (hb)
 have l4 := a_ (ho)
 clear b0
 clear ho hb hg hat
 obtain ⟨W3, X3, e5⟩ := Kd.N_slice B1.out
 (first | subst e5 | (injection e5 with f1_ f2_ f3_; have f4_ := f1_.symm; have f5_ := f3_.symm; clear f1_ f2_ f3_; subst f4_; subst f5_))
 obtain ⟨Y3, Z3, f5⟩ := Kd.N_slice l4.out
 (first | subst f5 | (injection f5 with f1_ f2_ f3_; have f4_ := f1_.symm; have f5_ := f3_.symm; clear f1_ f2_ f3_; subst f4_; subst f5_))
 refine hK.out _ _ ⟨ce_ e0 0, ce_ e0 1⟩ (fun hHeld => ?_)
 clear hK K
 refine norm_ (a' := ?_) ?_ ?_
 rotate_left
 {
 show Act.put _ (some 54) _ = _
 exact sp_}
 refine last_ (i := 11) (N := none) (B_ 14 4095) rfl rfl (one_of HT_.out kf_) (by decide) (fun K hK => ?_)
 have hs57 : R5.cell? ⟨f0, 0, none⟩ = some (.slice X0 d0.length Y0) := ce_ e0 0
 have hfs57 := blk_frozen e0.out 0
 have hns57_0 := N1.out
 have hns57_1 := C1.out
 have hns57_2 := P1.out
 have hns57_3 := q1.out
 have hms57_0 := O1.out
 have hms57_1 := D1.out
 have hms57_2 := Q1.out
 have hms57_3 := t1.out
 refine skip_ (w1 := ?_) (by rfl) rfl ?_ ?_
 rotate_left
 {
 go_simp
 rfl}
 refine hK.out _ _ ?_
 clear hK K
 refine pu_ 12 (some 56) (B_ 14 8191) HT_ ?_
 refine last_ (i := 13) (N := none) (B_ 14 16383) rfl rfl (one_of HT_.out kf_) (by decide) (fun K hK => ?_)
 have hs59 : R5.cell? ⟨f0, 1, none⟩ = some (.slice L0 a0.length M0) := ce_ e0 1
 have hfs59 := blk_frozen e0.out 1
 have hns59_0 := N1.out
 have hns59_1 := C1.out
 have hns59_2 := P1.out
 have hns59_3 := q1.out
 have hms59_0 := O1.out
 have hms59_1 := D1.out
 have hms59_2 := Q1.out
 have hms59_3 := t1.out
 refine skip_ (w1 := ?_) (by rfl) rfl ?_ ?_
 rotate_left
 {
 go_simp
 rfl}
 refine hK.out _ _ ?_
 clear hK K
 refine done_ (done_of HT_.out kf_) ?_
 try go_wp2
 go_roundg k1
 case measure => have := j4.out; omega
 case rel => exact ⟨(wrap64 (j1 + 1)), (j3), (I3), (.slice W3 j3.length X3), (.slice Y3 I3.length Z3), rs_, H', ⟨by have := j4.out; omega⟩, ⟨by (with_reducible repeat (first | apply Kd.N_alloc | apply Kd.N_drewN | apply Kd.N_drew)); exact Kd.N_mono (Kd.N_far (p := ⟨f0, 1, none⟩) (Kd.N_far (p := ⟨f0, 0, none⟩) (Kd.N_mono B1.out (fun k_ hk => (⟨hk, hk.1.2.2.2.2.2.2.2.2.2⟩ : _ ∧ k_ ≠ f0))) (fun _ hk => hk.2) (.slice W3 j3.length X3)) (fun _ hk => hk.2) (.slice Y3 I3.length Z3)) cj_⟩, ⟨by (with_reducible repeat (first | apply Kd.N_alloc | apply Kd.N_drewN | apply Kd.N_drew)); exact Kd.N_mono (Kd.N_far (p := ⟨f0, 1, none⟩) (Kd.N_far (p := ⟨f0, 0, none⟩) (Kd.N_mono l4.out (fun k_ hk => (⟨hk, hk.2.2.2.2.2.2.2.2.2.2⟩ : _ ∧ k_ ≠ f0))) (fun _ hk => hk.2) (.slice W3 j3.length X3)) (fun _ hk => hk.2) (.slice Y3 I3.length Z3)) cj_⟩, ⟨bk_ g0⟩, ⟨bk_ h0⟩, ⟨bk_ j0⟩, ⟨bk_ k0⟩, ⟨bp_ e0⟩, ⟨bl_ HB⟩⟩}
 {
 obtain ⟨A1, a3⟩ : ∃ y_ : List (List Int), y_ = (([C0] : List (List Int))) := ⟨_, rfl⟩
 first | replace H := by_ H a3 | rw [← a3] at H
 have b3 := a_ a3
 clear a3
 replace H := gt_ H
 obtain ⟨S5, H⟩ := H
 have J3 := a_ S5
 clear S5
 obtain ⟨o3, c3⟩ : ∃ y_ : List (List Int), y_ = (d0 ++ A1) := ⟨_, rfl⟩
 first | replace H := by_ H c3 | rw [← c3] at H
 have K3 := a_ c3
 clear c3
 obtain ⟨p3, d3⟩ : ∃ y_ : List (List Int), y_ = (([v0] : List (List Int))) := ⟨_, rfl⟩
 first | replace H := by_ H d3 | rw [← d3] at H
 have I2 := a_ d3
 clear d3
 replace H := gt_ H
 obtain ⟨T5, H⟩ := H
 have A5 := a_ T5
 clear T5
 obtain ⟨L3, e3⟩ : ∃ y_ : List (List Int), y_ = (a0 ++ p3) := ⟨_, rfl⟩
 first | replace H := by_ H e3 | rw [← e3] at H
 have B5 := a_ e3
 clear e3
 have H' := a_ H
 clear H
 have J2 : 0 ≤ (j1 : Int) := dm_
 have K2 : j1 < (N0.length : Int) := dm_
 obtain ⟨c1, w2, y2, V3, i2, j2, k2⟩ := at_L2 R2.out j1 J2 K2
 cases V3
 replace i2 := hc_ HB i2
 have l2 := a_ k2
 have m2 := a_ j2
 clear k2 j2
 replace J2 := eq_true J2
 replace K2 := eq_true K2
 have b9 := X1.out
 have c9 := W1.out
 have d9 := Z1.out
 have e9 := Y1.out
 have f9 := b2.out
 have g9 := a2.out
 have h9 := q1.out
 have i9 := t1.out
 obtain ⟨I7, J7, K7, L7, M7, N7, O7, P7⟩ := e4_ k0
 try go_wp2_with (first | ((with_reducible refine gate_callee (f := 37) rfl ?_); refine gL_ (some 31) Try.func37 #[.agg #[.int .i64 A0, .int .i64 B0, .slice F0 y0.length G0, .slice H0 z0.length I0], .slice w2 (rd_L2 N0 j1).length y2] ?_; (with_reducible refine (vcodec_codec_posts.calls k1 A0 B0 _ _ y0 _ _ z0 _ _ (rd_L2 N0 j1) C0 _ ?side1 ?side2 ?side3 ?side4 ?side5 ?side6 I5.out).mono ?_); (case side1 => exact kC_ B2 HB); (case side2 => exact C2.out); (case side3 => exact kC_ D2 HB); (case side4 => exact E2.out); (case side5 => exact kC_ l2 HB); (case side6 => exact m2.out); rintro e X9 ⟨b6, rfl, a1, hb⟩; refine ⟨_, rfl, ?_⟩; replace c0 := a_ (Kd.N_elder' (kN_ c0) (Kd.R_base a1) hb); replace b0 := a_ (Kd.N_elder' (kN_ b0) (Kd.R_base a1) hb); have r0 := a_ (Kd.R_lower (Kd.R_newM (M := fun k_ => (w.heap.size ≤ k_)) a1 (bs_ HB) (fun k_ h_ => h_)) (bs_ HB)); replace g0 := FB_ g0 hb; replace h0 := FB_ h0 hb; replace j0 := FB_ j0 hb; replace k0 := FB_ k0 hb; replace e0 := FB_ e0 hb; replace HB := BS_ HB hb; (try clear hb); (try clear a1); obtain ⟨g2, h2, j6⟩ := Kd.R_slice r0.out; subst j6) | ((with_reducible refine gate_callee (f := 34) rfl ?_); refine gL_ (some 34) Try.func34 #[.slice g2 C0.length h2] ?_; (with_reducible refine (floor_Floor.calls k1 _ _ C0 q0 Y4 _ ?side1 ?side2 J5.out).mono ?_); (case side1 => exact kCt_ (Kd.R_reads' r0.out).2.2); (case side2 => exact (Kd.R_reads' r0.out).2.1); rintro e Y9 ⟨d6, rfl, a1, hb⟩; refine ⟨_, rfl, ?_⟩; replace c0 := a_ (Kd.N_elder' (kN_ c0) (Kd.R_base a1) hb); replace b0 := a_ (Kd.N_elder' (kN_ b0) (Kd.R_base a1) hb); replace r0 := FR_ r0 hb; have p0 := a_ (Kd.R_lower (Kd.R_newM (M := fun k_ => (w.heap.size ≤ k_)) a1 (bs_ HB) (fun k_ h_ => h_)) (bs_ HB)); replace g0 := FB_ g0 hb; replace h0 := FB_ h0 hb; replace j0 := FB_ j0 hb; replace k0 := FB_ k0 hb; replace e0 := FB_ e0 hb; replace HB := BS_ HB hb; (try clear hb); (try clear a1); obtain ⟨J0, K0, k6⟩ := Kd.R_slice p0.out; subst k6) | ((with_reducible refine gate_callee (f := 38) rfl ?_); refine gL_ (some 40) Try.func38 #[.slice w2 (rd_L2 N0 j1).length y2, .slice J0 q0.length K0] ?_; (with_reducible refine (remap_Quantize.calls k1 _ _ (rd_L2 N0 j1) _ _ q0 v0 Z4 _ ?side1 ?side2 ?side3 ?side4 K5.out).mono ?_); (case side1 => exact kC_ l2 HB); (case side2 => exact m2.out); (case side3 => exact kCt_ (Kd.R_reads' p0.out).2.2); (case side4 => exact (Kd.R_reads' p0.out).2.1); rintro e m4 ⟨f6, rfl, a1, hb⟩; refine ⟨_, rfl, ?_⟩; replace c0 := a_ (Kd.N_elder' (kN_ c0) (Kd.R_base a1) hb); replace b0 := a_ (Kd.N_elder' (kN_ b0) (Kd.R_base a1) hb); replace r0 := FR_ r0 hb; have t0 := a_ (Kd.R_lower (Kd.R_new' (Kd.R_newM (M := fun k_ => (w.heap.size ≤ k_)) a1 (bs_ HB) (fun k_ h_ => h_)) (Kd.R_lt (kR_ p0))) (bs_ HB)); replace p0 := a_ (Kd.R_elder' (kR_ p0) (Kd.R_base a1) hb); replace g0 := FB_ g0 hb; replace h0 := FB_ h0 hb; replace j0 := FB_ j0 hb; replace k0 := FB_ k0 hb; replace e0 := FB_ e0 hb; replace HB := BS_ HB hb; (try clear hb); (try clear a1); obtain ⟨F1, G1, l6⟩ := Kd.R_slice t0.out; subst l6) | ((with_reducible refine gate_callee (f := 39) rfl ?_); refine gL_ (some 44) Try.func39 #[.slice F1 v0.length G1] ?_; (with_reducible refine (vcodec_silent.calls k1 _ _ v0 false _ ?side1 ?side2 L5.out).mono ?_); (case side1 => exact kCt_ (Kd.R_reads' t0.out).2.2); (case side2 => exact (Kd.R_reads' t0.out).2.1); rintro e w' ⟨rfl, ⟨nd, rfl⟩⟩; refine ⟨_, rfl, ?_⟩; (try (rw [drewN_self m4]; generalize hq_ : World.drewN m4 _ = m4; have n0_ := a_ (Kd.N_at hq_ c0.out); have n1_ := a_ (Kd.N_at hq_ b0.out); have n2_ := a_ (Kd.R_at hq_ r0.out); have n3_ := a_ (Kd.R_at hq_ p0.out); have n4_ := a_ (Kd.R_at hq_ t0.out); have n5_ := a_ (blk_at hq_ g0.out); have n6_ := a_ (blk_at hq_ h0.out); have n7_ := a_ (blk_at hq_ j0.out); have n8_ := a_ (blk_at hq_ k0.out); have n9_ := a_ (blk_at hq_ e0.out); have n10_ := a_ (below_at hq_ HB.out); clear hq_ c0 b0 r0 p0 t0 g0 h0 j0 k0 e0 HB; have c0 := n0_; have b0 := n1_; have r0 := n2_; have p0 := n3_; have t0 := n4_; have g0 := n5_; have h0 := n6_; have j0 := n7_; have k0 := n8_; have e0 := n9_; have HB := n10_; clear n0_ n1_ n2_ n3_ n4_ n5_ n6_ n7_ n8_ n9_ n10_)); obtain ⟨U0, V0, m6⟩ := Kd.N_slice c0.out; subst m6; obtain ⟨D0, E0, n6⟩ := Kd.N_slice b0.out; subst n6))
 replace c0 := a_ (Kd.N_drew c0.out)
 replace b0 := a_ (Kd.N_drew b0.out)
 replace r0 := a_ (Kd.R_drew r0.out)
 replace p0 := a_ (Kd.R_drew p0.out)
 replace t0 := a_ (Kd.R_drew t0.out)
 replace g0 := a_ (blk_drew g0.out)
 replace h0 := a_ (blk_drew h0.out)
 replace j0 := a_ (blk_drew j0.out)
 replace k0 := a_ (blk_drew k0.out)
 replace e0 := a_ (blk_drew e0.out)
 replace HB := a_ (below_drew1 HB.out)
 refine start_ (n := 14) (S := fun w' => w'.cell? ⟨f0, 0, none⟩ = some (.slice U0 d0.length V0) ∧ w'.cell? ⟨f0, 1, none⟩ = some (.slice D0 a0.length E0)) (ds := [11, 13]) (B_ 14 0) kf_ rfl rfl ⟨ce_ e0 0, ce_ e0 1⟩ (fun hHeld => ?_); refine with_tabW vcodec_Encode.tab13 vcodec_Encode.bits13 (fun HT_ HW_ => ?_)
 generalize m4.drew = Z9 at c0 b0 r0 p0 t0 g0 h0 j0 k0 e0 HB hHeld ⊢
 refine pu_ 0 (some 45) (B_ 14 1) HT_ ?_
 refine pu_ 2 (some 47) (B_ 14 5) HT_ ?_
 refine pu_ 5 (some 50) (B_ 14 37) HT_ ?_
 refine pu_ 7 (some 52) (B_ 14 165) HT_ ?_
 refine take_ (i := 1) (N := some 46) (v := ?_) (a' := ?_) (B_ 14 167) rfl rfl (take_ofW HT_.out HW_.out kf_) (fun _ _ _ h => h) (Or.inl ⟨by rfl, ?_⟩) hHeld ?_ ?_
 rotate_left
 {
 rintro w' ⟨s0, s1⟩
 go_simp
 with_reducible rfl}
 rotate_left
 {
 exact sp_}
 refine take_ (i := 6) (N := some 51) (v := ?_) (a' := ?_) (B_ 14 231) rfl rfl (take_ofW HT_.out HW_.out kf_) (fun _ _ _ h => h) (Or.inl ⟨by rfl, ?_⟩) hHeld ?_ ?_
 rotate_left
 {
 rintro w' ⟨s0, s1⟩
 go_simp
 with_reducible rfl}
 rotate_left
 {
 exact sp_}
 refine join_ (σ := Value × Value × Value) 4 (B_ 14 1535) (fun s_ => [(48, s_.1), (49, s_.2.1), (53, s_.2.2), (55, .pointer (some ⟨f0, 0, none⟩))]) (fun s_ w' => (w'.cell? ⟨f0, 0, none⟩ = some (.slice U0 d0.length V0) ∧ w'.cell? ⟨f0, 1, none⟩ = some (.slice D0 a0.length E0)) ∧ (Kd.R (Kd.int .i64) 2 w' w.heap.size (fun k_ => (w.heap.size ≤ k_)) (.slice J0 q0.length K0) q0) ∧ (Kd.N (Kd.slice 3 (Kd.int .i64)) 22 w' w.heap.size (fun k_ => (w.heap.size ≤ k_) ∧ no_ k_ (.slice J0 q0.length K0) ∧ no_ k_ s_.2.1 ∧ no_ k_ s_.2.2 ∧ no_ k_ (.slice D0 a0.length E0) ∧ k_ ≠ m0 ∧ k_ ≠ n0 ∧ k_ ≠ i0 ∧ k_ ≠ o0 ∧ k_ ≠ f0) s_.1 A1) ∧ (Kd.N (Kd.slice 3 (Kd.int .i64)) 22 w' w.heap.size (fun k_ => (w.heap.size ≤ k_) ∧ no_ k_ (.slice J0 q0.length K0) ∧ no_ k_ s_.2.2 ∧ no_ k_ (.slice D0 a0.length E0) ∧ k_ ≠ m0 ∧ k_ ≠ n0 ∧ k_ ≠ i0 ∧ k_ ≠ o0 ∧ k_ ≠ f0) s_.2.1 o3) ∧ (Kd.N (Kd.slice 2 (Kd.int .i64)) 53 w' w.heap.size (fun k_ => (w.heap.size ≤ k_) ∧ no_ k_ (.slice J0 q0.length K0) ∧ no_ k_ s_.1 ∧ no_ k_ s_.2.1 ∧ no_ k_ (.slice D0 a0.length E0) ∧ k_ ≠ m0 ∧ k_ ≠ n0 ∧ k_ ≠ i0 ∧ k_ ≠ o0 ∧ k_ ≠ f0) s_.2.2 p3) ∧ (Kd.N (Kd.slice 2 (Kd.int .i64)) 53 w' w.heap.size (fun k_ => (w.heap.size ≤ k_) ∧ no_ k_ (.slice J0 q0.length K0) ∧ no_ k_ s_.1 ∧ no_ k_ s_.2.1 ∧ no_ k_ s_.2.2 ∧ k_ ≠ m0 ∧ k_ ≠ n0 ∧ k_ ≠ i0 ∧ k_ ≠ o0 ∧ k_ ≠ f0) (.slice D0 a0.length E0) a0) ∧ (w'.heap[m0]? = some (.cells #[.int .i64 A0, .int .i64 B0, .slice F0 y0.length G0, .slice H0 z0.length I0] 24 (0, 0))) ∧ (w'.heap[n0]? = some (.cells #[.slice (some c1) N0.length b1] 37 (0, 0))) ∧ (w'.heap[i0]? = some (.cells #[.slice none 0 0, .slice none 0 0] 28 (0, 0))) ∧ (w'.heap[o0]? = some (.cells #[.int .i64 A0, .int .i64 B0, .slice F0 y0.length G0, .slice H0 z0.length I0] 61 (0, 0))) ∧ (w'.heap[f0]? = some (.cells #[.slice U0 d0.length V0, .slice D0 a0.length E0] 28 (0, 0))) ∧ (Below w.heap.size w w')) ?_ ?_
 rotate_left
 {
 intro hCont
 refine two_ (i := 3) (j := 8) (Ni := some 48) (Nj := some 53) (B_ 14 239) (B_ 14 487) rfl rfl rfl rfl (two_of HT_.out kf_) (by decide) (by decide) (fun K hK => ?_) (fun K hK => ?_)
 {
 skip
 refine Kd.N_lit_step (Kd.slice 3 (Kd.int .i64)) _ 22 ?hg (N' := 48) ?hd (xs := ([C0] : List (List Int))) (inner := [.slice g2 C0.length h2]) (ok := (fun k_ => (w.heap.size ≤ k_) ∧ no_ k_ (.slice U0 d0.length V0) ∧ no_ k_ (.slice D0 a0.length E0) ∧ no_ k_ (.slice J0 q0.length K0) ∧ no_ k_ (.slice F1 v0.length G1) ∧ k_ ≠ m0 ∧ k_ ≠ n0 ∧ k_ ≠ i0 ∧ k_ ≠ o0 ∧ k_ ≠ f0)) (okp := (fun k_ => (w.heap.size ≤ k_) ∧ no_ k_ (.slice U0 d0.length V0) ∧ no_ k_ (.slice D0 a0.length E0) ∧ no_ k_ (.slice J0 q0.length K0) ∧ no_ k_ (.slice F1 v0.length G1) ∧ k_ ≠ m0 ∧ k_ ≠ n0 ∧ k_ ≠ i0 ∧ k_ ≠ o0 ∧ k_ ≠ f0)) ?hr ?hp (fun _ hk => hk) (fr_ (P := (fun k_ => (w.heap.size ≤ k_) ∧ no_ k_ (.slice U0 d0.length V0) ∧ no_ k_ (.slice D0 a0.length E0) ∧ no_ k_ (.slice J0 q0.length K0) ∧ no_ k_ (.slice F1 v0.length G1) ∧ k_ ≠ m0 ∧ k_ ≠ n0 ∧ k_ ≠ i0 ∧ k_ ≠ o0 ∧ k_ ≠ f0)) (fun k_ hk => ⟨(Nat.le_trans (bs_ HB) hk), Kd.fresh' (Kd.N_lt (kN_ c0)) k_ hk, Kd.fresh' (Kd.N_lt (kN_ b0)) k_ hk, Kd.fresh' (Kd.R_lt (kR_ p0)) k_ hk, Kd.fresh' (Kd.R_lt (kR_ t0)) k_ hk, Kd.freshB (g := m0) (o := .cells #[.int .i64 A0, .int .i64 B0, .slice F0 y0.length G0, .slice H0 z0.length I0] 24 (0, 0)) (bk_ g0) k_ hk, Kd.freshB (g := n0) (o := .cells #[.slice (some c1) N0.length b1] 37 (0, 0)) (bk_ h0) k_ hk, Kd.freshB (g := i0) (o := .cells #[.slice none 0 0, .slice none 0 0] 28 (0, 0)) (bk_ j0) k_ hk, Kd.freshB (g := o0) (o := .cells #[.int .i64 A0, .int .i64 B0, .slice F0 y0.length G0, .slice H0 z0.length I0] 61 (0, 0)) (bk_ k0) k_ hk, Kd.freshB (g := f0) (o := .cells #[.slice U0 d0.length V0, .slice D0 a0.length E0] 28 (0, 0)) (bk_ e0) k_ hk⟩)) (Below.refl _ _) (Nat.le_refl _) (by simp) ?_; (case hd => rfl); (case hg => rfl); (case hr => first | (go_simp; done) | (go_simp; rfl)); (case hp => exact (Reps.one (show Kd.FK (Kd.slice 3 (Kd.int .i64)) _ _ C0 [.slice g2 C0.length h2] from (Kd.FK_slice_mk (Kd.R_reads' (Kd.R_mono (ok' := (fun k_ => (w.heap.size ≤ k_) ∧ no_ k_ (.slice U0 d0.length V0) ∧ no_ k_ (.slice D0 a0.length E0) ∧ no_ k_ (.slice J0 q0.length K0) ∧ no_ k_ (.slice F1 v0.length G1) ∧ k_ ≠ m0 ∧ k_ ≠ n0 ∧ k_ ≠ i0 ∧ k_ ≠ o0 ∧ k_ ≠ f0)) (Kd.R_types (Kd.R_types (Kd.R_types (Kd.R_types (Kd.R_types (Kd.R_apart' (Kd.R_apart' (Kd.R_apart' (Kd.R_apart' (r0.out) (Kd.N_typed c0.out) (by decide)) (Kd.N_typed b0.out) (by decide)) (Kd.R_typed p0.out) (by decide)) (Kd.R_typed t0.out) (by decide)) g0.out (by decide)) h0.out (by decide)) j0.out (by decide)) k0.out (by decide)) e0.out (by decide)) cj_)).2.1 (Kd.R_F (Kd.R_mono (ok' := (fun k_ => (w.heap.size ≤ k_) ∧ no_ k_ (.slice U0 d0.length V0) ∧ no_ k_ (.slice D0 a0.length E0) ∧ no_ k_ (.slice J0 q0.length K0) ∧ no_ k_ (.slice F1 v0.length G1) ∧ k_ ≠ m0 ∧ k_ ≠ n0 ∧ k_ ≠ i0 ∧ k_ ≠ o0 ∧ k_ ≠ f0)) (Kd.R_types (Kd.R_types (Kd.R_types (Kd.R_types (Kd.R_types (Kd.R_apart' (Kd.R_apart' (Kd.R_apart' (Kd.R_apart' (r0.out) (Kd.N_typed c0.out) (by decide)) (Kd.N_typed b0.out) (by decide)) (Kd.R_typed p0.out) (by decide)) (Kd.R_typed t0.out) (by decide)) g0.out (by decide)) h0.out (by decide)) j0.out (by decide)) k0.out (by decide)) e0.out (by decide)) cj_)))) (Reps.none _ _)))
 intro e2 S7 M1 hb hg_ hnew_
 clear hg_ hnew_
 (first | rw [← b3.out] at M1 | (simp only [Int.reduceToNat] at M1; rw [← b3.out] at M1))
 replace c0 := a_ (Kd.N_elder' (kN_ c0) (Kd.N_base M1) hb)
 replace b0 := a_ (Kd.N_elder' (kN_ b0) (Kd.N_base M1) hb)
 replace p0 := FR_ p0 hb
 replace t0 := FR_ t0 hb
 have W0 := a_ (Kd.N_lower M1 (bs_ HB))
 replace g0 := FB_ g0 hb
 replace h0 := FB_ h0 hb
 replace j0 := FB_ j0 hb
 replace k0 := FB_ k0 hb
 replace e0 := FB_ e0 hb
 replace HB := BS_ HB hb
 clear r0
 clear hb M1
 refine hK.out _ _ ⟨ce_ e0 0, ce_ e0 1⟩ (fun hHeld => ?_)
 clear hK K
 refine norm_ (a' := ?_) ?_ ?_
 rotate_left
 {
 show Act.put _ (some 48) _ = _
 exact sp_}
 refine two_ (i := 4) (j := 8) (Ni := some 49) (Nj := some 53) (B_ 14 255) (B_ 14 495) rfl rfl rfl rfl (two_of HT_.out kf_) (by decide) (by decide) (fun K hK => ?_) (fun K hK => ?_)
 {
 skip
 obtain ⟨N2, O2, g5⟩ := Kd.N_slice W0.out
 (first | subst g5 | (injection g5 with f1_ f2_ f3_; have f4_ := f1_.symm; have f5_ := f3_.symm; clear f1_ f2_ f3_; subst f4_; subst f5_))
 refine Kd.N_append_rows_step (Kd.slice 3 (Kd.int .i64)) (w0 := w) w.heap.size (by rfl) (.tmp 46) (.tmp 48) 25 22 (.slice none 0 0) 24 rfl Try.underlying25 info22 rfl (by decide) (by omega) (.slice U0 d0.length V0) d0 A1 _ _ _ (fun k_ => (w.heap.size ≤ k_) ∧ no_ k_ (.slice D0 a0.length E0) ∧ no_ k_ (.slice J0 q0.length K0) ∧ no_ k_ (.slice F1 v0.length G1) ∧ k_ ≠ m0 ∧ k_ ≠ n0 ∧ k_ ≠ i0 ∧ k_ ≠ o0 ∧ k_ ≠ f0) (fun k_ => ((fun k_ => (w.heap.size ≤ k_) ∧ no_ k_ (.slice D0 a0.length E0) ∧ no_ k_ (.slice J0 q0.length K0) ∧ no_ k_ (.slice F1 v0.length G1) ∧ k_ ≠ m0 ∧ k_ ≠ n0 ∧ k_ ≠ i0 ∧ k_ ≠ o0 ∧ k_ ≠ f0)) k_ ∧ no_ k_ (.slice U0 d0.length V0)) rfl rfl ?aO ?aR (fun _ hk => hk) ?aF ?aB ?aS ?aL ?_
 (case aR => exact (by skip; exact Kd.N_F (Kd.N_mono (ok' := (fun k_ => ((fun k_ => (w.heap.size ≤ k_) ∧ no_ k_ (.slice D0 a0.length E0) ∧ no_ k_ (.slice J0 q0.length K0) ∧ no_ k_ (.slice F1 v0.length G1) ∧ k_ ≠ m0 ∧ k_ ≠ n0 ∧ k_ ≠ i0 ∧ k_ ≠ o0 ∧ k_ ≠ f0)) k_ ∧ no_ k_ (.slice U0 d0.length V0))) (W0.out) cj_)))
 (case aB => exact (bl_ HB))
 (case aF => exact (fun k_ hk => ⟨(Nat.le_trans (bs_ HB) hk), Kd.fresh' (Kd.N_lt (kN_ b0)) k_ hk, Kd.fresh' (Kd.R_lt (kR_ p0)) k_ hk, Kd.fresh' (Kd.R_lt (kR_ t0)) k_ hk, Kd.freshB (g := m0) (o := .cells #[.int .i64 A0, .int .i64 B0, .slice F0 y0.length G0, .slice H0 z0.length I0] 24 (0, 0)) (bk_ g0) k_ hk, Kd.freshB (g := n0) (o := .cells #[.slice (some c1) N0.length b1] 37 (0, 0)) (bk_ h0) k_ hk, Kd.freshB (g := i0) (o := .cells #[.slice none 0 0, .slice none 0 0] 28 (0, 0)) (bk_ j0) k_ hk, Kd.freshB (g := o0) (o := .cells #[.int .i64 A0, .int .i64 B0, .slice F0 y0.length G0, .slice H0 z0.length I0] 61 (0, 0)) (bk_ k0) k_ hk, Kd.freshB (g := f0) (o := .cells #[.slice U0 d0.length V0, .slice D0 a0.length E0] 28 (0, 0)) (bk_ e0) k_ hk⟩))
 (case aO => exact (by (with_reducible repeat (first | apply Kd.N_alloc | apply Kd.N_drewN | apply Kd.N_drew)); exact Kd.N_mono c0.out cj_))
 (case aS => exact (bs_ HB))
 (case aL => have := J3.out; omega)
 intro K1 U5 ho hb hg hat
 rw [← K3.out] at ho
 replace b0 := a_ (Kd.N_afterv (ok := (fun k_ => (w.heap.size ≤ k_) ∧ no_ k_ (.slice J0 q0.length K0) ∧ no_ k_ (.slice F1 v0.length G1) ∧ no_ k_ (.slice N2 A1.length O2) ∧ k_ ≠ m0 ∧ k_ ≠ n0 ∧ k_ ≠ i0 ∧ k_ ≠ o0 ∧ k_ ≠ f0)) (by (with_reducible repeat (first | apply Kd.N_alloc | apply Kd.N_drewN | apply Kd.N_drew)); exact Kd.N_mono b0.out cj_) hg hat)
 replace g0 := (FG_ g0 hg (Kd.N_ne c0.out g0.out (by decide)))
 replace h0 := (FG_ h0 hg (Kd.N_ne c0.out h0.out (by decide)))
 replace j0 := (FG_ j0 hg (Kd.N_ne c0.out j0.out (by decide)))
 replace k0 := (FG_ k0 hg (Kd.N_ne c0.out k0.out (by decide)))
 replace e0 := (FG_ e0 hg (Kd.N_ne c0.out e0.out (by decide)))
 replace p0 := a_ (Kd.R_over' (kR_ p0) (Kd.N_typed (kN_ c0)) (by decide) hg)
 replace t0 := a_ (Kd.R_over' (kR_ t0) (Kd.N_typed (kN_ c0)) (by decide) hg)
 replace W0 := a_ (Kd.N_afterv (ok := (fun k_ => (w.heap.size ≤ k_) ∧ no_ k_ (.slice D0 a0.length E0) ∧ no_ k_ (.slice J0 q0.length K0) ∧ no_ k_ (.slice F1 v0.length G1) ∧ k_ ≠ m0 ∧ k_ ≠ n0 ∧ k_ ≠ i0 ∧ k_ ≠ o0 ∧ k_ ≠ f0)) (by (with_reducible repeat (first | apply Kd.N_alloc | apply Kd.N_drewN | apply Kd.N_drew)); exact Kd.N_mono W0.out cj_) hg hat)
 replace HB := a_ (hb)
 have p1 := a_ (ho)
 clear c0
 clear ho hb hg hat
 refine hK.out _ _ ⟨ce_ e0 0, ce_ e0 1⟩ (fun hHeld => ?_)
 clear hK K
 refine norm_ (a' := ?_) ?_ ?_
 rotate_left
 {
 show Act.put _ (some 49) _ = _
 exact sp_}
 refine pu_ 10 (some 55) (B_ 14 1279) HT_ ?_
 refine one_ (i := 8) (N := some 53) (B_ 14 1535) rfl rfl (one_of HT_.out kf_) (by decide) (fun K hK => ?_)
 refine Kd.N_lit_step (Kd.slice 2 (Kd.int .i64)) _ 53 ?hg (N' := 53) ?hd (xs := ([v0] : List (List Int))) (inner := [.slice F1 v0.length G1]) (ok := (fun k_ => (w.heap.size ≤ k_) ∧ no_ k_ (.slice D0 a0.length E0) ∧ no_ k_ (.slice J0 q0.length K0) ∧ no_ k_ (.slice N2 A1.length O2) ∧ no_ k_ K1 ∧ k_ ≠ m0 ∧ k_ ≠ n0 ∧ k_ ≠ i0 ∧ k_ ≠ o0 ∧ k_ ≠ f0)) (okp := (fun k_ => (w.heap.size ≤ k_) ∧ no_ k_ (.slice D0 a0.length E0) ∧ no_ k_ (.slice J0 q0.length K0) ∧ no_ k_ (.slice N2 A1.length O2) ∧ no_ k_ K1 ∧ k_ ≠ m0 ∧ k_ ≠ n0 ∧ k_ ≠ i0 ∧ k_ ≠ o0 ∧ k_ ≠ f0)) ?hr ?hp (fun _ hk => hk) (fr_ (P := (fun k_ => (w.heap.size ≤ k_) ∧ no_ k_ (.slice D0 a0.length E0) ∧ no_ k_ (.slice J0 q0.length K0) ∧ no_ k_ (.slice N2 A1.length O2) ∧ no_ k_ K1 ∧ k_ ≠ m0 ∧ k_ ≠ n0 ∧ k_ ≠ i0 ∧ k_ ≠ o0 ∧ k_ ≠ f0)) (fun k_ hk => ⟨(Nat.le_trans (bs_ HB) hk), Kd.fresh' (Kd.N_lt (kN_ b0)) k_ hk, Kd.fresh' (Kd.R_lt (kR_ p0)) k_ hk, Kd.fresh' (Kd.N_lt (kN_ W0)) k_ hk, Kd.fresh' (Kd.N_lt (kN_ p1)) k_ hk, Kd.freshB (g := m0) (o := .cells #[.int .i64 A0, .int .i64 B0, .slice F0 y0.length G0, .slice H0 z0.length I0] 24 (0, 0)) (bk_ g0) k_ hk, Kd.freshB (g := n0) (o := .cells #[.slice (some c1) N0.length b1] 37 (0, 0)) (bk_ h0) k_ hk, Kd.freshB (g := i0) (o := .cells #[.slice none 0 0, .slice none 0 0] 28 (0, 0)) (bk_ j0) k_ hk, Kd.freshB (g := o0) (o := .cells #[.int .i64 A0, .int .i64 B0, .slice F0 y0.length G0, .slice H0 z0.length I0] 61 (0, 0)) (bk_ k0) k_ hk, Kd.freshB (g := f0) (o := .cells #[.slice U0 d0.length V0, .slice D0 a0.length E0] 28 (0, 0)) (bk_ e0) k_ hk⟩)) (Below.refl _ _) (Nat.le_refl _) (by simp) ?_; (case hd => rfl); (case hg => rfl); (case hr => first | (go_simp; done) | (go_simp; rfl)); (case hp => exact (Reps.one (show Kd.FK (Kd.slice 2 (Kd.int .i64)) _ _ v0 [.slice F1 v0.length G1] from (Kd.FK_slice_mk (Kd.R_reads' (Kd.R_mono (ok' := (fun k_ => (w.heap.size ≤ k_) ∧ no_ k_ (.slice D0 a0.length E0) ∧ no_ k_ (.slice J0 q0.length K0) ∧ no_ k_ (.slice N2 A1.length O2) ∧ no_ k_ K1 ∧ k_ ≠ m0 ∧ k_ ≠ n0 ∧ k_ ≠ i0 ∧ k_ ≠ o0 ∧ k_ ≠ f0)) (Kd.R_types (Kd.R_types (Kd.R_types (Kd.R_types (Kd.R_types (Kd.R_apart' (Kd.R_apart' (Kd.R_apart' (t0.out) (Kd.N_typed b0.out) (by decide)) (Kd.N_typed W0.out) (by decide)) (Kd.N_typed p1.out) (by decide)) g0.out (by decide)) h0.out (by decide)) j0.out (by decide)) k0.out (by decide)) e0.out (by decide)) cj_)).2.1 (Kd.R_F (Kd.R_mono (ok' := (fun k_ => (w.heap.size ≤ k_) ∧ no_ k_ (.slice D0 a0.length E0) ∧ no_ k_ (.slice J0 q0.length K0) ∧ no_ k_ (.slice N2 A1.length O2) ∧ no_ k_ K1 ∧ k_ ≠ m0 ∧ k_ ≠ n0 ∧ k_ ≠ i0 ∧ k_ ≠ o0 ∧ k_ ≠ f0)) (Kd.R_types (Kd.R_types (Kd.R_types (Kd.R_types (Kd.R_types (Kd.R_apart' (Kd.R_apart' (Kd.R_apart' (t0.out) (Kd.N_typed b0.out) (by decide)) (Kd.N_typed W0.out) (by decide)) (Kd.N_typed p1.out) (by decide)) g0.out (by decide)) h0.out (by decide)) j0.out (by decide)) k0.out (by decide)) e0.out (by decide)) cj_)))) (Reps.none _ _)))
 intro o1 V5 A2 hb hg_ hnew_
 clear hg_ hnew_
 (first | rw [← I2.out] at A2 | (simp only [Int.reduceToNat] at A2; rw [← I2.out] at A2))
 replace b0 := a_ (Kd.N_elder' (kN_ b0) (Kd.N_base A2) hb)
 replace p0 := FR_ p0 hb
 replace W0 := a_ (Kd.N_elder' (kN_ W0) (Kd.N_base A2) hb)
 replace p1 := a_ (Kd.N_elder' (kN_ p1) (Kd.N_base A2) hb)
 have d1 := a_ (Kd.N_lower A2 (bs_ HB))
 replace g0 := FB_ g0 hb
 replace h0 := FB_ h0 hb
 replace j0 := FB_ j0 hb
 replace k0 := FB_ k0 hb
 replace e0 := FB_ e0 hb
 replace HB := BS_ HB hb
 clear t0
 clear hb A2
 refine hK.out _ _ ⟨ce_ e0 0, ce_ e0 1⟩ (fun hHeld => ?_)
 clear hK K
 refine norm_ (a' := ?_) ?_ ?_
 rotate_left
 {
 show Act.put _ (some 53) _ = _
 exact sp_}
 exact norm_ pa_ (hCont (.slice N2 A1.length O2, K1, o1) _ ⟨hHeld, (by (with_reducible repeat (first | apply Kd.R_alloc | apply Kd.R_drewN | apply Kd.R_drew)); exact Kd.R_mono p0.out (fun _ hk => hk.1.1)), (by (with_reducible repeat (first | apply Kd.N_alloc | apply Kd.N_drewN | apply Kd.N_drew)); exact Kd.N_mono W0.out cj_), (by (with_reducible repeat (first | apply Kd.N_alloc | apply Kd.N_drewN | apply Kd.N_drew)); exact Kd.N_mono p1.out cj_), (by (with_reducible repeat (first | apply Kd.N_alloc | apply Kd.N_drewN | apply Kd.N_drew)); exact Kd.N_mono d1.out cj_), (by (with_reducible repeat (first | apply Kd.N_alloc | apply Kd.N_drewN | apply Kd.N_drew)); exact Kd.N_mono b0.out cj_), (bk_ g0), (bk_ h0), (bk_ j0), (bk_ k0), (bk_ e0), (bl_ HB)⟩)}
 {
 skip
 refine Kd.N_lit_step (Kd.slice 2 (Kd.int .i64)) _ 53 ?hg (N' := 53) ?hd (xs := ([v0] : List (List Int))) (inner := [.slice F1 v0.length G1]) (ok := (fun k_ => (w.heap.size ≤ k_) ∧ no_ k_ (.slice U0 d0.length V0) ∧ no_ k_ (.slice D0 a0.length E0) ∧ no_ k_ (.slice J0 q0.length K0) ∧ no_ k_ e2 ∧ k_ ≠ m0 ∧ k_ ≠ n0 ∧ k_ ≠ i0 ∧ k_ ≠ o0 ∧ k_ ≠ f0)) (okp := (fun k_ => (w.heap.size ≤ k_) ∧ no_ k_ (.slice U0 d0.length V0) ∧ no_ k_ (.slice D0 a0.length E0) ∧ no_ k_ (.slice J0 q0.length K0) ∧ no_ k_ e2 ∧ k_ ≠ m0 ∧ k_ ≠ n0 ∧ k_ ≠ i0 ∧ k_ ≠ o0 ∧ k_ ≠ f0)) ?hr ?hp (fun _ hk => hk) (fr_ (P := (fun k_ => (w.heap.size ≤ k_) ∧ no_ k_ (.slice U0 d0.length V0) ∧ no_ k_ (.slice D0 a0.length E0) ∧ no_ k_ (.slice J0 q0.length K0) ∧ no_ k_ e2 ∧ k_ ≠ m0 ∧ k_ ≠ n0 ∧ k_ ≠ i0 ∧ k_ ≠ o0 ∧ k_ ≠ f0)) (fun k_ hk => ⟨(Nat.le_trans (bs_ HB) hk), Kd.fresh' (Kd.N_lt (kN_ c0)) k_ hk, Kd.fresh' (Kd.N_lt (kN_ b0)) k_ hk, Kd.fresh' (Kd.R_lt (kR_ p0)) k_ hk, Kd.fresh' (Kd.N_lt (kN_ W0)) k_ hk, Kd.freshB (g := m0) (o := .cells #[.int .i64 A0, .int .i64 B0, .slice F0 y0.length G0, .slice H0 z0.length I0] 24 (0, 0)) (bk_ g0) k_ hk, Kd.freshB (g := n0) (o := .cells #[.slice (some c1) N0.length b1] 37 (0, 0)) (bk_ h0) k_ hk, Kd.freshB (g := i0) (o := .cells #[.slice none 0 0, .slice none 0 0] 28 (0, 0)) (bk_ j0) k_ hk, Kd.freshB (g := o0) (o := .cells #[.int .i64 A0, .int .i64 B0, .slice F0 y0.length G0, .slice H0 z0.length I0] 61 (0, 0)) (bk_ k0) k_ hk, Kd.freshB (g := f0) (o := .cells #[.slice U0 d0.length V0, .slice D0 a0.length E0] 28 (0, 0)) (bk_ e0) k_ hk⟩)) (Below.refl _ _) (Nat.le_refl _) (by simp) ?_; (case hd => rfl); (case hg => rfl); (case hr => first | (go_simp; done) | (go_simp; rfl)); (case hp => exact (Reps.one (show Kd.FK (Kd.slice 2 (Kd.int .i64)) _ _ v0 [.slice F1 v0.length G1] from (Kd.FK_slice_mk (Kd.R_reads' (Kd.R_mono (ok' := (fun k_ => (w.heap.size ≤ k_) ∧ no_ k_ (.slice U0 d0.length V0) ∧ no_ k_ (.slice D0 a0.length E0) ∧ no_ k_ (.slice J0 q0.length K0) ∧ no_ k_ e2 ∧ k_ ≠ m0 ∧ k_ ≠ n0 ∧ k_ ≠ i0 ∧ k_ ≠ o0 ∧ k_ ≠ f0)) (Kd.R_types (Kd.R_types (Kd.R_types (Kd.R_types (Kd.R_types (Kd.R_apart' (Kd.R_apart' (Kd.R_apart' (t0.out) (Kd.N_typed c0.out) (by decide)) (Kd.N_typed b0.out) (by decide)) (Kd.N_typed W0.out) (by decide)) g0.out (by decide)) h0.out (by decide)) j0.out (by decide)) k0.out (by decide)) e0.out (by decide)) cj_)).2.1 (Kd.R_F (Kd.R_mono (ok' := (fun k_ => (w.heap.size ≤ k_) ∧ no_ k_ (.slice U0 d0.length V0) ∧ no_ k_ (.slice D0 a0.length E0) ∧ no_ k_ (.slice J0 q0.length K0) ∧ no_ k_ e2 ∧ k_ ≠ m0 ∧ k_ ≠ n0 ∧ k_ ≠ i0 ∧ k_ ≠ o0 ∧ k_ ≠ f0)) (Kd.R_types (Kd.R_types (Kd.R_types (Kd.R_types (Kd.R_types (Kd.R_apart' (Kd.R_apart' (Kd.R_apart' (t0.out) (Kd.N_typed c0.out) (by decide)) (Kd.N_typed b0.out) (by decide)) (Kd.N_typed W0.out) (by decide)) g0.out (by decide)) h0.out (by decide)) j0.out (by decide)) k0.out (by decide)) e0.out (by decide)) cj_)))) (Reps.none _ _)))
 intro o1 U5 H1 hb hg_ hnew_
 clear hg_ hnew_
 (first | rw [← I2.out] at H1 | (simp only [Int.reduceToNat] at H1; rw [← I2.out] at H1))
 replace c0 := a_ (Kd.N_elder' (kN_ c0) (Kd.N_base H1) hb)
 replace b0 := a_ (Kd.N_elder' (kN_ b0) (Kd.N_base H1) hb)
 replace p0 := FR_ p0 hb
 replace W0 := a_ (Kd.N_elder' (kN_ W0) (Kd.N_base H1) hb)
 have d1 := a_ (Kd.N_lower H1 (bs_ HB))
 replace g0 := FB_ g0 hb
 replace h0 := FB_ h0 hb
 replace j0 := FB_ j0 hb
 replace k0 := FB_ k0 hb
 replace e0 := FB_ e0 hb
 replace HB := BS_ HB hb
 clear t0
 clear hb H1
 obtain ⟨P2, Q2, q3⟩ := Kd.N_slice W0.out
 (first | subst q3 | (injection q3 with f1_ f2_ f3_; have f4_ := f1_.symm; have f5_ := f3_.symm; clear f1_ f2_ f3_; subst f4_; subst f5_))
 refine hK.out _ _ ⟨ce_ e0 0, ce_ e0 1⟩ (fun hHeld => ?_)
 clear hK K
 refine norm_ (a' := ?_) ?_ ?_
 rotate_left
 {
 show Act.put _ (some 53) _ = _
 exact sp_}
 refine one_ (i := 4) (N := some 49) (B_ 14 511) rfl rfl (one_of HT_.out kf_) (by decide) (fun K hK => ?_)
 refine Kd.N_append_rows_step (Kd.slice 3 (Kd.int .i64)) (w0 := w) w.heap.size (by rfl) (.tmp 46) (.tmp 48) 25 22 (.slice none 0 0) 24 rfl Try.underlying25 info22 rfl (by decide) (by omega) (.slice U0 d0.length V0) d0 A1 _ _ _ (fun k_ => (w.heap.size ≤ k_) ∧ no_ k_ (.slice D0 a0.length E0) ∧ no_ k_ (.slice J0 q0.length K0) ∧ no_ k_ o1 ∧ k_ ≠ m0 ∧ k_ ≠ n0 ∧ k_ ≠ i0 ∧ k_ ≠ o0 ∧ k_ ≠ f0) (fun k_ => ((fun k_ => (w.heap.size ≤ k_) ∧ no_ k_ (.slice D0 a0.length E0) ∧ no_ k_ (.slice J0 q0.length K0) ∧ no_ k_ o1 ∧ k_ ≠ m0 ∧ k_ ≠ n0 ∧ k_ ≠ i0 ∧ k_ ≠ o0 ∧ k_ ≠ f0)) k_ ∧ no_ k_ (.slice U0 d0.length V0)) rfl rfl ?aO ?aR (fun _ hk => hk) ?aF ?aB ?aS ?aL ?_
 (case aR => exact (by skip; exact Kd.N_F (Kd.N_mono (ok' := (fun k_ => ((fun k_ => (w.heap.size ≤ k_) ∧ no_ k_ (.slice D0 a0.length E0) ∧ no_ k_ (.slice J0 q0.length K0) ∧ no_ k_ o1 ∧ k_ ≠ m0 ∧ k_ ≠ n0 ∧ k_ ≠ i0 ∧ k_ ≠ o0 ∧ k_ ≠ f0)) k_ ∧ no_ k_ (.slice U0 d0.length V0))) (W0.out) cj_)))
 (case aB => exact (bl_ HB))
 (case aF => exact (fun k_ hk => ⟨(Nat.le_trans (bs_ HB) hk), Kd.fresh' (Kd.N_lt (kN_ b0)) k_ hk, Kd.fresh' (Kd.R_lt (kR_ p0)) k_ hk, Kd.fresh' (Kd.N_lt (kN_ d1)) k_ hk, Kd.freshB (g := m0) (o := .cells #[.int .i64 A0, .int .i64 B0, .slice F0 y0.length G0, .slice H0 z0.length I0] 24 (0, 0)) (bk_ g0) k_ hk, Kd.freshB (g := n0) (o := .cells #[.slice (some c1) N0.length b1] 37 (0, 0)) (bk_ h0) k_ hk, Kd.freshB (g := i0) (o := .cells #[.slice none 0 0, .slice none 0 0] 28 (0, 0)) (bk_ j0) k_ hk, Kd.freshB (g := o0) (o := .cells #[.int .i64 A0, .int .i64 B0, .slice F0 y0.length G0, .slice H0 z0.length I0] 61 (0, 0)) (bk_ k0) k_ hk, Kd.freshB (g := f0) (o := .cells #[.slice U0 d0.length V0, .slice D0 a0.length E0] 28 (0, 0)) (bk_ e0) k_ hk⟩))
 (case aO => exact (by (with_reducible repeat (first | apply Kd.N_alloc | apply Kd.N_drewN | apply Kd.N_drew)); exact Kd.N_mono c0.out cj_))
 (case aS => exact (bs_ HB))
 (case aL => have := J3.out; omega)
 intro K1 V5 ho hb hg hat
 rw [← K3.out] at ho
 replace b0 := a_ (Kd.N_afterv (ok := (fun k_ => (w.heap.size ≤ k_) ∧ no_ k_ (.slice J0 q0.length K0) ∧ no_ k_ (.slice P2 A1.length Q2) ∧ no_ k_ o1 ∧ k_ ≠ m0 ∧ k_ ≠ n0 ∧ k_ ≠ i0 ∧ k_ ≠ o0 ∧ k_ ≠ f0)) (by (with_reducible repeat (first | apply Kd.N_alloc | apply Kd.N_drewN | apply Kd.N_drew)); exact Kd.N_mono b0.out cj_) hg hat)
 replace g0 := (FG_ g0 hg (Kd.N_ne c0.out g0.out (by decide)))
 replace h0 := (FG_ h0 hg (Kd.N_ne c0.out h0.out (by decide)))
 replace j0 := (FG_ j0 hg (Kd.N_ne c0.out j0.out (by decide)))
 replace k0 := (FG_ k0 hg (Kd.N_ne c0.out k0.out (by decide)))
 replace e0 := (FG_ e0 hg (Kd.N_ne c0.out e0.out (by decide)))
 replace p0 := a_ (Kd.R_over' (kR_ p0) (Kd.N_typed (kN_ c0)) (by decide) hg)
 replace W0 := a_ (Kd.N_afterv (ok := (fun k_ => (w.heap.size ≤ k_) ∧ no_ k_ (.slice D0 a0.length E0) ∧ no_ k_ (.slice J0 q0.length K0) ∧ no_ k_ o1 ∧ k_ ≠ m0 ∧ k_ ≠ n0 ∧ k_ ≠ i0 ∧ k_ ≠ o0 ∧ k_ ≠ f0)) (by (with_reducible repeat (first | apply Kd.N_alloc | apply Kd.N_drewN | apply Kd.N_drew)); exact Kd.N_mono W0.out cj_) hg hat)
 replace d1 := a_ (Kd.N_afterv (ok := (fun k_ => (w.heap.size ≤ k_) ∧ no_ k_ (.slice D0 a0.length E0) ∧ no_ k_ (.slice J0 q0.length K0) ∧ no_ k_ (.slice P2 A1.length Q2) ∧ k_ ≠ m0 ∧ k_ ≠ n0 ∧ k_ ≠ i0 ∧ k_ ≠ o0 ∧ k_ ≠ f0)) (by (with_reducible repeat (first | apply Kd.N_alloc | apply Kd.N_drewN | apply Kd.N_drew)); exact Kd.N_mono d1.out cj_) hg hat)
 replace HB := a_ (hb)
 have p1 := a_ (ho)
 clear c0
 clear ho hb hg hat
 refine hK.out _ _ ⟨ce_ e0 0, ce_ e0 1⟩ (fun hHeld => ?_)
 clear hK K
 refine norm_ (a' := ?_) ?_ ?_
 rotate_left
 {
 show Act.put _ (some 49) _ = _
 exact sp_}
 refine pu_ 10 (some 55) (B_ 14 1535) HT_ ?_
 exact norm_ pa_ (hCont (.slice P2 A1.length Q2, K1, o1) _ ⟨hHeld, (by (with_reducible repeat (first | apply Kd.R_alloc | apply Kd.R_drewN | apply Kd.R_drew)); exact Kd.R_mono p0.out (fun _ hk => hk.1.1)), (by (with_reducible repeat (first | apply Kd.N_alloc | apply Kd.N_drewN | apply Kd.N_drew)); exact Kd.N_mono W0.out cj_), (by (with_reducible repeat (first | apply Kd.N_alloc | apply Kd.N_drewN | apply Kd.N_drew)); exact Kd.N_mono p1.out cj_), (by (with_reducible repeat (first | apply Kd.N_alloc | apply Kd.N_drewN | apply Kd.N_drew)); exact Kd.N_mono d1.out cj_), (by (with_reducible repeat (first | apply Kd.N_alloc | apply Kd.N_drewN | apply Kd.N_drew)); exact Kd.N_mono b0.out cj_), (bk_ g0), (bk_ h0), (bk_ j0), (bk_ k0), (bk_ e0), (bl_ HB)⟩)}}
 {
 skip
 refine Kd.N_lit_step (Kd.slice 2 (Kd.int .i64)) _ 53 ?hg (N' := 53) ?hd (xs := ([v0] : List (List Int))) (inner := [.slice F1 v0.length G1]) (ok := (fun k_ => (w.heap.size ≤ k_) ∧ no_ k_ (.slice U0 d0.length V0) ∧ no_ k_ (.slice D0 a0.length E0) ∧ no_ k_ (.slice g2 C0.length h2) ∧ no_ k_ (.slice J0 q0.length K0) ∧ k_ ≠ m0 ∧ k_ ≠ n0 ∧ k_ ≠ i0 ∧ k_ ≠ o0 ∧ k_ ≠ f0)) (okp := (fun k_ => (w.heap.size ≤ k_) ∧ no_ k_ (.slice U0 d0.length V0) ∧ no_ k_ (.slice D0 a0.length E0) ∧ no_ k_ (.slice g2 C0.length h2) ∧ no_ k_ (.slice J0 q0.length K0) ∧ k_ ≠ m0 ∧ k_ ≠ n0 ∧ k_ ≠ i0 ∧ k_ ≠ o0 ∧ k_ ≠ f0)) ?hr ?hp (fun _ hk => hk) (fr_ (P := (fun k_ => (w.heap.size ≤ k_) ∧ no_ k_ (.slice U0 d0.length V0) ∧ no_ k_ (.slice D0 a0.length E0) ∧ no_ k_ (.slice g2 C0.length h2) ∧ no_ k_ (.slice J0 q0.length K0) ∧ k_ ≠ m0 ∧ k_ ≠ n0 ∧ k_ ≠ i0 ∧ k_ ≠ o0 ∧ k_ ≠ f0)) (fun k_ hk => ⟨(Nat.le_trans (bs_ HB) hk), Kd.fresh' (Kd.N_lt (kN_ c0)) k_ hk, Kd.fresh' (Kd.N_lt (kN_ b0)) k_ hk, Kd.fresh' (Kd.R_lt (kR_ r0)) k_ hk, Kd.fresh' (Kd.R_lt (kR_ p0)) k_ hk, Kd.freshB (g := m0) (o := .cells #[.int .i64 A0, .int .i64 B0, .slice F0 y0.length G0, .slice H0 z0.length I0] 24 (0, 0)) (bk_ g0) k_ hk, Kd.freshB (g := n0) (o := .cells #[.slice (some c1) N0.length b1] 37 (0, 0)) (bk_ h0) k_ hk, Kd.freshB (g := i0) (o := .cells #[.slice none 0 0, .slice none 0 0] 28 (0, 0)) (bk_ j0) k_ hk, Kd.freshB (g := o0) (o := .cells #[.int .i64 A0, .int .i64 B0, .slice F0 y0.length G0, .slice H0 z0.length I0] 61 (0, 0)) (bk_ k0) k_ hk, Kd.freshB (g := f0) (o := .cells #[.slice U0 d0.length V0, .slice D0 a0.length E0] 28 (0, 0)) (bk_ e0) k_ hk⟩)) (Below.refl _ _) (Nat.le_refl _) (by simp) ?_; (case hd => rfl); (case hg => rfl); (case hr => first | (go_simp; done) | (go_simp; rfl)); (case hp => exact (Reps.one (show Kd.FK (Kd.slice 2 (Kd.int .i64)) _ _ v0 [.slice F1 v0.length G1] from (Kd.FK_slice_mk (Kd.R_reads' (Kd.R_mono (ok' := (fun k_ => (w.heap.size ≤ k_) ∧ no_ k_ (.slice U0 d0.length V0) ∧ no_ k_ (.slice D0 a0.length E0) ∧ no_ k_ (.slice g2 C0.length h2) ∧ no_ k_ (.slice J0 q0.length K0) ∧ k_ ≠ m0 ∧ k_ ≠ n0 ∧ k_ ≠ i0 ∧ k_ ≠ o0 ∧ k_ ≠ f0)) (Kd.R_types (Kd.R_types (Kd.R_types (Kd.R_types (Kd.R_types (Kd.R_apart' (Kd.R_apart' (Kd.R_apart' (t0.out) (Kd.N_typed c0.out) (by decide)) (Kd.N_typed b0.out) (by decide)) (Kd.R_typed r0.out) (by decide)) g0.out (by decide)) h0.out (by decide)) j0.out (by decide)) k0.out (by decide)) e0.out (by decide)) cj_)).2.1 (Kd.R_F (Kd.R_mono (ok' := (fun k_ => (w.heap.size ≤ k_) ∧ no_ k_ (.slice U0 d0.length V0) ∧ no_ k_ (.slice D0 a0.length E0) ∧ no_ k_ (.slice g2 C0.length h2) ∧ no_ k_ (.slice J0 q0.length K0) ∧ k_ ≠ m0 ∧ k_ ≠ n0 ∧ k_ ≠ i0 ∧ k_ ≠ o0 ∧ k_ ≠ f0)) (Kd.R_types (Kd.R_types (Kd.R_types (Kd.R_types (Kd.R_types (Kd.R_apart' (Kd.R_apart' (Kd.R_apart' (t0.out) (Kd.N_typed c0.out) (by decide)) (Kd.N_typed b0.out) (by decide)) (Kd.R_typed r0.out) (by decide)) g0.out (by decide)) h0.out (by decide)) j0.out (by decide)) k0.out (by decide)) e0.out (by decide)) cj_)))) (Reps.none _ _)))
 intro o1 S7 M1 hb hg_ hnew_
 clear hg_ hnew_
 (first | rw [← I2.out] at M1 | (simp only [Int.reduceToNat] at M1; rw [← I2.out] at M1))
 replace c0 := a_ (Kd.N_elder' (kN_ c0) (Kd.N_base M1) hb)
 replace b0 := a_ (Kd.N_elder' (kN_ b0) (Kd.N_base M1) hb)
 replace r0 := FR_ r0 hb
 replace p0 := FR_ p0 hb
 have d1 := a_ (Kd.N_lower M1 (bs_ HB))
 replace g0 := FB_ g0 hb
 replace h0 := FB_ h0 hb
 replace j0 := FB_ j0 hb
 replace k0 := FB_ k0 hb
 replace e0 := FB_ e0 hb
 replace HB := BS_ HB hb
 clear t0
 clear hb M1
 refine hK.out _ _ ⟨ce_ e0 0, ce_ e0 1⟩ (fun hHeld => ?_)
 clear hK K
 refine norm_ (a' := ?_) ?_ ?_
 rotate_left
 {
 show Act.put _ (some 53) _ = _
 exact sp_}
 refine one_ (i := 3) (N := some 48) (B_ 14 495) rfl rfl (one_of HT_.out kf_) (by decide) (fun K hK => ?_)
 refine Kd.N_lit_step (Kd.slice 3 (Kd.int .i64)) _ 22 ?hg (N' := 48) ?hd (xs := ([C0] : List (List Int))) (inner := [.slice g2 C0.length h2]) (ok := (fun k_ => (w.heap.size ≤ k_) ∧ no_ k_ (.slice U0 d0.length V0) ∧ no_ k_ (.slice D0 a0.length E0) ∧ no_ k_ (.slice J0 q0.length K0) ∧ no_ k_ o1 ∧ k_ ≠ m0 ∧ k_ ≠ n0 ∧ k_ ≠ i0 ∧ k_ ≠ o0 ∧ k_ ≠ f0)) (okp := (fun k_ => (w.heap.size ≤ k_) ∧ no_ k_ (.slice U0 d0.length V0) ∧ no_ k_ (.slice D0 a0.length E0) ∧ no_ k_ (.slice J0 q0.length K0) ∧ no_ k_ o1 ∧ k_ ≠ m0 ∧ k_ ≠ n0 ∧ k_ ≠ i0 ∧ k_ ≠ o0 ∧ k_ ≠ f0)) ?hr ?hp (fun _ hk => hk) (fr_ (P := (fun k_ => (w.heap.size ≤ k_) ∧ no_ k_ (.slice U0 d0.length V0) ∧ no_ k_ (.slice D0 a0.length E0) ∧ no_ k_ (.slice J0 q0.length K0) ∧ no_ k_ o1 ∧ k_ ≠ m0 ∧ k_ ≠ n0 ∧ k_ ≠ i0 ∧ k_ ≠ o0 ∧ k_ ≠ f0)) (fun k_ hk => ⟨(Nat.le_trans (bs_ HB) hk), Kd.fresh' (Kd.N_lt (kN_ c0)) k_ hk, Kd.fresh' (Kd.N_lt (kN_ b0)) k_ hk, Kd.fresh' (Kd.R_lt (kR_ p0)) k_ hk, Kd.fresh' (Kd.N_lt (kN_ d1)) k_ hk, Kd.freshB (g := m0) (o := .cells #[.int .i64 A0, .int .i64 B0, .slice F0 y0.length G0, .slice H0 z0.length I0] 24 (0, 0)) (bk_ g0) k_ hk, Kd.freshB (g := n0) (o := .cells #[.slice (some c1) N0.length b1] 37 (0, 0)) (bk_ h0) k_ hk, Kd.freshB (g := i0) (o := .cells #[.slice none 0 0, .slice none 0 0] 28 (0, 0)) (bk_ j0) k_ hk, Kd.freshB (g := o0) (o := .cells #[.int .i64 A0, .int .i64 B0, .slice F0 y0.length G0, .slice H0 z0.length I0] 61 (0, 0)) (bk_ k0) k_ hk, Kd.freshB (g := f0) (o := .cells #[.slice U0 d0.length V0, .slice D0 a0.length E0] 28 (0, 0)) (bk_ e0) k_ hk⟩)) (Below.refl _ _) (Nat.le_refl _) (by simp) ?_; (case hd => rfl); (case hg => rfl); (case hr => first | (go_simp; done) | (go_simp; rfl)); (case hp => exact (Reps.one (show Kd.FK (Kd.slice 3 (Kd.int .i64)) _ _ C0 [.slice g2 C0.length h2] from (Kd.FK_slice_mk (Kd.R_reads' (Kd.R_mono (ok' := (fun k_ => (w.heap.size ≤ k_) ∧ no_ k_ (.slice U0 d0.length V0) ∧ no_ k_ (.slice D0 a0.length E0) ∧ no_ k_ (.slice J0 q0.length K0) ∧ no_ k_ o1 ∧ k_ ≠ m0 ∧ k_ ≠ n0 ∧ k_ ≠ i0 ∧ k_ ≠ o0 ∧ k_ ≠ f0)) (Kd.R_types (Kd.R_types (Kd.R_types (Kd.R_types (Kd.R_types (Kd.R_apart' (Kd.R_apart' (Kd.R_apart' (Kd.R_apart' (r0.out) (Kd.N_typed c0.out) (by decide)) (Kd.N_typed b0.out) (by decide)) (Kd.R_typed p0.out) (by decide)) (Kd.N_typed d1.out) (by decide)) g0.out (by decide)) h0.out (by decide)) j0.out (by decide)) k0.out (by decide)) e0.out (by decide)) cj_)).2.1 (Kd.R_F (Kd.R_mono (ok' := (fun k_ => (w.heap.size ≤ k_) ∧ no_ k_ (.slice U0 d0.length V0) ∧ no_ k_ (.slice D0 a0.length E0) ∧ no_ k_ (.slice J0 q0.length K0) ∧ no_ k_ o1 ∧ k_ ≠ m0 ∧ k_ ≠ n0 ∧ k_ ≠ i0 ∧ k_ ≠ o0 ∧ k_ ≠ f0)) (Kd.R_types (Kd.R_types (Kd.R_types (Kd.R_types (Kd.R_types (Kd.R_apart' (Kd.R_apart' (Kd.R_apart' (Kd.R_apart' (r0.out) (Kd.N_typed c0.out) (by decide)) (Kd.N_typed b0.out) (by decide)) (Kd.R_typed p0.out) (by decide)) (Kd.N_typed d1.out) (by decide)) g0.out (by decide)) h0.out (by decide)) j0.out (by decide)) k0.out (by decide)) e0.out (by decide)) cj_)))) (Reps.none _ _)))
 intro e2 U5 H1 hb hg_ hnew_
 clear hg_ hnew_
 (first | rw [← b3.out] at H1 | (simp only [Int.reduceToNat] at H1; rw [← b3.out] at H1))
 replace c0 := a_ (Kd.N_elder' (kN_ c0) (Kd.N_base H1) hb)
 replace b0 := a_ (Kd.N_elder' (kN_ b0) (Kd.N_base H1) hb)
 replace p0 := FR_ p0 hb
 replace d1 := a_ (Kd.N_elder' (kN_ d1) (Kd.N_base H1) hb)
 have W0 := a_ (Kd.N_lower H1 (bs_ HB))
 replace g0 := FB_ g0 hb
 replace h0 := FB_ h0 hb
 replace j0 := FB_ j0 hb
 replace k0 := FB_ k0 hb
 replace e0 := FB_ e0 hb
 replace HB := BS_ HB hb
 clear r0
 clear hb H1
 obtain ⟨P2, Q2, q3⟩ := Kd.N_slice W0.out
 (first | subst q3 | (injection q3 with f1_ f2_ f3_; have f4_ := f1_.symm; have f5_ := f3_.symm; clear f1_ f2_ f3_; subst f4_; subst f5_))
 refine hK.out _ _ ⟨ce_ e0 0, ce_ e0 1⟩ (fun hHeld => ?_)
 clear hK K
 refine norm_ (a' := ?_) ?_ ?_
 rotate_left
 {
 show Act.put _ (some 48) _ = _
 exact sp_}
 refine one_ (i := 4) (N := some 49) (B_ 14 511) rfl rfl (one_of HT_.out kf_) (by decide) (fun K hK => ?_)
 refine Kd.N_append_rows_step (Kd.slice 3 (Kd.int .i64)) (w0 := w) w.heap.size (by rfl) (.tmp 46) (.tmp 48) 25 22 (.slice none 0 0) 24 rfl Try.underlying25 info22 rfl (by decide) (by omega) (.slice U0 d0.length V0) d0 A1 _ _ _ (fun k_ => (w.heap.size ≤ k_) ∧ no_ k_ (.slice D0 a0.length E0) ∧ no_ k_ (.slice J0 q0.length K0) ∧ no_ k_ o1 ∧ k_ ≠ m0 ∧ k_ ≠ n0 ∧ k_ ≠ i0 ∧ k_ ≠ o0 ∧ k_ ≠ f0) (fun k_ => ((fun k_ => (w.heap.size ≤ k_) ∧ no_ k_ (.slice D0 a0.length E0) ∧ no_ k_ (.slice J0 q0.length K0) ∧ no_ k_ o1 ∧ k_ ≠ m0 ∧ k_ ≠ n0 ∧ k_ ≠ i0 ∧ k_ ≠ o0 ∧ k_ ≠ f0)) k_ ∧ no_ k_ (.slice U0 d0.length V0)) rfl rfl ?aO ?aR (fun _ hk => hk) ?aF ?aB ?aS ?aL ?_
 (case aR => exact (by skip; exact Kd.N_F (Kd.N_mono (ok' := (fun k_ => ((fun k_ => (w.heap.size ≤ k_) ∧ no_ k_ (.slice D0 a0.length E0) ∧ no_ k_ (.slice J0 q0.length K0) ∧ no_ k_ o1 ∧ k_ ≠ m0 ∧ k_ ≠ n0 ∧ k_ ≠ i0 ∧ k_ ≠ o0 ∧ k_ ≠ f0)) k_ ∧ no_ k_ (.slice U0 d0.length V0))) (W0.out) cj_)))
 (case aB => exact (bl_ HB))
 (case aF => exact (fun k_ hk => ⟨(Nat.le_trans (bs_ HB) hk), Kd.fresh' (Kd.N_lt (kN_ b0)) k_ hk, Kd.fresh' (Kd.R_lt (kR_ p0)) k_ hk, Kd.fresh' (Kd.N_lt (kN_ d1)) k_ hk, Kd.freshB (g := m0) (o := .cells #[.int .i64 A0, .int .i64 B0, .slice F0 y0.length G0, .slice H0 z0.length I0] 24 (0, 0)) (bk_ g0) k_ hk, Kd.freshB (g := n0) (o := .cells #[.slice (some c1) N0.length b1] 37 (0, 0)) (bk_ h0) k_ hk, Kd.freshB (g := i0) (o := .cells #[.slice none 0 0, .slice none 0 0] 28 (0, 0)) (bk_ j0) k_ hk, Kd.freshB (g := o0) (o := .cells #[.int .i64 A0, .int .i64 B0, .slice F0 y0.length G0, .slice H0 z0.length I0] 61 (0, 0)) (bk_ k0) k_ hk, Kd.freshB (g := f0) (o := .cells #[.slice U0 d0.length V0, .slice D0 a0.length E0] 28 (0, 0)) (bk_ e0) k_ hk⟩))
 (case aO => exact (by (with_reducible repeat (first | apply Kd.N_alloc | apply Kd.N_drewN | apply Kd.N_drew)); exact Kd.N_mono c0.out cj_))
 (case aS => exact (bs_ HB))
 (case aL => have := J3.out; omega)
 intro K1 V5 ho hb hg hat
 rw [← K3.out] at ho
 replace b0 := a_ (Kd.N_afterv (ok := (fun k_ => (w.heap.size ≤ k_) ∧ no_ k_ (.slice J0 q0.length K0) ∧ no_ k_ o1 ∧ no_ k_ (.slice P2 A1.length Q2) ∧ k_ ≠ m0 ∧ k_ ≠ n0 ∧ k_ ≠ i0 ∧ k_ ≠ o0 ∧ k_ ≠ f0)) (by (with_reducible repeat (first | apply Kd.N_alloc | apply Kd.N_drewN | apply Kd.N_drew)); exact Kd.N_mono b0.out cj_) hg hat)
 replace g0 := (FG_ g0 hg (Kd.N_ne c0.out g0.out (by decide)))
 replace h0 := (FG_ h0 hg (Kd.N_ne c0.out h0.out (by decide)))
 replace j0 := (FG_ j0 hg (Kd.N_ne c0.out j0.out (by decide)))
 replace k0 := (FG_ k0 hg (Kd.N_ne c0.out k0.out (by decide)))
 replace e0 := (FG_ e0 hg (Kd.N_ne c0.out e0.out (by decide)))
 replace p0 := a_ (Kd.R_over' (kR_ p0) (Kd.N_typed (kN_ c0)) (by decide) hg)
 replace d1 := a_ (Kd.N_afterv (ok := (fun k_ => (w.heap.size ≤ k_) ∧ no_ k_ (.slice D0 a0.length E0) ∧ no_ k_ (.slice J0 q0.length K0) ∧ no_ k_ (.slice P2 A1.length Q2) ∧ k_ ≠ m0 ∧ k_ ≠ n0 ∧ k_ ≠ i0 ∧ k_ ≠ o0 ∧ k_ ≠ f0)) (by (with_reducible repeat (first | apply Kd.N_alloc | apply Kd.N_drewN | apply Kd.N_drew)); exact Kd.N_mono d1.out cj_) hg hat)
 replace W0 := a_ (Kd.N_afterv (ok := (fun k_ => (w.heap.size ≤ k_) ∧ no_ k_ (.slice D0 a0.length E0) ∧ no_ k_ (.slice J0 q0.length K0) ∧ no_ k_ o1 ∧ k_ ≠ m0 ∧ k_ ≠ n0 ∧ k_ ≠ i0 ∧ k_ ≠ o0 ∧ k_ ≠ f0)) (by (with_reducible repeat (first | apply Kd.N_alloc | apply Kd.N_drewN | apply Kd.N_drew)); exact Kd.N_mono W0.out cj_) hg hat)
 replace HB := a_ (hb)
 have p1 := a_ (ho)
 clear c0
 clear ho hb hg hat
 refine hK.out _ _ ⟨ce_ e0 0, ce_ e0 1⟩ (fun hHeld => ?_)
 clear hK K
 refine norm_ (a' := ?_) ?_ ?_
 rotate_left
 {
 show Act.put _ (some 49) _ = _
 exact sp_}
 refine pu_ 10 (some 55) (B_ 14 1535) HT_ ?_
 exact norm_ pa_ (hCont (.slice P2 A1.length Q2, K1, o1) _ ⟨hHeld, (by (with_reducible repeat (first | apply Kd.R_alloc | apply Kd.R_drewN | apply Kd.R_drew)); exact Kd.R_mono p0.out (fun _ hk => hk.1.1)), (by (with_reducible repeat (first | apply Kd.N_alloc | apply Kd.N_drewN | apply Kd.N_drew)); exact Kd.N_mono W0.out cj_), (by (with_reducible repeat (first | apply Kd.N_alloc | apply Kd.N_drewN | apply Kd.N_drew)); exact Kd.N_mono p1.out cj_), (by (with_reducible repeat (first | apply Kd.N_alloc | apply Kd.N_drewN | apply Kd.N_drew)); exact Kd.N_mono d1.out cj_), (by (with_reducible repeat (first | apply Kd.N_alloc | apply Kd.N_drewN | apply Kd.N_drew)); exact Kd.N_mono b0.out cj_), (bk_ g0), (bk_ h0), (bk_ j0), (bk_ k0), (bk_ e0), (bl_ HB)⟩)}}
 clear c0 b0 r0 p0 t0 g0 h0 j0 k0 e0 HB
 rintro ⟨e2, K1, o1⟩ W5 ⟨hS_, h0_, h1_, h2_, h3_, h4_, h5_, h6_, h7_, h8_, h9_, h10_⟩
 (try dsimp only at h0_ h1_ h2_ h3_ h4_ h5_ h6_ h7_ h8_ h9_ h10_)
 have p0 := a_ h0_
 have W0 := a_ h1_
 have p1 := a_ h2_
 have d1 := a_ h3_
 have b0 := a_ h4_
 have g0 := a_ h5_
 have h0 := a_ h6_
 have j0 := a_ h7_
 have k0 := a_ h8_
 have e0 := a_ h9_
 have HB := a_ h10_
 clear h0_ h1_ h2_ h3_ h4_ h5_ h6_ h7_ h8_ h9_ h10_
 have hHeld : W5.cell? ⟨f0, 0, none⟩ = some (.slice U0 d0.length V0) ∧ W5.cell? ⟨f0, 1, none⟩ = some (.slice D0 a0.length E0) := hS_
 obtain ⟨h5, i5, j5⟩ := Kd.N_slice d1.out
 (first | subst j5 | (injection j5 with f1_ f2_ f3_; have f4_ := f1_.symm; have f5_ := f3_.symm; clear f1_ f2_ f3_; subst f4_; subst f5_))
 refine norm_ (a' := ?_) ?_ ?_
 rotate_left
 {
 simp only [putAll, Act.put, List.setIfInBounds_toArray, List.set_cons_zero, List.set_cons_succ]
 rfl}
 refine one_ (i := 9) (N := some 54) (B_ 14 2047) rfl rfl (one_of HT_.out kf_) (by decide) (fun K hK => ?_)
 refine Kd.N_append_rows_step (Kd.slice 2 (Kd.int .i64)) (w0 := w) w.heap.size (by rfl) (.tmp 51) (.tmp 53) 26 53 (.slice none 0 0) 24 rfl Try.underlying26 info53 rfl (by decide) (by omega) (.slice D0 a0.length E0) a0 p3 _ _ _ (fun k_ => (w.heap.size ≤ k_) ∧ no_ k_ (.slice J0 q0.length K0) ∧ no_ k_ e2 ∧ no_ k_ K1 ∧ k_ ≠ m0 ∧ k_ ≠ n0 ∧ k_ ≠ i0 ∧ k_ ≠ o0 ∧ k_ ≠ f0) (fun k_ => ((fun k_ => (w.heap.size ≤ k_) ∧ no_ k_ (.slice J0 q0.length K0) ∧ no_ k_ e2 ∧ no_ k_ K1 ∧ k_ ≠ m0 ∧ k_ ≠ n0 ∧ k_ ≠ i0 ∧ k_ ≠ o0 ∧ k_ ≠ f0)) k_ ∧ no_ k_ (.slice D0 a0.length E0)) rfl rfl ?aO ?aR (fun _ hk => hk) ?aF ?aB ?aS ?aL ?_
 (case aR => exact (by skip; exact Kd.N_F (Kd.N_mono (ok' := (fun k_ => ((fun k_ => (w.heap.size ≤ k_) ∧ no_ k_ (.slice J0 q0.length K0) ∧ no_ k_ e2 ∧ no_ k_ K1 ∧ k_ ≠ m0 ∧ k_ ≠ n0 ∧ k_ ≠ i0 ∧ k_ ≠ o0 ∧ k_ ≠ f0)) k_ ∧ no_ k_ (.slice D0 a0.length E0))) (d1.out) cj_)))
 (case aB => exact (bl_ HB))
 (case aF => exact (fun k_ hk => ⟨(Nat.le_trans (bs_ HB) hk), Kd.fresh' (Kd.R_lt (kR_ p0)) k_ hk, Kd.fresh' (Kd.N_lt (kN_ W0)) k_ hk, Kd.fresh' (Kd.N_lt (kN_ p1)) k_ hk, Kd.freshB (g := m0) (o := .cells #[.int .i64 A0, .int .i64 B0, .slice F0 y0.length G0, .slice H0 z0.length I0] 24 (0, 0)) (bk_ g0) k_ hk, Kd.freshB (g := n0) (o := .cells #[.slice (some c1) N0.length b1] 37 (0, 0)) (bk_ h0) k_ hk, Kd.freshB (g := i0) (o := .cells #[.slice none 0 0, .slice none 0 0] 28 (0, 0)) (bk_ j0) k_ hk, Kd.freshB (g := o0) (o := .cells #[.int .i64 A0, .int .i64 B0, .slice F0 y0.length G0, .slice H0 z0.length I0] 61 (0, 0)) (bk_ k0) k_ hk, Kd.freshB (g := f0) (o := .cells #[.slice U0 d0.length V0, .slice D0 a0.length E0] 28 (0, 0)) (bk_ e0) k_ hk⟩))
 (case aO => exact (by (with_reducible repeat (first | apply Kd.N_alloc | apply Kd.N_drewN | apply Kd.N_drew)); exact Kd.N_mono b0.out cj_))
 (case aS => exact (bs_ HB))
 (case aL => have := A5.out; omega)
 intro H9 X5 ho hb hg hat
 rw [← B5.out] at ho
 replace g0 := (FG_ g0 hg (Kd.N_ne b0.out g0.out (by decide)))
 replace h0 := (FG_ h0 hg (Kd.N_ne b0.out h0.out (by decide)))
 replace j0 := (FG_ j0 hg (Kd.N_ne b0.out j0.out (by decide)))
 replace k0 := (FG_ k0 hg (Kd.N_ne b0.out k0.out (by decide)))
 replace e0 := (FG_ e0 hg (Kd.N_ne b0.out e0.out (by decide)))
 replace p0 := a_ (Kd.R_over' (kR_ p0) (Kd.N_typed (kN_ b0)) (by decide) hg)
 replace W0 := a_ (Kd.N_afterv (ok := (fun k_ => (w.heap.size ≤ k_) ∧ no_ k_ (.slice J0 q0.length K0) ∧ no_ k_ K1 ∧ no_ k_ (.slice h5 p3.length i5) ∧ k_ ≠ m0 ∧ k_ ≠ n0 ∧ k_ ≠ i0 ∧ k_ ≠ o0 ∧ k_ ≠ f0)) (by (with_reducible repeat (first | apply Kd.N_alloc | apply Kd.N_drewN | apply Kd.N_drew)); exact Kd.N_mono W0.out cj_) hg hat)
 replace p1 := a_ (Kd.N_afterv (ok := (fun k_ => (w.heap.size ≤ k_) ∧ no_ k_ (.slice J0 q0.length K0) ∧ no_ k_ (.slice h5 p3.length i5) ∧ k_ ≠ m0 ∧ k_ ≠ n0 ∧ k_ ≠ i0 ∧ k_ ≠ o0 ∧ k_ ≠ f0)) (by (with_reducible repeat (first | apply Kd.N_alloc | apply Kd.N_drewN | apply Kd.N_drew)); exact Kd.N_mono p1.out cj_) hg hat)
 replace d1 := a_ (Kd.N_afterv (ok := (fun k_ => (w.heap.size ≤ k_) ∧ no_ k_ (.slice J0 q0.length K0) ∧ no_ k_ e2 ∧ no_ k_ K1 ∧ k_ ≠ m0 ∧ k_ ≠ n0 ∧ k_ ≠ i0 ∧ k_ ≠ o0 ∧ k_ ≠ f0)) (by (with_reducible repeat (first | apply Kd.N_alloc | apply Kd.N_drewN | apply Kd.N_drew)); exact Kd.N_mono d1.out cj_) hg hat)
 replace HB := a_ (hb)
 have n4 := a_ (ho)
 clear b0
 clear ho hb hg hat
 obtain ⟨a4, b4, k5⟩ := Kd.N_slice p1.out
 (first | subst k5 | (injection k5 with f1_ f2_ f3_; have f4_ := f1_.symm; have f5_ := f3_.symm; clear f1_ f2_ f3_; subst f4_; subst f5_))
 obtain ⟨d4, e4, l5⟩ := Kd.N_slice n4.out
 (first | subst l5 | (injection l5 with f1_ f2_ f3_; have f4_ := f1_.symm; have f5_ := f3_.symm; clear f1_ f2_ f3_; subst f4_; subst f5_))
 refine hK.out _ _ ⟨ce_ e0 0, ce_ e0 1⟩ (fun hHeld => ?_)
 clear hK K
 refine norm_ (a' := ?_) ?_ ?_
 rotate_left
 {
 show Act.put _ (some 54) _ = _
 exact sp_}
 refine last_ (i := 11) (N := none) (B_ 14 4095) rfl rfl (one_of HT_.out kf_) (by decide) (fun K hK => ?_)
 have hs86 : X5.cell? ⟨f0, 0, none⟩ = some (.slice U0 d0.length V0) := ce_ e0 0
 have hfs86 := blk_frozen e0.out 0
 have hns86_0 := N1.out
 have hns86_1 := C1.out
 have hns86_2 := P1.out
 have hns86_3 := q1.out
 have hms86_0 := O1.out
 have hms86_1 := D1.out
 have hms86_2 := Q1.out
 have hms86_3 := t1.out
 refine skip_ (w1 := ?_) (by rfl) rfl ?_ ?_
 rotate_left
 {
 go_simp
 rfl}
 refine hK.out _ _ ?_
 clear hK K
 refine pu_ 12 (some 56) (B_ 14 8191) HT_ ?_
 refine last_ (i := 13) (N := none) (B_ 14 16383) rfl rfl (one_of HT_.out kf_) (by decide) (fun K hK => ?_)
 have hs88 : X5.cell? ⟨f0, 1, none⟩ = some (.slice D0 a0.length E0) := ce_ e0 1
 have hfs88 := blk_frozen e0.out 1
 have hns88_0 := N1.out
 have hns88_1 := C1.out
 have hns88_2 := P1.out
 have hns88_3 := q1.out
 have hms88_0 := O1.out
 have hms88_1 := D1.out
 have hms88_2 := Q1.out
 have hms88_3 := t1.out
 refine skip_ (w1 := ?_) (by rfl) rfl ?_ ?_
 rotate_left
 {
 go_simp
 rfl}
 refine hK.out _ _ ?_
 clear hK K
 refine done_ (done_of HT_.out kf_) ?_
 try go_wp2
 go_roundg k1
 case measure => have := j4.out; omega
 case rel => exact ⟨(wrap64 (j1 + 1)), (o3), (L3), (.slice a4 o3.length b4), (.slice d4 L3.length e4), rs_, H', ⟨by have := j4.out; omega⟩, ⟨by (with_reducible repeat (first | apply Kd.N_alloc | apply Kd.N_drewN | apply Kd.N_drew)); exact Kd.N_mono (Kd.N_far (p := ⟨f0, 1, none⟩) (Kd.N_far (p := ⟨f0, 0, none⟩) (Kd.N_mono p1.out (fun k_ hk => (⟨hk, hk.1.2.2.2.2.2.2.2⟩ : _ ∧ k_ ≠ f0))) (fun _ hk => hk.2) (.slice a4 o3.length b4)) (fun _ hk => hk.2) (.slice d4 L3.length e4)) cj_⟩, ⟨by (with_reducible repeat (first | apply Kd.N_alloc | apply Kd.N_drewN | apply Kd.N_drew)); exact Kd.N_mono (Kd.N_far (p := ⟨f0, 1, none⟩) (Kd.N_far (p := ⟨f0, 0, none⟩) (Kd.N_mono n4.out (fun k_ hk => (⟨hk, hk.2.2.2.2.2.2.2.2⟩ : _ ∧ k_ ≠ f0))) (fun _ hk => hk.2) (.slice a4 o3.length b4)) (fun _ hk => hk.2) (.slice d4 L3.length e4)) cj_⟩, ⟨bk_ g0⟩, ⟨bk_ h0⟩, ⟨bk_ j0⟩, ⟨bk_ k0⟩, ⟨bp_ e0⟩, ⟨bl_ HB⟩⟩}}
 {
 obtain ⟨I9, Y5, H⟩ := ob_ H
 (try dsimp only at H)
 replace H := ib_ H
 rcases H with ⟨rfl, H⟩ | ⟨rfl, H⟩
 {
 replace H := gt_ H
 obtain ⟨Z5, H⟩ := H
 have j9 : decide (0 < (a0.length : Int)) = true := decide_eq_true Z5
 have k9 : decide (0 < a0.length) = true := decide_eq_true (by omega)
 clear Z5
 replace H := gt_ H
 obtain ⟨a6, H⟩ := H
 have l9 : decide (1 < (a0.length : Int)) = true := decide_eq_true a6
 have m9 : decide (1 < a0.length) = true := decide_eq_true (by omega)
 clear a6
 obtain ⟨⟨y1, z1, o6⟩, T7, H⟩ := ob_ H
 (try dsimp only at H)
 obtain ⟨f4, f3⟩ : ∃ y_ : List (List Int), y_ = (a0.set (0 : Int).toNat y1) := ⟨_, rfl⟩
 first | replace H := by_ H f3 | rw [← f3] at H
 have C5 := a_ f3
 clear f3
 obtain ⟨p6, g3⟩ : ∃ y_ : List (List Int), y_ = (f4.set (1 : Int).toNat z1) := ⟨_, rfl⟩
 first | replace H := by_ H g3 | rw [← g3] at H
 have D5 := a_ g3
 clear g3
 simp only [Option.some.injEq, Prod.mk.injEq] at H
 obtain ⟨rfl, rfl, rfl⟩ := H
 have n9 := X1.out
 have o9 := W1.out
 have p9 := Z1.out
 have q9 := Y1.out
 have r9 := b2.out
 have s9 := a2.out
 have t9 := q1.out
 have v9 := t1.out
 obtain ⟨q6, r6, s6, t6, v6, x6, y6, z6⟩ := e4_ k0
 have U7 := O1.out
 have V7 := N1.out
 have W7 := D1.out
 have X7 := C1.out
 have Y7 := Q1.out
 have Z7 := P1.out
 obtain ⟨A6, B6, C6, D6⟩ := e2_ e0
 obtain ⟨m1, n1, E5⟩ := Kd.N_slice c0.out
 subst E5
 try go_wp2_with (first | ((with_reducible refine gate_callee (f := 32) rfl ?_); refine gL_ (some 61) Try.func32 #[.agg #[.int .i64 A0, .int .i64 B0, .slice F0 y0.length G0, .slice H0 z0.length I0], .slice m1 d0.length n1] ?_; (with_reducible refine (vcodec_codec_both.calls A0 B0 _ _ y0 _ _ z0 _ _ d0 true _ ?side1 ?side2 ?side3 ?side4 ?side5 ?side6 Y5.out).mono ?_); (case side1 => exact kC_ B2 HB); (case side2 => exact C2.out); (case side3 => exact kC_ D2 HB); (case side4 => exact E2.out); (case side5 => repeat (first | exact (Kd.N_reads' c0.out).2.2 | (with_reducible refine Kd.C_alloc ?_ _) | (with_reducible refine Kd.C_drewN ?_ _) | (with_reducible refine Kd.C_drew ?_))); (case side6 => exact (Kd.N_reads' c0.out).2.1); rintro e E6 ⟨rfl, hb⟩; refine ⟨_, rfl, ?_⟩; replace c0 := FN_ c0 hb; replace b0 := FN_ b0 hb; replace g0 := FB_ g0 hb; replace h0 := FB_ h0 hb; replace j0 := FB_ j0 hb; replace k0 := FB_ k0 hb; replace e0 := FB_ e0 hb; replace HB := BS_ HB hb; (try clear hb)))
 replace c0 := a_ (Kd.N_drew c0.out)
 replace b0 := a_ (Kd.N_drew b0.out)
 replace g0 := a_ (blk_drew g0.out)
 replace h0 := a_ (blk_drew h0.out)
 replace j0 := a_ (blk_drew j0.out)
 replace k0 := a_ (blk_drew k0.out)
 replace e0 := a_ (blk_drew e0.out)
 replace HB := a_ (below_drew1 HB.out)
 obtain ⟨w9, I1, o4⟩ := Kd.N_slice b0.out
 (first | subst o4 | (injection o4 with f1_ f2_ f3_; have f4_ := f1_.symm; have f5_ := f3_.symm; clear f1_ f2_ f3_; subst f4_; subst f5_))
 have M3 : 0 ≤ (0 : Int) := (by omega)
 have N3 : 0 < (a0.length : Int) := dm_
 obtain ⟨p4, s3, t3, F6, n2, B3, C3⟩ := at_L2 (Kd.N_reads' b0.out).2.2 0 M3 N3
 cases F6
 obtain ⟨ce428, hce428, hMe428, hcc428⟩ := Kd.N_get b0.out [] 0 M3 (by first | exact N3 | exact dm_ | (have e_ := (Kd.N_reads' b0.out).1; omega))
 obtain ⟨ua428_0, uc428_0, rfl, ul428_0, ge428_0⟩ := Kd.FK_slice_open hMe428
 have hv428_0 := hcc428 0 _ rfl
 rw [Nat.add_zero, show ((Kd.slice 2 (Kd.int .i64))).sz = 1 from rfl, Nat.mul_one] at hv428_0
 replace hv428_0 := Option.some.inj (hv428_0.symm.trans n2)
 injection hv428_0 with hva_ hvn_ hvc_
 rw [hva_] at ge428_0
 rw [hvc_] at ul428_0
 have HL428_0 := a_ (show Kd.V (Kd.int .i64) 2 _ w.heap.size _ _ (rd_L2 a0 0) from Kd.V_mk ul428_0 ge428_0)
 clear hva_ hvn_ hvc_ ge428_0 ul428_0
 clear hcc428 hce428
 have qi428 : (0 < a0.length) = True := eq_true (by omega)
 (try rw [show ((0 : Int)).toNat = 0 from rfl] at n2)
 (try rw [Addr.add_zero'] at n2)
 have c2 := a_ C3
 have V4 := a_ B3
 clear C3 B3
 replace M3 := eq_true M3
 replace N3 := eq_true N3
 have O3 : 0 ≤ (1 : Int) := (by omega)
 have P3 : 1 < (a0.length : Int) := dm_
 obtain ⟨F5, v3, w3, G6, p2, D3, E3⟩ := at_L2 (Kd.N_reads' b0.out).2.2 1 O3 P3
 obtain rfl : p4 = F5 := (by injection G6)
 obtain ⟨ce429, hce429, hMe429, hcc429⟩ := Kd.N_get b0.out [] 1 O3 (by first | exact P3 | exact dm_ | (have e_ := (Kd.N_reads' b0.out).1; omega))
 obtain ⟨ua429_0, uc429_0, rfl, ul429_0, ge429_0⟩ := Kd.FK_slice_open hMe429
 have hv429_0 := hcc429 0 _ rfl
 rw [Nat.add_zero, show ((Kd.slice 2 (Kd.int .i64))).sz = 1 from rfl, Nat.mul_one] at hv429_0
 replace hv429_0 := Option.some.inj (hv429_0.symm.trans p2)
 injection hv429_0 with hva_ hvn_ hvc_
 rw [hva_] at ge429_0
 rw [hvc_] at ul429_0
 have HL429_0 := a_ (show Kd.V (Kd.int .i64) 2 _ w.heap.size _ _ (rd_L2 a0 1) from Kd.V_mk ul429_0 ge429_0)
 clear hva_ hvn_ hvc_ ge429_0 ul429_0
 clear hcc429 hce429
 (try simp only [show (1 : Int).toNat = 1 from rfl, Nat.reduceMul, Nat.reduceEqDiff, Go.Addr.add, ↓reduceIte] at p2)
 have qi429 : (1 < a0.length) = True := eq_true (by omega)
 (try rw [show ((1 : Int)).toNat = 1 from rfl] at p2)
 have d2 := a_ E3
 have W4 := a_ D3
 clear E3 D3
 replace O3 := eq_true O3
 replace P3 := eq_true P3
 refine start_ (n := 21) (S := fun w' => w'.cell? ⟨f0, 0, none⟩ = some (.slice m1 d0.length n1) ∧ w'.cell? ⟨f0, 1, none⟩ = some (.slice (some p4) a0.length I1)) (ds := []) (B_ 21 0) kf_ rfl rfl ⟨ce_ e0 0, ce_ e0 1⟩ (fun hHeld => ?_); refine with_tabW vcodec_Encode.tab16 vcodec_Encode.bits16 (fun HT_ HW_ => ?_)
 generalize E6.drew = H6 at c0 b0 g0 h0 j0 k0 e0 HB HL428_0 HL429_0 c2 d2 n2 p2 hHeld ⊢
 refine pu_ 0 (some 63) (B_ 21 1) HT_ ?_
 refine pu_ 2 (some 65) (B_ 21 5) HT_ ?_
 refine pu_ 4 (some 67) (B_ 21 21) HT_ ?_
 refine pu_ 8 (some 71) (B_ 21 277) HT_ ?_
 refine take_ (i := 1) (N := some 64) (v := ?_) (a' := ?_) (B_ 21 279) rfl rfl (take_ofW HT_.out HW_.out kf_) (fun _ _ _ h => h) (Or.inl ⟨by rfl, ?_⟩) hHeld ?_ ?_
 rotate_left
 {
 rintro w' ⟨s0, s1⟩
 go_simp
 with_reducible rfl}
 rotate_left
 {
 exact sp_}
 refine take_ (i := 3) (N := some 66) (v := ?_) (a' := ?_) (B_ 21 287) rfl rfl (take_ofW HT_.out HW_.out kf_) (fun _ _ _ h => h) (Or.inl ⟨by rfl, ?_⟩) hHeld ?_ ?_
 rotate_left
 {
 rintro w' ⟨s0, s1⟩
 go_simp
 with_reducible rfl}
 rotate_left
 {
 exact sp_}
 refine take_ (i := 5) (N := some 68) (v := ?_) (a' := ?_) (B_ 21 319) rfl rfl (take_ofW HT_.out HW_.out kf_) (fun _ _ _ h => h) (Or.inl ⟨by rfl, ?_⟩) hHeld ?_ ?_
 rotate_left
 {
 rintro w' ⟨s0, s1⟩
 go_simp
 with_reducible rfl}
 rotate_left
 {
 exact sp_}
 refine pu_ 6 (some 69) (B_ 21 383) HT_ ?_
 refine take_ (i := 9) (N := some 72) (v := ?_) (a' := ?_) (B_ 21 895) rfl rfl (take_ofW HT_.out HW_.out kf_) (fun _ _ _ h => h) (Or.inl ⟨by rfl, ?_⟩) hHeld ?_ ?_
 rotate_left
 {
 rintro w' ⟨s0, s1⟩
 go_simp
 with_reducible rfl}
 rotate_left
 {
 exact sp_}
 refine pu_ 10 (some 73) (B_ 21 1919) HT_ ?_
 refine join_ (σ := Unit) 9 (B_ 21 4095) (fun s_ => [(70, .slice s3 (rd_L2 a0 0).length t3), (74, .slice v3 (rd_L2 a0 1).length w3)]) (fun s_ w' => w' = H6) ?_ ?_
 rotate_left
 {
 intro hCont
 refine two_ (i := 7) (j := 11) (Ni := some 70) (Nj := some 74) (B_ 21 2047) (B_ 21 3967) rfl rfl rfl rfl (two_of HT_.out kf_) (by decide) (by decide) (fun K hK => ?_) (fun K hK => ?_)
 {
 skip
 refine value_ (w1 := ?_) (v := ?_) (by rfl) rfl ?_ ?_
 rotate_left 2
 {
 go_simp
 constructor
 {
 rfl}
 {
 rfl}}
 refine hK.out _ _ ⟨ce_ e0 0, ce_ e0 1⟩ (fun hHeld => ?_)
 clear hK K
 refine norm_ (a' := ?_) ?_ ?_
 rotate_left
 {
 show Act.put _ (some 70) _ = _
 exact sp_}
 refine one_ (i := 11) (N := some 74) (B_ 21 4095) rfl rfl (one_of HT_.out kf_) (by decide) (fun K hK => ?_)
 refine value_ (w1 := ?_) (v := ?_) (by rfl) rfl ?_ ?_
 rotate_left 2
 {
 go_simp
 constructor
 {
 rfl}
 {
 rfl}}
 refine hK.out _ _ ⟨ce_ e0 0, ce_ e0 1⟩ (fun hHeld => ?_)
 clear hK K
 refine norm_ (a' := ?_) ?_ ?_
 rotate_left
 {
 show Act.put _ (some 74) _ = _
 exact sp_}
 exact norm_ pa_ (hCont () _ rfl)}
 {
 skip
 refine value_ (w1 := ?_) (v := ?_) (by rfl) rfl ?_ ?_
 rotate_left 2
 {
 go_simp
 constructor
 {
 rfl}
 {
 rfl}}
 refine hK.out _ _ ⟨ce_ e0 0, ce_ e0 1⟩ (fun hHeld => ?_)
 clear hK K
 refine norm_ (a' := ?_) ?_ ?_
 rotate_left
 {
 show Act.put _ (some 74) _ = _
 exact sp_}
 refine one_ (i := 7) (N := some 70) (B_ 21 4095) rfl rfl (one_of HT_.out kf_) (by decide) (fun K hK => ?_)
 refine value_ (w1 := ?_) (v := ?_) (by rfl) rfl ?_ ?_
 rotate_left 2
 {
 go_simp
 constructor
 {
 rfl}
 {
 rfl}}
 refine hK.out _ _ ⟨ce_ e0 0, ce_ e0 1⟩ (fun hHeld => ?_)
 clear hK K
 refine norm_ (a' := ?_) ?_ ?_
 rotate_left
 {
 show Act.put _ (some 70) _ = _
 exact sp_}
 exact norm_ pa_ (hCont () _ rfl)}}
 rintro _ _ rfl
 refine norm_ (a' := ?_) ?_ ?_
 rotate_left
 {
 simp only [putAll, Act.put, List.setIfInBounds_toArray, List.set_cons_zero, List.set_cons_succ]
 rfl}
 refine one_ (i := 12) (N := some 75) (B_ 21 8191) rfl rfl (one_of HT_.out kf_) (by decide) (fun K hK => ?_)
 refine goes_ Try.func40 kf_ rfl #[.slice s3 (rd_L2 a0 0).length t3, .slice v3 (rd_L2 a0 1).length w3] (by rfl) rfl rfl ar_ ?_
 with_reducible refine (couple_CoupleAll.calls k1 _ _ (rd_L2 a0 0) _ _ (rd_L2 a0 1) y1 z1 o6 _ ?side1 ?side2 ?side3 ?side4 T7.out).mono ?_
 (case side1 => repeat (first | exact (by repeat (first | (with_reducible exact c2.out) | (with_reducible refine Kd.C_alloc ?_ _) | (with_reducible refine Kd.C_drewN ?_ _) | (with_reducible refine Kd.C_drew ?_) | exact c2.out)) | (with_reducible refine Kd.C_alloc ?_ _) | (with_reducible refine Kd.C_drewN ?_ _) | (with_reducible refine Kd.C_drew ?_)))
 (case side2 => exact V4.out)
 (case side3 => repeat (first | exact (by repeat (first | (with_reducible exact d2.out) | (with_reducible refine Kd.C_alloc ?_ _) | (with_reducible refine Kd.C_drewN ?_ _) | (with_reducible refine Kd.C_drew ?_) | exact d2.out)) | (with_reducible refine Kd.C_alloc ?_ _) | (with_reducible refine Kd.C_drewN ?_ _) | (with_reducible refine Kd.C_drew ?_)))
 (case side4 => exact W4.out)
 rintro e f2 ⟨J9, Q3, rfl, a1, F3, hb⟩
 refine ⟨_, rfl, ?_⟩
 replace c0 := a_ (Kd.N_mono (Kd.N_told (Kd.N_told (Kd.N_old (kN_ c0) hb) (Kd.R_base a1)) (Kd.R_base F3)) (fun _ h_ => h_.1))
 replace b0 := a_ (Kd.N_mono (Kd.N_told (Kd.N_told (Kd.N_old (kN_ b0) hb) (Kd.R_base a1)) (Kd.R_base F3)) (fun _ h_ => h_.1))
 replace HL428_0 := a_ (Kd.V_mono (Kd.V_told (Kd.V_told (Kd.V_old (kV_ HL428_0) hb) (Kd.R_base a1)) (Kd.R_base F3)) (fun _ h_ => h_.1))
 replace HL429_0 := a_ (Kd.V_mono (Kd.V_told (Kd.V_told (Kd.V_old (kV_ HL429_0) hb) (Kd.R_base a1)) (Kd.R_base F3)) (fun _ h_ => h_.1))
 have R3 := a_ (Kd.R_lower (Kd.R_newM (M := fun k_ => (w.heap.size ≤ k_)) a1 (bs_ HB) (fun k_ h_ => h_)) (bs_ HB))
 have S3 := a_ (Kd.R_lower (Kd.R_newM (M := fun k_ => (w.heap.size ≤ k_)) F3 (bs_ HB) (fun k_ h_ => h_)) (bs_ HB))
 replace g0 := FB_ g0 hb
 replace h0 := FB_ h0 hb
 replace j0 := FB_ j0 hb
 replace k0 := FB_ k0 hb
 replace e0 := FB_ e0 hb
 replace c2 := a_ (Kd.C_below (by repeat (first | (with_reducible exact c2.out) | (with_reducible refine Kd.C_alloc ?_ _) | (with_reducible refine Kd.C_drewN ?_ _) | (with_reducible refine Kd.C_drew ?_) | exact c2.out)) hb)
 replace d2 := a_ (Kd.C_below (by repeat (first | (with_reducible exact d2.out) | (with_reducible refine Kd.C_alloc ?_ _) | (with_reducible refine Kd.C_drewN ?_ _) | (with_reducible refine Kd.C_drew ?_) | exact d2.out)) hb)
 replace HB := BS_ HB hb
 (try clear hb)
 (try clear a1)
 (try clear F3)
 have m5 : 0 ≤ (0 : Int) := (by omega)
 have n5 : (0 : Int) < ((a0.length : Int) : Int) := dm_
 have qi94 : (0 < a0.length) = True := eq_true (by omega)
 obtain ⟨go94, K9, o5, p5, gl94, cl94, HG94⟩ := Kd.N_form b0.out (by omega)
 (first | cases o5 | (injection o5 with ea_ en_ ec_; (first | subst ea_ | (injection ea_ with ea_; subst ea_)); subst ec_; clear en_))
 have GB94 := a_ p5
 have GG94 := a_ HG94
 clear p5 gl94 HG94
 (first | simp only [add_plain] at n2 | skip)
 (first | simp only [add_plain] at p2 | skip)
 obtain ⟨ce94, hcl94, hM94, hcc94, hfr94⟩ := Kd.N_elem b0.out [] (0 : Int) m5 n5
 obtain ⟨ua94_0, uc94_0, rfl, ul94_0, ge94_0⟩ := Kd.FK_slice_open hM94
 have y3 := hcc94 0 _ rfl
 have hf94_0 := hfr94 0
 (try simp only [show ((Kd.slice 2 (Kd.int .i64))).sz = 1 from rfl, Nat.mul_one, Nat.add_zero] at y3)
 (try simp only [show ((Kd.slice 2 (Kd.int .i64))).sz = 1 from rfl, Nat.mul_one, Nat.add_zero] at hf94_0)
 clear hcl94 hcc94 hfr94 hM94
 (try rw [show ((0 : Int)).toNat = 0 from rfl] at y3)
 (try simp only [Nat.reduceMul, Nat.zero_mul, Nat.zero_add, Nat.reduceAdd] at y3)
 (try rw [show ((0 : Int)).toNat = 0 from rfl] at hf94_0)
 (try simp only [Nat.reduceMul, Nat.zero_mul, Nat.zero_add, Nat.reduceAdd] at hf94_0)
 replace m5 := eq_true m5
 replace n5 := eq_true n5
 obtain ⟨e1, f1, q5⟩ := Kd.R_slice R3.out
 subst q5
 have HX110 := a_ (show Kd.N (Kd.slice 2 (Kd.int .i64)) 53 _ w.heap.size (fun k_ => (w.heap.size ≤ k_) ∧ no_ k_ (.slice m1 d0.length n1) ∧ no_ k_ ((.slice e1 y1.length f1)) ∧ no_ k_ Q3 ∧ k_ ≠ m0 ∧ k_ ≠ n0 ∧ k_ ≠ i0 ∧ k_ ≠ o0 ∧ k_ ≠ f0) (.slice (some ⟨go94, 0, none⟩) a0.length I1) a0 from (Kd.N_mono (b0.out) cj_))
 replace HX110 := a_ (show Kd.N (Kd.slice 2 (Kd.int .i64)) 53 _ w.heap.size (fun k_ => (w.heap.size ≤ k_) ∧ no_ k_ (.slice m1 d0.length n1) ∧ no_ k_ Q3 ∧ k_ ≠ m0 ∧ k_ ≠ n0 ∧ k_ ≠ i0 ∧ k_ ≠ o0 ∧ k_ ≠ f0) (.slice (some ⟨go94, 0, none⟩) a0.length I1) a0 from Kd.N_mono HX110.out cj_)
 obtain ⟨ce110, hcl110, hM110, hcc110, hfr110⟩ := Kd.N_elem HX110.out [] (0 : Int) (by omega) (by have h_ : (0 : Int) < ((a0.length : Int) : Int) := dm_; first | exact h_ | (have e_ := (Kd.N_reads' b0.out).1; omega) | simpa using h_)
 obtain ⟨ua110_0, uc110_0, rfl, ul110_0, ge110_0⟩ := Kd.FK_slice_open hM110
 have HZ110 := (Kd.N_seg HX110.out (0 : Int) (by omega) (by have h_ : (0 : Int) < ((a0.length : Int) : Int) := dm_; first | exact h_ | (have e_ := (Kd.N_reads' b0.out).1; omega) | simpa using h_) (seg := [(.slice e1 y1.length f1)]) (j := 0) hcl110 hcc110 (show 1 ≤ 1 from by decide) (x' := y1) (Kd.FK_slice_mk (Kd.R_reads' (Kd.R_mono (ok' := (fun k_ => ((fun k_ => (w.heap.size ≤ k_) ∧ no_ k_ (.slice m1 d0.length n1) ∧ no_ k_ Q3 ∧ k_ ≠ m0 ∧ k_ ≠ n0 ∧ k_ ≠ i0 ∧ k_ ≠ o0 ∧ k_ ≠ f0)) k_ ∧ k_ ≠ go94)) (Kd.R_types (Kd.R_types (Kd.R_types (Kd.R_types (Kd.R_types (Kd.R_apart' (Kd.R_apart' (R3.out) (Kd.N_typed c0.out) (by decide)) (Kd.N_typed b0.out) (by decide)) g0.out (by decide)) h0.out (by decide)) j0.out (by decide)) k0.out (by decide)) e0.out (by decide)) (fun k_ hk => ⟨⟨hk.1.1.1.1.1.1.1.1, ⟨hk.1.1.1.1.1.1.2, ⟨hk.1.1.1.1.1.1.1.2, ⟨hk.1.1.1.1.2, ⟨hk.1.1.1.2, ⟨hk.1.1.2, ⟨hk.1.2, hk.2⟩⟩⟩⟩⟩⟩⟩, fun e_ => (hk.1.1.1.1.1.2) (by rw [e_]; rfl)⟩))).2.1 (Kd.R_F (Kd.R_mono (ok' := (fun k_ => ((fun k_ => (w.heap.size ≤ k_) ∧ no_ k_ (.slice m1 d0.length n1) ∧ no_ k_ Q3 ∧ k_ ≠ m0 ∧ k_ ≠ n0 ∧ k_ ≠ i0 ∧ k_ ≠ o0 ∧ k_ ≠ f0)) k_ ∧ k_ ≠ go94)) (Kd.R_types (Kd.R_types (Kd.R_types (Kd.R_types (Kd.R_types (Kd.R_apart' (Kd.R_apart' (R3.out) (Kd.N_typed c0.out) (by decide)) (Kd.N_typed b0.out) (by decide)) g0.out (by decide)) h0.out (by decide)) j0.out (by decide)) k0.out (by decide)) e0.out (by decide)) (fun k_ hk => ⟨⟨hk.1.1.1.1.1.1.1.1, ⟨hk.1.1.1.1.1.1.2, ⟨hk.1.1.1.1.1.1.1.2, ⟨hk.1.1.1.1.2, ⟨hk.1.1.1.2, ⟨hk.1.1.2, ⟨hk.1.2, hk.2⟩⟩⟩⟩⟩⟩⟩, fun e_ => (hk.1.1.1.1.1.2) (by rw [e_]; rfl)⟩)))) (fun _ hk => hk))
 have HG110 := HZ110.2
 replace HZ110 := HZ110.1
 have HP110 := HZ110
 clear HZ110
 (try simp only [show ((Kd.slice 2 (Kd.int .i64))).sz = 1 from rfl, Nat.mul_one, Nat.add_zero] at HP110 HG110)
 rw [← C5.out] at HP110
 have HQ110 := a_ HP110
 clear hcl110 hcc110 hfr110 hM110 HP110
 have q4 : 0 ≤ (1 : Int) := (by omega)
 have r4 : (1 : Int) < ((a0.length : Int) : Int) := dm_
 have qi95 : (1 < a0.length) = True := eq_true (by omega)
 obtain ⟨ce95, hcl95, hM95, hcc95, hfr95⟩ := Kd.N_elem HQ110.out [] (1 : Int) q4 r4
 obtain ⟨ua95_0, uc95_0, rfl, ul95_0, ge95_0⟩ := Kd.FK_slice_open hM95
 have z3 := hcc95 0 _ rfl
 have hf95_0 := hfr95 0
 (try simp only [show ((Kd.slice 2 (Kd.int .i64))).sz = 1 from rfl, Nat.mul_one, Nat.add_zero] at z3)
 (try simp only [show ((Kd.slice 2 (Kd.int .i64))).sz = 1 from rfl, Nat.mul_one, Nat.add_zero] at hf95_0)
 clear hcl95 hcc95 hfr95 hM95
 (try rw [show ((1 : Int)).toNat = 1 from rfl] at z3)
 (try simp only [Nat.reduceMul, Nat.zero_mul, Nat.zero_add, Nat.reduceAdd] at z3)
 (try rw [show ((1 : Int)).toNat = 1 from rfl] at hf95_0)
 (try simp only [Nat.reduceMul, Nat.zero_mul, Nat.zero_add, Nat.reduceAdd] at hf95_0)
 obtain ⟨ce95b, hcl95b, hM95b, hcc95b, hfr95b⟩ := Kd.N_elem HX110.out [] (1 : Int) q4 r4
 obtain ⟨ua95b_0, uc95b_0, rfl, ul95b_0, ge95b_0⟩ := Kd.FK_slice_open hM95b
 have hx95b_0 := hcc95b 0 _ rfl
 have hf95b_0 := hfr95b 0
 (try simp only [show ((Kd.slice 2 (Kd.int .i64))).sz = 1 from rfl, Nat.mul_one, Nat.add_zero] at hx95b_0)
 (try simp only [show ((Kd.slice 2 (Kd.int .i64))).sz = 1 from rfl, Nat.mul_one, Nat.add_zero] at hf95b_0)
 (try rw [show ((1 : Int)).toNat = 1 from rfl] at hx95b_0)
 (try simp only [Nat.reduceMul, Nat.zero_mul, Nat.zero_add, Nat.reduceAdd] at hx95b_0)
 (try rw [show ((1 : Int)).toNat = 1 from rfl] at hf95b_0)
 (try simp only [Nat.reduceMul, Nat.zero_mul, Nat.zero_add, Nat.reduceAdd] at hf95b_0)
 clear hcl95b hM95b hcc95b hfr95b
 replace q4 := eq_true q4
 replace r4 := eq_true r4
 obtain ⟨h1, i1, r5⟩ := Kd.R_slice S3.out
 subst r5
 have HX111 := a_ (show Kd.N (Kd.slice 2 (Kd.int .i64)) 53 _ w.heap.size (fun k_ => (w.heap.size ≤ k_) ∧ no_ k_ (.slice m1 d0.length n1) ∧ no_ k_ ((.slice h1 z1.length i1)) ∧ k_ ≠ m0 ∧ k_ ≠ n0 ∧ k_ ≠ i0 ∧ k_ ≠ o0 ∧ k_ ≠ f0) (.slice (some ⟨go94, 0, none⟩) a0.length I1) f4 from (Kd.N_mono (HQ110.out) cj_))
 replace HX111 := a_ (show Kd.N (Kd.slice 2 (Kd.int .i64)) 53 _ w.heap.size (fun k_ => (w.heap.size ≤ k_) ∧ no_ k_ (.slice m1 d0.length n1) ∧ k_ ≠ m0 ∧ k_ ≠ n0 ∧ k_ ≠ i0 ∧ k_ ≠ o0 ∧ k_ ≠ f0) (.slice (some ⟨go94, 0, none⟩) a0.length I1) f4 from Kd.N_mono HX111.out cj_)
 obtain ⟨ce111, hcl111, hM111, hcc111, hfr111⟩ := Kd.N_elem HX111.out [] (1 : Int) (by omega) (by have h_ : (1 : Int) < ((a0.length : Int) : Int) := dm_; first | exact h_ | (have e_ := (Kd.N_reads' b0.out).1; omega) | simpa using h_)
 obtain ⟨ua111_0, uc111_0, rfl, ul111_0, ge111_0⟩ := Kd.FK_slice_open hM111
 have HP111 := (Kd.N_seg HX111.out (1 : Int) (by omega) (by have h_ : (1 : Int) < ((a0.length : Int) : Int) := dm_; first | exact h_ | (have e_ := (Kd.N_reads' b0.out).1; omega) | simpa using h_) (seg := [(.slice h1 z1.length i1)]) (j := 0) hcl111 hcc111 (show 1 ≤ 1 from by decide) (x' := z1) (Kd.FK_slice_mk (Kd.R_reads' (Kd.R_mono (ok' := (fun k_ => ((fun k_ => (w.heap.size ≤ k_) ∧ no_ k_ (.slice m1 d0.length n1) ∧ k_ ≠ m0 ∧ k_ ≠ n0 ∧ k_ ≠ i0 ∧ k_ ≠ o0 ∧ k_ ≠ f0)) k_ ∧ k_ ≠ go94)) (Kd.R_grown (Kd.R_types (Kd.R_types (Kd.R_types (Kd.R_types (Kd.R_types (Kd.R_apart' (Kd.R_apart' (S3.out) (Kd.N_typed c0.out) (by decide)) (Kd.N_typed b0.out) (by decide)) g0.out (by decide)) h0.out (by decide)) j0.out (by decide)) k0.out (by decide)) e0.out (by decide)) HG110 (fun k_ hk e_ => hk.1.1.1.1.1.2 (e_.trans rfl))) (fun k_ hk => ⟨⟨hk.1.1.1.1.1.1.1.1, ⟨hk.1.1.1.1.1.1.2, ⟨hk.1.1.1.1.2, ⟨hk.1.1.1.2, ⟨hk.1.1.2, ⟨hk.1.2, hk.2⟩⟩⟩⟩⟩⟩, fun e_ => (hk.1.1.1.1.1.2) (by rw [e_]; rfl)⟩))).2.1 (Kd.R_F (Kd.R_mono (ok' := (fun k_ => ((fun k_ => (w.heap.size ≤ k_) ∧ no_ k_ (.slice m1 d0.length n1) ∧ k_ ≠ m0 ∧ k_ ≠ n0 ∧ k_ ≠ i0 ∧ k_ ≠ o0 ∧ k_ ≠ f0)) k_ ∧ k_ ≠ go94)) (Kd.R_grown (Kd.R_types (Kd.R_types (Kd.R_types (Kd.R_types (Kd.R_types (Kd.R_apart' (Kd.R_apart' (S3.out) (Kd.N_typed c0.out) (by decide)) (Kd.N_typed b0.out) (by decide)) g0.out (by decide)) h0.out (by decide)) j0.out (by decide)) k0.out (by decide)) e0.out (by decide)) HG110 (fun k_ hk e_ => hk.1.1.1.1.1.2 (e_.trans rfl))) (fun k_ hk => ⟨⟨hk.1.1.1.1.1.1.1.1, ⟨hk.1.1.1.1.1.1.2, ⟨hk.1.1.1.1.2, ⟨hk.1.1.1.2, ⟨hk.1.1.2, ⟨hk.1.2, hk.2⟩⟩⟩⟩⟩⟩, fun e_ => (hk.1.1.1.1.1.2) (by rw [e_]; rfl)⟩)))) (fun _ hk => hk)).1
 (try simp only [show ((Kd.slice 2 (Kd.int .i64))).sz = 1 from rfl, Nat.mul_one, Nat.add_zero] at HP111)
 rw [← D5.out] at HP111
 have HQ111 := a_ HP111
 clear hcl111 hcc111 hfr111 hM111 HP111
 refine hK.out _ _ ⟨ce_ e0 0, ce_ e0 1⟩ (fun hHeld => ?_)
 clear hK K
 refine norm_ (a' := ?_) ?_ ?_
 rotate_left
 {
 show Act.put _ (some 75) _ = _
 exact sp_}
 refine pu_ 13 (some 62) (B_ 21 16383) HT_ ?_
 refine pu_ 14 (some 76) (B_ 21 32767) HT_ ?_
 refine pu_ 15 (some 77) (B_ 21 65535) HT_ ?_
 refine pu_ 16 (some 78) (B_ 21 131071) HT_ ?_
 refine pu_ 17 (some 79) (B_ 21 262143) HT_ ?_
 refine one_ (i := 18) (N := none) (B_ 21 524287) rfl rfl (one_of HT_.out kf_) (by decide) (fun K hK => ?_)
 refine skip_ (w1 := ?_) (by rfl) rfl ?_ ?_
 rotate_left
 {
 go_simp
 rfl}
 refine hK.out _ _ ⟨((cell_far (p := ⟨go94, _, none⟩) (fun e_ => (Kd.N_away HX111.out (fun _ hk => hk.2.2.2.2.2.2)) (congrArg some e_)) _).trans (hHeld.1)), ((cell_far (p := ⟨go94, _, none⟩) (fun e_ => (Kd.N_away HX111.out (fun _ hk => hk.2.2.2.2.2.2)) (congrArg some e_)) _).trans (hHeld.2))⟩ (fun hHeld => ?_)
 clear hK K
 refine pu_ 19 (some 80) (B_ 21 1048575) HT_ ?_
 refine one_ (i := 20) (N := none) (B_ 21 2097151) rfl rfl (one_of HT_.out kf_) (by decide) (fun K hK => ?_)
 refine skip_ (w1 := ?_) (by rfl) rfl ?_ ?_
 rotate_left
 {
 go_simp
 rfl}
 refine hK.out _ _ ⟨((cell_far (p := ⟨go94, _, none⟩) (fun e_ => (Kd.N_away HX111.out (fun _ hk => hk.2.2.2.2.2.2)) (congrArg some e_)) _).trans (hHeld.1)), ((cell_far (p := ⟨go94, _, none⟩) (fun e_ => (Kd.N_away HX111.out (fun _ hk => hk.2.2.2.2.2.2)) (congrArg some e_)) _).trans (hHeld.2))⟩ (fun hHeld => ?_)
 clear hK K
 refine done_ (done_of HT_.out kf_) ?_
 have n0_ : Aside0 (Kd.N (Kd.slice 3 (Kd.int .i64)) 22 ((f2.setCell ⟨go94, 0, none⟩ ((.slice e1 y1.length f1))).setCell ⟨go94, 1, none⟩ ((.slice h1 z1.length i1))) w.heap.size (fun k_ => (w.heap.size ≤ k_) ∧ no_ k_ (.slice (some ⟨go94, 0, none⟩) a0.length I1) ∧ k_ ≠ m0 ∧ k_ ≠ n0 ∧ k_ ≠ i0 ∧ k_ ≠ o0 ∧ k_ ≠ f0) (.slice m1 d0.length n1) d0) := ⟨by (with_reducible repeat (first | apply Kd.N_alloc | apply Kd.N_drewN | apply Kd.N_drew)); exact Kd.N_mono (Kd.N_far (p := ⟨go94, 1, none⟩) (Kd.N_far (p := ⟨go94, 0, none⟩) (Kd.N_mono c0.out (fun k_ hk => (⟨hk, fun e_ => hk.1.1.2.1 (by rw [e_]; rfl)⟩ : _ ∧ k_ ≠ go94))) (fun _ hk => hk.2) ((.slice e1 y1.length f1))) (fun _ hk => hk.2) ((.slice h1 z1.length i1))) cj_⟩
 have n1_ : Aside0 (Kd.N (Kd.slice 2 (Kd.int .i64)) 53 ((f2.setCell ⟨go94, 0, none⟩ ((.slice e1 y1.length f1))).setCell ⟨go94, 1, none⟩ ((.slice h1 z1.length i1))) w.heap.size (fun k_ => (w.heap.size ≤ k_) ∧ no_ k_ (.slice m1 d0.length n1) ∧ k_ ≠ m0 ∧ k_ ≠ n0 ∧ k_ ≠ i0 ∧ k_ ≠ o0 ∧ k_ ≠ f0) (.slice (some ⟨go94, 0, none⟩) a0.length I1) p6) := ⟨kN_ HQ111⟩
 have n2_ : Aside0 (Kd.V (Kd.int .i64) 2 ((f2.setCell ⟨go94, 0, none⟩ ((.slice e1 y1.length f1))).setCell ⟨go94, 1, none⟩ ((.slice h1 z1.length i1))) w.heap.size (fun k_ => (w.heap.size ≤ k_) ∧ no_ k_ (.slice m1 d0.length n1) ∧ no_ k_ (.slice (some ⟨go94, 0, none⟩) a0.length I1) ∧ k_ ≠ m0 ∧ k_ ≠ n0 ∧ k_ ≠ i0 ∧ k_ ≠ o0 ∧ k_ ≠ f0) (.slice s3 (rd_L2 a0 0).length t3) (rd_L2 a0 0)) := ⟨by (with_reducible repeat (first | apply Kd.V_alloc | apply Kd.V_drewN | apply Kd.V_drew)); exact Kd.V_mono (Kd.V_far (p := ⟨go94, 1, none⟩) (Kd.V_far (p := ⟨go94, 0, none⟩) (Kd.V_mono HL428_0.out (fun k_ hk => (⟨hk, fun e_ => hk.1.1.2 (by rw [e_]; rfl)⟩ : _ ∧ k_ ≠ go94))) (fun _ hk => hk.2) ((.slice e1 y1.length f1))) (fun _ hk => hk.2) ((.slice h1 z1.length i1))) cj_⟩
 have n3_ : Aside0 (Kd.V (Kd.int .i64) 2 ((f2.setCell ⟨go94, 0, none⟩ ((.slice e1 y1.length f1))).setCell ⟨go94, 1, none⟩ ((.slice h1 z1.length i1))) w.heap.size (fun k_ => (w.heap.size ≤ k_) ∧ no_ k_ (.slice m1 d0.length n1) ∧ no_ k_ (.slice (some ⟨go94, 0, none⟩) a0.length I1) ∧ k_ ≠ m0 ∧ k_ ≠ n0 ∧ k_ ≠ i0 ∧ k_ ≠ o0 ∧ k_ ≠ f0) (.slice v3 (rd_L2 a0 1).length w3) (rd_L2 a0 1)) := ⟨by (with_reducible repeat (first | apply Kd.V_alloc | apply Kd.V_drewN | apply Kd.V_drew)); exact Kd.V_mono (Kd.V_far (p := ⟨go94, 1, none⟩) (Kd.V_far (p := ⟨go94, 0, none⟩) (Kd.V_mono HL429_0.out (fun k_ hk => (⟨hk, fun e_ => hk.1.1.2 (by rw [e_]; rfl)⟩ : _ ∧ k_ ≠ go94))) (fun _ hk => hk.2) ((.slice e1 y1.length f1))) (fun _ hk => hk.2) ((.slice h1 z1.length i1))) cj_⟩
 have n4_ : Aside0 (((f2.setCell ⟨go94, 0, none⟩ ((.slice e1 y1.length f1))).setCell ⟨go94, 1, none⟩ ((.slice h1 z1.length i1))).heap[m0]? = some (.cells #[.int .i64 A0, .int .i64 B0, .slice F0 y0.length G0, .slice H0 z0.length I0] 24 (0, 0))) := ⟨by (with_reducible repeat (first | refine blk_drewN ?_ _ | refine blk_drew ?_ | refine blk_alloc ?_ _)); refine blk_far ?_ (by have h_ := Kd.N_away HX111.out (fun _ hk => hk.2.2.1); intro e_; exact h_ (by rw [e_]; rfl)) _; (with_reducible repeat (first | refine blk_drewN ?_ _ | refine blk_drew ?_ | refine blk_alloc ?_ _)); refine blk_far ?_ (by have h_ := Kd.N_away HX111.out (fun _ hk => hk.2.2.1); intro e_; exact h_ (by rw [e_]; rfl)) _; (with_reducible repeat (first | refine blk_drewN ?_ _ | refine blk_drew ?_ | refine blk_alloc ?_ _)); exact g0.out⟩
 have n5_ : Aside0 (((f2.setCell ⟨go94, 0, none⟩ ((.slice e1 y1.length f1))).setCell ⟨go94, 1, none⟩ ((.slice h1 z1.length i1))).heap[n0]? = some (.cells #[.slice s2 N0.length b1] 37 (0, 0))) := ⟨by (with_reducible repeat (first | refine blk_drewN ?_ _ | refine blk_drew ?_ | refine blk_alloc ?_ _)); refine blk_far ?_ (by have h_ := Kd.N_away HX111.out (fun _ hk => hk.2.2.2.1); intro e_; exact h_ (by rw [e_]; rfl)) _; (with_reducible repeat (first | refine blk_drewN ?_ _ | refine blk_drew ?_ | refine blk_alloc ?_ _)); refine blk_far ?_ (by have h_ := Kd.N_away HX111.out (fun _ hk => hk.2.2.2.1); intro e_; exact h_ (by rw [e_]; rfl)) _; (with_reducible repeat (first | refine blk_drewN ?_ _ | refine blk_drew ?_ | refine blk_alloc ?_ _)); exact h0.out⟩
 have n6_ : Aside0 (((f2.setCell ⟨go94, 0, none⟩ ((.slice e1 y1.length f1))).setCell ⟨go94, 1, none⟩ ((.slice h1 z1.length i1))).heap[i0]? = some (.cells #[.slice none 0 0, .slice none 0 0] 28 (0, 0))) := ⟨by (with_reducible repeat (first | refine blk_drewN ?_ _ | refine blk_drew ?_ | refine blk_alloc ?_ _)); refine blk_far ?_ (by have h_ := Kd.N_away HX111.out (fun _ hk => hk.2.2.2.2.1); intro e_; exact h_ (by rw [e_]; rfl)) _; (with_reducible repeat (first | refine blk_drewN ?_ _ | refine blk_drew ?_ | refine blk_alloc ?_ _)); refine blk_far ?_ (by have h_ := Kd.N_away HX111.out (fun _ hk => hk.2.2.2.2.1); intro e_; exact h_ (by rw [e_]; rfl)) _; (with_reducible repeat (first | refine blk_drewN ?_ _ | refine blk_drew ?_ | refine blk_alloc ?_ _)); exact j0.out⟩
 have n7_ : Aside0 (((f2.setCell ⟨go94, 0, none⟩ ((.slice e1 y1.length f1))).setCell ⟨go94, 1, none⟩ ((.slice h1 z1.length i1))).heap[o0]? = some (.cells #[.int .i64 A0, .int .i64 B0, .slice F0 y0.length G0, .slice H0 z0.length I0] 61 (0, 0))) := ⟨by (with_reducible repeat (first | refine blk_drewN ?_ _ | refine blk_drew ?_ | refine blk_alloc ?_ _)); refine blk_far ?_ (by have h_ := Kd.N_away HX111.out (fun _ hk => hk.2.2.2.2.2.1); intro e_; exact h_ (by rw [e_]; rfl)) _; (with_reducible repeat (first | refine blk_drewN ?_ _ | refine blk_drew ?_ | refine blk_alloc ?_ _)); refine blk_far ?_ (by have h_ := Kd.N_away HX111.out (fun _ hk => hk.2.2.2.2.2.1); intro e_; exact h_ (by rw [e_]; rfl)) _; (with_reducible repeat (first | refine blk_drewN ?_ _ | refine blk_drew ?_ | refine blk_alloc ?_ _)); exact k0.out⟩
 have n8_ : Aside0 (((f2.setCell ⟨go94, 0, none⟩ ((.slice e1 y1.length f1))).setCell ⟨go94, 1, none⟩ ((.slice h1 z1.length i1))).heap[f0]? = some (.cells #[.slice m1 d0.length n1, .slice (some ⟨go94, 0, none⟩) a0.length I1] 28 (0, 0))) := ⟨by (with_reducible repeat (first | refine blk_drewN ?_ _ | refine blk_drew ?_ | refine blk_alloc ?_ _)); refine blk_far ?_ (by have h_ := Kd.N_away HX111.out (fun _ hk => hk.2.2.2.2.2.2); intro e_; exact h_ (by rw [e_]; rfl)) _; (with_reducible repeat (first | refine blk_drewN ?_ _ | refine blk_drew ?_ | refine blk_alloc ?_ _)); refine blk_far ?_ (by have h_ := Kd.N_away HX111.out (fun _ hk => hk.2.2.2.2.2.2); intro e_; exact h_ (by rw [e_]; rfl)) _; (with_reducible repeat (first | refine blk_drewN ?_ _ | refine blk_drew ?_ | refine blk_alloc ?_ _)); exact e0.out⟩
 have n9_ : Aside0 (Below w.heap.size w ((f2.setCell ⟨go94, 0, none⟩ ((.slice e1 y1.length f1))).setCell ⟨go94, 1, none⟩ ((.slice h1 z1.length i1)))) := ⟨by repeat (first | (with_reducible first | exact HB.out | apply below_alloc | apply pw_below_drewN | apply below_drew1 | refine below_set ?_ GB94.out | refine below_set ?_ GB94.out | refine below_set ?_ S2.out | refine below_set ?_ T2.out | refine below_set ?_ U2.out | refine below_set ?_ h4.out | refine below_set ?_ i4.out) | exact HB.out)⟩
 (try clear c0)
 (try clear b0)
 (try clear HL428_0)
 (try clear HL429_0)
 (try clear g0)
 (try clear h0)
 (try clear j0)
 (try clear k0)
 (try clear e0)
 (try clear HB)
 generalize ((f2.setCell ⟨go94, 0, none⟩ ((.slice e1 y1.length f1))).setCell ⟨go94, 1, none⟩ ((.slice h1 z1.length i1))) = L9 at n0_ n1_ n2_ n3_ n4_ n5_ n6_ n7_ n8_ n9_ ⊢
 have c0 := n0_
 have b0 := n1_
 have HL428_0 := n2_
 have HL429_0 := n3_
 have g0 := n4_
 have h0 := n5_
 have j0 := n6_
 have k0 := n7_
 have e0 := n8_
 have HB := n9_
 clear n0_ n1_ n2_ n3_ n4_ n5_ n6_ n7_ n8_ n9_
 obtain ⟨I6, J6, K6, L6⟩ := e2_ e0
 have a8 := T1.out
 have b8 := S1.out
 have c8 := V1.out
 have d8 := U1.out
 obtain ⟨M6, N6, O6, P6⟩ := e2_ j0
 try go_wp2
 refine bodyPost_ret (results_ct rfl _ _ i0 28 #[.slice m1 d0.length n1, .slice (some ⟨go94, 0, none⟩) a0.length I1] (0, 0) _ rfl (bp_ j0) Try.underlying28 rfl kf_) rfl ?_
 exact ⟨_, _, er_, by (with_reducible repeat (first | apply Kd.N_alloc | apply Kd.N_drewN | apply Kd.N_drew)); exact Kd.N_mono (Kd.N_far (p := ⟨i0, 1, none⟩) (Kd.N_far (p := ⟨i0, 0, none⟩) (Kd.N_mono c0.out (fun k_ hk => (⟨hk, hk.2.2.2.2.1⟩ : _ ∧ k_ ≠ i0))) (fun _ hk => hk.2) (.slice m1 d0.length n1)) (fun _ hk => hk.2) (.slice (some ⟨go94, 0, none⟩) a0.length I1)) cj_, by (with_reducible repeat (first | apply Kd.N_alloc | apply Kd.N_drewN | apply Kd.N_drew)); exact Kd.N_mono (Kd.N_far (p := ⟨i0, 1, none⟩) (Kd.N_far (p := ⟨i0, 0, none⟩) (Kd.N_mono b0.out (fun k_ hk => (⟨hk, hk.2.2.2.2.1⟩ : _ ∧ k_ ≠ i0))) (fun _ hk => hk.2) (.slice m1 d0.length n1)) (fun _ hk => hk.2) (.slice (some ⟨go94, 0, none⟩) a0.length I1)) cj_, bl_ HB⟩}
 {
 simp only [Option.some.injEq, Prod.mk.injEq] at H
 obtain ⟨rfl, rfl, rfl⟩ := H
 have e8 := X1.out
 have g8 := W1.out
 have h8 := Z1.out
 have j8 := Y1.out
 have k8 := b2.out
 have l8 := a2.out
 have m8 := q1.out
 have n8 := t1.out
 obtain ⟨Q6, R6, S6, T6, U6, V6, W6, X6⟩ := e4_ k0
 have o8 := O1.out
 have p8 := N1.out
 have q8 := D1.out
 have r8 := C1.out
 have s8 := Q1.out
 have t8 := P1.out
 obtain ⟨Y6, Z6, a7, b7⟩ := e2_ e0
 obtain ⟨h3, i3, G5⟩ := Kd.N_slice c0.out
 subst G5
 go_wp2_with (first | ((with_reducible refine gate_callee (f := 32) rfl ?_); refine gL_ (some 61) Try.func32 #[.agg #[.int .i64 A0, .int .i64 B0, .slice F0 y0.length G0, .slice H0 z0.length I0], .slice h3 d0.length i3] ?_; (with_reducible refine (vcodec_codec_both.calls A0 B0 _ _ y0 _ _ z0 _ _ d0 false _ ?side1 ?side2 ?side3 ?side4 ?side5 ?side6 Y5.out).mono ?_); (case side1 => exact kC_ B2 HB); (case side2 => exact C2.out); (case side3 => exact kC_ D2 HB); (case side4 => exact E2.out); (case side5 => repeat (first | exact (Kd.N_reads' c0.out).2.2 | (with_reducible refine Kd.C_alloc ?_ _) | (with_reducible refine Kd.C_drewN ?_ _) | (with_reducible refine Kd.C_drew ?_))); (case side6 => exact (Kd.N_reads' c0.out).2.1); rintro e M9 ⟨rfl, hb⟩; refine ⟨_, rfl, ?_⟩; replace c0 := FN_ c0 hb; replace b0 := FN_ b0 hb; replace g0 := FB_ g0 hb; replace h0 := FB_ h0 hb; replace j0 := FB_ j0 hb; replace k0 := FB_ k0 hb; replace e0 := FB_ e0 hb; replace HB := BS_ HB hb; (try clear hb); obtain ⟨c7, d7, e7, f7⟩ := e2_ e0; have v8 := T1.out; have w8 := S1.out; have x8 := V1.out; have y8 := U1.out; obtain ⟨g7, h7, i7, j7⟩ := e2_ j0; obtain ⟨T3, U3, H5⟩ := Kd.N_slice b0.out; subst H5))
 refine bodyPost_ret (results_ct rfl _ _ i0 28 #[.slice h3 d0.length i3, .slice T3 a0.length U3] (0, 0) _ rfl (bp_ j0) Try.underlying28 rfl kf_) rfl ?_
 exact ⟨_, _, er_, by (with_reducible repeat (first | apply Kd.N_alloc | apply Kd.N_drewN | apply Kd.N_drew)); exact Kd.N_mono (Kd.N_far (p := ⟨i0, 1, none⟩) (Kd.N_far (p := ⟨i0, 0, none⟩) (Kd.N_mono c0.out (fun k_ hk => (⟨hk, hk.2.2.2.2.1⟩ : _ ∧ k_ ≠ i0))) (fun _ hk => hk.2) (.slice h3 d0.length i3)) (fun _ hk => hk.2) (.slice T3 a0.length U3)) cj_, by (with_reducible repeat (first | apply Kd.N_alloc | apply Kd.N_drewN | apply Kd.N_drew)); exact Kd.N_mono (Kd.N_far (p := ⟨i0, 1, none⟩) (Kd.N_far (p := ⟨i0, 0, none⟩) (Kd.N_mono b0.out (fun k_ hk => (⟨hk, hk.2.2.2.2.1⟩ : _ ∧ k_ ≠ i0))) (fun _ hk => hk.2) (.slice h3 d0.length i3)) (fun _ hk => hk.2) (.slice T3 a0.length U3)) cj_, bl_ HB⟩}}))}
 {
 simp only [Option.some.injEq, Prod.mk.injEq] at H
 obtain ⟨rfl, rfl, rfl⟩ := H
 go_enter Try.func15, Try.ntmps15
 go_wp2_with (first | ((with_reducible refine gate_dst (N := 2) rfl ?_); refine bx_ HB 2 #[.int .i64 A0, .int .i64 B0, .slice F0 y0.length G0, .slice H0 z0.length I0] 24 ?_; clear HB; intro m0 hg N9 hb g0 S2 HB; have s5 := S2; clear hb hg) | ((with_reducible refine gate_dst (N := 3) rfl ?_); refine bx_ HB 3 #[.slice s2 N0.length b1] 37 ?_; clear HB; intro n0 hg O9 hb h0 T2 HB; have t5 := T2; obtain ⟨t2, v2⟩ := NN_ g0 hg; replace g0 := FB_ g0 hb; clear hb hg) | ((with_reducible refine gate_dst (N := 4) rfl ?_); refine bx_ HB 4 #[.slice none 0 0, .slice none 0 0] 28 ?_; clear HB; intro i0 hg P9 hb j0 U2 HB; have v5 := U2; obtain ⟨S1, T1⟩ := NN_ g0 hg; replace g0 := FB_ g0 hb; obtain ⟨U1, V1⟩ := NN_ h0 hg; replace h0 := FB_ h0 hb; clear hb hg; have z8 := t2.out; have A8 := v2.out; have B8 := S1.out; have C8 := T1.out; obtain ⟨k7, l7, m7, n7, o7, p7, q7, r7⟩ := e4_ g0; have D8 := U1.out; have E8 := V1.out; obtain ⟨s7, t7⟩ := e1_ h0) | ((with_reducible refine gate_callee (f := 16) rfl ?_); refine gL_ (some 17) Try.func16 #[.agg #[.int .i64 A0, .int .i64 B0, .slice F0 y0.length G0, .slice H0 z0.length I0], .agg #[.slice s2 N0.length b1]] ?_; (with_reducible refine (vcodec_Right.calls k A0 B0 _ _ y0 _ _ z0 _ _ N0 false _ ?side1 ?side2 ?side3 ?side4 ?side5 ?side6 A3.out).mono ?_); (case side1 => exact kC_ B2 HB); (case side2 => exact C2.out); (case side3 => exact kC_ D2 HB); (case side4 => exact E2.out); (case side5 => exact kC_ R2 HB); (case side6 => exact g4.out); rintro e Q9 ⟨rfl, hb⟩; refine ⟨_, rfl, ?_⟩; replace g0 := FB_ g0 hb; replace h0 := FB_ h0 hb; replace j0 := FB_ j0 hb; replace HB := BS_ HB hb; (try clear hb); obtain ⟨v7, x7, y7, z7⟩ := e2_ j0))
 refine bodyPost_ret (results_ct rfl _ _ i0 28 #[.slice none 0 0, .slice none 0 0] (0, 0) _ rfl (bp_ j0) Try.underlying28 rfl kf_) rfl ?_
 exact ⟨_, _, er_, by first | exact Kd.S_nil _ _ _ _ _ | exact Kd.N_nil _ _ _ _ _ | exact Kd.V_nil _ _ _ _ _ | exact Kd.Q_nil _ _ _ _ _ | exact Kd.R_nil _ _ _ _ _, by first | exact Kd.S_nil _ _ _ _ _ | exact Kd.N_nil _ _ _ _ _ | exact Kd.V_nil _ _ _ _ _ | exact Kd.Q_nil _ _ _ _ _ | exact Kd.R_nil _ _ _ _ _, bl_ HB⟩}
def vpack_posts.l0 : Nat → List Int → Int → Int → Int → Int → List Int → List Int → Option (Bool)
  | 0, _, _, _, _, _, _, _ => none
  | k + 1, c0, g0, b0, d0, e0, a0, f0 => if b0 < g0 then (if 0 ≤ b0 then (if b0 < (c0.length : Int) then (if 0 ≤ (rd c0 b0) then (if (rd c0 b0) < (a0.length : Int) then (if (rd a0 (rd c0 b0)) = 0 then (some false) else (vpack_posts.l0 k c0 g0 (wrap64 (b0 + 1)) d0 e0 a0 f0)) else (none)) else (none)) else (none)) else (none)) else (some true)
def vpack_posts.f (k : Nat) (a0 : Int) (b0 : Int) (c0 : List Int) (d0 : List Int) (l1 : List Int) : Option (Bool) := (floor_Right.f k l1).bind fun e0 => (if e0 = true then (vpack_posts.l0 k l1 (l1.length : Int) 0 a0 b0 c0 d0) else (some false))
theorem vpack_posts.mono_l : ∀ k, (∀ y0 y1 y2 y3 y4 y5 y6, LeO (vpack_posts.l0 k y0 y1 y2 y3 y4 y5 y6) (vpack_posts.l0 (k + 1) y0 y1 y2 y3 y4 y5 y6))
  | 0 => fun _ _ _ _ _ _ _ r h => by simp [vpack_posts.l0] at h
  | k + 1 => by
    have a0 := vpack_posts.mono_l k
    · intro y0 y1 y2 y3 y4 y5 y6
      unfold vpack_posts.l0
      with_reducible repeat' first
   | apply a0
   | apply floor_Right.mono
   | exact LeO.refl _
   | exact LeO.none _
   | refine LeO.ite ?_ ?_
   | refine LeO.bind ?_ (fun _ => ?_)
theorem vpack_posts.mono : ∀ a0 a1 a2 a3 a4 k, LeO (vpack_posts.f k a0 a1 a2 a3 a4) (vpack_posts.f (k + 1) a0 a1 a2 a3 a4) := by
  intro a0 a1 a2 a3 a4 k
  have b0 := vpack_posts.mono_l k
  unfold vpack_posts.f
  with_reducible repeat' first
   | apply b0
   | apply floor_Right.mono
   | exact LeO.refl _
   | exact LeO.none _
   | refine LeO.ite ?_ ?_
   | refine LeO.bind ?_ (fun _ => ?_)
set_option maxHeartbeats 8000000 in
set_option maxRecDepth 100000 in
theorem vpack_posts.calls (k : Nat) (g0 : Int) (h0 : Int) (n0 : Option Addr) (o0 : Nat) (b0 : List Int) (p0 : Option Addr) (q0 : Nat) (c0 : List Int) (A1 : Option Addr) (c1 : Nat) (l1 : List Int) (r : Bool) (w : World) (hr0_2 : Kd.C (Kd.int .i64) w n0 b0.length b0) (hc0_2 : b0.length ≤ o0) (hr0_3 : Kd.C (Kd.int .i64) w p0 c0.length c0) (hc0_3 : c0.length ≤ q0) (hr1 : Kd.C (Kd.int .i64) w A1 l1.length l1) (hc1 : l1.length ≤ c1) (h : vpack_posts.f k g0 h0 b0 c0 l1 = some r) :
    Calls Try.prog 51 #[.agg #[.int .i64 g0, .int .i64 h0, .slice n0 b0.length o0, .slice p0 c0.length q0], .slice A1 l1.length c1] w fun e w' => e = .returned (.bool r) ∧ Below w.heap.size w w' := by
 have e1 := Try.underlying24
 have v0 := a_ hr0_2
 have Z0 := a_ hc0_2
 clear hr0_2 hc0_2
 have a1 := a_ hr0_3
 have b1 := a_ hc0_3
 clear hr0_3 hc0_3
 have w0 := a_ hr1
 have F0 := a_ hc1
 clear hr1 hc1
 have HB := a_ (Below.refl w.heap.size w)
 have H : ((floor_Right.f k l1).bind fun z0 => (if z0 = true then (vpack_posts.l0 k l1 (l1.length : Int) 0 g0 h0 b0 c0) else (some false))) = some r := h
 clear h
 obtain ⟨z0, A3, H⟩ := ob_ H
 (try dsimp only at H)
 replace H := ib_ H
 rcases H with ⟨rfl, H⟩ | ⟨rfl, H⟩
 {
 have H' := a_ H
 clear H
 go_enter Try.func51, Try.ntmps51
 go_wp2_with (first | ((with_reducible refine gate_dst (N := 2) rfl ?_); refine bx_ HB 2 #[.int .i64 g0, .int .i64 h0, .slice n0 b0.length o0, .slice p0 c0.length q0] 24 ?_; clear HB; intro y0 hg w5 hb f0 r0 HB; have A0 := r0; clear hb hg) | ((with_reducible refine gate_callee (f := 86) rfl ?_); refine gL_ (some 8) Try.func86 #[.slice A1 l1.length c1] ?_; (with_reducible refine (floor_Right.calls k _ _ l1 true _ ?side1 ?side2 A3.out).mono ?_); (case side1 => exact kC_ w0 HB); (case side2 => exact F0.out); rintro e w' ⟨rfl, ⟨nd, rfl⟩⟩; refine ⟨_, rfl, ?_⟩))
 go_loopg [12] k (fun kq Y0 w' => ∃ (a0 : Int), Y0 = .int .i64 a0 ∧ Aside0 (vpack_posts.l0 kq l1 (l1.length : Int) a0 g0 h0 b0 c0 = some r) ∧ Aside0 (kq ≤ k) ∧ Aside0 (w'.heap[y0]? = some (.cells #[.int .i64 g0, .int .i64 h0, (.slice n0 b0.length o0), (.slice p0 c0.length q0)] 24 (0, 0))) ∧ Aside0 (Below w.heap.size w w'))
 case atStart => exact ⟨(0), rs_, H', ⟨Nat.le_refl _⟩, ⟨bk_ f0⟩, ⟨bl_ HB⟩⟩
 case round => (
 clear H'
 try clear c1
 try clear c4
 obtain ⟨a0, rfl, HA, G0, f0, HB⟩ := hrel
 cases gk with
 | zero => exact absurd HA.out (by simp [vpack_posts.l0])
 | succ k1 => (
 have H := HA.out
 clear HA
 simp only [vpack_posts.l0] at H
 replace H := id_ H
 rcases H with ⟨H0, H⟩ | ⟨H0, H⟩
 {
 replace H := gd_ H
 obtain ⟨f1, H⟩ := H
 replace H := gd_ H
 obtain ⟨h1, H⟩ := H
 replace H := gd_ H
 obtain ⟨i1, H⟩ := H
 replace H := gd_ H
 obtain ⟨d1, H⟩ := H
 replace H := ie_ H
 rcases H with ⟨B0, C0, H⟩ | ⟨j1, B0, C0, H⟩
 {
 obtain rfl := Option.some.inj H
 have i0 : 0 ≤ (a0 : Int) := dm_
 have j0 : a0 < (l1.length : Int) := dm_
 obtain ⟨D0, s0, d0⟩ := Kd.at_int w0.out a0 i0 j0
 cases s0
 replace d0 := hc_ HB d0
 replace i0 := eq_true i0
 replace j0 := eq_true j0
 obtain ⟨I0, J0, K0, L0, M0, N0, O0, P0⟩ := e4_ f0
 have k0 : 0 ≤ ((rd l1 a0) : Int) := dm_
 have m0 : (rd l1 a0) < (b0.length : Int) := dm_
 obtain ⟨E0, t0, e0⟩ := Kd.at_int v0.out (rd l1 a0) k0 m0
 cases t0
 replace e0 := hc_ HB e0
 replace k0 := eq_true k0
 replace m0 := eq_true m0
 go_wp2
 go_ret
 exact ⟨er_, bl_ HB⟩}
 {
 have H' := a_ H
 clear H
 have i0 : 0 ≤ (a0 : Int) := dm_
 have j0 : a0 < (l1.length : Int) := dm_
 obtain ⟨D0, s0, d0⟩ := Kd.at_int w0.out a0 i0 j0
 cases s0
 replace d0 := hc_ HB d0
 replace i0 := eq_true i0
 replace j0 := eq_true j0
 obtain ⟨Q0, R0, S0, T0, U0, V0, W0, X0⟩ := e4_ f0
 have k0 : 0 ≤ ((rd l1 a0) : Int) := dm_
 have m0 : (rd l1 a0) < (b0.length : Int) := dm_
 obtain ⟨E0, t0, e0⟩ := Kd.at_int v0.out (rd l1 a0) k0 m0
 cases t0
 replace e0 := hc_ HB e0
 replace k0 := eq_true k0
 replace m0 := eq_true m0
 go_wp2
 go_roundg k1
 case measure => have := G0.out; omega
 case rel => exact ⟨(wrap64 (a0 + 1)), rs_, H', ⟨by have := G0.out; omega⟩, ⟨bk_ f0⟩, ⟨bl_ HB⟩⟩}}
 {
 obtain rfl := Option.some.inj H
 go_wp2
 go_ret
 exact ⟨er_, bl_ HB⟩}))}
 {
 obtain rfl := Option.some.inj H
 go_enter Try.func51, Try.ntmps51
 go_wp2_with (first | ((with_reducible refine gate_dst (N := 2) rfl ?_); refine bx_ HB 2 #[.int .i64 g0, .int .i64 h0, .slice n0 b0.length o0, .slice p0 c0.length q0] 24 ?_; clear HB; intro y0 hg m1 hb f0 r0 HB; have A0 := r0; clear hb hg) | ((with_reducible refine gate_callee (f := 86) rfl ?_); refine gL_ (some 8) Try.func86 #[.slice A1 l1.length c1] ?_; (with_reducible refine (floor_Right.calls k _ _ l1 false _ ?side1 ?side2 A3.out).mono ?_); (case side1 => exact kC_ w0 HB); (case side2 => exact F0.out); rintro e w' ⟨rfl, ⟨nd, rfl⟩⟩; refine ⟨_, rfl, ?_⟩))
 go_ret
 exact ⟨er_, bl_ HB⟩}
mutual
def vpack_Right.j0 : Nat → Bool → Int → Int → List Int → List Int → List (List Int) → List (List Int) → Option (Bool)
  | 0, _, _, _, _, _, _, _ => none
  | k + 1, g0, b0, c0, d0, e0, a0, f0 => if g0 = true then (some false) else (vpack_Right.l0 k a0 (a0.length : Int) 0 b0 c0 d0 e0 a0 f0)
def vpack_Right.l0 : Nat → List (List Int) → Int → Int → Int → Int → List Int → List Int → List (List Int) → List (List Int) → Option (Bool)
  | 0, _, _, _, _, _, _, _, _, _ => none
  | k + 1, c0, i0, a0, d0, e0, f0, g0, h0, b0 => if a0 < i0 then (if 0 ≤ a0 then (if a0 < (c0.length : Int) then (if ((rd_L1 c0 a0).length : Int) = 0 then (if a0 < (b0.length : Int) then (vpack_Right.j2 k a0 (rd_L1 c0 a0) c0 i0 a0 (((rd_L2 b0 a0).length : Int) == 0) d0 e0 f0 g0 h0 b0) else (none)) else (vpack_Right.j2 k a0 (rd_L1 c0 a0) c0 i0 a0 false d0 e0 f0 g0 h0 b0)) else (none)) else (none)) else (some true)
def vpack_Right.j2 : Nat → Int → List Int → List (List Int) → Int → Int → Bool → Int → Int → List Int → List Int → List (List Int) → List (List Int) → Option (Bool)
  | 0, _, _, _, _, _, _, _, _, _, _, _, _ => none
  | k + 1, x5, x6, g0, h0, i0, k0, b0, c0, d0, e0, f0, a0 => if k0 = true then (vpack_Right.l0 k g0 h0 (wrap64 (i0 + 1)) b0 c0 d0 e0 f0 a0) else ((vpack_posts.f k b0 c0 d0 e0 x6).bind fun j0 => (if j0 = true then (if 0 ≤ x5 then (if x5 < (a0.length : Int) then (vpack_Right.j3 k x5 g0 h0 i0 (((rd_L2 a0 x5).length : Int) != 16) b0 c0 d0 e0 f0 a0) else (none)) else (none)) else (vpack_Right.j3 k x5 g0 h0 i0 true b0 c0 d0 e0 f0 a0)))
def vpack_Right.j3 : Nat → Int → List (List Int) → Int → Int → Bool → Int → Int → List Int → List Int → List (List Int) → List (List Int) → Option (Bool)
  | 0, _, _, _, _, _, _, _, _, _, _, _ => none
  | k + 1, x5, g0, h0, i0, j0, b0, c0, d0, e0, f0, a0 => if j0 = true then (some false) else (if 0 ≤ x5 then (if x5 < (a0.length : Int) then (vpack_Right.l1 k g0 h0 i0 (rd_L2 a0 x5) ((rd_L2 a0 x5).length : Int) 0 b0 c0 d0 e0 f0 a0) else (none)) else (none))
def vpack_Right.l1 : Nat → List (List Int) → Int → Int → List Int → Int → Int → Int → Int → List Int → List Int → List (List Int) → List (List Int) → Option (Bool)
  | 0, _, _, _, _, _, _, _, _, _, _, _, _ => none
  | k + 1, i0, j0, k0, h0, m0, a0, b0, c0, d0, e0, f0, g0 => if a0 < m0 then (if 0 ≤ a0 then (if a0 < (h0.length : Int) then (if (rd h0 a0) < (-4194303) then (some false) else (if (rd h0 a0) > 4194303 then (some false) else (vpack_Right.l1 k i0 j0 k0 h0 m0 (wrap64 (a0 + 1)) b0 c0 d0 e0 f0 g0))) else (none)) else (none)) else (vpack_Right.l0 k i0 j0 (wrap64 (k0 + 1)) b0 c0 d0 e0 f0 g0)
end
def vpack_Right.f (k : Nat) (a0 : Int) (b0 : Int) (c0 : List Int) (d0 : List Int) (e0 : List (List Int)) (f0 : List (List Int)) : Option (Bool) := (vhead_Right.f k a0 b0 c0 d0).bind fun g0 => (if g0 = true then (if (e0.length : Int) = a0 then (vpack_Right.j0 k ((f0.length : Int) != a0) a0 b0 c0 d0 e0 f0) else (vpack_Right.j0 k true a0 b0 c0 d0 e0 f0)) else (vpack_Right.j0 k true a0 b0 c0 d0 e0 f0))
theorem vpack_Right.mono_l : ∀ k, (∀ y0 y1 y2 y3 y4 y5 y6, LeO (vpack_Right.j0 k y0 y1 y2 y3 y4 y5 y6) (vpack_Right.j0 (k + 1) y0 y1 y2 y3 y4 y5 y6)) ∧ (∀ y0 y1 y2 y3 y4 y5 y6 y7 y8, LeO (vpack_Right.l0 k y0 y1 y2 y3 y4 y5 y6 y7 y8) (vpack_Right.l0 (k + 1) y0 y1 y2 y3 y4 y5 y6 y7 y8)) ∧ (∀ y0 y1 y2 y3 y4 y5 y6 y7 y8 y9 a0 b0, LeO (vpack_Right.j2 k y0 y1 y2 y3 y4 y5 y6 y7 y8 y9 a0 b0) (vpack_Right.j2 (k + 1) y0 y1 y2 y3 y4 y5 y6 y7 y8 y9 a0 b0)) ∧ (∀ y0 y1 y2 y3 y4 y5 y6 y7 y8 y9 a0, LeO (vpack_Right.j3 k y0 y1 y2 y3 y4 y5 y6 y7 y8 y9 a0) (vpack_Right.j3 (k + 1) y0 y1 y2 y3 y4 y5 y6 y7 y8 y9 a0)) ∧ (∀ y0 y1 y2 y3 y4 y5 y6 y7 y8 y9 a0 b0, LeO (vpack_Right.l1 k y0 y1 y2 y3 y4 y5 y6 y7 y8 y9 a0 b0) (vpack_Right.l1 (k + 1) y0 y1 y2 y3 y4 y5 y6 y7 y8 y9 a0 b0))
  | 0 => ⟨fun _ _ _ _ _ _ _ r h => by simp [vpack_Right.j0] at h, fun _ _ _ _ _ _ _ _ _ r h => by simp [vpack_Right.l0] at h, fun _ _ _ _ _ _ _ _ _ _ _ _ r h => by simp [vpack_Right.j2] at h, fun _ _ _ _ _ _ _ _ _ _ _ r h => by simp [vpack_Right.j3] at h, fun _ _ _ _ _ _ _ _ _ _ _ _ r h => by simp [vpack_Right.l1] at h⟩
  | k + 1 => by
    obtain ⟨c0, d0, e0, f0, g0⟩ := vpack_Right.mono_l k
    refine ⟨?_, ?_, ?_, ?_, ?_⟩
    all_goals (intros; first | unfold vpack_Right.j0 | unfold vpack_Right.l0 | unfold vpack_Right.j2 | unfold vpack_Right.j3 | unfold vpack_Right.l1)
    all_goals with_reducible repeat' first
     | apply c0
     | exact d0 _ _ _ _ _ _ _ _ _
     | exact e0 _ _ _ _ _ _ _ _ _ _ _ _
     | exact f0 _ _ _ _ _ _ _ _ _ _ _
     | exact g0 _ _ _ _ _ _ _ _ _ _ _ _
     | apply vhead_Right.mono
     | apply vpack_posts.mono
     | exact LeO.refl _
     | exact LeO.none _
     | refine LeO.ite ?_ ?_
     | refine LeO.bind ?_ (fun _ => ?_)
theorem vpack_Right.mono : ∀ a0 a1 a2 a3 a4 a5 k, LeO (vpack_Right.f k a0 a1 a2 a3 a4 a5) (vpack_Right.f (k + 1) a0 a1 a2 a3 a4 a5) := by
  intro a0 a1 a2 a3 a4 a5 k
  obtain ⟨b0, c0, d0, e0, f0⟩ := vpack_Right.mono_l k
  unfold vpack_Right.f
  with_reducible repeat' first
   | apply b0
   | exact c0 _ _ _ _ _ _ _ _ _
   | exact d0 _ _ _ _ _ _ _ _ _ _ _ _
   | exact e0 _ _ _ _ _ _ _ _ _ _ _
   | exact f0 _ _ _ _ _ _ _ _ _ _ _ _
   | apply vhead_Right.mono
   | apply vpack_posts.mono
   | exact LeO.refl _
   | exact LeO.none _
   | refine LeO.ite ?_ ?_
   | refine LeO.bind ?_ (fun _ => ?_)
set_option maxHeartbeats 8000000 in
set_option maxRecDepth 100000 in
theorem vpack_Right.calls (k : Nat) (f0 : Int) (i0 : Int) (p0 : Option Addr) (q0 : Nat) (g0 : List Int) (r0 : Option Addr) (s0 : Nat) (h0 : List Int) (W0 : Option Addr) (y0 : Nat) (d0 : List (List Int)) (F0 : Option Addr) (z0 : Nat) (e0 : List (List Int)) (r : Bool) (w : World) (hr0_2 : Kd.C (Kd.int .i64) w p0 g0.length g0) (hc0_2 : g0.length ≤ q0) (hr0_3 : Kd.C (Kd.int .i64) w r0 h0.length h0) (hc0_3 : h0.length ≤ s0) (hr1_0 : Kd.C (Kd.slice 3 (Kd.int .i64)) w W0 d0.length d0) (hc1_0 : d0.length ≤ y0) (hr1_1 : Kd.C (Kd.slice 2 (Kd.int .i64)) w F0 e0.length e0) (hc1_1 : e0.length ≤ z0) (h : vpack_Right.f k f0 i0 g0 h0 d0 e0 = some r) :
    Calls Try.prog 21 #[.agg #[.int .i64 f0, .int .i64 i0, .slice p0 g0.length q0, .slice r0 h0.length s0], .agg #[.slice W0 d0.length y0, .slice F0 e0.length z0]] w fun e w' => e = .returned (.bool r) ∧ Below w.heap.size w w' := by
 have D4 := Try.underlying24
 have E4 := Try.underlying28
 have G0 := a_ hr0_2
 have H0 := a_ hc0_2
 clear hr0_2 hc0_2
 have I0 := a_ hr0_3
 have J0 := a_ hc0_3
 clear hr0_3 hc0_3
 have R1 := a_ hr1_0
 have c4 := a_ hc1_0
 clear hr1_0 hc1_0
 have p1 := a_ hr1_1
 have d4 := a_ hc1_1
 clear hr1_1 hc1_1
 have HB := a_ (Below.refl w.heap.size w)
 have H : ((vhead_Right.f k f0 i0 g0 h0).bind fun P1 => (if P1 = true then (if (d0.length : Int) = f0 then (vpack_Right.j0 k ((e0.length : Int) != f0) f0 i0 g0 h0 d0 e0) else (vpack_Right.j0 k true f0 i0 g0 h0 d0 e0)) else (vpack_Right.j0 k true f0 i0 g0 h0 d0 e0))) = some r := h
 clear h
 have Q1 := a_ H
 clear H
 go_enter Try.func21, Try.ntmps21
 go_upto_region 1 with (first | ((with_reducible refine gate_dst (N := 2) rfl ?_); (try (refine gate_guard (by rfl) ?_; dsimp only)); refine bx_ HB 2 #[.int .i64 f0, .int .i64 i0, .slice p0 g0.length q0, .slice r0 h0.length s0] 24 ?_; clear HB; intro K0 hg w4 hb b0 S1 HB; have e4 := S1; clear hb hg) | ((with_reducible refine gate_dst (N := 3) rfl ?_); (try (refine gate_guard (by rfl) ?_; dsimp only)); refine bx_ HB 3 #[.slice W0 d0.length y0, .slice F0 e0.length z0] 28 ?_; clear HB; intro L0 hg w5 hb c0 T1 HB; have f4 := T1; obtain ⟨k0, m0⟩ := NN_ b0 hg; replace b0 := FB_ b0 hb; clear hb hg))
 (try simp only [Act.put, List.setIfInBounds_toArray, List.set_cons_zero, List.set_cons_succ])
 go_cut [27] (fun R3 wc => ∃ (kq : Nat) (U0 : Bool), R3 = .bool U0 ∧ Aside0 (vpack_Right.j0 kq U0 f0 i0 g0 h0 d0 e0 = some r) ∧ Aside0 (kq ≤ k) ∧ Aside0 (wc.heap[K0]? = some (.cells #[.int .i64 f0, .int .i64 i0, (.slice p0 g0.length q0), (.slice r0 h0.length s0)] 24 (0, 0))) ∧ Aside0 (wc.heap[L0]? = some (.cells #[(.slice W0 d0.length y0), (.slice F0 e0.length z0)] 28 (0, 0))) ∧ Aside0 (Below w.heap.size w wc))
 case first => (
 have H := Q1.out
 clear Q1
 obtain ⟨P1, A6, H⟩ := ob_ H
 (try dsimp only at H)
 replace H := ib_ H
 rcases H with ⟨rfl, H⟩ | ⟨rfl, H⟩
 {
 replace H := ie_ H
 rcases H with ⟨X0, f2, H⟩ | ⟨c8, X0, f2, H⟩
 {
 (first | rw [X0] | (simp only [i64_w, i32_w]; rw [X0]) | skip)
 have H' := a_ H
 clear H
 have F4 := k0.out
 have G4 := m0.out
 obtain ⟨m2, n2, p2, q2, r2, s2, t2, v2⟩ := e4_ b0
 go_wp2_with (first | ((with_reducible refine gate_callee (f := 41) rfl ?_); refine gL_ (some 10) Try.func41 #[.agg #[.int .i64 f0, .int .i64 i0, .slice p0 g0.length q0, .slice r0 h0.length s0]] ?_; (with_reducible refine (vhead_Right.calls k f0 i0 _ _ g0 _ _ h0 true _ ?side1 ?side2 ?side3 ?side4 A6.out).mono ?_); (case side1 => exact kC_ G0 HB); (case side2 => exact H0.out); (case side3 => exact kC_ I0 HB); (case side4 => exact J0.out); rintro e I4 ⟨rfl, hb⟩; refine ⟨_, rfl, ?_⟩; replace b0 := FB_ b0 hb; replace c0 := FB_ c0 hb; replace HB := BS_ HB hb; (try clear hb); obtain ⟨w2, y2, z2, A2⟩ := e2_ c0; obtain ⟨B2, C2, D2, E2, F2, G2, H2, I2⟩ := e4_ b0))
 go_meet
 case rel => exact ⟨_, (((e0.length : Int) != f0)), rs_, H', ⟨ol_⟩, ⟨bk_ b0⟩, ⟨bk_ c0⟩, ⟨bl_ HB⟩⟩}
 {
 (first | rw [X0] | (simp only [i64_w, i32_w]; rw [X0]) | skip)
 have H' := a_ H
 clear H
 have g4 := k0.out
 have h4 := m0.out
 obtain ⟨J2, K2, L2, M2, N2, O2, P2, Q2⟩ := e4_ b0
 go_wp2_with (first | ((with_reducible refine gate_callee (f := 41) rfl ?_); refine gL_ (some 10) Try.func41 #[.agg #[.int .i64 f0, .int .i64 i0, .slice p0 g0.length q0, .slice r0 h0.length s0]] ?_; (with_reducible refine (vhead_Right.calls k f0 i0 _ _ g0 _ _ h0 true _ ?side1 ?side2 ?side3 ?side4 A6.out).mono ?_); (case side1 => exact kC_ G0 HB); (case side2 => exact H0.out); (case side3 => exact kC_ I0 HB); (case side4 => exact J0.out); rintro e J4 ⟨rfl, hb⟩; refine ⟨_, rfl, ?_⟩; replace b0 := FB_ b0 hb; replace c0 := FB_ c0 hb; replace HB := BS_ HB hb; (try clear hb); obtain ⟨R2, S2, T2, U2⟩ := e2_ c0; obtain ⟨V2, W2, X2, Y2, Z2, a3, b3, c3⟩ := e4_ b0))
 go_meet
 case rel => exact ⟨_, (true), rs_, H', ⟨ol_⟩, ⟨bk_ b0⟩, ⟨bk_ c0⟩, ⟨bl_ HB⟩⟩}}
 {
 have H' := a_ H
 clear H
 have i4 := k0.out
 have j4 := m0.out
 obtain ⟨d3, e3, f3, g3, h3, i3, k3, l3⟩ := e4_ b0
 go_wp2_with (first | ((with_reducible refine gate_callee (f := 41) rfl ?_); refine gL_ (some 10) Try.func41 #[.agg #[.int .i64 f0, .int .i64 i0, .slice p0 g0.length q0, .slice r0 h0.length s0]] ?_; (with_reducible refine (vhead_Right.calls k f0 i0 _ _ g0 _ _ h0 false _ ?side1 ?side2 ?side3 ?side4 A6.out).mono ?_); (case side1 => exact kC_ G0 HB); (case side2 => exact H0.out); (case side3 => exact kC_ I0 HB); (case side4 => exact J0.out); rintro e K4 ⟨rfl, hb⟩; refine ⟨_, rfl, ?_⟩; replace b0 := FB_ b0 hb; replace c0 := FB_ c0 hb; replace HB := BS_ HB hb; (try clear hb)))
 go_meet
 case rel => exact ⟨_, (true), rs_, H', ⟨ol_⟩, ⟨bk_ b0⟩, ⟨bk_ c0⟩, ⟨bl_ HB⟩⟩})
 case rest => (
 clear Q1
 obtain ⟨kq, U0, rfl, HA, HJ2, b0, c0, HB⟩ := hcut
 cases kq with
 | zero => exact absurd HA.out (by simp [vpack_Right.j0])
 | succ kj2 => (
 have H := HA.out
 clear HA
 simp only [vpack_Right.j0] at H
 by_cases T0 : U0 = true
 {
 subst T0
 rw [if_pos rfl] at H
 obtain rfl := Option.some.inj H
 go_wp2
 go_ret
 exact ⟨er_, bl_ HB⟩}
 {
 replace T0 := Bool.eq_false_iff.mpr T0
 subst T0
 rw [if_neg (show ¬ (false = true) by decide)] at H
 have H' := a_ H
 clear H
 have k4 := m0.out
 have l4 := k0.out
 obtain ⟨A0, B0, C0, D0⟩ := e2_ c0
 go_wp2
 go_loopg [31] kj2 (fun kq S3 w' => ∃ (a0 : Int), S3 = .int .i64 a0 ∧ Aside0 (vpack_Right.l0 kq d0 (d0.length : Int) a0 f0 i0 g0 h0 d0 e0 = some r) ∧ Aside0 (kq ≤ kj2) ∧ Aside0 (w'.heap[K0]? = some (.cells #[.int .i64 f0, .int .i64 i0, (.slice p0 g0.length q0), (.slice r0 h0.length s0)] 24 (0, 0))) ∧ Aside0 (w'.heap[L0]? = some (.cells #[(.slice W0 d0.length y0), (.slice F0 e0.length z0)] 28 (0, 0))) ∧ Aside0 (Below w.heap.size w w'))
 case atStart => exact ⟨(0), rs_, H', ⟨Nat.le_refl _⟩, ⟨bk_ b0⟩, ⟨bk_ c0⟩, ⟨bl_ HB⟩⟩
 case round => (
 clear H'
 try clear T0
 try clear A0 B0 C0 D0
 obtain ⟨a0, rfl, HA, E0, b0, c0, HB⟩ := hrel
 cases gk with
 | zero => exact absurd HA.out (by simp [vpack_Right.l0])
 | succ k2 => (
 have H := HA.out
 clear HA
 simp only [vpack_Right.l0] at H
 replace H := id_ H
 rcases H with ⟨V0, H⟩ | ⟨V0, H⟩
 {
 replace H := gd_ H
 obtain ⟨q1, H⟩ := H
 replace H := gd_ H
 obtain ⟨r1, H⟩ := H
 have C1 := a_ H
 clear H
 have P0 : 0 ≤ (a0 : Int) := dm_
 have Q0 : a0 < (d0.length : Int) := dm_
 obtain ⟨s1, y1, z1, g2, w0, a1, b1⟩ := at_L1 R1.out a0 P0 Q0
 cases g2
 replace w0 := hc_ HB w0
 have c1 := a_ b1
 have d1 := a_ a1
 clear b1 a1
 replace P0 := eq_true P0
 replace Q0 := eq_true Q0
 go_upto_region 6 with (fail)
 go_cut [47] (fun T3 wc => ∃ (kq : Nat) (M0 : Bool), T3 = .bool M0 ∧ Aside0 (vpack_Right.j2 kq a0 (rd_L1 d0 a0) d0 (d0.length : Int) a0 M0 f0 i0 g0 h0 d0 e0 = some r) ∧ Aside0 (kq ≤ k2) ∧ Aside0 (wc.heap[K0]? = some (.cells #[.int .i64 f0, .int .i64 i0, (.slice p0 g0.length q0), (.slice r0 h0.length s0)] 24 (0, 0))) ∧ Aside0 (wc.heap[L0]? = some (.cells #[(.slice (some s1) d0.length y0), (.slice F0 e0.length z0)] 28 (0, 0))) ∧ Aside0 (Below w.heap.size w wc))
 case first => (
 have H := C1.out
 clear C1
 replace H := ii_ H
 rcases H with ⟨Y0, H⟩ | ⟨Y0, H⟩
 {
 have N0 : (((rd_L1 d0 a0).length : Int) == 0) = true := beq_iff_eq.mpr Y0
 have U1 : (((rd_L1 d0 a0).length : Int) != 0) = false := bne_eq_false_iff_eq.mpr Y0
 clear Y0
 (first | rw [N0] | (simp only [i64_w, i32_w]; rw [N0]) | skip)
 replace H := gd_ H
 obtain ⟨m4, H⟩ := H
 have H' := a_ H
 clear H
 have n4 := m0.out
 have o4 := k0.out
 obtain ⟨m3, n3, o3, p3⟩ := e2_ c0
 have D1 : 0 ≤ (a0 : Int) := dm_
 have E1 : a0 < (e0.length : Int) := dm_
 obtain ⟨p4, U3, V3, h2, e1, f1, h1⟩ := at_L2 p1.out a0 D1 E1
 cases h2
 replace e1 := hc_ HB e1
 have q3 := a_ h1
 have r3 := a_ f1
 clear h1 f1
 replace D1 := eq_true D1
 replace E1 := eq_true E1
 go_wp2
 go_meet
 case rel => exact ⟨_, ((((rd_L2 e0 a0).length : Int) == 0)), rs_, H', ⟨by have := HJ2.out; have := E0.out; first | omega | exact Nat.le_refl _⟩, ⟨bk_ b0⟩, ⟨bk_ c0⟩, ⟨bl_ HB⟩⟩}
 {
 have N0 : (((rd_L1 d0 a0).length : Int) == 0) = false := beq_eq_false_iff_ne.mpr Y0
 have U1 : (((rd_L1 d0 a0).length : Int) != 0) = true := bne_iff_ne.mpr Y0
 have q4 : ¬ ((rd_L1 d0 a0) = []) := fun h_ => Y0 (by rw [h_]; rfl)
 (first | rw [N0] | (simp only [i64_w, i32_w]; rw [N0]) | skip)
 have H' := a_ H
 clear H
 go_wp2
 go_meet
 case rel => exact ⟨_, (false), rs_, H', ⟨by have := HJ2.out; have := E0.out; first | omega | exact Nat.le_refl _⟩, ⟨bk_ b0⟩, ⟨bk_ c0⟩, ⟨bl_ HB⟩⟩})
 case rest => (
 clear C1
 try clear T0
 try clear b2
 try clear V0
 try clear c2
 try clear q1
 try clear d2
 try clear r1
 try clear A0 B0 C0 D0
 try clear w0
 try clear P0
 try clear Q0
 obtain ⟨kq, M0, rfl, HA, HJ27, b0, c0, HB⟩ := hcut
 cases kq with
 | zero => exact absurd HA.out (by simp [vpack_Right.j2])
 | succ kj27 => (
 have H := HA.out
 clear HA
 simp only [vpack_Right.j2] at H
 by_cases i1 : M0 = true
 {
 subst i1
 rw [if_pos rfl] at H
 have H' := a_ H
 clear H
 go_wp2
 go_roundg kj27
 case measure => have := HJ2.out; have := E0.out; have := HJ27.out; omega
 case rel => exact ⟨(wrap64 (a0 + 1)), rs_, H', ⟨by have := HJ2.out; have := E0.out; have := HJ27.out; omega⟩, ⟨bk_ b0⟩, ⟨bk_ c0⟩, ⟨bl_ HB⟩⟩}
 {
 replace i1 := Bool.eq_false_iff.mpr i1
 subst i1
 rw [if_neg (show ¬ (false = true) by decide)] at H
 have F1 := a_ H
 clear H
 go_upto_region 7 with (fail)
 go_cut [60] (fun W3 wc => ∃ (kq : Nat) (O0 : Bool), W3 = .bool O0 ∧ Aside0 (vpack_Right.j3 kq a0 d0 (d0.length : Int) a0 O0 f0 i0 g0 h0 d0 e0 = some r) ∧ Aside0 (kq ≤ kj27) ∧ Aside0 (wc.heap[K0]? = some (.cells #[.int .i64 f0, .int .i64 i0, (.slice p0 g0.length q0), (.slice r0 h0.length s0)] 24 (0, 0))) ∧ Aside0 (wc.heap[L0]? = some (.cells #[(.slice (some s1) d0.length y0), (.slice F0 e0.length z0)] 28 (0, 0))) ∧ Aside0 (Below w.heap.size w wc))
 case first => (
 have H := F1.out
 clear F1
 obtain ⟨H4, e2, H⟩ := ob_ H
 (try dsimp only at H)
 replace H := ib_ H
 rcases H with ⟨rfl, H⟩ | ⟨rfl, H⟩
 {
 replace H := gd_ H
 obtain ⟨I1, H⟩ := H
 (first | rw [I1] | (simp only [i64_w, i32_w]; rw [I1]) | skip)
 replace H := gd_ H
 obtain ⟨r4, H⟩ := H
 have H' := a_ H
 clear H
 have s4 := k0.out
 have t4 := m0.out
 obtain ⟨s3, t3, v3, w3, y3, z3, A3, B3⟩ := e4_ b0
 go_wp2_with (first | ((with_reducible refine gate_callee (f := 51) rfl ?_); refine gL_ (some 50) Try.func51 #[.agg #[.int .i64 f0, .int .i64 i0, .slice p0 g0.length q0, .slice r0 h0.length s0], .slice y1 (rd_L1 d0 a0).length z1] ?_; (with_reducible refine (vpack_posts.calls kj27 f0 i0 _ _ g0 _ _ h0 _ _ (rd_L1 d0 a0) true _ ?side1 ?side2 ?side3 ?side4 ?side5 ?side6 e2.out).mono ?_); (case side1 => exact kC_ G0 HB); (case side2 => exact H0.out); (case side3 => exact kC_ I0 HB); (case side4 => exact J0.out); (case side5 => exact kC_ c1 HB); (case side6 => exact d1.out); rintro e L4 ⟨rfl, hb⟩; refine ⟨_, rfl, ?_⟩; replace b0 := FB_ b0 hb; replace c0 := FB_ c0 hb; replace HB := BS_ HB hb; (try clear hb); obtain ⟨C3, D3, E3, F3⟩ := e2_ c0; have G1 : 0 ≤ (a0 : Int) := dm_; have H1 : a0 < (e0.length : Int) := dm_; obtain ⟨v4, X3, Y3, i2, j1, k1, m1⟩ := at_L2 p1.out a0 G1 H1; cases i2; replace j1 := hc_ HB j1; have G3 := a_ m1; have H3 := a_ k1; clear m1 k1; replace G1 := eq_true G1; replace H1 := eq_true H1))
 go_meet
 case rel => exact ⟨_, ((((rd_L2 e0 a0).length : Int) != 16)), rs_, H', ⟨by have := HJ2.out; have := E0.out; have := HJ27.out; first | omega | exact Nat.le_refl _⟩, ⟨bk_ b0⟩, ⟨bk_ c0⟩, ⟨bl_ HB⟩⟩}
 {
 have H' := a_ H
 clear H
 have x4 := k0.out
 have y4 := m0.out
 obtain ⟨I3, J3, K3, L3, M3, N3, O3, P3⟩ := e4_ b0
 go_wp2_with (first | ((with_reducible refine gate_callee (f := 51) rfl ?_); refine gL_ (some 50) Try.func51 #[.agg #[.int .i64 f0, .int .i64 i0, .slice p0 g0.length q0, .slice r0 h0.length s0], .slice y1 (rd_L1 d0 a0).length z1] ?_; (with_reducible refine (vpack_posts.calls kj27 f0 i0 _ _ g0 _ _ h0 _ _ (rd_L1 d0 a0) false _ ?side1 ?side2 ?side3 ?side4 ?side5 ?side6 e2.out).mono ?_); (case side1 => exact kC_ G0 HB); (case side2 => exact H0.out); (case side3 => exact kC_ I0 HB); (case side4 => exact J0.out); (case side5 => exact kC_ c1 HB); (case side6 => exact d1.out); rintro e M4 ⟨rfl, hb⟩; refine ⟨_, rfl, ?_⟩; replace b0 := FB_ b0 hb; replace c0 := FB_ c0 hb; replace HB := BS_ HB hb; (try clear hb)))
 go_meet
 case rel => exact ⟨_, (true), rs_, H', ⟨by have := HJ2.out; have := E0.out; have := HJ27.out; first | omega | exact Nat.le_refl _⟩, ⟨bk_ b0⟩, ⟨bk_ c0⟩, ⟨bl_ HB⟩⟩})
 case rest => (
 clear F1
 try clear T0
 try clear b2
 try clear V0
 try clear c2
 try clear q1
 try clear d2
 try clear r1
 try clear i1
 try clear A0 B0 C0 D0
 try clear w0
 try clear P0
 try clear Q0
 obtain ⟨kq, O0, rfl, HA, HJ33, b0, c0, HB⟩ := hcut
 cases kq with
 | zero => exact absurd HA.out (by simp [vpack_Right.j3])
 | succ kj33 => (
 have H := HA.out
 clear HA
 simp only [vpack_Right.j3] at H
 by_cases A1 : O0 = true
 {
 subst A1
 rw [if_pos rfl] at H
 obtain rfl := Option.some.inj H
 go_wp2
 go_ret
 exact ⟨er_, bl_ HB⟩}
 {
 replace A1 := Bool.eq_false_iff.mpr A1
 subst A1
 rw [if_neg (show ¬ (false = true) by decide)] at H
 replace H := gd_ H
 obtain ⟨V1, H⟩ := H
 replace H := gd_ H
 obtain ⟨W1, H⟩ := H
 have H' := a_ H
 clear H
 have z4 := m0.out
 have A4 := k0.out
 obtain ⟨L1, M1, N1, O1⟩ := e2_ c0
 have t1 : 0 ≤ (a0 : Int) := dm_
 have v1 : a0 < (e0.length : Int) := dm_
 obtain ⟨X1, Z3, a4, l2, R0, n1, o1⟩ := at_L2 p1.out a0 t1 v1
 cases l2
 replace R0 := hc_ HB R0
 have S0 := a_ o1
 have Q3 := a_ n1
 clear o1 n1
 replace t1 := eq_true t1
 replace v1 := eq_true v1
 go_wp2
 go_loopg [67] kj33 (fun kq b4 w' => ∃ (n0 : Int), b4 = .int .i64 n0 ∧ Aside0 (vpack_Right.l1 kq d0 (d0.length : Int) a0 (rd_L2 e0 a0) ((rd_L2 e0 a0).length : Int) n0 f0 i0 g0 h0 d0 e0 = some r) ∧ Aside0 (kq ≤ kj33) ∧ Aside0 (w'.heap[K0]? = some (.cells #[.int .i64 f0, .int .i64 i0, (.slice p0 g0.length q0), (.slice r0 h0.length s0)] 24 (0, 0))) ∧ Aside0 (w'.heap[L0]? = some (.cells #[(.slice (some s1) d0.length y0), (.slice (some X1) e0.length z0)] 28 (0, 0))) ∧ Aside0 (Below w.heap.size w w'))
 case atStart => exact ⟨(0), rs_, H', ⟨Nat.le_refl _⟩, ⟨bk_ b0⟩, ⟨bk_ c0⟩, ⟨bl_ HB⟩⟩
 case round => (
 clear H'
 try clear T0
 try clear b2
 try clear V0
 try clear c2
 try clear q1
 try clear d2
 try clear r1
 try clear i1
 try clear A1
 try clear N4
 try clear V1
 try clear O4
 try clear W1
 try clear A0 B0 C0 D0
 try clear L1 M1 N1 O1
 try clear w0
 try clear R0
 try clear P0
 try clear t1
 try clear Q0
 try clear v1
 obtain ⟨n0, rfl, HA, J1, b0, c0, HB⟩ := hrel
 cases gk with
 | zero => exact absurd HA.out (by simp [vpack_Right.l1])
 | succ k5 => (
 have H := HA.out
 clear HA
 simp only [vpack_Right.l1] at H
 replace H := id_ H
 rcases H with ⟨Y1, H⟩ | ⟨Y1, H⟩
 {
 replace H := gd_ H
 obtain ⟨B4, H⟩ := H
 replace H := gd_ H
 obtain ⟨C4, H⟩ := H
 replace H := id_ H
 rcases H with ⟨Z1, H⟩ | ⟨Z1, H⟩
 {
 obtain rfl := Option.some.inj H
 have t0 : 0 ≤ (n0 : Int) := dm_
 have v0 : n0 < ((rd_L2 e0 a0).length : Int) := dm_
 obtain ⟨K1, Z0, o0⟩ := Kd.at_int S0.out n0 t0 v0
 cases Z0
 replace o0 := hc_ HB o0
 replace t0 := eq_true t0
 replace v0 := eq_true v0
 go_wp2
 go_ret
 exact ⟨er_, bl_ HB⟩}
 {
 replace H := ii_ H
 rcases H with ⟨B1, H⟩ | ⟨B1, H⟩
 {
 have a2 : decide (4194303 < (rd (rd_L2 e0 a0) n0)) = true := decide_eq_true B1
 clear B1
 obtain rfl := Option.some.inj H
 have t0 : 0 ≤ (n0 : Int) := dm_
 have v0 : n0 < ((rd_L2 e0 a0).length : Int) := dm_
 obtain ⟨K1, Z0, o0⟩ := Kd.at_int S0.out n0 t0 v0
 cases Z0
 replace o0 := hc_ HB o0
 replace t0 := eq_true t0
 replace v0 := eq_true v0
 go_wp2
 go_ret
 exact ⟨er_, bl_ HB⟩}
 {
 have a2 : decide (4194303 < (rd (rd_L2 e0 a0) n0)) = false := decide_eq_false B1
 clear B1
 have H' := a_ H
 clear H
 have t0 : 0 ≤ (n0 : Int) := dm_
 have v0 : n0 < ((rd_L2 e0 a0).length : Int) := dm_
 obtain ⟨K1, Z0, o0⟩ := Kd.at_int S0.out n0 t0 v0
 cases Z0
 replace o0 := hc_ HB o0
 replace t0 := eq_true t0
 replace v0 := eq_true v0
 go_wp2
 go_roundg k5
 case measure => have := HJ2.out; have := E0.out; have := HJ27.out; have := HJ33.out; have := J1.out; omega
 case rel => exact ⟨(wrap64 (n0 + 1)), rs_, H', ⟨by have := HJ2.out; have := E0.out; have := HJ27.out; have := HJ33.out; have := J1.out; omega⟩, ⟨bk_ b0⟩, ⟨bk_ c0⟩, ⟨bl_ HB⟩⟩}}}
 {
 have H' := a_ H
 clear H
 go_wp2
 go_roundg k5
 case measure => have := HJ2.out; have := E0.out; have := HJ27.out; have := HJ33.out; have := J1.out; omega
 case rel => exact ⟨(wrap64 (a0 + 1)), rs_, H', ⟨by have := HJ2.out; have := E0.out; have := HJ27.out; have := HJ33.out; have := J1.out; omega⟩, ⟨bk_ b0⟩, ⟨bk_ c0⟩, ⟨bl_ HB⟩⟩}))}))}))}
 {
 obtain rfl := Option.some.inj H
 go_wp2
 go_ret
 exact ⟨er_, bl_ HB⟩}))}))
def couple_parting.f  : Option (Int) := some 4398046511104
set_option maxHeartbeats 8000000 in
set_option maxRecDepth 100000 in
theorem couple_parting.calls  (r : Int) (w : World) (h : couple_parting.f  = some r) :
    Calls Try.prog 66 #[] w fun e w' => e = .returned (.agg #[.int .i64 r, .func (.func 93) #[] #[]]) ∧ Below w.heap.size w w' := by
 have h0 := Try.underlying101
 have HB := a_ (Below.refl w.heap.size w)
 have H : (some 4398046511104) = some r := h
 clear h
 obtain rfl := Option.some.inj H
 go_enter Try.func66, Try.ntmps66
 go_wp2_with (first | ((with_reducible refine gate_dst (N := 0) rfl ?_); refine bx_ HB 0 #[.int .i64 0, .nilFunc] 101 ?_; clear HB; intro b0 hg w1 hb a0 c0 HB; have i0 := c0; clear hb hg; obtain ⟨d0, e0, f0, g0⟩ := e2_ a0))
 refine bodyPost_ret (results_cell_row rfl _ _ b0 101 #[.int .i64 4398046511104, .func (.func 93) #[] #[]] (0, 0) _ rfl (bp_ a0) Try.underlying101 rfl kf_) rfl ?_
 exact ⟨er_, bl_ HB⟩
def couple_part.f (a0 : Int) (a1 : Int) : Option (Int × Int) := if a0 > 0 then (if a1 > 0 then (some (a0, wrap64 (a0 + (wrap64 (-a1))))) else (some (wrap64 (a0 - (wrap64 (-a1))), a0))) else (if a1 > 0 then (some (a0, wrap64 (a0 + a1))) else (some (wrap64 (a0 - a1), a0)))
set_option maxHeartbeats 8000000 in
set_option maxRecDepth 100000 in
theorem couple_part.calls (a0 : Int) (a1 : Int) (r1 : Int) (r2 : Int) (w : World) (h : couple_part.f a0 a1 = some (r1, r2)) :
    Calls Try.prog 93 #[.int .i64 a0, .int .i64 a1] w fun e w' => e = .returned (.tuple #[.int .i64 r1, .int .i64 r2]) ∧ Drawn0 w w' := by
 have H : (if a0 > 0 then (if a1 > 0 then (some (a0, wrap64 (a0 + (wrap64 (-a1))))) else (some (wrap64 (a0 - (wrap64 (-a1))), a0))) else (if a1 > 0 then (some (a0, wrap64 (a0 + a1))) else (some (wrap64 (a0 - a1), a0)))) = some (r1, r2) := h
 clear h
 replace H := ii_ H
 rcases H with ⟨c3, H⟩ | ⟨c3, H⟩
 {
 have b0 : decide (0 < a0) = true := decide_eq_true c3
 clear c3
 replace H := ii_ H
 rcases H with ⟨c4, H⟩ | ⟨c4, H⟩
 {
 have c0 : decide (0 < a1) = true := decide_eq_true c4
 clear c4
 simp only [Option.some.injEq, Prod.mk.injEq] at H
 obtain ⟨rfl, rfl⟩ := H
 go_enter Try.func93, Try.ntmps93
 go_wp2
 go_ret2
 exact ⟨es_, dr_⟩}
 {
 have c0 : decide (0 < a1) = false := decide_eq_false c4
 clear c4
 simp only [Option.some.injEq, Prod.mk.injEq] at H
 obtain ⟨rfl, rfl⟩ := H
 go_enter Try.func93, Try.ntmps93
 go_wp2
 go_ret2
 exact ⟨es_, dr_⟩}}
 {
 have b0 : decide (0 < a0) = false := decide_eq_false c3
 clear c3
 replace H := ii_ H
 rcases H with ⟨c5, H⟩ | ⟨c5, H⟩
 {
 have d0 : decide (0 < a1) = true := decide_eq_true c5
 clear c5
 simp only [Option.some.injEq, Prod.mk.injEq] at H
 obtain ⟨rfl, rfl⟩ := H
 go_enter Try.func93, Try.ntmps93
 go_wp2
 go_ret2
 exact ⟨es_, dr_⟩}
 {
 have d0 : decide (0 < a1) = false := decide_eq_false c5
 clear c5
 simp only [Option.some.injEq, Prod.mk.injEq] at H
 obtain ⟨rfl, rfl⟩ := H
 go_enter Try.func93, Try.ntmps93
 go_wp2
 go_ret2
 exact ⟨es_, dr_⟩}}
def couple_way_one_by_couple_part.f (k : Nat) (b0 : Int) (a1 : Int) (a2 : Int) : Option (Int × Int × Int) := (couple_within.f k b0 (([a1, a2] : List Int))).bind fun c0 => (if c0 = true then ((couple_part.f a1 a2).bind fun a0 => (some (a0.1, a0.2, 0))) else (some (0, 0, 1)))
theorem couple_way_one_by_couple_part.mono : ∀ a0 a1 a2 k, LeO (couple_way_one_by_couple_part.f k a0 a1 a2) (couple_way_one_by_couple_part.f (k + 1) a0 a1 a2) := by
  intro a0 a1 a2 k
  unfold couple_way_one_by_couple_part.f
  with_reducible repeat' first
   | apply couple_within.mono
   | exact LeO.refl _
   | exact LeO.none _
   | refine LeO.ite ?_ ?_
   | refine LeO.bind ?_ (fun _ => ?_)
set_option maxHeartbeats 8000000 in
set_option maxRecDepth 100000 in
theorem couple_way_one_by_couple_part.calls (k : Nat) (b0 : Int) (a1 : Int) (a2 : Int) (r1 : Int) (r2 : Int) (r3 : Int) (w : World) (h : couple_way_one_by_couple_part.f k b0 a1 a2 = some (r1, r2, r3)) :
    Calls Try.prog 94 #[.agg #[.int .i64 b0, .func (.func 93) #[] #[]], .int .i64 a1, .int .i64 a2] w fun e w' => e = .returned (.tuple #[.int .i64 r1, .int .i64 r2, .int .i64 r3]) ∧ Below w.heap.size w w' := by
 have K0 := Try.underlying101
 have HB := a_ (Below.refl w.heap.size w)
 have H : ((couple_within.f k b0 (([a1, a2] : List Int))).bind fun k0 => (if k0 = true then ((couple_part.f a1 a2).bind fun j0 => (some (j0.1, j0.2, 0))) else (some (0, 0, 1)))) = some (r1, r2, r3) := h
 clear h
 obtain ⟨h0, d0⟩ : ∃ y_ : List Int, y_ = (([a1, a2] : List Int)) := ⟨_, rfl⟩
 first | replace H := by_ H d0 | rw [← d0] at H
 have e0 := a_ d0
 clear d0
 obtain ⟨k0, A4, H⟩ := ob_ H
 (try dsimp only at H)
 replace H := ib_ H
 rcases H with ⟨rfl, H⟩ | ⟨rfl, H⟩
 {
 obtain ⟨⟨n0, o0⟩, A6, H⟩ := ob_ H
 (try dsimp only at H)
 simp only [Option.some.injEq, Prod.mk.injEq] at H
 obtain ⟨rfl, rfl, rfl⟩ := H
 go_enter Try.func94, Try.ntmps94
 go_wp2_with (first | ((with_reducible refine gate_dst (N := 3) rfl ?_); refine bx_ HB 3 #[.int .i64 b0, .func (.func 93) #[] #[]] 101 ?_; clear HB; intro l0 hg w7 hb a0 i0 HB; have m0 := i0; clear hb hg; obtain ⟨G0, H0, I0, J0⟩ := e2_ a0) | ((with_reducible refine gate_dst (N := 15) rfl ?_); refine Kd.R_lit (Kd.int .i64) _ 2 ?hg (N := 15) ?hd (xs := ([a1, a2] : List Int)) (inner := [.int .i64 a1, .int .i64 a2]) (ok := fun _ => True) (okp := fun _ => True) ?hr ?hp (fun _ hk => hk) trivial (Below.refl _ _) (Nat.le_refl _) (by simp) ?_; (case hd => rfl); (case hg => rfl); (case hr => first | (go_simp; done) | (go_simp; rfl)); (case hp => exact (Reps.one (show Kd.M (Kd.int .i64) _ _ _ a1 [.int .i64 a1] from rfl) (Reps.one (show Kd.M (Kd.int .i64) _ _ _ a2 [.int .i64 a2] from rfl) (Reps.none _ _)))); intro p0 w9 f0 hb hg_ hnew_; clear hg_ hnew_; (first | rw [← e0.out] at f0 | (simp only [Int.reduceToNat] at f0; rw [← e0.out] at f0)); have c0 := a_ (Kd.R_lower f0 (bs_ HB)); replace a0 := FB_ a0 hb; replace HB := BS_ HB hb; clear hb f0; obtain ⟨q0, r0, s0⟩ := Kd.R_slice c0.out; subst s0) | ((with_reducible refine gate_callee (f := 111) rfl ?_); refine gL_ (some 16) Try.func111 #[.int .i64 b0, .slice q0 h0.length r0] ?_; (with_reducible refine (couple_within.calls k b0 _ _ h0 true _ ?side1 ?side2 A4.out).mono ?_); (case side1 => exact kCt_ (Kd.R_reads' c0.out).2.2); (case side2 => exact (Kd.R_reads' c0.out).2.1); rintro e w' ⟨rfl, ⟨nd, rfl⟩⟩; refine ⟨_, rfl, ?_⟩; obtain ⟨y0, z0, A0, B0⟩ := e2_ a0) | (go_at_call 93; (with_reducible refine (couple_part.calls a1 a2 n0 o0 _ A6.out).mono ?_); rintro e w' ⟨rfl, ⟨nd, rfl⟩⟩))
 go_ret3
 exact ⟨er_, bl_ HB⟩}
 {
 simp only [Option.some.injEq, Prod.mk.injEq] at H
 obtain ⟨rfl, rfl, rfl⟩ := H
 go_enter Try.func94, Try.ntmps94
 go_wp2_with (first | ((with_reducible refine gate_dst (N := 3) rfl ?_); refine bx_ HB 3 #[.int .i64 b0, .func (.func 93) #[] #[]] 101 ?_; clear HB; intro l0 hg L0 hb a0 i0 HB; have m0 := i0; clear hb hg; obtain ⟨C0, D0, E0, F0⟩ := e2_ a0) | ((with_reducible refine gate_dst (N := 15) rfl ?_); refine Kd.R_lit (Kd.int .i64) _ 2 ?hg (N := 15) ?hd (xs := ([a1, a2] : List Int)) (inner := [.int .i64 a1, .int .i64 a2]) (ok := fun _ => True) (okp := fun _ => True) ?hr ?hp (fun _ hk => hk) trivial (Below.refl _ _) (Nat.le_refl _) (by simp) ?_; (case hd => rfl); (case hg => rfl); (case hr => first | (go_simp; done) | (go_simp; rfl)); (case hp => exact (Reps.one (show Kd.M (Kd.int .i64) _ _ _ a1 [.int .i64 a1] from rfl) (Reps.one (show Kd.M (Kd.int .i64) _ _ _ a2 [.int .i64 a2] from rfl) (Reps.none _ _)))); intro p0 M0 g0 hb hg_ hnew_; clear hg_ hnew_; (first | rw [← e0.out] at g0 | (simp only [Int.reduceToNat] at g0; rw [← e0.out] at g0)); have c0 := a_ (Kd.R_lower g0 (bs_ HB)); replace a0 := FB_ a0 hb; replace HB := BS_ HB hb; clear hb g0; obtain ⟨t0, v0, w0⟩ := Kd.R_slice c0.out; subst w0) | ((with_reducible refine gate_callee (f := 111) rfl ?_); refine gL_ (some 16) Try.func111 #[.int .i64 b0, .slice t0 h0.length v0] ?_; (with_reducible refine (couple_within.calls k b0 _ _ h0 false _ ?side1 ?side2 A4.out).mono ?_); (case side1 => exact kCt_ (Kd.R_reads' c0.out).2.2); (case side2 => exact (Kd.R_reads' c0.out).2.1); rintro e w' ⟨rfl, ⟨nd, rfl⟩⟩; refine ⟨_, rfl, ?_⟩))
 go_ret3
 exact ⟨er_, bl_ HB⟩}
end Go.Proofs.Ytdajlfijkbafiaa.P
