/- Words, walks and what they compute, as the law's proof needs them. -/
import Derived.Test.YtdajlfijkbafiaaE3
import Derived.Test.YtdajlfijkbafiaaE5
set_option linter.unusedVariables false
set_option linter.unusedSimpArgs false
namespace Go.Proofs.Ytdajlfijkbafiaa.P
open Go.RowKit Go.Proofs.YtdajlfijkbafiaaW.PrintWords Go.Proofs.YtdajlfijkbafiaaW.PrintLast Go.Proofs.YtdajlfijkbafiaaW.PrintMore
attribute [local go_sem] max2_int min2_int max_two min_two max_three min_three max_four min_four
def psalterylaw22_great.l0 : Nat → Int → Int → Int → List Int → List Int → List (List Int) → Option (Bool)
  | 0, _, _, _, _, _, _ => none
  | k + 1, x5, b0, c0, d0, e0, a0 => if x5 < (a0.length : Int) then (if 0 ≤ x5 then (if ((rd_L2 a0 x5).length : Int) > 100 then (some true) else (psalterylaw22_great.l0 k (wrap64 (x5 + 1)) b0 c0 d0 e0 a0)) else (none)) else ((psalterylaw16_Great.f b0 c0 d0 e0).bind fun f0 => (if f0 = true then (some true) else (some (decide ((a0.length : Int) > 10)))))
def psalterylaw22_great.f (k : Nat) (a0 : Int) (b0 : Int) (c0 : List Int) (d0 : List Int) (e0 : List (List Int)) : Option (Bool) := psalterylaw22_great.l0 k 0 a0 b0 c0 d0 e0
theorem psalterylaw22_great.mono_l : ∀ k, (∀ y0 y1 y2 y3 y4 y5, LeO (psalterylaw22_great.l0 k y0 y1 y2 y3 y4 y5) (psalterylaw22_great.l0 (k + 1) y0 y1 y2 y3 y4 y5))
  | 0 => fun _ _ _ _ _ _ r h => by simp [psalterylaw22_great.l0] at h
  | k + 1 => by
    have a0 := psalterylaw22_great.mono_l k
    · intro y0 y1 y2 y3 y4 y5
      unfold psalterylaw22_great.l0
      with_reducible repeat' first
   | apply a0
   | exact LeO.refl _
   | exact LeO.none _
   | refine LeO.ite ?_ ?_
   | refine LeO.bind ?_ (fun _ => ?_)
theorem psalterylaw22_great.mono : ∀ a0 a1 a2 a3 a4 k, LeO (psalterylaw22_great.f k a0 a1 a2 a3 a4) (psalterylaw22_great.f (k + 1) a0 a1 a2 a3 a4) := by
  intro a0 a1 a2 a3 a4 k
  have b0 := psalterylaw22_great.mono_l k
  unfold psalterylaw22_great.f
  with_reducible repeat' first
   | apply b0
   | exact LeO.refl _
   | exact LeO.none _
   | refine LeO.ite ?_ ?_
   | refine LeO.bind ?_ (fun _ => ?_)
set_option maxHeartbeats 8000000 in
set_option maxRecDepth 100000 in
theorem psalterylaw22_great.calls (k : Nat) (i0 : Int) (j0 : Int) (q0 : Option Addr) (r0 : Nat) (e0 : List Int) (s0 : Option Addr) (t0 : Nat) (f0 : List Int) (v0 : Option Addr) (w0 : Nat) (c0 : List (List Int)) (r : Bool) (w : World) (hr0_2 : Kd.C (Kd.int .i64) w q0 e0.length e0) (hc0_2 : e0.length ≤ r0) (hr0_3 : Kd.C (Kd.int .i64) w s0 f0.length f0) (hc0_3 : f0.length ≤ t0) (hr1_0 : Kd.C (Kd.slice 2 (Kd.int .i64)) w v0 c0.length c0) (hc1_0 : c0.length ≤ w0) (h : psalterylaw22_great.f k i0 j0 e0 f0 c0 = some r) :
    Calls Try.prog 18 #[.agg #[.int .i64 i0, .int .i64 j0, .slice q0 e0.length r0, .slice s0 f0.length t0], .agg #[.slice v0 c0.length w0]] w fun e w' => e = .returned (.bool r) ∧ Below w.heap.size w w' := by
 have G1 := Try.underlying24
 have H1 := Try.underlying37
 have z0 := a_ hr0_2
 have A0 := a_ hc0_2
 clear hr0_2 hc0_2
 have B0 := a_ hr0_3
 have C0 := a_ hc0_3
 clear hr0_3 hc0_3
 have D0 := a_ hr1_0
 have v1 := a_ hc1_0
 clear hr1_0 hc1_0
 have HB := a_ (Below.refl w.heap.size w)
 have H : (psalterylaw22_great.l0 k 0 i0 j0 e0 f0 c0) = some r := h
 clear h
 have H' := a_ H
 clear H
 go_enter Try.func18, Try.ntmps18
 go_wp2_with (first | ((with_reducible refine gate_dst (N := 2) rfl ?_); (try (refine gate_guard (by rfl) ?_; dsimp only)); refine bx_ HB 2 #[.int .i64 i0, .int .i64 j0, .slice q0 e0.length r0, .slice s0 f0.length t0] 24 ?_; clear HB; intro I0 hg w3 hb a0 J0 HB; have y1 := J0; clear hb hg) | ((with_reducible refine gate_dst (N := 3) rfl ?_); (try (refine gate_guard (by rfl) ?_; dsimp only)); refine bx_ HB 3 #[.slice v0 c0.length w0] 37 ?_; clear HB; intro K0 hg w4 hb b0 L0 HB; have z1 := L0; obtain ⟨g0, h0⟩ := NN_ a0 hg; replace a0 := FB_ a0 hb; clear hb hg))
 go_loopg [5] k (fun kq v5 w' => ∃ (d0 : Int), v5 = .int .i64 d0 ∧ Aside0 (psalterylaw22_great.l0 kq d0 i0 j0 e0 f0 c0 = some r) ∧ Aside0 (kq ≤ k) ∧ Aside0 (w'.heap[I0]? = some (.cells #[.int .i64 i0, .int .i64 j0, (.slice q0 e0.length r0), (.slice s0 f0.length t0)] 24 (0, 0))) ∧ Aside0 (w'.heap[K0]? = some (.cells #[(.slice v0 c0.length w0)] 37 (0, 0))) ∧ Aside0 (Below w.heap.size w w'))
 case atStart => exact ⟨(0), rs_, H', ⟨Nat.le_refl _⟩, ⟨bk_ a0⟩, ⟨bk_ b0⟩, ⟨bl_ HB⟩⟩
 case round => (
 clear H'
 obtain ⟨d0, rfl, HA, N0, a0, b0, HB⟩ := hrel
 cases gk with
 | zero => exact absurd HA.out (by simp [psalterylaw22_great.l0])
 | succ k1 => (
 have H := HA.out
 clear HA
 simp only [psalterylaw22_great.l0] at H
 replace H := id_ H
 rcases H with ⟨P0, H⟩ | ⟨P0, H⟩
 {
 replace H := gd_ H
 obtain ⟨I1, H⟩ := H
 replace H := ii_ H
 rcases H with ⟨c7, H⟩ | ⟨c7, H⟩
 {
 have Q0 : decide (100 < ((rd_L2 c0 d0).length : Int)) = true := decide_eq_true c7
 have R0 : decide (100 < (rd_L2 c0 d0).length) = true := decide_eq_true (by omega)
 clear c7
 obtain rfl := Option.some.inj H
 have J1 := h0.out
 have K1 := g0.out
 obtain ⟨s1, t1⟩ := e1_ b0
 have o0 : 0 ≤ (d0 : Int) := dm_
 have p0 : d0 < (c0.length : Int) := dm_
 obtain ⟨M0, G0, H0, y0, k0, m0, n0⟩ := at_L2 D0.out d0 o0 p0
 cases y0
 replace k0 := hc_ HB k0
 have E0 := a_ n0
 have F0 := a_ m0
 clear n0 m0
 replace o0 := eq_true o0
 replace p0 := eq_true p0
 go_wp2
 go_ret
 exact ⟨er_, bl_ HB⟩}
 {
 have Q0 : decide (100 < ((rd_L2 c0 d0).length : Int)) = false := decide_eq_false c7
 have R0 : decide (100 < (rd_L2 c0 d0).length) = false := decide_eq_false (by omega)
 clear c7
 have H' := a_ H
 clear H
 have A1 := h0.out
 have B1 := g0.out
 obtain ⟨S0, T0⟩ := e1_ b0
 have o0 : 0 ≤ (d0 : Int) := dm_
 have p0 : d0 < (c0.length : Int) := dm_
 obtain ⟨M0, G0, H0, y0, k0, m0, n0⟩ := at_L2 D0.out d0 o0 p0
 cases y0
 replace k0 := hc_ HB k0
 have E0 := a_ n0
 have F0 := a_ m0
 clear n0 m0
 replace o0 := eq_true o0
 replace p0 := eq_true p0
 go_wp2
 go_roundg k1
 case measure => have := N0.out; omega
 case rel => exact ⟨(wrap64 (d0 + 1)), rs_, H', ⟨by have := N0.out; omega⟩, ⟨bk_ a0⟩, ⟨bk_ b0⟩, ⟨bl_ HB⟩⟩}}
 {
 obtain ⟨L1, O0, H⟩ := ob_ H
 (try dsimp only at H)
 replace H := ib_ H
 rcases H with ⟨rfl, H⟩ | ⟨rfl, H⟩
 {
 obtain rfl := Option.some.inj H
 have C1 := h0.out
 have D1 := g0.out
 obtain ⟨U0, V0⟩ := e1_ b0
 obtain ⟨W0, X0, Y0, Z0, a1, b1, c1, d1⟩ := e4_ a0
 go_wp2_with (first | ((with_reducible refine gate_callee (f := 29) rfl ?_); refine gL_ (some 21) Try.func29 #[.agg #[.int .i64 i0, .int .i64 j0, .slice q0 e0.length r0, .slice s0 f0.length t0]] ?_; (with_reducible refine (psalterylaw16_Great.calls i0 j0 _ _ e0 _ _ f0 true _ ?side1 ?side2 ?side3 ?side4 O0.out).mono ?_); (case side1 => exact kC_ z0 HB); (case side2 => exact A0.out); (case side3 => exact kC_ B0 HB); (case side4 => exact C0.out); rintro e M1 ⟨rfl, hb⟩; refine ⟨_, rfl, ?_⟩; replace a0 := FB_ a0 hb; replace b0 := FB_ b0 hb; replace HB := BS_ HB hb; (try clear hb)))
 go_ret
 exact ⟨er_, bl_ HB⟩}
 {
 obtain rfl := Option.some.inj H
 have E1 := h0.out
 have F1 := g0.out
 obtain ⟨e1, f1⟩ := e1_ b0
 obtain ⟨h1, i1, j1, l1, m1, n1, o1, p1⟩ := e4_ a0
 go_wp2_with (first | ((with_reducible refine gate_callee (f := 29) rfl ?_); refine gL_ (some 21) Try.func29 #[.agg #[.int .i64 i0, .int .i64 j0, .slice q0 e0.length r0, .slice s0 f0.length t0]] ?_; (with_reducible refine (psalterylaw16_Great.calls i0 j0 _ _ e0 _ _ f0 false _ ?side1 ?side2 ?side3 ?side4 O0.out).mono ?_); (case side1 => exact kC_ z0 HB); (case side2 => exact A0.out); (case side3 => exact kC_ B0 HB); (case side4 => exact C0.out); rintro e N1 ⟨rfl, hb⟩; refine ⟨_, rfl, ?_⟩; replace a0 := FB_ a0 hb; replace b0 := FB_ b0 hb; replace HB := BS_ HB hb; (try clear hb); obtain ⟨q1, r1⟩ := e1_ b0))
 go_ret
 exact ⟨er_, bl_ HB⟩}}))
def psalteryref06_Same.l0 : Nat → List Int → List Int → Int → Option (Bool)
  | 0, _, _, _ => none
  | k + 1, x0, x1, x5 => if x5 < (x0.length : Int) then (if 0 ≤ x5 then (if x5 < (x1.length : Int) then (if (rd x0 x5) = (rd x1 x5) then (psalteryref06_Same.l0 k x0 x1 (wrap64 (x5 + 1))) else (some false)) else (none)) else (none)) else (some true)
def psalteryref06_Same.f (k : Nat) (l0 : List Int) (l1 : List Int) : Option (Bool) := if (l0.length : Int) = (l1.length : Int) then (psalteryref06_Same.l0 k l0 l1 0) else (some false)
theorem psalteryref06_Same.mono_l : ∀ k, (∀ y0 y1 y2, LeO (psalteryref06_Same.l0 k y0 y1 y2) (psalteryref06_Same.l0 (k + 1) y0 y1 y2))
  | 0 => fun _ _ _ r h => by simp [psalteryref06_Same.l0] at h
  | k + 1 => by
    have a0 := psalteryref06_Same.mono_l k
    · intro y0 y1 y2
      unfold psalteryref06_Same.l0
      with_reducible repeat' first
   | apply a0
   | exact LeO.refl _
   | exact LeO.none _
   | refine LeO.ite ?_ ?_
   | refine LeO.bind ?_ (fun _ => ?_)
theorem psalteryref06_Same.mono : ∀ a0 a1 k, LeO (psalteryref06_Same.f k a0 a1) (psalteryref06_Same.f (k + 1) a0 a1) := by
  intro a0 a1 k
  have b0 := psalteryref06_Same.mono_l k
  unfold psalteryref06_Same.f
  with_reducible repeat' first
   | apply b0
   | exact LeO.refl _
   | exact LeO.none _
   | refine LeO.ite ?_ ?_
   | refine LeO.bind ?_ (fun _ => ?_)
set_option maxHeartbeats 8000000 in
set_option maxRecDepth 100000 in
theorem psalteryref06_Same.calls (k : Nat) (A0 : Option Addr) (c0 : Nat) (l0 : List Int) (A1 : Option Addr) (c1 : Nat) (l1 : List Int) (r : Bool) (w : World) (hr0 : Kd.C (Kd.int .i64) w A0 l0.length l0) (hc0 : l0.length ≤ c0) (hr1 : Kd.C (Kd.int .i64) w A1 l1.length l1) (hc1 : l1.length ≤ c1) (h : psalteryref06_Same.f k l0 l1 = some r) :
    Calls Try.prog 52 #[.slice A0 l0.length c0, .slice A1 l1.length c1] w fun e w' => e = .returned (.bool r) ∧ Drawn0 w w' := by
 have q0 := a_ hr0
 have B0 := a_ hc0
 clear hr0 hc0
 have r0 := a_ hr1
 have C0 := a_ hc1
 clear hr1 hc1
 have H : (if (l0.length : Int) = (l1.length : Int) then (psalteryref06_Same.l0 k l0 l1 0) else (some false)) = some r := h
 clear h
 replace H := ii_ H
 rcases H with ⟨c3, H⟩ | ⟨c3, H⟩
 {
 have k0 : ((l0.length : Int) == (l1.length : Int)) = true := beq_iff_eq.mpr c3
 have m0 : ((l0.length : Int) != (l1.length : Int)) = false := bne_eq_false_iff_eq.mpr c3
 have n0 : (l0.length == l1.length) = true := by first | simpa using c3 | (simp at c3 ⊢; omega)
 clear c3
 have H' := a_ H
 clear H
 go_enter Try.func52, Try.ntmps52
 go_wp2
 repeat (go_quiet (fail); try go_wp2)
 go_loopg [5] k (fun kq v5 w' => ∃ (a0 : Int), v5 = .int .i64 a0 ∧ Aside0 (psalteryref06_Same.l0 kq l0 l1 a0 = some r) ∧ Aside0 (kq ≤ k) ∧ Drawn0 w w')
 case atStart => exact ⟨(0), rs_, H', ⟨Nat.le_refl _⟩, dr_⟩
 case round => (
 clear H'
 try clear c3
 try clear k0
 try clear m0
 try clear n0
 obtain ⟨a0, rfl, HA, s0, ⟨m1, rfl⟩⟩ := hrel
 cases gk with
 | zero => exact absurd HA.out (by simp [psalteryref06_Same.l0])
 | succ k1 => (
 have H := HA.out
 clear HA
 simp only [psalteryref06_Same.l0] at H
 replace H := id_ H
 rcases H with ⟨t0, H⟩ | ⟨t0, H⟩
 {
 replace H := gd_ H
 obtain ⟨y0, H⟩ := H
 replace H := gd_ H
 obtain ⟨z0, H⟩ := H
 replace H := ie_ H
 rcases H with ⟨v0, w0, H⟩ | ⟨c7, v0, w0, H⟩
 {
 have H' := a_ H
 clear H
 have b0 : 0 ≤ (a0 : Int) := dm_
 have d0 : a0 < (l0.length : Int) := dm_
 obtain ⟨o0, g0, i0⟩ := Kd.at_int q0.out a0 b0 d0
 cases g0
 replace b0 := eq_true b0
 replace d0 := eq_true d0
 have e0 : 0 ≤ (a0 : Int) := dm_
 have f0 : a0 < (l1.length : Int) := dm_
 obtain ⟨p0, h0, j0⟩ := Kd.at_int r0.out a0 e0 f0
 cases h0
 replace e0 := eq_true e0
 replace f0 := eq_true f0
 go_wp2
 repeat (go_quiet (fail); try go_wp2)
 go_roundg k1
 case measure => have := s0.out; omega
 case rel => exact ⟨(wrap64 (a0 + 1)), rs_, H', ⟨by have := s0.out; omega⟩, dr_⟩}
 {
 obtain rfl := Option.some.inj H
 have b0 : 0 ≤ (a0 : Int) := dm_
 have d0 : a0 < (l0.length : Int) := dm_
 obtain ⟨o0, g0, i0⟩ := Kd.at_int q0.out a0 b0 d0
 cases g0
 replace b0 := eq_true b0
 replace d0 := eq_true d0
 have e0 : 0 ≤ (a0 : Int) := dm_
 have f0 : a0 < (l1.length : Int) := dm_
 obtain ⟨p0, h0, j0⟩ := Kd.at_int r0.out a0 e0 f0
 cases h0
 replace e0 := eq_true e0
 replace f0 := eq_true f0
 go_wp2
 repeat (go_quiet (fail); try go_wp2)
 go_ret
 exact ⟨es_, dr_⟩}}
 {
 obtain rfl := Option.some.inj H
 go_wp2
 repeat (go_quiet (fail); try go_wp2)
 go_ret
 exact ⟨es_, dr_⟩}))}
 {
 have k0 : ((l0.length : Int) == (l1.length : Int)) = false := beq_eq_false_iff_ne.mpr c3
 have m0 : ((l0.length : Int) != (l1.length : Int)) = true := bne_iff_ne.mpr c3
 have n0 : (l0.length == l1.length) = false := by first | simpa using c3 | (simp at c3 ⊢; omega)
 obtain rfl := Option.some.inj H
 go_enter Try.func52, Try.ntmps52
 go_wp2
 repeat (go_quiet (fail); try go_wp2)
 go_ret
 exact ⟨es_, dr_⟩}
def psalteryref07_Same.l0 : Nat → List Int → List Int → Int → Option (Bool)
  | 0, _, _, _ => none
  | k + 1, x0, x1, x5 => if x5 < (x0.length : Int) then (if 0 ≤ x5 then (if x5 < (x1.length : Int) then (if (rd x0 x5) = (rd x1 x5) then (psalteryref07_Same.l0 k x0 x1 (wrap64 (x5 + 1))) else (some false)) else (none)) else (none)) else (some true)
def psalteryref07_Same.f (k : Nat) (l0 : List Int) (l1 : List Int) : Option (Bool) := if (l0.length : Int) = (l1.length : Int) then (psalteryref07_Same.l0 k l0 l1 0) else (some false)
theorem psalteryref07_Same.mono_l : ∀ k, (∀ y0 y1 y2, LeO (psalteryref07_Same.l0 k y0 y1 y2) (psalteryref07_Same.l0 (k + 1) y0 y1 y2))
  | 0 => fun _ _ _ r h => by simp [psalteryref07_Same.l0] at h
  | k + 1 => by
    have a0 := psalteryref07_Same.mono_l k
    · intro y0 y1 y2
      unfold psalteryref07_Same.l0
      with_reducible repeat' first
   | apply a0
   | exact LeO.refl _
   | exact LeO.none _
   | refine LeO.ite ?_ ?_
   | refine LeO.bind ?_ (fun _ => ?_)
theorem psalteryref07_Same.mono : ∀ a0 a1 k, LeO (psalteryref07_Same.f k a0 a1) (psalteryref07_Same.f (k + 1) a0 a1) := by
  intro a0 a1 k
  have b0 := psalteryref07_Same.mono_l k
  unfold psalteryref07_Same.f
  with_reducible repeat' first
   | apply b0
   | exact LeO.refl _
   | exact LeO.none _
   | refine LeO.ite ?_ ?_
   | refine LeO.bind ?_ (fun _ => ?_)
set_option maxHeartbeats 8000000 in
set_option maxRecDepth 100000 in
theorem psalteryref07_Same.calls (k : Nat) (A0 : Option Addr) (c0 : Nat) (l0 : List Int) (A1 : Option Addr) (c1 : Nat) (l1 : List Int) (r : Bool) (w : World) (hr0 : Kd.C (Kd.int .i64) w A0 l0.length l0) (hc0 : l0.length ≤ c0) (hr1 : Kd.C (Kd.int .i64) w A1 l1.length l1) (hc1 : l1.length ≤ c1) (h : psalteryref07_Same.f k l0 l1 = some r) :
    Calls Try.prog 53 #[.slice A0 l0.length c0, .slice A1 l1.length c1] w fun e w' => e = .returned (.bool r) ∧ Drawn0 w w' := by
 have q0 := a_ hr0
 have B0 := a_ hc0
 clear hr0 hc0
 have r0 := a_ hr1
 have C0 := a_ hc1
 clear hr1 hc1
 have H : (if (l0.length : Int) = (l1.length : Int) then (psalteryref07_Same.l0 k l0 l1 0) else (some false)) = some r := h
 clear h
 replace H := ii_ H
 rcases H with ⟨c3, H⟩ | ⟨c3, H⟩
 {
 have k0 : ((l0.length : Int) == (l1.length : Int)) = true := beq_iff_eq.mpr c3
 have m0 : ((l0.length : Int) != (l1.length : Int)) = false := bne_eq_false_iff_eq.mpr c3
 have n0 : (l0.length == l1.length) = true := by first | simpa using c3 | (simp at c3 ⊢; omega)
 clear c3
 have H' := a_ H
 clear H
 go_enter Try.func53, Try.ntmps53
 go_wp2
 repeat (go_quiet (fail); try go_wp2)
 go_loopg [5] k (fun kq v5 w' => ∃ (a0 : Int), v5 = .int .i64 a0 ∧ Aside0 (psalteryref07_Same.l0 kq l0 l1 a0 = some r) ∧ Aside0 (kq ≤ k) ∧ Drawn0 w w')
 case atStart => exact ⟨(0), rs_, H', ⟨Nat.le_refl _⟩, dr_⟩
 case round => (
 clear H'
 try clear c3
 try clear k0
 try clear m0
 try clear n0
 obtain ⟨a0, rfl, HA, s0, ⟨m1, rfl⟩⟩ := hrel
 cases gk with
 | zero => exact absurd HA.out (by simp [psalteryref07_Same.l0])
 | succ k1 => (
 have H := HA.out
 clear HA
 simp only [psalteryref07_Same.l0] at H
 replace H := id_ H
 rcases H with ⟨t0, H⟩ | ⟨t0, H⟩
 {
 replace H := gd_ H
 obtain ⟨y0, H⟩ := H
 replace H := gd_ H
 obtain ⟨z0, H⟩ := H
 replace H := ie_ H
 rcases H with ⟨v0, w0, H⟩ | ⟨c7, v0, w0, H⟩
 {
 have H' := a_ H
 clear H
 have b0 : 0 ≤ (a0 : Int) := dm_
 have d0 : a0 < (l0.length : Int) := dm_
 obtain ⟨o0, g0, i0⟩ := Kd.at_int q0.out a0 b0 d0
 cases g0
 replace b0 := eq_true b0
 replace d0 := eq_true d0
 have e0 : 0 ≤ (a0 : Int) := dm_
 have f0 : a0 < (l1.length : Int) := dm_
 obtain ⟨p0, h0, j0⟩ := Kd.at_int r0.out a0 e0 f0
 cases h0
 replace e0 := eq_true e0
 replace f0 := eq_true f0
 go_wp2
 repeat (go_quiet (fail); try go_wp2)
 go_roundg k1
 case measure => have := s0.out; omega
 case rel => exact ⟨(wrap64 (a0 + 1)), rs_, H', ⟨by have := s0.out; omega⟩, dr_⟩}
 {
 obtain rfl := Option.some.inj H
 have b0 : 0 ≤ (a0 : Int) := dm_
 have d0 : a0 < (l0.length : Int) := dm_
 obtain ⟨o0, g0, i0⟩ := Kd.at_int q0.out a0 b0 d0
 cases g0
 replace b0 := eq_true b0
 replace d0 := eq_true d0
 have e0 : 0 ≤ (a0 : Int) := dm_
 have f0 : a0 < (l1.length : Int) := dm_
 obtain ⟨p0, h0, j0⟩ := Kd.at_int r0.out a0 e0 f0
 cases h0
 replace e0 := eq_true e0
 replace f0 := eq_true f0
 go_wp2
 repeat (go_quiet (fail); try go_wp2)
 go_ret
 exact ⟨es_, dr_⟩}}
 {
 obtain rfl := Option.some.inj H
 go_wp2
 repeat (go_quiet (fail); try go_wp2)
 go_ret
 exact ⟨es_, dr_⟩}))}
 {
 have k0 : ((l0.length : Int) == (l1.length : Int)) = false := beq_eq_false_iff_ne.mpr c3
 have m0 : ((l0.length : Int) != (l1.length : Int)) = true := bne_iff_ne.mpr c3
 have n0 : (l0.length == l1.length) = false := by first | simpa using c3 | (simp at c3 ⊢; omega)
 obtain rfl := Option.some.inj H
 go_enter Try.func53, Try.ntmps53
 go_wp2
 repeat (go_quiet (fail); try go_wp2)
 go_ret
 exact ⟨es_, dr_⟩}
mutual
def psalteryref17_Same.j0 : Nat → Bool → List (List Int) → List (List Int) → List (List Int) → List (List Int) → Option (Bool)
  | 0, _, _, _, _, _ => none
  | k + 1, e0, a0, b0, c0, d0 => if e0 = true then (some false) else (psalteryref17_Same.l0 k 0 a0 b0 c0 d0)
def psalteryref17_Same.l0 : Nat → Int → List (List Int) → List (List Int) → List (List Int) → List (List Int) → Option (Bool)
  | 0, _, _, _, _, _ => none
  | k + 1, x5, a0, c0, b0, d0 => if x5 < (a0.length : Int) then (if 0 ≤ x5 then (if x5 < (b0.length : Int) then ((psalteryref06_Same.f k (rd_L1 a0 x5) (rd_L1 b0 x5)).bind fun e0 => (if e0 = true then (psalteryref17_Same.l0 k (wrap64 (x5 + 1)) a0 c0 b0 d0) else (some false))) else (none)) else (none)) else (psalteryref17_Same.l1 k 0 a0 c0 b0 d0)
def psalteryref17_Same.l1 : Nat → Int → List (List Int) → List (List Int) → List (List Int) → List (List Int) → Option (Bool)
  | 0, _, _, _, _, _ => none
  | k + 1, x6, c0, a0, d0, b0 => if x6 < (a0.length : Int) then (if 0 ≤ x6 then (if x6 < (b0.length : Int) then ((psalteryref07_Same.f k (rd_L2 a0 x6) (rd_L2 b0 x6)).bind fun e0 => (if e0 = true then (psalteryref17_Same.l1 k (wrap64 (x6 + 1)) c0 a0 d0 b0) else (some false))) else (none)) else (none)) else (some true)
end
def psalteryref17_Same.f (k : Nat) (a0 : List (List Int)) (b0 : List (List Int)) (c0 : List (List Int)) (d0 : List (List Int)) : Option (Bool) := if (a0.length : Int) = (c0.length : Int) then (psalteryref17_Same.j0 k ((b0.length : Int) != (d0.length : Int)) a0 b0 c0 d0) else (psalteryref17_Same.j0 k true a0 b0 c0 d0)
theorem psalteryref17_Same.mono_l : ∀ k, (∀ y0 y1 y2 y3 y4, LeO (psalteryref17_Same.j0 k y0 y1 y2 y3 y4) (psalteryref17_Same.j0 (k + 1) y0 y1 y2 y3 y4)) ∧ (∀ y0 y1 y2 y3 y4, LeO (psalteryref17_Same.l0 k y0 y1 y2 y3 y4) (psalteryref17_Same.l0 (k + 1) y0 y1 y2 y3 y4)) ∧ (∀ y0 y1 y2 y3 y4, LeO (psalteryref17_Same.l1 k y0 y1 y2 y3 y4) (psalteryref17_Same.l1 (k + 1) y0 y1 y2 y3 y4))
  | 0 => ⟨fun _ _ _ _ _ r h => by simp [psalteryref17_Same.j0] at h, fun _ _ _ _ _ r h => by simp [psalteryref17_Same.l0] at h, fun _ _ _ _ _ r h => by simp [psalteryref17_Same.l1] at h⟩
  | k + 1 => by
    obtain ⟨a0, b0, c0⟩ := psalteryref17_Same.mono_l k
    refine ⟨?_, ?_, ?_⟩
    all_goals (intros; first | unfold psalteryref17_Same.j0 | unfold psalteryref17_Same.l0 | unfold psalteryref17_Same.l1)
    all_goals with_reducible repeat' first
     | apply a0
     | exact b0 _ _ _ _ _
     | exact c0 _ _ _ _ _
     | apply psalteryref06_Same.mono
     | apply psalteryref07_Same.mono
     | exact LeO.refl _
     | exact LeO.none _
     | refine LeO.ite ?_ ?_
     | refine LeO.bind ?_ (fun _ => ?_)
theorem psalteryref17_Same.mono : ∀ a0 a1 a2 a3 k, LeO (psalteryref17_Same.f k a0 a1 a2 a3) (psalteryref17_Same.f (k + 1) a0 a1 a2 a3) := by
  intro a0 a1 a2 a3 k
  obtain ⟨b0, c0, d0⟩ := psalteryref17_Same.mono_l k
  unfold psalteryref17_Same.f
  with_reducible repeat' first
   | apply b0
   | exact c0 _ _ _ _ _
   | exact d0 _ _ _ _ _
   | apply psalteryref06_Same.mono
   | apply psalteryref07_Same.mono
   | exact LeO.refl _
   | exact LeO.none _
   | refine LeO.ite ?_ ?_
   | refine LeO.bind ?_ (fun _ => ?_)
set_option maxHeartbeats 8000000 in
set_option maxRecDepth 100000 in
theorem psalteryref17_Same.calls (k : Nat) (I0 : Option Addr) (J0 : Nat) (b0 : List (List Int)) (K0 : Option Addr) (L0 : Nat) (f0 : List (List Int)) (M0 : Option Addr) (N0 : Nat) (c0 : List (List Int)) (O0 : Option Addr) (P0 : Nat) (g0 : List (List Int)) (r : Bool) (w : World) (hr0_0 : Kd.C (Kd.slice 3 (Kd.int .i64)) w I0 b0.length b0) (hc0_0 : b0.length ≤ J0) (hr0_1 : Kd.C (Kd.slice 2 (Kd.int .i64)) w K0 f0.length f0) (hc0_1 : f0.length ≤ L0) (hr1_0 : Kd.C (Kd.slice 3 (Kd.int .i64)) w M0 c0.length c0) (hc1_0 : c0.length ≤ N0) (hr1_1 : Kd.C (Kd.slice 2 (Kd.int .i64)) w O0 g0.length g0) (hc1_1 : g0.length ≤ P0) (h : psalteryref17_Same.f k b0 f0 c0 g0 = some r) :
    Calls Try.prog 22 #[.agg #[.slice I0 b0.length J0, .slice K0 f0.length L0], .agg #[.slice M0 c0.length N0, .slice O0 g0.length P0]] w fun e w' => e = .returned (.bool r) ∧ Below w.heap.size w w' := by
 have w3 := Try.underlying33
 have n1 := a_ hr0_0
 have Y2 := a_ hc0_0
 clear hr0_0 hc0_0
 have o1 := a_ hr0_1
 have Z2 := a_ hc0_1
 clear hr0_1 hc0_1
 have p1 := a_ hr1_0
 have a3 := a_ hc1_0
 clear hr1_0 hc1_0
 have q1 := a_ hr1_1
 have b3 := a_ hc1_1
 clear hr1_1 hc1_1
 have HB := a_ (Below.refl w.heap.size w)
 have H : (if (b0.length : Int) = (c0.length : Int) then (psalteryref17_Same.j0 k ((f0.length : Int) != (g0.length : Int)) b0 f0 c0 g0) else (psalteryref17_Same.j0 k true b0 f0 c0 g0)) = some r := h
 clear h
 have C1 := a_ H
 clear H
 go_enter Try.func22, Try.ntmps22
 go_upto_region 1 with (first | ((with_reducible refine gate_dst (N := 2) rfl ?_); (try (refine gate_guard (by rfl) ?_; dsimp only)); refine bx_ HB 2 #[.slice I0 b0.length J0, .slice K0 f0.length L0] 33 ?_; clear HB; intro Y0 hg w4 hb a0 Z0 HB; have r1 := Z0; clear hb hg) | ((with_reducible refine gate_dst (N := 3) rfl ?_); (try (refine gate_guard (by rfl) ?_; dsimp only)); refine bx_ HB 3 #[.slice M0 c0.length N0, .slice O0 g0.length P0] 33 ?_; clear HB; intro a1 hg w5 hb k0 b1 HB; have s1 := b1; obtain ⟨h0, i0⟩ := NN_ a0 hg; replace a0 := FB_ a0 hb; clear hb hg))
 repeat (go_quiet (first | ((with_reducible refine gate_dst (N := 2) rfl ?_); (try (refine gate_guard (by rfl) ?_; dsimp only)); refine bx_ HB 2 #[.slice I0 b0.length J0, .slice K0 f0.length L0] 33 ?_; clear HB; intro Y0 hg w4 hb a0 Z0 HB; have r1 := Z0; clear hb hg) | ((with_reducible refine gate_dst (N := 3) rfl ?_); (try (refine gate_guard (by rfl) ?_; dsimp only)); refine bx_ HB 3 #[.slice M0 c0.length N0, .slice O0 g0.length P0] 33 ?_; clear HB; intro a1 hg w5 hb k0 b1 HB; have s1 := b1; obtain ⟨h0, i0⟩ := NN_ a0 hg; replace a0 := FB_ a0 hb; clear hb hg)); go_upto_region 1 with (first | ((with_reducible refine gate_dst (N := 2) rfl ?_); (try (refine gate_guard (by rfl) ?_; dsimp only)); refine bx_ HB 2 #[.slice I0 b0.length J0, .slice K0 f0.length L0] 33 ?_; clear HB; intro Y0 hg w4 hb a0 Z0 HB; have r1 := Z0; clear hb hg) | ((with_reducible refine gate_dst (N := 3) rfl ?_); (try (refine gate_guard (by rfl) ?_; dsimp only)); refine bx_ HB 3 #[.slice M0 c0.length N0, .slice O0 g0.length P0] 33 ?_; clear HB; intro a1 hg w5 hb k0 b1 HB; have s1 := b1; obtain ⟨h0, i0⟩ := NN_ a0 hg; replace a0 := FB_ a0 hb; clear hb hg)))
 (try simp only [Act.put, List.setIfInBounds_toArray, List.set_cons_zero, List.set_cons_succ])
 go_cut [22] (fun P2 wc => ∃ (kq : Nat) (c1 : Bool), P2 = .bool c1 ∧ Aside0 (psalteryref17_Same.j0 kq c1 b0 f0 c0 g0 = some r) ∧ Aside0 (kq ≤ k) ∧ Aside0 (wc.heap[Y0]? = some (.cells #[(.slice I0 b0.length J0), (.slice K0 f0.length L0)] 33 (0, 0))) ∧ Aside0 (wc.heap[a1]? = some (.cells #[(.slice M0 c0.length N0), (.slice O0 g0.length P0)] 33 (0, 0))) ∧ Aside0 (Below w.heap.size w wc))
 case first => (
 have H := C1.out
 clear C1
 replace H := ii_ H
 rcases H with ⟨c6, H⟩ | ⟨c6, H⟩
 {
 have d1 : ((b0.length : Int) == (c0.length : Int)) = true := beq_iff_eq.mpr c6
 have R1 : ((b0.length : Int) != (c0.length : Int)) = false := bne_eq_false_iff_eq.mpr c6
 have S1 : (b0.length == c0.length) = true := by first | simpa using c6 | (simp at c6 ⊢; omega)
 clear c6
 (first | rw [d1] | (simp only [i64_w, i32_w]; rw [d1]) | skip)
 have H' := a_ H
 clear H
 have y3 := h0.out
 have z3 := i0.out
 obtain ⟨Q2, R2, S2, T2⟩ := e2_ a0
 obtain ⟨U2, V2, W2, X2⟩ := e2_ k0
 go_wp2
 repeat (go_quiet (fail); try go_wp2)
 go_meet
 case rel => exact ⟨_, (((f0.length : Int) != (g0.length : Int))), rs_, H', ⟨ol_⟩, ⟨bk_ a0⟩, ⟨bk_ k0⟩, ⟨bl_ HB⟩⟩}
 {
 have d1 : ((b0.length : Int) == (c0.length : Int)) = false := beq_eq_false_iff_ne.mpr c6
 have R1 : ((b0.length : Int) != (c0.length : Int)) = true := bne_iff_ne.mpr c6
 have S1 : (b0.length == c0.length) = false := by first | simpa using c6 | (simp at c6 ⊢; omega)
 (first | rw [d1] | (simp only [i64_w, i32_w]; rw [d1]) | skip)
 have H' := a_ H
 clear H
 have c3 := h0.out
 have d3 := i0.out
 obtain ⟨T1, U1, V1, W1⟩ := e2_ a0
 obtain ⟨X1, Y1, Z1, a2⟩ := e2_ k0
 go_wp2
 repeat (go_quiet (fail); try go_wp2)
 go_meet
 case rel => exact ⟨_, (true), rs_, H', ⟨ol_⟩, ⟨bk_ a0⟩, ⟨bk_ k0⟩, ⟨bl_ HB⟩⟩})
 case rest => (
 clear C1
 obtain ⟨kq, c1, rfl, HA, HJ2, a0, k0, HB⟩ := hcut
 cases kq with
 | zero => exact absurd HA.out (by simp [psalteryref17_Same.j0])
 | succ kj2 => (
 have H := HA.out
 clear HA
 simp only [psalteryref17_Same.j0] at H
 by_cases e1 : c1 = true
 {
 subst e1
 rw [if_pos rfl] at H
 obtain rfl := Option.some.inj H
 go_wp2
 repeat (go_quiet (fail); try go_wp2)
 go_ret
 exact ⟨er_, bl_ HB⟩}
 {
 replace e1 := Bool.eq_false_iff.mpr e1
 subst e1
 rw [if_neg (show ¬ (false = true) by decide)] at H
 have H' := a_ H
 clear H
 go_wp2
 repeat (go_quiet (fail); try go_wp2)
 go_loopg [5] kj2 (fun kq v5 w' => ∃ (d0 : Int), v5 = .int .i64 d0 ∧ Aside0 (psalteryref17_Same.l0 kq d0 b0 f0 c0 g0 = some r) ∧ Aside0 (kq ≤ kj2) ∧ Aside0 (w'.heap[Y0]? = some (.cells #[(.slice I0 b0.length J0), (.slice K0 f0.length L0)] 33 (0, 0))) ∧ Aside0 (w'.heap[a1]? = some (.cells #[(.slice M0 c0.length N0), (.slice O0 g0.length P0)] 33 (0, 0))) ∧ Aside0 (Below w.heap.size w w'))
 case atStart => exact ⟨(0), rs_, H', ⟨Nat.le_refl _⟩, ⟨bk_ a0⟩, ⟨bk_ k0⟩, ⟨bl_ HB⟩⟩
 case round => (
 clear H'
 try clear e1
 obtain ⟨d0, rfl, HA, t1, a0, k0, HB⟩ := hrel
 cases gk with
 | zero => exact absurd HA.out (by simp [psalteryref17_Same.l0])
 | succ k2 => (
 have H := HA.out
 clear HA
 simp only [psalteryref17_Same.l0] at H
 replace H := id_ H
 rcases H with ⟨v1, H⟩ | ⟨v1, H⟩
 {
 replace H := gd_ H
 obtain ⟨e3, H⟩ := H
 replace H := gd_ H
 obtain ⟨f3, H⟩ := H
 obtain ⟨A3, f1, H⟩ := ob_ H
 (try dsimp only at H)
 replace H := ib_ H
 rcases H with ⟨rfl, H⟩ | ⟨rfl, H⟩
 {
 have H' := a_ H
 clear H
 have g3 := h0.out
 have h3 := i0.out
 obtain ⟨b2, c2, d2, e2⟩ := e2_ a0
 have Q0 : 0 ≤ (d0 : Int) := dm_
 have R0 : d0 < (b0.length : Int) := dm_
 obtain ⟨L1, D1, E1, i1, v0, w0, y0⟩ := at_L1 n1.out d0 Q0 R0
 cases i1
 replace v0 := hc_ HB v0
 have m0 := a_ y0
 have n0 := a_ w0
 clear y0 w0
 replace Q0 := eq_true Q0
 replace R0 := eq_true R0
 obtain ⟨f2, g2, h2, i2⟩ := e2_ k0
 have S0 : 0 ≤ (d0 : Int) := dm_
 have T0 : d0 < (c0.length : Int) := dm_
 obtain ⟨M1, F1, G1, j1, z0, A0, B0⟩ := at_L1 p1.out d0 S0 T0
 cases j1
 replace z0 := hc_ HB z0
 have o0 := a_ B0
 have p0 := a_ A0
 clear B0 A0
 replace S0 := eq_true S0
 replace T0 := eq_true T0
 go_wp2_with (first | (go_at_call 52; (with_reducible refine (psalteryref06_Same.calls k2 _ _ (rd_L1 b0 d0) _ _ (rd_L1 c0 d0) true _ ?side1 ?side2 ?side3 ?side4 f1.out).mono ?_); (case side1 => exact kC_ m0 HB); (case side2 => exact n0.out); (case side3 => exact kC_ o0 HB); (case side4 => exact p0.out); rintro e w' ⟨rfl, ⟨nd, rfl⟩⟩; (try first | exact ⟨rfl, _, World.drewN_drewN _ _ _⟩ | exact ⟨rfl, _, Eq.trans (World.drewN_drewN _ _ _) (congrArg (World.drewN _) (Nat.add_assoc _ _ _))⟩)))
 repeat (go_quiet (first | (go_at_call 52; (with_reducible refine (psalteryref06_Same.calls k2 _ _ (rd_L1 b0 d0) _ _ (rd_L1 c0 d0) true _ ?side1 ?side2 ?side3 ?side4 f1.out).mono ?_); (case side1 => exact kC_ m0 HB); (case side2 => exact n0.out); (case side3 => exact kC_ o0 HB); (case side4 => exact p0.out); rintro e w' ⟨rfl, ⟨nd, rfl⟩⟩; (try first | exact ⟨rfl, _, World.drewN_drewN _ _ _⟩ | exact ⟨rfl, _, Eq.trans (World.drewN_drewN _ _ _) (congrArg (World.drewN _) (Nat.add_assoc _ _ _))⟩))); try go_wp2_with (first | (go_at_call 52; (with_reducible refine (psalteryref06_Same.calls k2 _ _ (rd_L1 b0 d0) _ _ (rd_L1 c0 d0) true _ ?side1 ?side2 ?side3 ?side4 f1.out).mono ?_); (case side1 => exact kC_ m0 HB); (case side2 => exact n0.out); (case side3 => exact kC_ o0 HB); (case side4 => exact p0.out); rintro e w' ⟨rfl, ⟨nd, rfl⟩⟩; (try first | exact ⟨rfl, _, World.drewN_drewN _ _ _⟩ | exact ⟨rfl, _, Eq.trans (World.drewN_drewN _ _ _) (congrArg (World.drewN _) (Nat.add_assoc _ _ _))⟩))))
 go_roundg k2
 case measure => have := HJ2.out; have := t1.out; omega
 case rel => exact ⟨(wrap64 (d0 + 1)), rs_, H', ⟨by have := HJ2.out; have := t1.out; omega⟩, ⟨bk_ a0⟩, ⟨bk_ k0⟩, ⟨bl_ HB⟩⟩}
 {
 obtain rfl := Option.some.inj H
 have i3 := h0.out
 have j3 := i0.out
 obtain ⟨j2, l2, m2, n2⟩ := e2_ a0
 have Q0 : 0 ≤ (d0 : Int) := dm_
 have R0 : d0 < (b0.length : Int) := dm_
 obtain ⟨L1, D1, E1, i1, v0, w0, y0⟩ := at_L1 n1.out d0 Q0 R0
 cases i1
 replace v0 := hc_ HB v0
 have m0 := a_ y0
 have n0 := a_ w0
 clear y0 w0
 replace Q0 := eq_true Q0
 replace R0 := eq_true R0
 obtain ⟨p2, q2, r2, s2⟩ := e2_ k0
 have S0 : 0 ≤ (d0 : Int) := dm_
 have T0 : d0 < (c0.length : Int) := dm_
 obtain ⟨M1, F1, G1, j1, z0, A0, B0⟩ := at_L1 p1.out d0 S0 T0
 cases j1
 replace z0 := hc_ HB z0
 have o0 := a_ B0
 have p0 := a_ A0
 clear B0 A0
 replace S0 := eq_true S0
 replace T0 := eq_true T0
 go_wp2_with (first | (go_at_call 52; (with_reducible refine (psalteryref06_Same.calls k2 _ _ (rd_L1 b0 d0) _ _ (rd_L1 c0 d0) false _ ?side1 ?side2 ?side3 ?side4 f1.out).mono ?_); (case side1 => exact kC_ m0 HB); (case side2 => exact n0.out); (case side3 => exact kC_ o0 HB); (case side4 => exact p0.out); rintro e w' ⟨rfl, ⟨nd, rfl⟩⟩; (try first | exact ⟨rfl, _, World.drewN_drewN _ _ _⟩ | exact ⟨rfl, _, Eq.trans (World.drewN_drewN _ _ _) (congrArg (World.drewN _) (Nat.add_assoc _ _ _))⟩)))
 repeat (go_quiet (first | (go_at_call 52; (with_reducible refine (psalteryref06_Same.calls k2 _ _ (rd_L1 b0 d0) _ _ (rd_L1 c0 d0) false _ ?side1 ?side2 ?side3 ?side4 f1.out).mono ?_); (case side1 => exact kC_ m0 HB); (case side2 => exact n0.out); (case side3 => exact kC_ o0 HB); (case side4 => exact p0.out); rintro e w' ⟨rfl, ⟨nd, rfl⟩⟩; (try first | exact ⟨rfl, _, World.drewN_drewN _ _ _⟩ | exact ⟨rfl, _, Eq.trans (World.drewN_drewN _ _ _) (congrArg (World.drewN _) (Nat.add_assoc _ _ _))⟩))); try go_wp2_with (first | (go_at_call 52; (with_reducible refine (psalteryref06_Same.calls k2 _ _ (rd_L1 b0 d0) _ _ (rd_L1 c0 d0) false _ ?side1 ?side2 ?side3 ?side4 f1.out).mono ?_); (case side1 => exact kC_ m0 HB); (case side2 => exact n0.out); (case side3 => exact kC_ o0 HB); (case side4 => exact p0.out); rintro e w' ⟨rfl, ⟨nd, rfl⟩⟩; (try first | exact ⟨rfl, _, World.drewN_drewN _ _ _⟩ | exact ⟨rfl, _, Eq.trans (World.drewN_drewN _ _ _) (congrArg (World.drewN _) (Nat.add_assoc _ _ _))⟩))))
 go_ret
 exact ⟨er_, bl_ HB⟩}}
 {
 have H' := a_ H
 clear H
 have l3 := h0.out
 have m3 := i0.out
 obtain ⟨y1, z1, A1, B1⟩ := e2_ a0
 go_wp2
 repeat (go_quiet (fail); try go_wp2)
 go_loopg [6] k2 (fun kq v6 w' => ∃ (e0 : Int), v6 = .int .i64 e0 ∧ Aside0 (psalteryref17_Same.l1 kq e0 b0 f0 c0 g0 = some r) ∧ Aside0 (kq ≤ k2) ∧ Aside0 (w'.heap[Y0]? = some (.cells #[(.slice I0 b0.length J0), (.slice K0 f0.length L0)] 33 (0, 0))) ∧ Aside0 (w'.heap[a1]? = some (.cells #[(.slice M0 c0.length N0), (.slice O0 g0.length P0)] 33 (0, 0))) ∧ Aside0 (Below w.heap.size w w'))
 case atStart => exact ⟨(0), rs_, H', ⟨Nat.le_refl _⟩, ⟨bk_ a0⟩, ⟨bk_ k0⟩, ⟨bl_ HB⟩⟩
 case round => (
 clear H'
 try clear e1
 try clear C3
 try clear v1
 try clear y1 z1 A1 B1
 obtain ⟨e0, rfl, HA, Q1, a0, k0, HB⟩ := hrel
 cases gk with
 | zero => exact absurd HA.out (by simp [psalteryref17_Same.l1])
 | succ k3 => (
 have H := HA.out
 clear HA
 simp only [psalteryref17_Same.l1] at H
 replace H := id_ H
 rcases H with ⟨N1, H⟩ | ⟨N1, H⟩
 {
 replace H := gd_ H
 obtain ⟨n3, H⟩ := H
 replace H := gd_ H
 obtain ⟨o3, H⟩ := H
 obtain ⟨B3, h1, H⟩ := ob_ H
 (try dsimp only at H)
 replace H := ib_ H
 rcases H with ⟨rfl, H⟩ | ⟨rfl, H⟩
 {
 have H' := a_ H
 clear H
 have p3 := h0.out
 have q3 := i0.out
 obtain ⟨t2, v2, w2, y2⟩ := e2_ a0
 have U0 : 0 ≤ (e0 : Int) := dm_
 have V0 : e0 < (f0.length : Int) := dm_
 obtain ⟨O1, H1, I1, k1, C0, D0, E0⟩ := at_L2 o1.out e0 U0 V0
 cases k1
 replace C0 := hc_ HB C0
 have q0 := a_ E0
 have r0 := a_ D0
 clear E0 D0
 replace U0 := eq_true U0
 replace V0 := eq_true V0
 obtain ⟨z2, A2, B2, C2⟩ := e2_ k0
 have W0 : 0 ≤ (e0 : Int) := dm_
 have X0 : e0 < (g0.length : Int) := dm_
 obtain ⟨P1, J1, K1, m1, F0, G0, H0⟩ := at_L2 q1.out e0 W0 X0
 cases m1
 replace F0 := hc_ HB F0
 have s0 := a_ H0
 have t0 := a_ G0
 clear H0 G0
 replace W0 := eq_true W0
 replace X0 := eq_true X0
 go_wp2_with (first | (go_at_call 53; (with_reducible refine (psalteryref07_Same.calls k3 _ _ (rd_L2 f0 e0) _ _ (rd_L2 g0 e0) true _ ?side1 ?side2 ?side3 ?side4 h1.out).mono ?_); (case side1 => exact kC_ q0 HB); (case side2 => exact r0.out); (case side3 => exact kC_ s0 HB); (case side4 => exact t0.out); rintro e w' ⟨rfl, ⟨nd, rfl⟩⟩; (try first | exact ⟨rfl, _, World.drewN_drewN _ _ _⟩ | exact ⟨rfl, _, Eq.trans (World.drewN_drewN _ _ _) (congrArg (World.drewN _) (Nat.add_assoc _ _ _))⟩)))
 repeat (go_quiet (first | (go_at_call 53; (with_reducible refine (psalteryref07_Same.calls k3 _ _ (rd_L2 f0 e0) _ _ (rd_L2 g0 e0) true _ ?side1 ?side2 ?side3 ?side4 h1.out).mono ?_); (case side1 => exact kC_ q0 HB); (case side2 => exact r0.out); (case side3 => exact kC_ s0 HB); (case side4 => exact t0.out); rintro e w' ⟨rfl, ⟨nd, rfl⟩⟩; (try first | exact ⟨rfl, _, World.drewN_drewN _ _ _⟩ | exact ⟨rfl, _, Eq.trans (World.drewN_drewN _ _ _) (congrArg (World.drewN _) (Nat.add_assoc _ _ _))⟩))); try go_wp2_with (first | (go_at_call 53; (with_reducible refine (psalteryref07_Same.calls k3 _ _ (rd_L2 f0 e0) _ _ (rd_L2 g0 e0) true _ ?side1 ?side2 ?side3 ?side4 h1.out).mono ?_); (case side1 => exact kC_ q0 HB); (case side2 => exact r0.out); (case side3 => exact kC_ s0 HB); (case side4 => exact t0.out); rintro e w' ⟨rfl, ⟨nd, rfl⟩⟩; (try first | exact ⟨rfl, _, World.drewN_drewN _ _ _⟩ | exact ⟨rfl, _, Eq.trans (World.drewN_drewN _ _ _) (congrArg (World.drewN _) (Nat.add_assoc _ _ _))⟩))))
 go_roundg k3
 case measure => have := HJ2.out; have := t1.out; have := Q1.out; omega
 case rel => exact ⟨(wrap64 (e0 + 1)), rs_, H', ⟨by have := HJ2.out; have := t1.out; have := Q1.out; omega⟩, ⟨bk_ a0⟩, ⟨bk_ k0⟩, ⟨bl_ HB⟩⟩}
 {
 obtain rfl := Option.some.inj H
 have r3 := h0.out
 have s3 := i0.out
 obtain ⟨D2, E2, F2, G2⟩ := e2_ a0
 have U0 : 0 ≤ (e0 : Int) := dm_
 have V0 : e0 < (f0.length : Int) := dm_
 obtain ⟨O1, H1, I1, k1, C0, D0, E0⟩ := at_L2 o1.out e0 U0 V0
 cases k1
 replace C0 := hc_ HB C0
 have q0 := a_ E0
 have r0 := a_ D0
 clear E0 D0
 replace U0 := eq_true U0
 replace V0 := eq_true V0
 obtain ⟨H2, I2, J2, K2⟩ := e2_ k0
 have W0 : 0 ≤ (e0 : Int) := dm_
 have X0 : e0 < (g0.length : Int) := dm_
 obtain ⟨P1, J1, K1, m1, F0, G0, H0⟩ := at_L2 q1.out e0 W0 X0
 cases m1
 replace F0 := hc_ HB F0
 have s0 := a_ H0
 have t0 := a_ G0
 clear H0 G0
 replace W0 := eq_true W0
 replace X0 := eq_true X0
 go_wp2_with (first | (go_at_call 53; (with_reducible refine (psalteryref07_Same.calls k3 _ _ (rd_L2 f0 e0) _ _ (rd_L2 g0 e0) false _ ?side1 ?side2 ?side3 ?side4 h1.out).mono ?_); (case side1 => exact kC_ q0 HB); (case side2 => exact r0.out); (case side3 => exact kC_ s0 HB); (case side4 => exact t0.out); rintro e w' ⟨rfl, ⟨nd, rfl⟩⟩; (try first | exact ⟨rfl, _, World.drewN_drewN _ _ _⟩ | exact ⟨rfl, _, Eq.trans (World.drewN_drewN _ _ _) (congrArg (World.drewN _) (Nat.add_assoc _ _ _))⟩)))
 repeat (go_quiet (first | (go_at_call 53; (with_reducible refine (psalteryref07_Same.calls k3 _ _ (rd_L2 f0 e0) _ _ (rd_L2 g0 e0) false _ ?side1 ?side2 ?side3 ?side4 h1.out).mono ?_); (case side1 => exact kC_ q0 HB); (case side2 => exact r0.out); (case side3 => exact kC_ s0 HB); (case side4 => exact t0.out); rintro e w' ⟨rfl, ⟨nd, rfl⟩⟩; (try first | exact ⟨rfl, _, World.drewN_drewN _ _ _⟩ | exact ⟨rfl, _, Eq.trans (World.drewN_drewN _ _ _) (congrArg (World.drewN _) (Nat.add_assoc _ _ _))⟩))); try go_wp2_with (first | (go_at_call 53; (with_reducible refine (psalteryref07_Same.calls k3 _ _ (rd_L2 f0 e0) _ _ (rd_L2 g0 e0) false _ ?side1 ?side2 ?side3 ?side4 h1.out).mono ?_); (case side1 => exact kC_ q0 HB); (case side2 => exact r0.out); (case side3 => exact kC_ s0 HB); (case side4 => exact t0.out); rintro e w' ⟨rfl, ⟨nd, rfl⟩⟩; (try first | exact ⟨rfl, _, World.drewN_drewN _ _ _⟩ | exact ⟨rfl, _, Eq.trans (World.drewN_drewN _ _ _) (congrArg (World.drewN _) (Nat.add_assoc _ _ _))⟩))))
 go_ret
 exact ⟨er_, bl_ HB⟩}}
 {
 obtain rfl := Option.some.inj H
 have t3 := h0.out
 have v3 := i0.out
 obtain ⟨L2, M2, N2, O2⟩ := e2_ a0
 go_wp2
 repeat (go_quiet (fail); try go_wp2)
 go_ret
 exact ⟨er_, bl_ HB⟩}))}))}))
def psalteryref03_Sqrt.l0 : Nat → Int → Int → Int → Option (Int)
  | 0, _, _, _ => none
  | k + 1, x0, x3, x4 => if (IntKind.u64.wrap (x4 - x3)) > 1 then (if (IntKind.u64.wrap ((IntKind.u64.wrap (Int.tdiv (IntKind.u64.wrap (x3 + x4)) 2)) * (IntKind.u64.wrap (Int.tdiv (IntKind.u64.wrap (x3 + x4)) 2)))) ≤ x0 then (psalteryref03_Sqrt.l0 k x0 (IntKind.u64.wrap (Int.tdiv (IntKind.u64.wrap (x3 + x4)) 2)) x4) else (psalteryref03_Sqrt.l0 k x0 x3 (IntKind.u64.wrap (Int.tdiv (IntKind.u64.wrap (x3 + x4)) 2)))) else (some x3)
def psalteryref03_Sqrt.f (k : Nat) (a0 : Int) : Option (Int) := psalteryref03_Sqrt.l0 k a0 0 4294967296
theorem psalteryref03_Sqrt.mono_l : ∀ k, (∀ y0 y1 y2, LeO (psalteryref03_Sqrt.l0 k y0 y1 y2) (psalteryref03_Sqrt.l0 (k + 1) y0 y1 y2))
  | 0 => fun _ _ _ r h => by simp [psalteryref03_Sqrt.l0] at h
  | k + 1 => by
    have a0 := psalteryref03_Sqrt.mono_l k
    · intro y0 y1 y2
      unfold psalteryref03_Sqrt.l0
      with_reducible repeat' first
   | apply a0
   | exact LeO.refl _
   | exact LeO.none _
   | refine LeO.ite ?_ ?_
   | refine LeO.bind ?_ (fun _ => ?_)
theorem psalteryref03_Sqrt.mono : ∀ a0 k, LeO (psalteryref03_Sqrt.f k a0) (psalteryref03_Sqrt.f (k + 1) a0) := by
  intro a0 k
  have b0 := psalteryref03_Sqrt.mono_l k
  unfold psalteryref03_Sqrt.f
  with_reducible repeat' first
   | apply b0
   | exact LeO.refl _
   | exact LeO.none _
   | refine LeO.ite ?_ ?_
   | refine LeO.bind ?_ (fun _ => ?_)
set_option maxHeartbeats 8000000 in
set_option maxRecDepth 100000 in
theorem psalteryref03_Sqrt.calls (k : Nat) (a0 : Int) (r : Int) (w : World) (h : psalteryref03_Sqrt.f k a0 = some r) :
    Calls Try.prog 105 #[.int .u64 a0] w fun e w' => e = .returned (.int .u64 r) ∧ Drawn0 w w' := by
 have H : (psalteryref03_Sqrt.l0 k a0 0 4294967296) = some r := h
 clear h
 have H' := a_ H
 clear H
 go_enter Try.func105, Try.ntmps105
 go_wp2
 go_loopg [3, 4] k (fun kq v3 v4 w' => ∃ (b0 : Int) (c0 : Int), v3 = .int .u64 b0 ∧ v4 = .int .u64 c0 ∧ Aside0 (psalteryref03_Sqrt.l0 kq a0 b0 c0 = some r) ∧ Aside0 (kq ≤ k) ∧ Drawn0 w w')
 case atStart => exact ⟨(0), (4294967296), rs_, rs_, H', ⟨Nat.le_refl _⟩, dr_⟩
 case round => (
 clear H'
 obtain ⟨b0, c0, rfl, rfl, HA, d0, ⟨m1, rfl⟩⟩ := hrel
 cases gk with
 | zero => exact absurd HA.out (by simp [psalteryref03_Sqrt.l0])
 | succ k1 => (
 have H := HA.out
 clear HA
 simp only [psalteryref03_Sqrt.l0] at H
 replace H := ii_ H
 rcases H with ⟨c2, H⟩ | ⟨c2, H⟩
 {
 have e0 : decide (1 < (IntKind.u64.wrap (c0 - b0))) = true := decide_eq_true c2
 clear c2
 replace H := id_ H
 rcases H with ⟨f0, H⟩ | ⟨f0, H⟩
 {
 have H' := a_ H
 clear H
 go_wp2
 go_roundg k1
 case measure => have := d0.out; omega
 case rel => exact ⟨(IntKind.u64.wrap (Int.tdiv (IntKind.u64.wrap (b0 + c0)) 2)), (c0), rs_, rs_, H', ⟨by have := d0.out; omega⟩, dr_⟩}
 {
 have H' := a_ H
 clear H
 go_wp2
 go_roundg k1
 case measure => have := d0.out; omega
 case rel => exact ⟨(b0), (IntKind.u64.wrap (Int.tdiv (IntKind.u64.wrap (b0 + c0)) 2)), rs_, rs_, H', ⟨by have := d0.out; omega⟩, dr_⟩}}
 {
 have e0 : decide (1 < (IntKind.u64.wrap (c0 - b0))) = false := decide_eq_false c2
 clear c2
 obtain rfl := Option.some.inj H
 go_wp2
 go_ret
 exact ⟨es_, dr_⟩}))
mutual
def psalteryref10_Value.j0 : Nat → Int → Bool → Option (Int)
  | 0, _, _ => none
  | k + 1, x0, a0 => if a0 = true then (some 0) else (psalteryref10_Value.l0 k x0 1 1)
def psalteryref10_Value.l0 : Nat → Int → Int → Int → Option (Int)
  | 0, _, _, _ => none
  | k + 1, x0, x3, x4 => if x4 < x0 then (psalteryref10_Value.l0 k x0 (IntKind.u64.wrap (x3 * 2)) (wrap64 (x4 + 1))) else ((psalteryref03_Sqrt.f k x3).bind fun a0 => (some (wrap64 (a0))))
end
def psalteryref10_Value.f (k : Nat) (a0 : Int) : Option (Int) := if a0 < 1 then (psalteryref10_Value.j0 k a0 true) else (psalteryref10_Value.j0 k a0 (decide (a0 > 44)))
theorem psalteryref10_Value.mono_l : ∀ k, (∀ y0 y1, LeO (psalteryref10_Value.j0 k y0 y1) (psalteryref10_Value.j0 (k + 1) y0 y1)) ∧ (∀ y0 y1 y2, LeO (psalteryref10_Value.l0 k y0 y1 y2) (psalteryref10_Value.l0 (k + 1) y0 y1 y2))
  | 0 => ⟨fun _ _ r h => by simp [psalteryref10_Value.j0] at h, fun _ _ _ r h => by simp [psalteryref10_Value.l0] at h⟩
  | k + 1 => by
    obtain ⟨a0, b0⟩ := psalteryref10_Value.mono_l k
    refine ⟨?_, ?_⟩
    all_goals (intros; first | unfold psalteryref10_Value.j0 | unfold psalteryref10_Value.l0)
    all_goals with_reducible repeat' first
     | apply a0
     | exact b0 _ _ _
     | apply psalteryref03_Sqrt.mono
     | exact LeO.refl _
     | exact LeO.none _
     | refine LeO.ite ?_ ?_
     | refine LeO.bind ?_ (fun _ => ?_)
theorem psalteryref10_Value.mono : ∀ a0 k, LeO (psalteryref10_Value.f k a0) (psalteryref10_Value.f (k + 1) a0) := by
  intro a0 k
  obtain ⟨b0, c0⟩ := psalteryref10_Value.mono_l k
  unfold psalteryref10_Value.f
  with_reducible repeat' first
   | apply b0
   | exact c0 _ _ _
   | apply psalteryref03_Sqrt.mono
   | exact LeO.refl _
   | exact LeO.none _
   | refine LeO.ite ?_ ?_
   | refine LeO.bind ?_ (fun _ => ?_)
set_option maxHeartbeats 8000000 in
set_option maxRecDepth 100000 in
theorem psalteryref10_Value.calls (k : Nat) (a0 : Int) (r : Int) (w : World) (h : psalteryref10_Value.f k a0 = some r) :
    Calls Try.prog 89 #[.int .i64 a0] w fun e w' => e = .returned (.int .i64 r) ∧ Drawn0 w w' := by
 have H : (if a0 < 1 then (psalteryref10_Value.j0 k a0 true) else (psalteryref10_Value.j0 k a0 (decide (a0 > 44)))) = some r := h
 clear h
 have f0 := a_ H
 clear H
 go_enter Try.func89, Try.ntmps89
 go_upto_region 1 with (fail)
 go_cut [10] (fun k0 wc => ∃ (kq : Nat) (c0 : Bool), k0 = .bool c0 ∧ Aside0 (psalteryref10_Value.j0 kq a0 c0 = some r) ∧ Aside0 (kq ≤ k) ∧ Drawn0 w wc)
 case first => (
 have H := f0.out
 clear f0
 replace H := id_ H
 rcases H with ⟨d0, H⟩ | ⟨d0, H⟩
 {
 (first | rw [d0] | (simp only [i64_w, i32_w]; rw [d0]) | skip)
 have H' := a_ H
 clear H
 go_wp2
 go_meet
 case rel => exact ⟨_, (true), rs_, H', ⟨ol_⟩, dr_⟩}
 {
 (first | rw [d0] | (simp only [i64_w, i32_w]; rw [d0]) | skip)
 have H' := a_ H
 clear H
 go_wp2
 go_meet
 case rel => exact ⟨_, (decide (a0 > 44)), rs_, H', ⟨ol_⟩, dr_⟩})
 case rest => (
 clear f0
 obtain ⟨kq, c0, rfl, HA, HJ1, ⟨mc1, rfl⟩⟩ := hcut
 cases kq with
 | zero => exact absurd HA.out (by simp [psalteryref10_Value.j0])
 | succ kj1 => (
 have H := HA.out
 clear HA
 simp only [psalteryref10_Value.j0] at H
 by_cases c4 : c0 = true
 {
 subst c4
 rw [if_pos rfl] at H
 obtain rfl := Option.some.inj H
 go_wp2
 go_ret
 exact ⟨es_, dr_⟩}
 {
 replace c4 := Bool.eq_false_iff.mpr c4
 subst c4
 rw [if_neg (show ¬ (false = true) by decide)] at H
 have H' := a_ H
 clear H
 go_wp2
 go_loopg [3, 4] kj1 (fun kq v3 v4 w' => ∃ (b0 : Int) (e0 : Int), v3 = .int .u64 b0 ∧ v4 = .int .i64 e0 ∧ Aside0 (psalteryref10_Value.l0 kq a0 b0 e0 = some r) ∧ Aside0 (kq ≤ kj1) ∧ Drawn0 w w')
 case atStart => exact ⟨(1), (1), rs_, rs_, H', ⟨Nat.le_refl _⟩, dr_⟩
 case round => (
 clear H'
 try clear c4
 obtain ⟨b0, e0, rfl, rfl, HA, g0, ⟨m2, rfl⟩⟩ := hrel
 cases gk with
 | zero => exact absurd HA.out (by simp [psalteryref10_Value.l0])
 | succ k2 => (
 have H := HA.out
 clear HA
 simp only [psalteryref10_Value.l0] at H
 replace H := id_ H
 rcases H with ⟨h0, H⟩ | ⟨h0, H⟩
 {
 have H' := a_ H
 clear H
 go_wp2
 go_roundg k2
 case measure => have := HJ1.out; have := g0.out; omega
 case rel => exact ⟨(IntKind.u64.wrap (b0 * 2)), (wrap64 (e0 + 1)), rs_, rs_, H', ⟨by have := HJ1.out; have := g0.out; omega⟩, dr_⟩}
 {
 obtain ⟨i0, A6, H⟩ := ob_ H
 (try dsimp only at H)
 obtain rfl := Option.some.inj H
 go_wp2_with (first | ((with_reducible refine gate_callee (f := 105) rfl ?_); refine gL_ (some 19) Try.func105 #[.int .u64 b0] ?_; (with_reducible refine (psalteryref03_Sqrt.calls k2 b0 i0 _ A6.out).mono ?_); rintro e w' ⟨rfl, ⟨nd, rfl⟩⟩; refine ⟨_, rfl, ?_⟩))
 go_ret
 exact ⟨es_, dr_⟩}))}))
def psalteryref14_At.j0 : Nat → Int → Int → Bool → Option (Int)
  | 0, _, _, _ => none
  | k + 1, x0, x3, x4 => if x4 = true then (some x0) else (if x3 = 3 then (some 4) else (if x3 = 4 then (some 8) else (if x3 = 5 then (some 15) else (some (-1)))))
def psalteryref14_At.f (k : Nat) (a0 : Int) : Option (Int) := if a0 = 0 then (psalteryref14_At.j0 k a0 a0 (a0 == 0)) else (if a0 = 1 then (psalteryref14_At.j0 k a0 a0 (a0 == 1)) else (psalteryref14_At.j0 k a0 a0 (a0 == 2)))
theorem psalteryref14_At.mono_l : ∀ k, (∀ y0 y1 y2, LeO (psalteryref14_At.j0 k y0 y1 y2) (psalteryref14_At.j0 (k + 1) y0 y1 y2))
  | 0 => fun _ _ _ r h => by simp [psalteryref14_At.j0] at h
  | k + 1 => by
    have a0 := psalteryref14_At.mono_l k
    · intro y0 y1 y2
      unfold psalteryref14_At.j0
      with_reducible repeat' first
   | apply a0
   | exact LeO.refl _
   | exact LeO.none _
   | refine LeO.ite ?_ ?_
   | refine LeO.bind ?_ (fun _ => ?_)
theorem psalteryref14_At.mono : ∀ a0 k, LeO (psalteryref14_At.f k a0) (psalteryref14_At.f (k + 1) a0) := by
  intro a0 k
  have b0 := psalteryref14_At.mono_l k
  unfold psalteryref14_At.f
  with_reducible repeat' first
   | apply b0
   | exact LeO.refl _
   | exact LeO.none _
   | refine LeO.ite ?_ ?_
   | refine LeO.bind ?_ (fun _ => ?_)
set_option maxHeartbeats 8000000 in
set_option maxRecDepth 100000 in
theorem psalteryref14_At.calls (k : Nat) (a0 : Int) (r : Int) (w : World) (h : psalteryref14_At.f k a0 = some r) :
    Calls Try.prog 107 #[.int .i64 a0] w fun e w' => e = .returned (.int .i64 r) ∧ Drawn0 w w' := by
 have H : (if a0 = 0 then (psalteryref14_At.j0 k a0 a0 (a0 == 0)) else (if a0 = 1 then (psalteryref14_At.j0 k a0 a0 (a0 == 1)) else (psalteryref14_At.j0 k a0 a0 (a0 == 2)))) = some r := h
 clear h
 have d0 := a_ H
 clear H
 go_enter Try.func107, Try.ntmps107
 go_upto_if 4 with (fail)
 go_cut [4] (fun v4 wc => ∃ (kq : Nat) (c0 : Bool), v4 = .bool c0 ∧ Aside0 (psalteryref14_At.j0 kq a0 a0 c0 = some r) ∧ Aside0 (kq ≤ k) ∧ Drawn0 w wc)
 case first => (
 have H := d0.out
 clear d0
 replace H := ie_ H
 rcases H with ⟨b0, e0, H⟩ | ⟨c3, b0, e0, H⟩
 {
 (first | rw [b0] | (simp only [i64_w, i32_w]; rw [b0]) | skip)
 have H' := a_ H
 clear H
 go_wp2
 go_meet
 case rel => exact ⟨_, ((a0 == 0)), rs_, H', ⟨ol_⟩, dr_⟩}
 {
 (first | rw [b0] | (simp only [i64_w, i32_w]; rw [b0]) | skip)
 replace H := ie_ H
 rcases H with ⟨f0, g0, H⟩ | ⟨c4, f0, g0, H⟩
 {
 have H' := a_ H
 clear H
 go_wp2
 go_meet
 case rel => exact ⟨_, ((a0 == 1)), rs_, H', ⟨ol_⟩, dr_⟩}
 {
 have H' := a_ H
 clear H
 go_wp2
 go_meet
 case rel => exact ⟨_, ((a0 == 2)), rs_, H', ⟨ol_⟩, dr_⟩}})
 case rest => (
 clear d0
 obtain ⟨kq, c0, rfl, HA, HJ1, ⟨mc1, rfl⟩⟩ := hcut
 cases kq with
 | zero => exact absurd HA.out (by simp [psalteryref14_At.j0])
 | succ kj1 => (
 have H := HA.out
 clear HA
 simp only [psalteryref14_At.j0] at H
 by_cases c5 : c0 = true
 {
 subst c5
 rw [if_pos rfl] at H
 obtain rfl := Option.some.inj H
 go_wp2
 go_ret
 exact ⟨es_, dr_⟩}
 {
 replace c5 := Bool.eq_false_iff.mpr c5
 subst c5
 rw [if_neg (show ¬ (false = true) by decide)] at H
 replace H := ie_ H
 rcases H with ⟨h0, i0, H⟩ | ⟨c6, h0, i0, H⟩
 {
 obtain rfl := Option.some.inj H
 go_wp2
 go_ret
 exact ⟨es_, dr_⟩}
 {
 replace H := ie_ H
 rcases H with ⟨k0, l0, H⟩ | ⟨c7, k0, l0, H⟩
 {
 obtain rfl := Option.some.inj H
 go_wp2
 go_ret
 exact ⟨es_, dr_⟩}
 {
 replace H := ie_ H
 rcases H with ⟨m0, n0, H⟩ | ⟨c8, m0, n0, H⟩
 {
 obtain rfl := Option.some.inj H
 go_wp2
 go_ret
 exact ⟨es_, dr_⟩}
 {
 obtain rfl := Option.some.inj H
 go_wp2
 go_ret
 exact ⟨es_, dr_⟩}}}}))
def psalteryref14_post.l0 : Nat → Int → Int → Int → Option (Int)
  | 0, _, _, _ => none
  | k + 1, x0, x3, x4 => if x4 < 6 then ((psalteryref14_At.f k x4).bind fun a0 => (if a0 ≤ x0 then (psalteryref14_post.l0 k x0 x4 (wrap64 (x4 + 1))) else (psalteryref14_post.l0 k x0 x3 (wrap64 (x4 + 1))))) else (some x3)
def psalteryref14_post.f (k : Nat) (a0 : Int) : Option (Int) := psalteryref14_post.l0 k a0 0 0
theorem psalteryref14_post.mono_l : ∀ k, (∀ y0 y1 y2, LeO (psalteryref14_post.l0 k y0 y1 y2) (psalteryref14_post.l0 (k + 1) y0 y1 y2))
  | 0 => fun _ _ _ r h => by simp [psalteryref14_post.l0] at h
  | k + 1 => by
    have a0 := psalteryref14_post.mono_l k
    · intro y0 y1 y2
      unfold psalteryref14_post.l0
      with_reducible repeat' first
   | apply a0
   | apply psalteryref14_At.mono
   | exact LeO.refl _
   | exact LeO.none _
   | refine LeO.ite ?_ ?_
   | refine LeO.bind ?_ (fun _ => ?_)
theorem psalteryref14_post.mono : ∀ a0 k, LeO (psalteryref14_post.f k a0) (psalteryref14_post.f (k + 1) a0) := by
  intro a0 k
  have b0 := psalteryref14_post.mono_l k
  unfold psalteryref14_post.f
  with_reducible repeat' first
   | apply b0
   | apply psalteryref14_At.mono
   | exact LeO.refl _
   | exact LeO.none _
   | refine LeO.ite ?_ ?_
   | refine LeO.bind ?_ (fun _ => ?_)
set_option maxHeartbeats 8000000 in
set_option maxRecDepth 100000 in
theorem psalteryref14_post.calls (k : Nat) (a0 : Int) (r : Int) (w : World) (h : psalteryref14_post.f k a0 = some r) :
    Calls Try.prog 106 #[.int .i64 a0] w fun e w' => e = .returned (.int .i64 r) ∧ Drawn0 w w' := by
 have H : (psalteryref14_post.l0 k a0 0 0) = some r := h
 clear h
 have H' := a_ H
 clear H
 go_enter Try.func106, Try.ntmps106
 go_wp2
 go_loopg [3, 4] k (fun kq v3 v4 w' => ∃ (c0 : Int) (b0 : Int), v3 = .int .i64 c0 ∧ v4 = .int .i64 b0 ∧ Aside0 (psalteryref14_post.l0 kq a0 c0 b0 = some r) ∧ Aside0 (kq ≤ k) ∧ Drawn0 w w')
 case atStart => exact ⟨(0), (0), rs_, rs_, H', ⟨Nat.le_refl _⟩, dr_⟩
 case round => (
 clear H'
 obtain ⟨c0, b0, rfl, rfl, HA, d0, ⟨m1, rfl⟩⟩ := hrel
 cases gk with
 | zero => exact absurd HA.out (by simp [psalteryref14_post.l0])
 | succ k1 => (
 have H := HA.out
 clear HA
 simp only [psalteryref14_post.l0] at H
 replace H := id_ H
 rcases H with ⟨f0, H⟩ | ⟨f0, H⟩
 {
 obtain ⟨e0, A3, H⟩ := ob_ H
 (try dsimp only at H)
 replace H := id_ H
 rcases H with ⟨g0, H⟩ | ⟨g0, H⟩
 {
 have H' := a_ H
 clear H
 go_wp2_with (first | ((with_reducible refine gate_callee (f := 107) rfl ?_); refine gL_ (some 10) Try.func107 #[.int .i64 b0] ?_; (with_reducible refine (psalteryref14_At.calls k1 b0 e0 _ A3.out).mono ?_); rintro e w' ⟨rfl, ⟨nd, rfl⟩⟩; refine ⟨_, rfl, ?_⟩))
 go_roundg k1
 case measure => have := d0.out; omega
 case rel => exact ⟨(b0), (wrap64 (b0 + 1)), rs_, rs_, H', ⟨by have := d0.out; omega⟩, dr_⟩}
 {
 have H' := a_ H
 clear H
 go_wp2_with (first | ((with_reducible refine gate_callee (f := 107) rfl ?_); refine gL_ (some 10) Try.func107 #[.int .i64 b0] ?_; (with_reducible refine (psalteryref14_At.calls k1 b0 e0 _ A3.out).mono ?_); rintro e w' ⟨rfl, ⟨nd, rfl⟩⟩; refine ⟨_, rfl, ?_⟩))
 go_roundg k1
 case measure => have := d0.out; omega
 case rel => exact ⟨(c0), (wrap64 (b0 + 1)), rs_, rs_, H', ⟨by have := d0.out; omega⟩, dr_⟩}}
 {
 obtain rfl := Option.some.inj H
 go_wp2
 go_ret
 exact ⟨es_, dr_⟩}))
def psalteryref14_Line.f (k : Nat) (l0 : List Int) (a1 : Int) : Option (Int) := (psalteryref14_post.f k a1).bind fun a0 => (if a0 = 5 then (if 5 < (l0.length : Int) then (some (rd l0 5)) else (none)) else (if 0 ≤ (wrap64 (a0 + 1)) then (if (wrap64 (a0 + 1)) < (l0.length : Int) then (if 0 ≤ a0 then (if a0 < (l0.length : Int) then ((psalteryref14_At.f k a0).bind fun b0 => ((psalteryref14_At.f k (wrap64 (a0 + 1))).bind fun c0 => (if (wrap64 ((wrap64 ((rd l0 (wrap64 (a0 + 1))) - (rd l0 a0))) * (wrap64 (a1 - b0)))) < 0 then (if (wrap64 (c0 - b0)) = 0 then (none) else (some (wrap64 ((rd l0 a0) - (wrap64 (Int.tdiv (wrap64 (-(wrap64 ((wrap64 ((rd l0 (wrap64 (a0 + 1))) - (rd l0 a0))) * (wrap64 (a1 - b0)))))) (wrap64 (c0 - b0)))))))) else (if (wrap64 (c0 - b0)) = 0 then (none) else (some (wrap64 ((rd l0 a0) + (wrap64 (Int.tdiv (wrap64 ((wrap64 ((rd l0 (wrap64 (a0 + 1))) - (rd l0 a0))) * (wrap64 (a1 - b0)))) (wrap64 (c0 - b0))))))))))) else (none)) else (none)) else (none)) else (none)))
theorem psalteryref14_Line.mono : ∀ a0 a1 k, LeO (psalteryref14_Line.f k a0 a1) (psalteryref14_Line.f (k + 1) a0 a1) := by
  intro a0 a1 k
  unfold psalteryref14_Line.f
  with_reducible repeat' first
   | apply psalteryref14_At.mono
   | apply psalteryref14_post.mono
   | exact LeO.refl _
   | exact LeO.none _
   | refine LeO.ite ?_ ?_
   | refine LeO.bind ?_ (fun _ => ?_)
set_option maxHeartbeats 8000000 in
set_option maxRecDepth 100000 in
theorem psalteryref14_Line.calls (k : Nat) (A0 : Option Addr) (c0 : Nat) (l0 : List Int) (a1 : Int) (r : Int) (w : World) (hr0 : Kd.C (Kd.int .i64) w A0 l0.length l0) (hc0 : l0.length ≤ c0) (h : psalteryref14_Line.f k l0 a1 = some r) :
    Calls Try.prog 90 #[.slice A0 l0.length c0, .int .i64 a1] w fun e w' => e = .returned (.int .i64 r) ∧ Drawn0 w w' := by
 have k0 := a_ hr0
 have c1 := a_ hc0
 clear hr0 hc0
 have H : ((psalteryref14_post.f k a1).bind fun a0 => (if a0 = 5 then (if 5 < (l0.length : Int) then (some (rd l0 5)) else (none)) else (if 0 ≤ (wrap64 (a0 + 1)) then (if (wrap64 (a0 + 1)) < (l0.length : Int) then (if 0 ≤ a0 then (if a0 < (l0.length : Int) then ((psalteryref14_At.f k a0).bind fun b0 => ((psalteryref14_At.f k (wrap64 (a0 + 1))).bind fun j0 => (if (wrap64 ((wrap64 ((rd l0 (wrap64 (a0 + 1))) - (rd l0 a0))) * (wrap64 (a1 - b0)))) < 0 then (if (wrap64 (j0 - b0)) = 0 then (none) else (some (wrap64 ((rd l0 a0) - (wrap64 (Int.tdiv (wrap64 (-(wrap64 ((wrap64 ((rd l0 (wrap64 (a0 + 1))) - (rd l0 a0))) * (wrap64 (a1 - b0)))))) (wrap64 (j0 - b0)))))))) else (if (wrap64 (j0 - b0)) = 0 then (none) else (some (wrap64 ((rd l0 a0) + (wrap64 (Int.tdiv (wrap64 ((wrap64 ((rd l0 (wrap64 (a0 + 1))) - (rd l0 a0))) * (wrap64 (a1 - b0)))) (wrap64 (j0 - b0))))))))))) else (none)) else (none)) else (none)) else (none)))) = some r := h
 clear h
 obtain ⟨a0, A3, H⟩ := ob_ H
 (try dsimp only at H)
 replace H := ie_ H
 rcases H with ⟨P0, Q0, H⟩ | ⟨c4, P0, Q0, H⟩
 {
 replace H := gt_ H
 obtain ⟨c5, H⟩ := H
 have W0 : decide (5 < (l0.length : Int)) = true := decide_eq_true c5
 have X0 : decide (5 < l0.length) = true := decide_eq_true (by omega)
 clear c5
 obtain rfl := Option.some.inj H
 go_enter Try.func90, Try.ntmps90
 go_wp2_with (first | (go_at_call 106; (with_reducible refine (psalteryref14_post.calls k a1 a0 _ A3.out).mono ?_); rintro e w' ⟨rfl, ⟨nd, rfl⟩⟩; (try first | exact ⟨rfl, _, World.drewN_drewN _ _ _⟩ | exact ⟨rfl, _, Eq.trans (World.drewN_drewN _ _ _) (congrArg (World.drewN _) (Nat.add_assoc _ _ _))⟩); have o0 : 0 ≤ (5 : Int) := (by omega); have p0 : 5 < (l0.length : Int) := dm_; obtain ⟨L0, E0, m0⟩ := Kd.at_int k0.out 5 o0 p0; cases E0; (try simp only [show (5 : Int).toNat = 5 from rfl, Nat.reduceMul, Nat.reduceEqDiff, Go.Addr.add, ↓reduceIte] at m0); have qi754 : (5 < l0.length) = True := eq_true (by omega); (try rw [show ((5 : Int)).toNat = 5 from rfl] at m0); replace o0 := eq_true o0; replace p0 := eq_true p0))
 repeat (go_quiet (first | (go_at_call 106; (with_reducible refine (psalteryref14_post.calls k a1 a0 _ A3.out).mono ?_); rintro e w' ⟨rfl, ⟨nd, rfl⟩⟩; (try first | exact ⟨rfl, _, World.drewN_drewN _ _ _⟩ | exact ⟨rfl, _, Eq.trans (World.drewN_drewN _ _ _) (congrArg (World.drewN _) (Nat.add_assoc _ _ _))⟩); have o0 : 0 ≤ (5 : Int) := (by omega); have p0 : 5 < (l0.length : Int) := dm_; obtain ⟨L0, E0, m0⟩ := Kd.at_int k0.out 5 o0 p0; cases E0; (try simp only [show (5 : Int).toNat = 5 from rfl, Nat.reduceMul, Nat.reduceEqDiff, Go.Addr.add, ↓reduceIte] at m0); have qi754 : (5 < l0.length) = True := eq_true (by omega); (try rw [show ((5 : Int)).toNat = 5 from rfl] at m0); replace o0 := eq_true o0; replace p0 := eq_true p0)); try go_wp2_with (first | (go_at_call 106; (with_reducible refine (psalteryref14_post.calls k a1 a0 _ A3.out).mono ?_); rintro e w' ⟨rfl, ⟨nd, rfl⟩⟩; (try first | exact ⟨rfl, _, World.drewN_drewN _ _ _⟩ | exact ⟨rfl, _, Eq.trans (World.drewN_drewN _ _ _) (congrArg (World.drewN _) (Nat.add_assoc _ _ _))⟩); have o0 : 0 ≤ (5 : Int) := (by omega); have p0 : 5 < (l0.length : Int) := dm_; obtain ⟨L0, E0, m0⟩ := Kd.at_int k0.out 5 o0 p0; cases E0; (try simp only [show (5 : Int).toNat = 5 from rfl, Nat.reduceMul, Nat.reduceEqDiff, Go.Addr.add, ↓reduceIte] at m0); have qi754 : (5 < l0.length) = True := eq_true (by omega); (try rw [show ((5 : Int)).toNat = 5 from rfl] at m0); replace o0 := eq_true o0; replace p0 := eq_true p0)))
 go_ret
 exact ⟨es_, dr_⟩}
 {
 obtain ⟨d0, D0⟩ : ∃ j_ : Int, (wrap64 (a0 + 1)) = j_ := ⟨_, rfl⟩
 replace H : (if 0 ≤ (d0) then (if (d0) < (l0.length : Int) then (if 0 ≤ a0 then (if a0 < (l0.length : Int) then ((psalteryref14_At.f k a0).bind fun b0 => ((psalteryref14_At.f k (d0)).bind fun j0 => (if (wrap64 ((wrap64 ((rd l0 (d0)) - (rd l0 a0))) * (wrap64 (a1 - b0)))) < 0 then (if (wrap64 (j0 - b0)) = 0 then (none) else (some (wrap64 ((rd l0 a0) - (wrap64 (Int.tdiv (wrap64 (-(wrap64 ((wrap64 ((rd l0 (d0)) - (rd l0 a0))) * (wrap64 (a1 - b0)))))) (wrap64 (j0 - b0)))))))) else (if (wrap64 (j0 - b0)) = 0 then (none) else (some (wrap64 ((rd l0 a0) + (wrap64 (Int.tdiv (wrap64 ((wrap64 ((rd l0 (d0)) - (rd l0 a0))) * (wrap64 (a1 - b0)))) (wrap64 (j0 - b0))))))))))) else (none)) else (none)) else (none)) else (none)) = some r := by first | (rw [D0] at H; exact H) | (simp only [D0] at H ⊢; exact H)
 (try rw [D0] at A3)
 have hji6w : (IntKind.i64.wrap (a0 + 1)) = d0 := (i64_w _).trans D0
 replace H := gd_ H
 obtain ⟨Y0, H⟩ := H
 replace H := gd_ H
 obtain ⟨Z0, H⟩ := H
 replace H := gd_ H
 obtain ⟨b1, H⟩ := H
 replace H := gd_ H
 obtain ⟨R0, H⟩ := H
 obtain ⟨b0, H0, H⟩ := ob_ H
 (try dsimp only at H)
 obtain ⟨j0, I0, H⟩ := ob_ H
 (try dsimp only at H)
 replace H := id_ H
 rcases H with ⟨O0, H⟩ | ⟨O0, H⟩
 {
 replace H := ii_ H
 rcases H with ⟨M0, H⟩ | ⟨M0, H⟩
 {
 exact absurd H (by simp)}
 {
 have S0 : ((wrap64 (j0 - b0)) == 0) = false := beq_eq_false_iff_ne.mpr M0
 have T0 : ((wrap64 (j0 - b0)) != 0) = true := bne_iff_ne.mpr M0
 obtain rfl := Option.some.inj H
 go_enter Try.func90, Try.ntmps90
 go_wp2_with (first | (go_at_call 106; (with_reducible refine (psalteryref14_post.calls k a1 a0 _ A3.out).mono ?_); rintro e w' ⟨rfl, ⟨nd, rfl⟩⟩; (try first | exact ⟨rfl, _, World.drewN_drewN _ _ _⟩ | exact ⟨rfl, _, Eq.trans (World.drewN_drewN _ _ _) (congrArg (World.drewN _) (Nat.add_assoc _ _ _))⟩); have e0 : 0 ≤ ((d0) : Int) := dm_; have f0 : (d0) < (l0.length : Int) := dm_; obtain ⟨i0, q0, y0⟩ := Kd.at_int k0.out (d0) e0 f0; cases q0; replace e0 := eq_true e0; replace f0 := eq_true f0; have g0 : 0 ≤ (a0 : Int) := dm_; have h0 : a0 < (l0.length : Int) := dm_; obtain ⟨n0, r0, z0⟩ := Kd.at_int k0.out a0 g0 h0; obtain rfl : i0 = n0 := (by injection r0); replace g0 := eq_true g0; replace h0 := eq_true h0) | (go_at_call 107; (with_reducible refine (psalteryref14_At.calls k a0 b0 _ H0.out).mono ?_); rintro e w' ⟨rfl, ⟨nd, rfl⟩⟩; (try first | exact ⟨rfl, _, World.drewN_drewN _ _ _⟩ | exact ⟨rfl, _, Eq.trans (World.drewN_drewN _ _ _) (congrArg (World.drewN _) (Nat.add_assoc _ _ _))⟩)) | (go_at_call 107; (with_reducible refine (psalteryref14_At.calls k d0 j0 _ I0.out).mono ?_); rintro e w' ⟨rfl, ⟨nd, rfl⟩⟩; (try first | exact ⟨rfl, _, World.drewN_drewN _ _ _⟩ | exact ⟨rfl, _, Eq.trans (World.drewN_drewN _ _ _) (congrArg (World.drewN _) (Nat.add_assoc _ _ _))⟩); have s0 : 0 ≤ (a0 : Int) := dm_; have t0 : a0 < (l0.length : Int) := dm_; obtain ⟨B0, F0, J0⟩ := Kd.at_int k0.out a0 s0 t0; obtain rfl : i0 = B0 := (by injection F0); replace s0 := eq_true s0; replace t0 := eq_true t0))
 repeat (go_quiet (first | (go_at_call 106; (with_reducible refine (psalteryref14_post.calls k a1 a0 _ A3.out).mono ?_); rintro e w' ⟨rfl, ⟨nd, rfl⟩⟩; (try first | exact ⟨rfl, _, World.drewN_drewN _ _ _⟩ | exact ⟨rfl, _, Eq.trans (World.drewN_drewN _ _ _) (congrArg (World.drewN _) (Nat.add_assoc _ _ _))⟩); have e0 : 0 ≤ ((d0) : Int) := dm_; have f0 : (d0) < (l0.length : Int) := dm_; obtain ⟨i0, q0, y0⟩ := Kd.at_int k0.out (d0) e0 f0; cases q0; replace e0 := eq_true e0; replace f0 := eq_true f0; have g0 : 0 ≤ (a0 : Int) := dm_; have h0 : a0 < (l0.length : Int) := dm_; obtain ⟨n0, r0, z0⟩ := Kd.at_int k0.out a0 g0 h0; obtain rfl : i0 = n0 := (by injection r0); replace g0 := eq_true g0; replace h0 := eq_true h0) | (go_at_call 107; (with_reducible refine (psalteryref14_At.calls k a0 b0 _ H0.out).mono ?_); rintro e w' ⟨rfl, ⟨nd, rfl⟩⟩; (try first | exact ⟨rfl, _, World.drewN_drewN _ _ _⟩ | exact ⟨rfl, _, Eq.trans (World.drewN_drewN _ _ _) (congrArg (World.drewN _) (Nat.add_assoc _ _ _))⟩)) | (go_at_call 107; (with_reducible refine (psalteryref14_At.calls k d0 j0 _ I0.out).mono ?_); rintro e w' ⟨rfl, ⟨nd, rfl⟩⟩; (try first | exact ⟨rfl, _, World.drewN_drewN _ _ _⟩ | exact ⟨rfl, _, Eq.trans (World.drewN_drewN _ _ _) (congrArg (World.drewN _) (Nat.add_assoc _ _ _))⟩); have s0 : 0 ≤ (a0 : Int) := dm_; have t0 : a0 < (l0.length : Int) := dm_; obtain ⟨B0, F0, J0⟩ := Kd.at_int k0.out a0 s0 t0; obtain rfl : i0 = B0 := (by injection F0); replace s0 := eq_true s0; replace t0 := eq_true t0)); try go_wp2_with (first | (go_at_call 106; (with_reducible refine (psalteryref14_post.calls k a1 a0 _ A3.out).mono ?_); rintro e w' ⟨rfl, ⟨nd, rfl⟩⟩; (try first | exact ⟨rfl, _, World.drewN_drewN _ _ _⟩ | exact ⟨rfl, _, Eq.trans (World.drewN_drewN _ _ _) (congrArg (World.drewN _) (Nat.add_assoc _ _ _))⟩); have e0 : 0 ≤ ((d0) : Int) := dm_; have f0 : (d0) < (l0.length : Int) := dm_; obtain ⟨i0, q0, y0⟩ := Kd.at_int k0.out (d0) e0 f0; cases q0; replace e0 := eq_true e0; replace f0 := eq_true f0; have g0 : 0 ≤ (a0 : Int) := dm_; have h0 : a0 < (l0.length : Int) := dm_; obtain ⟨n0, r0, z0⟩ := Kd.at_int k0.out a0 g0 h0; obtain rfl : i0 = n0 := (by injection r0); replace g0 := eq_true g0; replace h0 := eq_true h0) | (go_at_call 107; (with_reducible refine (psalteryref14_At.calls k a0 b0 _ H0.out).mono ?_); rintro e w' ⟨rfl, ⟨nd, rfl⟩⟩; (try first | exact ⟨rfl, _, World.drewN_drewN _ _ _⟩ | exact ⟨rfl, _, Eq.trans (World.drewN_drewN _ _ _) (congrArg (World.drewN _) (Nat.add_assoc _ _ _))⟩)) | (go_at_call 107; (with_reducible refine (psalteryref14_At.calls k d0 j0 _ I0.out).mono ?_); rintro e w' ⟨rfl, ⟨nd, rfl⟩⟩; (try first | exact ⟨rfl, _, World.drewN_drewN _ _ _⟩ | exact ⟨rfl, _, Eq.trans (World.drewN_drewN _ _ _) (congrArg (World.drewN _) (Nat.add_assoc _ _ _))⟩); have s0 : 0 ≤ (a0 : Int) := dm_; have t0 : a0 < (l0.length : Int) := dm_; obtain ⟨B0, F0, J0⟩ := Kd.at_int k0.out a0 s0 t0; obtain rfl : i0 = B0 := (by injection F0); replace s0 := eq_true s0; replace t0 := eq_true t0)))
 go_ret
 exact ⟨by first | rfl | (simp; done) | (simp only [← D0] <;> (first | rfl | simp)) | (simp [*]; done), dr_⟩}}
 {
 replace H := ii_ H
 rcases H with ⟨N0, H⟩ | ⟨N0, H⟩
 {
 exact absurd H (by simp)}
 {
 have U0 : ((wrap64 (j0 - b0)) == 0) = false := beq_eq_false_iff_ne.mpr N0
 have V0 : ((wrap64 (j0 - b0)) != 0) = true := bne_iff_ne.mpr N0
 obtain rfl := Option.some.inj H
 go_enter Try.func90, Try.ntmps90
 go_wp2_with (first | (go_at_call 106; (with_reducible refine (psalteryref14_post.calls k a1 a0 _ A3.out).mono ?_); rintro e w' ⟨rfl, ⟨nd, rfl⟩⟩; (try first | exact ⟨rfl, _, World.drewN_drewN _ _ _⟩ | exact ⟨rfl, _, Eq.trans (World.drewN_drewN _ _ _) (congrArg (World.drewN _) (Nat.add_assoc _ _ _))⟩); have e0 : 0 ≤ ((d0) : Int) := dm_; have f0 : (d0) < (l0.length : Int) := dm_; obtain ⟨i0, q0, y0⟩ := Kd.at_int k0.out (d0) e0 f0; cases q0; replace e0 := eq_true e0; replace f0 := eq_true f0; have g0 : 0 ≤ (a0 : Int) := dm_; have h0 : a0 < (l0.length : Int) := dm_; obtain ⟨n0, r0, z0⟩ := Kd.at_int k0.out a0 g0 h0; obtain rfl : i0 = n0 := (by injection r0); replace g0 := eq_true g0; replace h0 := eq_true h0) | (go_at_call 107; (with_reducible refine (psalteryref14_At.calls k a0 b0 _ H0.out).mono ?_); rintro e w' ⟨rfl, ⟨nd, rfl⟩⟩; (try first | exact ⟨rfl, _, World.drewN_drewN _ _ _⟩ | exact ⟨rfl, _, Eq.trans (World.drewN_drewN _ _ _) (congrArg (World.drewN _) (Nat.add_assoc _ _ _))⟩)) | (go_at_call 107; (with_reducible refine (psalteryref14_At.calls k d0 j0 _ I0.out).mono ?_); rintro e w' ⟨rfl, ⟨nd, rfl⟩⟩; (try first | exact ⟨rfl, _, World.drewN_drewN _ _ _⟩ | exact ⟨rfl, _, Eq.trans (World.drewN_drewN _ _ _) (congrArg (World.drewN _) (Nat.add_assoc _ _ _))⟩); have v0 : 0 ≤ (a0 : Int) := dm_; have w0 : a0 < (l0.length : Int) := dm_; obtain ⟨C0, G0, K0⟩ := Kd.at_int k0.out a0 v0 w0; obtain rfl : i0 = C0 := (by injection G0); replace v0 := eq_true v0; replace w0 := eq_true w0))
 repeat (go_quiet (first | (go_at_call 106; (with_reducible refine (psalteryref14_post.calls k a1 a0 _ A3.out).mono ?_); rintro e w' ⟨rfl, ⟨nd, rfl⟩⟩; (try first | exact ⟨rfl, _, World.drewN_drewN _ _ _⟩ | exact ⟨rfl, _, Eq.trans (World.drewN_drewN _ _ _) (congrArg (World.drewN _) (Nat.add_assoc _ _ _))⟩); have e0 : 0 ≤ ((d0) : Int) := dm_; have f0 : (d0) < (l0.length : Int) := dm_; obtain ⟨i0, q0, y0⟩ := Kd.at_int k0.out (d0) e0 f0; cases q0; replace e0 := eq_true e0; replace f0 := eq_true f0; have g0 : 0 ≤ (a0 : Int) := dm_; have h0 : a0 < (l0.length : Int) := dm_; obtain ⟨n0, r0, z0⟩ := Kd.at_int k0.out a0 g0 h0; obtain rfl : i0 = n0 := (by injection r0); replace g0 := eq_true g0; replace h0 := eq_true h0) | (go_at_call 107; (with_reducible refine (psalteryref14_At.calls k a0 b0 _ H0.out).mono ?_); rintro e w' ⟨rfl, ⟨nd, rfl⟩⟩; (try first | exact ⟨rfl, _, World.drewN_drewN _ _ _⟩ | exact ⟨rfl, _, Eq.trans (World.drewN_drewN _ _ _) (congrArg (World.drewN _) (Nat.add_assoc _ _ _))⟩)) | (go_at_call 107; (with_reducible refine (psalteryref14_At.calls k d0 j0 _ I0.out).mono ?_); rintro e w' ⟨rfl, ⟨nd, rfl⟩⟩; (try first | exact ⟨rfl, _, World.drewN_drewN _ _ _⟩ | exact ⟨rfl, _, Eq.trans (World.drewN_drewN _ _ _) (congrArg (World.drewN _) (Nat.add_assoc _ _ _))⟩); have v0 : 0 ≤ (a0 : Int) := dm_; have w0 : a0 < (l0.length : Int) := dm_; obtain ⟨C0, G0, K0⟩ := Kd.at_int k0.out a0 v0 w0; obtain rfl : i0 = C0 := (by injection G0); replace v0 := eq_true v0; replace w0 := eq_true w0)); try go_wp2_with (first | (go_at_call 106; (with_reducible refine (psalteryref14_post.calls k a1 a0 _ A3.out).mono ?_); rintro e w' ⟨rfl, ⟨nd, rfl⟩⟩; (try first | exact ⟨rfl, _, World.drewN_drewN _ _ _⟩ | exact ⟨rfl, _, Eq.trans (World.drewN_drewN _ _ _) (congrArg (World.drewN _) (Nat.add_assoc _ _ _))⟩); have e0 : 0 ≤ ((d0) : Int) := dm_; have f0 : (d0) < (l0.length : Int) := dm_; obtain ⟨i0, q0, y0⟩ := Kd.at_int k0.out (d0) e0 f0; cases q0; replace e0 := eq_true e0; replace f0 := eq_true f0; have g0 : 0 ≤ (a0 : Int) := dm_; have h0 : a0 < (l0.length : Int) := dm_; obtain ⟨n0, r0, z0⟩ := Kd.at_int k0.out a0 g0 h0; obtain rfl : i0 = n0 := (by injection r0); replace g0 := eq_true g0; replace h0 := eq_true h0) | (go_at_call 107; (with_reducible refine (psalteryref14_At.calls k a0 b0 _ H0.out).mono ?_); rintro e w' ⟨rfl, ⟨nd, rfl⟩⟩; (try first | exact ⟨rfl, _, World.drewN_drewN _ _ _⟩ | exact ⟨rfl, _, Eq.trans (World.drewN_drewN _ _ _) (congrArg (World.drewN _) (Nat.add_assoc _ _ _))⟩)) | (go_at_call 107; (with_reducible refine (psalteryref14_At.calls k d0 j0 _ I0.out).mono ?_); rintro e w' ⟨rfl, ⟨nd, rfl⟩⟩; (try first | exact ⟨rfl, _, World.drewN_drewN _ _ _⟩ | exact ⟨rfl, _, Eq.trans (World.drewN_drewN _ _ _) (congrArg (World.drewN _) (Nat.add_assoc _ _ _))⟩); have v0 : 0 ≤ (a0 : Int) := dm_; have w0 : a0 < (l0.length : Int) := dm_; obtain ⟨C0, G0, K0⟩ := Kd.at_int k0.out a0 v0 w0; obtain rfl : i0 = C0 := (by injection G0); replace v0 := eq_true v0; replace w0 := eq_true w0)))
 go_ret
 exact ⟨by first | rfl | (simp; done) | (simp only [← D0] <;> (first | rfl | simp)) | (simp [*]; done), dr_⟩}}}
def psalteryref14_Floor.f (k : Nat) (l0 : List Int) (a1 : Int) : Option (Int) := (psalteryref14_Line.f k l0 a1).bind fun b0 => ((psalteryref10_Value.f k b0).bind fun a0 => (if a0 < 1 then (some 1) else (some a0)))
theorem psalteryref14_Floor.mono : ∀ a0 a1 k, LeO (psalteryref14_Floor.f k a0 a1) (psalteryref14_Floor.f (k + 1) a0 a1) := by
  intro a0 a1 k
  unfold psalteryref14_Floor.f
  with_reducible repeat' first
   | apply psalteryref10_Value.mono
   | apply psalteryref14_Line.mono
   | exact LeO.refl _
   | exact LeO.none _
   | refine LeO.ite ?_ ?_
   | refine LeO.bind ?_ (fun _ => ?_)
set_option maxHeartbeats 8000000 in
set_option maxRecDepth 100000 in
theorem psalteryref14_Floor.calls (k : Nat) (A0 : Option Addr) (c0 : Nat) (l0 : List Int) (a1 : Int) (r : Int) (w : World) (hr0 : Kd.C (Kd.int .i64) w A0 l0.length l0) (hc0 : l0.length ≤ c0) (h : psalteryref14_Floor.f k l0 a1 = some r) :
    Calls Try.prog 60 #[.slice A0 l0.length c0, .int .i64 a1] w fun e w' => e = .returned (.int .i64 r) ∧ Drawn0 w w' := by
 have d0 := a_ hr0
 have e0 := a_ hc0
 clear hr0 hc0
 have H : ((psalteryref14_Line.f k l0 a1).bind fun a0 => ((psalteryref10_Value.f k a0).bind fun b0 => (if b0 < 1 then (some 1) else (some b0)))) = some r := h
 clear h
 obtain ⟨a0, A3, H⟩ := ob_ H
 (try dsimp only at H)
 obtain ⟨b0, A4, H⟩ := ob_ H
 (try dsimp only at H)
 replace H := id_ H
 rcases H with ⟨f0, H⟩ | ⟨f0, H⟩
 {
 obtain rfl := Option.some.inj H
 go_enter Try.func60, Try.ntmps60
 go_wp2_with (first | ((with_reducible refine gate_callee (f := 90) rfl ?_); refine gL_ (some 8) Try.func90 #[.slice A0 l0.length c0, .int .i64 a1] ?_; (with_reducible refine (psalteryref14_Line.calls k _ _ l0 a1 a0 _ ?side1 ?side2 A3.out).mono ?_); (case side1 => repeat (first | exact d0.out | (with_reducible refine Kd.C_alloc ?_ _) | (with_reducible refine Kd.C_drewN ?_ _) | (with_reducible refine Kd.C_drew ?_))); (case side2 => exact e0.out); rintro e w' ⟨rfl, ⟨nd, rfl⟩⟩; refine ⟨_, rfl, ?_⟩) | ((with_reducible refine gate_callee (f := 89) rfl ?_); refine gL_ (some 9) Try.func89 #[.int .i64 a0] ?_; (with_reducible refine (psalteryref10_Value.calls k a0 b0 _ A4.out).mono ?_); rintro e w' ⟨rfl, ⟨nd, rfl⟩⟩; refine ⟨_, rfl, ?_⟩))
 go_ret
 exact ⟨es_, dr_⟩}
 {
 obtain rfl := Option.some.inj H
 go_enter Try.func60, Try.ntmps60
 go_wp2_with (first | ((with_reducible refine gate_callee (f := 90) rfl ?_); refine gL_ (some 8) Try.func90 #[.slice A0 l0.length c0, .int .i64 a1] ?_; (with_reducible refine (psalteryref14_Line.calls k _ _ l0 a1 a0 _ ?side1 ?side2 A3.out).mono ?_); (case side1 => repeat (first | exact d0.out | (with_reducible refine Kd.C_alloc ?_ _) | (with_reducible refine Kd.C_drewN ?_ _) | (with_reducible refine Kd.C_drew ?_))); (case side2 => exact e0.out); rintro e w' ⟨rfl, ⟨nd, rfl⟩⟩; refine ⟨_, rfl, ?_⟩) | ((with_reducible refine gate_callee (f := 89) rfl ?_); refine gL_ (some 9) Try.func89 #[.int .i64 a0] ?_; (with_reducible refine (psalteryref10_Value.calls k a0 b0 _ A4.out).mono ?_); rintro e w' ⟨rfl, ⟨nd, rfl⟩⟩; refine ⟨_, rfl, ?_⟩))
 go_ret
 exact ⟨es_, dr_⟩}
def psalteryref22_Floors.l0 : Nat → List Int → List Int → Int → Option (List Int)
  | 0, _, _, _ => none
  | k + 1, x0, x3, x4 => if x4 < 16 then ((psalteryref14_Floor.f k x0 x4).bind fun a0 => (if x3.length < 17592186044416 then (psalteryref22_Floors.l0 k x0 (x3 ++ [a0]) (wrap64 (x4 + 1))) else (none))) else (some x3)
def psalteryref22_Floors.f (k : Nat) (l0 : List Int) : Option (List Int) := psalteryref22_Floors.l0 k l0 ([] : List Int) 0
theorem psalteryref22_Floors.mono_l : ∀ k, (∀ y0 y1 y2, LeO (psalteryref22_Floors.l0 k y0 y1 y2) (psalteryref22_Floors.l0 (k + 1) y0 y1 y2))
  | 0 => fun _ _ _ r h => by simp [psalteryref22_Floors.l0] at h
  | k + 1 => by
    have a0 := psalteryref22_Floors.mono_l k
    · intro y0 y1 y2
      unfold psalteryref22_Floors.l0
      with_reducible repeat' first
   | apply a0
   | apply psalteryref14_Floor.mono
   | exact LeO.refl _
   | exact LeO.none _
   | refine LeO.ite ?_ ?_
   | refine LeO.bind ?_ (fun _ => ?_)
theorem psalteryref22_Floors.mono : ∀ a0 k, LeO (psalteryref22_Floors.f k a0) (psalteryref22_Floors.f (k + 1) a0) := by
  intro a0 k
  have b0 := psalteryref22_Floors.mono_l k
  unfold psalteryref22_Floors.f
  with_reducible repeat' first
   | apply b0
   | apply psalteryref14_Floor.mono
   | exact LeO.refl _
   | exact LeO.none _
   | refine LeO.ite ?_ ?_
   | refine LeO.bind ?_ (fun _ => ?_)
set_option maxHeartbeats 8000000 in
set_option maxRecDepth 100000 in
theorem psalteryref22_Floors.calls (k : Nat) (A0 : Option Addr) (c0 : Nat) (l0 : List Int) (r : List Int) (w : World) (hr0 : Kd.C (Kd.int .i64) w A0 l0.length l0) (hc0 : l0.length ≤ c0) (h : psalteryref22_Floors.f k l0 = some r) :
    Calls Try.prog 26 #[.slice A0 l0.length c0] w fun e w' => ∃ v0_ : Value, e = .returned (v0_) ∧ Kd.R (Kd.int .i64) 2 w' w.heap.size (fun _ => True) v0_ r ∧ Below w.heap.size w w' := by
 have n0 := a_ hr0
 have o0 := a_ hc0
 clear hr0 hc0
 have HB := a_ (Below.refl w.heap.size w)
 have H : (psalteryref22_Floors.l0 k l0 ([] : List Int) 0) = some r := h
 clear h
 have H' := a_ H
 clear H
 go_enter Try.func26, Try.ntmps26
 go_wp2
 go_loopg [3, 4] k (fun kq v3 v4 w' => ∃ (d0 : List Int) (a0 : Int), v4 = .int .i64 a0 ∧ Aside0 (psalteryref22_Floors.l0 kq l0 d0 a0 = some r) ∧ Aside0 (kq ≤ k) ∧ Aside0 (Kd.R (Kd.int .i64) 2 w' w.heap.size (fun _ => True) v3 d0) ∧ Aside0 (Below w.heap.size w w'))
 case atStart => exact ⟨(([] : List Int)), (0), rs_, H', ⟨Nat.le_refl _⟩, ⟨kn_⟩, ⟨bl_ HB⟩⟩
 case round => (
 clear H'
 obtain ⟨d0, a0, rfl, HA, i0, f0, HB⟩ := hrel
 cases gk with
 | zero => exact absurd HA.out (by simp [psalteryref22_Floors.l0])
 | succ k1 => (
 have H := HA.out
 clear HA
 simp only [psalteryref22_Floors.l0] at H
 replace H := id_ H
 rcases H with ⟨j0, H⟩ | ⟨j0, H⟩
 {
 obtain ⟨e0, A3, H⟩ := ob_ H
 (try dsimp only at H)
 replace H := gt_ H
 obtain ⟨c4, H⟩ := H
 have k0 := a_ c4
 clear c4
 obtain ⟨m0, b0⟩ : ∃ y_ : List Int, y_ = (d0 ++ [e0]) := ⟨_, rfl⟩
 first | replace H := by_ H b0 | rw [← b0] at H
 have g0 := a_ b0
 clear b0
 have H' := a_ H
 clear H
 go_wp2_with (first | ((with_reducible refine gate_callee (f := 60) rfl ?_); refine gL_ (some 12) Try.func60 #[.slice A0 l0.length c0, .int .i64 a0] ?_; (with_reducible refine (psalteryref14_Floor.calls k1 _ _ l0 a0 e0 _ ?side1 ?side2 A3.out).mono ?_); (case side1 => exact kC_ n0 HB); (case side2 => exact o0.out); rintro e w' ⟨rfl, ⟨nd, rfl⟩⟩; refine ⟨_, rfl, ?_⟩) | ((with_reducible refine gate_builtin (b := .append) (xs := #[.tmp 9, .tmp 13]) rfl ?_); at_builtin; refine Kd.R_append (Kd.int .i64) (w0 := w) w.heap.size rfl (.tmp 9) (.tmp 13) 53 2 (.int .i64 0) 8 rfl Try.underlying53 info2 rfl (by decide) (by omega) u3 d0 e0 [.int .i64 e0] (fun _ => True) (fun _ => False) rfl rfl ?aP (fun _ hk => hk.elim) ?aF ?aO ?aB ?aS ?aL ?_; (case aP => exact rfl); (case aB => exact (bl_ HB)); (case aF => exact (fun _ _ => trivial)); (case aO => exact (kR_ f0)); (case aS => exact (bs_ HB)); (case aL => have := k0.out; omega); intro p0 w5 ho hb hg hat; rw [← g0.out] at ho; replace HB := a_ (hb); have h0 := a_ (ho); clear f0; clear ho hb hg hat))
 go_roundg k1
 case measure => have := i0.out; omega
 case rel => exact ⟨(m0), (wrap64 (a0 + 1)), rs_, H', ⟨by have := i0.out; omega⟩, ⟨kR_ h0⟩, ⟨bl_ HB⟩⟩}
 {
 obtain rfl := Option.some.inj H
 go_wp2
 go_ret
 exact ⟨_, er_, kR_ f0, bl_ HB⟩}))
mutual
def psalteryref22_Settled.l0 : Nat → List Int → Int → Option (Int)
  | 0, _, _ => none
  | k + 1, x0, x5 => if x5 ≥ 0 then (if 0 ≤ x5 then (if x5 < (x0.length : Int) then (if (rd x0 x5) > 0 then (some x5) else (psalteryref22_Settled.l0 k x0 (wrap64 (x5 - 1)))) else (none)) else (none)) else (psalteryref22_Settled.l1 k x0 0)
def psalteryref22_Settled.l1 : Nat → List Int → Int → Option (Int)
  | 0, _, _ => none
  | k + 1, x0, x6 => if x6 < (x0.length : Int) then (if 0 ≤ x6 then (if (rd x0 x6) > 0 then (some x6) else (psalteryref22_Settled.l1 k x0 (wrap64 (x6 + 1)))) else (none)) else (some 0)
end
def psalteryref22_Settled.f (k : Nat) (l0 : List Int) (a1 : Int) : Option (Int) := psalteryref22_Settled.l0 k l0 a1
theorem psalteryref22_Settled.mono_l : ∀ k, (∀ y0 y1, LeO (psalteryref22_Settled.l0 k y0 y1) (psalteryref22_Settled.l0 (k + 1) y0 y1)) ∧ (∀ y0 y1, LeO (psalteryref22_Settled.l1 k y0 y1) (psalteryref22_Settled.l1 (k + 1) y0 y1))
  | 0 => ⟨fun _ _ r h => by simp [psalteryref22_Settled.l0] at h, fun _ _ r h => by simp [psalteryref22_Settled.l1] at h⟩
  | k + 1 => by
    obtain ⟨a0, b0⟩ := psalteryref22_Settled.mono_l k
    refine ⟨?_, ?_⟩
    all_goals (intros; first | unfold psalteryref22_Settled.l0 | unfold psalteryref22_Settled.l1)
    all_goals with_reducible repeat' first
     | apply a0
     | exact b0 _ _
     | exact LeO.refl _
     | exact LeO.none _
     | refine LeO.ite ?_ ?_
     | refine LeO.bind ?_ (fun _ => ?_)
theorem psalteryref22_Settled.mono : ∀ a0 a1 k, LeO (psalteryref22_Settled.f k a0 a1) (psalteryref22_Settled.f (k + 1) a0 a1) := by
  intro a0 a1 k
  obtain ⟨b0, c0⟩ := psalteryref22_Settled.mono_l k
  unfold psalteryref22_Settled.f
  with_reducible repeat' first
   | apply b0
   | exact c0 _ _
   | exact LeO.refl _
   | exact LeO.none _
   | refine LeO.ite ?_ ?_
   | refine LeO.bind ?_ (fun _ => ?_)
set_option maxHeartbeats 8000000 in
set_option maxRecDepth 100000 in
theorem psalteryref22_Settled.calls (k : Nat) (A0 : Option Addr) (c0 : Nat) (l0 : List Int) (a1 : Int) (r : Int) (w : World) (hr0 : Kd.C (Kd.int .i64) w A0 l0.length l0) (hc0 : l0.length ≤ c0) (h : psalteryref22_Settled.f k l0 a1 = some r) :
    Calls Try.prog 61 #[.slice A0 l0.length c0, .int .i64 a1] w fun e w' => e = .returned (.int .i64 r) ∧ Drawn0 w w' := by
 have j0 := a_ hr0
 have B0 := a_ hc0
 clear hr0 hc0
 have H : (psalteryref22_Settled.l0 k l0 a1) = some r := h
 clear h
 have H' := a_ H
 clear H
 go_enter Try.func61, Try.ntmps61
 go_wp2
 go_loopg [5] k (fun kq v5 w' => ∃ (a0 : Int), v5 = .int .i64 a0 ∧ Aside0 (psalteryref22_Settled.l0 kq l0 a0 = some r) ∧ Aside0 (kq ≤ k) ∧ Drawn0 w w')
 case atStart => exact ⟨(a1), rs_, H', ⟨Nat.le_refl _⟩, dr_⟩
 case round => (
 clear H'
 obtain ⟨a0, rfl, HA, k0, ⟨m1, rfl⟩⟩ := hrel
 cases gk with
 | zero => exact absurd HA.out (by simp [psalteryref22_Settled.l0])
 | succ k1 => (
 have H := HA.out
 clear HA
 simp only [psalteryref22_Settled.l0] at H
 replace H := ii_ H
 rcases H with ⟨c3, H⟩ | ⟨c3, H⟩
 {
 have o0 : decide (0 ≤ a0) = true := decide_eq_true c3
 clear c3
 replace H := gd_ H
 obtain ⟨w0, H⟩ := H
 replace H := gd_ H
 obtain ⟨y0, H⟩ := H
 replace H := ii_ H
 rcases H with ⟨c6, H⟩ | ⟨c6, H⟩
 {
 have s0 : decide (0 < (rd l0 a0)) = true := decide_eq_true c6
 clear c6
 obtain rfl := Option.some.inj H
 have d0 : 0 ≤ (a0 : Int) := dm_
 have e0 : a0 < (l0.length : Int) := dm_
 obtain ⟨p0, h0, m0⟩ := Kd.at_int j0.out a0 d0 e0
 cases h0
 replace d0 := eq_true d0
 replace e0 := eq_true e0
 go_wp2
 go_ret
 exact ⟨es_, dr_⟩}
 {
 have s0 : decide (0 < (rd l0 a0)) = false := decide_eq_false c6
 clear c6
 have H' := a_ H
 clear H
 have d0 : 0 ≤ (a0 : Int) := dm_
 have e0 : a0 < (l0.length : Int) := dm_
 obtain ⟨p0, h0, m0⟩ := Kd.at_int j0.out a0 d0 e0
 cases h0
 replace d0 := eq_true d0
 replace e0 := eq_true e0
 go_wp2
 go_roundg k1
 case measure => have := k0.out; omega
 case rel => exact ⟨(wrap64 (a0 - 1)), rs_, H', ⟨by have := k0.out; omega⟩, dr_⟩}}
 {
 have o0 : decide (0 ≤ a0) = false := decide_eq_false c3
 clear c3
 have H' := a_ H
 clear H
 go_wp2
 go_loopg [6] k1 (fun kq v6 w' => ∃ (b0 : Int), v6 = .int .i64 b0 ∧ Aside0 (psalteryref22_Settled.l1 kq l0 b0 = some r) ∧ Aside0 (kq ≤ k1) ∧ Drawn0 w w')
 case atStart => exact ⟨(0), rs_, H', ⟨Nat.le_refl _⟩, dr_⟩
 case round => (
 clear H'
 try clear c3
 try clear o0
 obtain ⟨b0, rfl, HA, r0, ⟨m2, rfl⟩⟩ := hrel
 cases gk with
 | zero => exact absurd HA.out (by simp [psalteryref22_Settled.l1])
 | succ k2 => (
 have H := HA.out
 clear HA
 simp only [psalteryref22_Settled.l1] at H
 replace H := id_ H
 rcases H with ⟨t0, H⟩ | ⟨t0, H⟩
 {
 replace H := gd_ H
 obtain ⟨z0, H⟩ := H
 replace H := ii_ H
 rcases H with ⟨c9, H⟩ | ⟨c9, H⟩
 {
 have v0 : decide (0 < (rd l0 b0)) = true := decide_eq_true c9
 clear c9
 obtain rfl := Option.some.inj H
 have f0 : 0 ≤ (b0 : Int) := dm_
 have g0 : b0 < (l0.length : Int) := dm_
 obtain ⟨q0, i0, n0⟩ := Kd.at_int j0.out b0 f0 g0
 cases i0
 replace f0 := eq_true f0
 replace g0 := eq_true g0
 go_wp2
 go_ret
 exact ⟨es_, dr_⟩}
 {
 have v0 : decide (0 < (rd l0 b0)) = false := decide_eq_false c9
 clear c9
 have H' := a_ H
 clear H
 have f0 : 0 ≤ (b0 : Int) := dm_
 have g0 : b0 < (l0.length : Int) := dm_
 obtain ⟨q0, i0, n0⟩ := Kd.at_int j0.out b0 f0 g0
 cases i0
 replace f0 := eq_true f0
 replace g0 := eq_true g0
 go_wp2
 go_roundg k2
 case measure => have := k0.out; have := r0.out; omega
 case rel => exact ⟨(wrap64 (b0 + 1)), rs_, H', ⟨by have := k0.out; have := r0.out; omega⟩, dr_⟩}}
 {
 obtain rfl := Option.some.inj H
 go_wp2
 go_ret
 exact ⟨es_, dr_⟩}))}))
def psalteryref14_Fit.j0 : Nat → Int → Int → Option (Int)
  | 0, _, _ => none
  | k + 1, x1, x7 => if (wrap64 ((wrap64 (x7 - 13)) + x1)) < 0 then (some 0) else (if (wrap64 ((wrap64 (x7 - 13)) + x1)) > 44 then (some 44) else (some (wrap64 ((wrap64 (x7 - 13)) + x1))))
def psalteryref14_Fit.f (k : Nat) (l0 : List Int) (a1 : Int) (a2 : Int) : Option (Int) := if a1 = 0 then (some 0) else (if 4 < (l0.length : Int) then (if a2 < 4 then (if 0 ≤ a2 then (if a2 < (l0.length : Int) then (psalteryref14_Fit.j0 k a1 (rd l0 a2)) else (none)) else (none)) else (psalteryref14_Fit.j0 k a1 (rd l0 4))) else (none))
theorem psalteryref14_Fit.mono_l : ∀ k, (∀ y0 y1, LeO (psalteryref14_Fit.j0 k y0 y1) (psalteryref14_Fit.j0 (k + 1) y0 y1))
  | 0 => fun _ _ r h => by simp [psalteryref14_Fit.j0] at h
  | k + 1 => by
    have a0 := psalteryref14_Fit.mono_l k
    · intro y0 y1
      unfold psalteryref14_Fit.j0
      with_reducible repeat' first
   | apply a0
   | exact LeO.refl _
   | exact LeO.none _
   | refine LeO.ite ?_ ?_
   | refine LeO.bind ?_ (fun _ => ?_)
theorem psalteryref14_Fit.mono : ∀ a0 a1 a2 k, LeO (psalteryref14_Fit.f k a0 a1 a2) (psalteryref14_Fit.f (k + 1) a0 a1 a2) := by
  intro a0 a1 a2 k
  have b0 := psalteryref14_Fit.mono_l k
  unfold psalteryref14_Fit.f
  with_reducible repeat' first
   | apply b0
   | exact LeO.refl _
   | exact LeO.none _
   | refine LeO.ite ?_ ?_
   | refine LeO.bind ?_ (fun _ => ?_)
set_option maxHeartbeats 8000000 in
set_option maxRecDepth 100000 in
theorem psalteryref14_Fit.calls (k : Nat) (A0 : Option Addr) (c0 : Nat) (l0 : List Int) (a1 : Int) (a2 : Int) (r : Int) (w : World) (hr0 : Kd.C (Kd.int .i64) w A0 l0.length l0) (hc0 : l0.length ≤ c0) (h : psalteryref14_Fit.f k l0 a1 a2 = some r) :
    Calls Try.prog 62 #[.slice A0 l0.length c0, .int .i64 a1, .int .i64 a2] w fun e w' => e = .returned (.int .i64 r) ∧ Drawn0 w w' := by
 have s0 := a_ hr0
 have D0 := a_ hc0
 clear hr0 hc0
 have H : (if a1 = 0 then (some 0) else (if 4 < (l0.length : Int) then (if a2 < 4 then (if 0 ≤ a2 then (if a2 < (l0.length : Int) then (psalteryref14_Fit.j0 k a1 (rd l0 a2)) else (none)) else (none)) else (psalteryref14_Fit.j0 k a1 (rd l0 4))) else (none))) = some r := h
 clear h
 replace H := ie_ H
 rcases H with ⟨k0, m0, H⟩ | ⟨c4, k0, m0, H⟩
 {
 obtain rfl := Option.some.inj H
 go_enter Try.func62, Try.ntmps62
 go_wp2
 go_ret
 exact ⟨es_, dr_⟩}
 {
 replace H := gt_ H
 obtain ⟨c5, H⟩ := H
 have t0 : decide (4 < (l0.length : Int)) = true := decide_eq_true c5
 have v0 : decide (4 < l0.length) = true := decide_eq_true (by omega)
 clear c5
 have n0 := a_ H
 clear H
 have e0 : 0 ≤ (4 : Int) := (by omega)
 have f0 : 4 < (l0.length : Int) := dm_
 obtain ⟨o0, w0, a0⟩ := Kd.at_int s0.out 4 e0 f0
 cases w0
 (try simp only [show (4 : Int).toNat = 4 from rfl, Nat.reduceMul, Nat.reduceEqDiff, Go.Addr.add, ↓reduceIte] at a0)
 have qi769 : (4 < l0.length) = True := eq_true (by omega)
 (try rw [show ((4 : Int)).toNat = 4 from rfl] at a0)
 replace e0 := eq_true e0
 replace f0 := eq_true f0
 go_enter Try.func62, Try.ntmps62
 go_upto_if 14 with (fail)
 go_cut [7] (fun v7 wc => ∃ (kq : Nat) (b0 : Int), v7 = .int .i64 b0 ∧ Aside0 (psalteryref14_Fit.j0 kq a1 b0 = some r) ∧ Aside0 (kq ≤ k) ∧ Drawn0 w wc)
 case first => (
 have H := n0.out
 clear n0
 replace H := id_ H
 rcases H with ⟨d0, H⟩ | ⟨d0, H⟩
 {
 (first | rw [d0] | (simp only [i64_w, i32_w]; rw [d0]) | skip)
 replace H := gd_ H
 obtain ⟨B0, H⟩ := H
 replace H := gd_ H
 obtain ⟨C0, H⟩ := H
 have H' := a_ H
 clear H
 have h0 : 0 ≤ (a2 : Int) := dm_
 have i0 : a2 < (l0.length : Int) := dm_
 obtain ⟨p0, y0, z0⟩ := Kd.at_int s0.out a2 h0 i0
 obtain rfl : o0 = p0 := (by injection y0)
 replace h0 := eq_true h0
 replace i0 := eq_true i0
 go_wp2
 go_meet
 case rel => exact ⟨_, (rd l0 a2), rs_, H', ⟨ol_⟩, dr_⟩}
 {
 (first | rw [d0] | (simp only [i64_w, i32_w]; rw [d0]) | skip)
 have H' := a_ H
 clear H
 go_wp2
 go_meet
 case rel => exact ⟨_, (rd l0 4), rs_, H', ⟨ol_⟩, dr_⟩})
 case rest => (
 clear n0
 try clear c4
 try clear k0
 try clear m0
 try clear c5
 try clear t0
 try clear v0
 try clear a0
 try clear e0
 try clear f0
 obtain ⟨kq, b0, rfl, HA, HJ5, ⟨mc5, rfl⟩⟩ := hcut
 cases kq with
 | zero => exact absurd HA.out (by simp [psalteryref14_Fit.j0])
 | succ kj5 => (
 have H := HA.out
 clear HA
 simp only [psalteryref14_Fit.j0] at H
 replace H := id_ H
 rcases H with ⟨q0, H⟩ | ⟨q0, H⟩
 {
 obtain rfl := Option.some.inj H
 go_wp2
 go_ret
 exact ⟨es_, dr_⟩}
 {
 replace H := ii_ H
 rcases H with ⟨g0, H⟩ | ⟨g0, H⟩
 {
 have r0 : decide (44 < (wrap64 ((wrap64 (b0 - 13)) + a1))) = true := decide_eq_true g0
 clear g0
 obtain rfl := Option.some.inj H
 go_wp2
 go_ret
 exact ⟨es_, dr_⟩}
 {
 have r0 : decide (44 < (wrap64 ((wrap64 (b0 - 13)) + a1))) = false := decide_eq_false g0
 clear g0
 obtain rfl := Option.some.inj H
 go_wp2
 go_ret
 exact ⟨es_, dr_⟩}}))}
def psalteryref07_size.f (a0 : Int) : Option (Int) := if a0 < 0 then (some (wrap64 (-a0))) else (some a0)
set_option maxHeartbeats 8000000 in
set_option maxRecDepth 100000 in
theorem psalteryref07_size.calls (a0 : Int) (r : Int) (w : World) (h : psalteryref07_size.f a0 = some r) :
    Calls Try.prog 117 #[.int .i64 a0] w fun e w' => e = .returned (.int .i64 r) ∧ Drawn0 w w' := by
 have H : (if a0 < 0 then (some (wrap64 (-a0))) else (some a0)) = some r := h
 clear h
 replace H := id_ H
 rcases H with ⟨b0, H⟩ | ⟨b0, H⟩
 {
 obtain rfl := Option.some.inj H
 go_enter Try.func117, Try.ntmps117
 go_wp2
 go_ret
 exact ⟨es_, dr_⟩}
 {
 obtain rfl := Option.some.inj H
 go_enter Try.func117, Try.ntmps117
 go_wp2
 go_ret
 exact ⟨es_, dr_⟩}
def psalteryref07_Square.l0 : Nat → List Int → Int → Int → Option (Int)
  | 0, _, _, _ => none
  | k + 1, x0, x3, x4 => if x4 < (x0.length : Int) then (if 0 ≤ x4 then ((psalteryref07_size.f (rd x0 x4)).bind fun a0 => (psalteryref07_Square.l0 k x0 (IntKind.u64.wrap (x3 + (IntKind.u64.wrap ((IntKind.u64.wrap (a0)) * (IntKind.u64.wrap (a0)))))) (wrap64 (x4 + 1)))) else (none)) else (some x3)
def psalteryref07_Square.f (k : Nat) (l0 : List Int) : Option (Int) := psalteryref07_Square.l0 k l0 0 0
theorem psalteryref07_Square.mono_l : ∀ k, (∀ y0 y1 y2, LeO (psalteryref07_Square.l0 k y0 y1 y2) (psalteryref07_Square.l0 (k + 1) y0 y1 y2))
  | 0 => fun _ _ _ r h => by simp [psalteryref07_Square.l0] at h
  | k + 1 => by
    have a0 := psalteryref07_Square.mono_l k
    · intro y0 y1 y2
      unfold psalteryref07_Square.l0
      with_reducible repeat' first
   | apply a0
   | exact LeO.refl _
   | exact LeO.none _
   | refine LeO.ite ?_ ?_
   | refine LeO.bind ?_ (fun _ => ?_)
theorem psalteryref07_Square.mono : ∀ a0 k, LeO (psalteryref07_Square.f k a0) (psalteryref07_Square.f (k + 1) a0) := by
  intro a0 k
  have b0 := psalteryref07_Square.mono_l k
  unfold psalteryref07_Square.f
  with_reducible repeat' first
   | apply b0
   | exact LeO.refl _
   | exact LeO.none _
   | refine LeO.ite ?_ ?_
   | refine LeO.bind ?_ (fun _ => ?_)
set_option maxHeartbeats 8000000 in
set_option maxRecDepth 100000 in
theorem psalteryref07_Square.calls (k : Nat) (A0 : Option Addr) (c0 : Nat) (l0 : List Int) (r : Int) (w : World) (hr0 : Kd.C (Kd.int .i64) w A0 l0.length l0) (hc0 : l0.length ≤ c0) (h : psalteryref07_Square.f k l0 = some r) :
    Calls Try.prog 108 #[.slice A0 l0.length c0] w fun e w' => e = .returned (.int .u64 r) ∧ Drawn0 w w' := by
 have k0 := a_ hr0
 have o0 := a_ hc0
 clear hr0 hc0
 have H : (psalteryref07_Square.l0 k l0 0 0) = some r := h
 clear h
 have H' := a_ H
 clear H
 go_enter Try.func108, Try.ntmps108
 go_wp2
 go_loopg [3, 4] k (fun kq v3 v4 w' => ∃ (b0 : Int) (a0 : Int), v3 = .int .u64 b0 ∧ v4 = .int .i64 a0 ∧ Aside0 (psalteryref07_Square.l0 kq l0 b0 a0 = some r) ∧ Aside0 (kq ≤ k) ∧ Drawn0 w w')
 case atStart => exact ⟨(0), (0), rs_, rs_, H', ⟨Nat.le_refl _⟩, dr_⟩
 case round => (
 clear H'
 obtain ⟨b0, a0, rfl, rfl, HA, g0, ⟨m1, rfl⟩⟩ := hrel
 cases gk with
 | zero => exact absurd HA.out (by simp [psalteryref07_Square.l0])
 | succ k1 => (
 have H := HA.out
 clear HA
 simp only [psalteryref07_Square.l0] at H
 replace H := id_ H
 rcases H with ⟨h0, H⟩ | ⟨h0, H⟩
 {
 replace H := gd_ H
 obtain ⟨n0, H⟩ := H
 obtain ⟨d0, A4, H⟩ := ob_ H
 (try dsimp only at H)
 have H' := a_ H
 clear H
 have e0 : 0 ≤ (a0 : Int) := dm_
 have f0 : a0 < (l0.length : Int) := dm_
 obtain ⟨m0, i0, j0⟩ := Kd.at_int k0.out a0 e0 f0
 cases i0
 replace e0 := eq_true e0
 replace f0 := eq_true f0
 go_wp2_with (first | ((with_reducible refine gate_callee (f := 117) rfl ?_); refine gL_ (some 16) Try.func117 #[.int .i64 (rd l0 a0)] ?_; (with_reducible refine (psalteryref07_size.calls (rd l0 a0) d0 _ A4.out).mono ?_); rintro e w' ⟨rfl, ⟨nd, rfl⟩⟩; refine ⟨_, rfl, ?_⟩))
 go_roundg k1
 case measure => have := g0.out; omega
 case rel => exact ⟨(IntKind.u64.wrap (b0 + (IntKind.u64.wrap ((IntKind.u64.wrap (d0)) * (IntKind.u64.wrap (d0)))))), (wrap64 (a0 + 1)), rs_, rs_, H', ⟨by have := g0.out; omega⟩, dr_⟩}
 {
 obtain rfl := Option.some.inj H
 go_wp2
 go_ret
 exact ⟨es_, dr_⟩}))
def psalteryref10_Gain.l0 : Nat → Int → Int → Option (Int)
  | 0, _, _ => none
  | k + 1, x3, x4 => if x3 > 0 then (psalteryref10_Gain.l0 k (IntKind.u64.wrap (Int.tdiv x3 2)) (wrap64 (x4 + 1))) else (some x4)
def psalteryref10_Gain.f (k : Nat) (l0 : List Int) : Option (Int) := (psalteryref07_Square.f k l0).bind fun a0 => (psalteryref10_Gain.l0 k a0 0)
theorem psalteryref10_Gain.mono_l : ∀ k, (∀ y0 y1, LeO (psalteryref10_Gain.l0 k y0 y1) (psalteryref10_Gain.l0 (k + 1) y0 y1))
  | 0 => fun _ _ r h => by simp [psalteryref10_Gain.l0] at h
  | k + 1 => by
    have a0 := psalteryref10_Gain.mono_l k
    · intro y0 y1
      unfold psalteryref10_Gain.l0
      with_reducible repeat' first
   | apply a0
   | apply psalteryref07_Square.mono
   | exact LeO.refl _
   | exact LeO.none _
   | refine LeO.ite ?_ ?_
   | refine LeO.bind ?_ (fun _ => ?_)
theorem psalteryref10_Gain.mono : ∀ a0 k, LeO (psalteryref10_Gain.f k a0) (psalteryref10_Gain.f (k + 1) a0) := by
  intro a0 k
  have b0 := psalteryref10_Gain.mono_l k
  unfold psalteryref10_Gain.f
  with_reducible repeat' first
   | apply b0
   | apply psalteryref07_Square.mono
   | exact LeO.refl _
   | exact LeO.none _
   | refine LeO.ite ?_ ?_
   | refine LeO.bind ?_ (fun _ => ?_)
set_option maxHeartbeats 8000000 in
set_option maxRecDepth 100000 in
theorem psalteryref10_Gain.calls (k : Nat) (A0 : Option Addr) (c0 : Nat) (l0 : List Int) (r : Int) (w : World) (hr0 : Kd.C (Kd.int .i64) w A0 l0.length l0) (hc0 : l0.length ≤ c0) (h : psalteryref10_Gain.f k l0 = some r) :
    Calls Try.prog 91 #[.slice A0 l0.length c0] w fun e w' => e = .returned (.int .i64 r) ∧ Drawn0 w w' := by
 have g0 := a_ hr0
 have h0 := a_ hc0
 clear hr0 hc0
 have H : ((psalteryref07_Square.f k l0).bind fun b0 => (psalteryref10_Gain.l0 k b0 0)) = some r := h
 clear h
 obtain ⟨b0, A2, H⟩ := ob_ H
 (try dsimp only at H)
 have H' := a_ H
 clear H
 go_enter Try.func91, Try.ntmps91
 go_wp2_with (first | ((with_reducible refine gate_callee (f := 108) rfl ?_); refine gL_ (some 6) Try.func108 #[.slice A0 l0.length c0] ?_; (with_reducible refine (psalteryref07_Square.calls k _ _ l0 b0 _ ?side1 ?side2 A2.out).mono ?_); (case side1 => repeat (first | exact g0.out | (with_reducible refine Kd.C_alloc ?_ _) | (with_reducible refine Kd.C_drewN ?_ _) | (with_reducible refine Kd.C_drew ?_))); (case side2 => exact h0.out); rintro e w' ⟨rfl, ⟨nd, rfl⟩⟩; refine ⟨_, rfl, ?_⟩))
 go_loopg [3, 4] k (fun kq v3 v4 w' => ∃ (a0 : Int) (d0 : Int), v3 = .int .u64 a0 ∧ v4 = .int .i64 d0 ∧ Aside0 (psalteryref10_Gain.l0 kq a0 d0 = some r) ∧ Aside0 (kq ≤ k) ∧ Drawn0 w w')
 case atStart => exact ⟨(b0), (0), rs_, rs_, H', ⟨Nat.le_refl _⟩, dr_⟩
 case round => (
 clear H'
 obtain ⟨a0, d0, rfl, rfl, HA, e0, ⟨m1, rfl⟩⟩ := hrel
 cases gk with
 | zero => exact absurd HA.out (by simp [psalteryref10_Gain.l0])
 | succ k1 => (
 have H := HA.out
 clear HA
 simp only [psalteryref10_Gain.l0] at H
 replace H := ii_ H
 rcases H with ⟨c3, H⟩ | ⟨c3, H⟩
 {
 have f0 : decide (0 < a0) = true := decide_eq_true c3
 clear c3
 have H' := a_ H
 clear H
 go_wp2
 go_roundg k1
 case measure => have := e0.out; omega
 case rel => exact ⟨(IntKind.u64.wrap (Int.tdiv a0 2)), (wrap64 (d0 + 1)), rs_, rs_, H', ⟨by have := e0.out; omega⟩, dr_⟩}
 {
 have f0 : decide (0 < a0) = false := decide_eq_false c3
 clear c3
 obtain rfl := Option.some.inj H
 go_wp2
 go_ret
 exact ⟨es_, dr_⟩}))
def psalteryref10_Width.j0 : Nat → Int → Bool → Option (Int)
  | 0, _, _ => none
  | k + 1, x3, x4 => if x4 = true then (some 1) else (if x3 = 2 then (some 2) else (if x3 = 3 then (some 4) else (if x3 = 4 then (some 8) else (some 0))))
def psalteryref10_Width.f (k : Nat) (a0 : Int) : Option (Int) := if a0 = 0 then (psalteryref10_Width.j0 k a0 (a0 == 0)) else (psalteryref10_Width.j0 k a0 (a0 == 1))
theorem psalteryref10_Width.mono_l : ∀ k, (∀ y0 y1, LeO (psalteryref10_Width.j0 k y0 y1) (psalteryref10_Width.j0 (k + 1) y0 y1))
  | 0 => fun _ _ r h => by simp [psalteryref10_Width.j0] at h
  | k + 1 => by
    have a0 := psalteryref10_Width.mono_l k
    · intro y0 y1
      unfold psalteryref10_Width.j0
      with_reducible repeat' first
   | apply a0
   | exact LeO.refl _
   | exact LeO.none _
   | refine LeO.ite ?_ ?_
   | refine LeO.bind ?_ (fun _ => ?_)
theorem psalteryref10_Width.mono : ∀ a0 k, LeO (psalteryref10_Width.f k a0) (psalteryref10_Width.f (k + 1) a0) := by
  intro a0 k
  have b0 := psalteryref10_Width.mono_l k
  unfold psalteryref10_Width.f
  with_reducible repeat' first
   | apply b0
   | exact LeO.refl _
   | exact LeO.none _
   | refine LeO.ite ?_ ?_
   | refine LeO.bind ?_ (fun _ => ?_)
set_option maxHeartbeats 8000000 in
set_option maxRecDepth 100000 in
theorem psalteryref10_Width.calls (k : Nat) (a0 : Int) (r : Int) (w : World) (h : psalteryref10_Width.f k a0 = some r) :
    Calls Try.prog 109 #[.int .i64 a0] w fun e w' => e = .returned (.int .i64 r) ∧ Drawn0 w w' := by
 have H : (if a0 = 0 then (psalteryref10_Width.j0 k a0 (a0 == 0)) else (psalteryref10_Width.j0 k a0 (a0 == 1))) = some r := h
 clear h
 have d0 := a_ H
 clear H
 go_enter Try.func109, Try.ntmps109
 go_upto_if 4 with (fail)
 go_cut [4] (fun v4 wc => ∃ (kq : Nat) (c0 : Bool), v4 = .bool c0 ∧ Aside0 (psalteryref10_Width.j0 kq a0 c0 = some r) ∧ Aside0 (kq ≤ k) ∧ Drawn0 w wc)
 case first => (
 have H := d0.out
 clear d0
 replace H := ie_ H
 rcases H with ⟨b0, e0, H⟩ | ⟨c3, b0, e0, H⟩
 {
 (first | rw [b0] | (simp only [i64_w, i32_w]; rw [b0]) | skip)
 have H' := a_ H
 clear H
 go_wp2
 go_meet
 case rel => exact ⟨_, ((a0 == 0)), rs_, H', ⟨ol_⟩, dr_⟩}
 {
 (first | rw [b0] | (simp only [i64_w, i32_w]; rw [b0]) | skip)
 have H' := a_ H
 clear H
 go_wp2
 go_meet
 case rel => exact ⟨_, ((a0 == 1)), rs_, H', ⟨ol_⟩, dr_⟩})
 case rest => (
 clear d0
 obtain ⟨kq, c0, rfl, HA, HJ1, ⟨mc1, rfl⟩⟩ := hcut
 cases kq with
 | zero => exact absurd HA.out (by simp [psalteryref10_Width.j0])
 | succ kj1 => (
 have H := HA.out
 clear HA
 simp only [psalteryref10_Width.j0] at H
 by_cases c4 : c0 = true
 {
 subst c4
 rw [if_pos rfl] at H
 obtain rfl := Option.some.inj H
 go_wp2
 go_ret
 exact ⟨es_, dr_⟩}
 {
 replace c4 := Bool.eq_false_iff.mpr c4
 subst c4
 rw [if_neg (show ¬ (false = true) by decide)] at H
 replace H := ie_ H
 rcases H with ⟨f0, g0, H⟩ | ⟨c5, f0, g0, H⟩
 {
 obtain rfl := Option.some.inj H
 go_wp2
 go_ret
 exact ⟨es_, dr_⟩}
 {
 replace H := ie_ H
 rcases H with ⟨h0, i0, H⟩ | ⟨c6, h0, i0, H⟩
 {
 obtain rfl := Option.some.inj H
 go_wp2
 go_ret
 exact ⟨es_, dr_⟩}
 {
 replace H := ie_ H
 rcases H with ⟨k0, l0, H⟩ | ⟨c7, k0, l0, H⟩
 {
 obtain rfl := Option.some.inj H
 go_wp2
 go_ret
 exact ⟨es_, dr_⟩}
 {
 obtain rfl := Option.some.inj H
 go_wp2
 go_ret
 exact ⟨es_, dr_⟩}}}}))
def psalteryref10_From.f (a0 : Int) : Option (Int) := if a0 = 1 then (some 1) else (if a0 = 2 then (some 2) else (if a0 = 3 then (some 4) else (if a0 = 4 then (some 8) else (some 0))))
set_option maxHeartbeats 8000000 in
set_option maxRecDepth 100000 in
theorem psalteryref10_From.calls (a0 : Int) (r : Int) (w : World) (h : psalteryref10_From.f a0 = some r) :
    Calls Try.prog 110 #[.int .i64 a0] w fun e w' => e = .returned (.int .i64 r) ∧ Drawn0 w w' := by
 have H : (if a0 = 1 then (some 1) else (if a0 = 2 then (some 2) else (if a0 = 3 then (some 4) else (if a0 = 4 then (some 8) else (some 0))))) = some r := h
 clear h
 replace H := ie_ H
 rcases H with ⟨b0, c0, H⟩ | ⟨c2, b0, c0, H⟩
 {
 obtain rfl := Option.some.inj H
 go_enter Try.func110, Try.ntmps110
 go_wp2
 go_ret
 exact ⟨es_, dr_⟩}
 {
 replace H := ie_ H
 rcases H with ⟨d0, e0, H⟩ | ⟨c3, d0, e0, H⟩
 {
 obtain rfl := Option.some.inj H
 go_enter Try.func110, Try.ntmps110
 go_wp2
 go_ret
 exact ⟨es_, dr_⟩}
 {
 replace H := ie_ H
 rcases H with ⟨f0, g0, H⟩ | ⟨c4, f0, g0, H⟩
 {
 obtain rfl := Option.some.inj H
 go_enter Try.func110, Try.ntmps110
 go_wp2
 go_ret
 exact ⟨es_, dr_⟩}
 {
 replace H := ie_ H
 rcases H with ⟨h0, i0, H⟩ | ⟨c5, h0, i0, H⟩
 {
 obtain rfl := Option.some.inj H
 go_enter Try.func110, Try.ntmps110
 go_wp2
 go_ret
 exact ⟨es_, dr_⟩}
 {
 obtain rfl := Option.some.inj H
 go_enter Try.func110, Try.ntmps110
 go_wp2
 go_ret
 exact ⟨es_, dr_⟩}}}}
def psalteryref10_Band.l0 : Nat → List Int → Int → List Int → Int → Option (List Int)
  | 0, _, _, _, _ => none
  | k + 1, x0, x1, x5, x6 => (psalteryref10_Width.f k x1).bind fun b0 => (if x6 < b0 then ((psalteryref10_From.f x1).bind fun a0 => (if 0 ≤ (wrap64 (a0 + x6)) then (if (wrap64 (a0 + x6)) < (x0.length : Int) then (if x5.length < 17592186044416 then (psalteryref10_Band.l0 k x0 x1 (x5 ++ [rd x0 (wrap64 (a0 + x6))]) (wrap64 (x6 + 1))) else (none)) else (none)) else (none))) else (some x5))
def psalteryref10_Band.f (k : Nat) (l0 : List Int) (a1 : Int) : Option (List Int) := psalteryref10_Band.l0 k l0 a1 ([] : List Int) 0
theorem psalteryref10_Band.mono_l : ∀ k, (∀ y0 y1 y2 y3, LeO (psalteryref10_Band.l0 k y0 y1 y2 y3) (psalteryref10_Band.l0 (k + 1) y0 y1 y2 y3))
  | 0 => fun _ _ _ _ r h => by simp [psalteryref10_Band.l0] at h
  | k + 1 => by
    have a0 := psalteryref10_Band.mono_l k
    · intro y0 y1 y2 y3
      unfold psalteryref10_Band.l0
      with_reducible repeat' first
   | apply a0
   | apply psalteryref10_Width.mono
   | exact LeO.refl _
   | exact LeO.none _
   | refine LeO.ite ?_ ?_
   | refine LeO.bind ?_ (fun _ => ?_)
theorem psalteryref10_Band.mono : ∀ a0 a1 k, LeO (psalteryref10_Band.f k a0 a1) (psalteryref10_Band.f (k + 1) a0 a1) := by
  intro a0 a1 k
  have b0 := psalteryref10_Band.mono_l k
  unfold psalteryref10_Band.f
  with_reducible repeat' first
   | apply b0
   | apply psalteryref10_Width.mono
   | exact LeO.refl _
   | exact LeO.none _
   | refine LeO.ite ?_ ?_
   | refine LeO.bind ?_ (fun _ => ?_)
set_option maxHeartbeats 8000000 in
set_option maxRecDepth 100000 in
theorem psalteryref10_Band.calls (k : Nat) (A0 : Option Addr) (c0 : Nat) (l0 : List Int) (a1 : Int) (r : List Int) (w : World) (hr0 : Kd.C (Kd.int .i64) w A0 l0.length l0) (hc0 : l0.length ≤ c0) (h : psalteryref10_Band.f k l0 a1 = some r) :
    Calls Try.prog 92 #[.slice A0 l0.length c0, .int .i64 a1] w fun e w' => ∃ v0_ : Value, e = .returned (v0_) ∧ Kd.R (Kd.int .i64) 2 w' w.heap.size (fun _ => True) v0_ r ∧ Below w.heap.size w w' := by
 have v0 := a_ hr0
 have D0 := a_ hc0
 clear hr0 hc0
 have HB := a_ (Below.refl w.heap.size w)
 have H : (psalteryref10_Band.l0 k l0 a1 ([] : List Int) 0) = some r := h
 clear h
 have H' := a_ H
 clear H
 go_enter Try.func92, Try.ntmps92
 go_wp2
 go_loopg [5, 6] k (fun kq v5 v6 w' => ∃ (b0 : List Int) (d0 : Int), v6 = .int .i64 d0 ∧ Aside0 (psalteryref10_Band.l0 kq l0 a1 b0 d0 = some r) ∧ Aside0 (kq ≤ k) ∧ Aside0 (Kd.R (Kd.int .i64) 2 w' w.heap.size (fun _ => True) v5 b0) ∧ Aside0 (Below w.heap.size w w'))
 case atStart => exact ⟨(([] : List Int)), (0), rs_, H', ⟨Nat.le_refl _⟩, ⟨kn_⟩, ⟨bl_ HB⟩⟩
 case round => (
 clear H'
 obtain ⟨b0, d0, rfl, HA, p0, h0, HB⟩ := hrel
 cases gk with
 | zero => exact absurd HA.out (by simp [psalteryref10_Band.l0])
 | succ k1 => (
 have H := HA.out
 clear HA
 simp only [psalteryref10_Band.l0] at H
 obtain ⟨m0, A3, H⟩ := ob_ H
 (try dsimp only at H)
 replace H := id_ H
 rcases H with ⟨q0, H⟩ | ⟨q0, H⟩
 {
 obtain ⟨i0, A5, H⟩ := ob_ H
 (try dsimp only at H)
 obtain ⟨a0, e0⟩ : ∃ j_ : Int, (wrap64 (i0 + d0)) = j_ := ⟨_, rfl⟩
 replace H : (if 0 ≤ (a0) then (if (a0) < (l0.length : Int) then (if b0.length < 17592186044416 then (psalteryref10_Band.l0 k1 l0 a1 (b0 ++ [rd l0 (a0)]) (wrap64 (d0 + 1))) else (none)) else (none)) else (none)) = some r := by first | (rw [e0] at H; exact H) | (simp only [e0] at H ⊢; exact H)
 (try rw [e0] at A3)
 (try rw [e0] at A5)
 have hji6w : (IntKind.i64.wrap (i0 + d0)) = a0 := (i64_w _).trans e0
 replace H := gd_ H
 obtain ⟨z0, H⟩ := H
 replace H := gd_ H
 obtain ⟨B0, H⟩ := H
 replace H := gt_ H
 obtain ⟨c9, H⟩ := H
 have r0 := a_ c9
 clear c9
 obtain ⟨s0, f0⟩ : ∃ y_ : List Int, y_ = (b0 ++ [rd l0 (a0)]) := ⟨_, rfl⟩
 first | replace H := by_ H f0 | rw [← f0] at H
 have n0 := a_ f0
 clear f0
 have H' := a_ H
 clear H
 go_wp2_with (first | ((with_reducible refine gate_callee (f := 109) rfl ?_); refine gL_ (some 9) Try.func109 #[.int .i64 a1] ?_; (with_reducible refine (psalteryref10_Width.calls k1 a1 m0 _ A3.out).mono ?_); rintro e w' ⟨rfl, ⟨nd, rfl⟩⟩; refine ⟨_, rfl, ?_⟩) | ((with_reducible refine gate_callee (f := 110) rfl ?_); refine gL_ (some 16) Try.func110 #[.int .i64 a1] ?_; (with_reducible refine (psalteryref10_From.calls a1 i0 _ A5.out).mono ?_); rintro e w' ⟨rfl, ⟨nd, rfl⟩⟩; refine ⟨_, rfl, ?_⟩; have j0 : 0 ≤ ((a0) : Int) := dm_; have k0 : (a0) < (l0.length : Int) := dm_; obtain ⟨y0, t0, g0⟩ := Kd.at_int v0.out (a0) j0 k0; cases t0; replace g0 := hc_ HB g0; replace j0 := eq_true j0; replace k0 := eq_true k0) | ((with_reducible refine gate_builtin (b := .append) (xs := #[.tmp 13, .tmp 21]) rfl ?_); at_builtin; refine Kd.R_append (Kd.int .i64) (w0 := w) w.heap.size rfl (.tmp 13) (.tmp 21) 53 2 (.int .i64 0) 8 rfl Try.underlying53 info2 rfl (by decide) (by omega) u5 b0 (rd l0 (a0)) [.int .i64 (rd l0 (a0))] (fun _ => True) (fun _ => False) rfl rfl ?aP (fun _ hk => hk.elim) ?aF ?aO ?aB ?aS ?aL ?_; (case aP => exact rfl); (case aB => exact (bl_ HB)); (case aF => exact (fun _ _ => trivial)); (case aO => exact (kR_ h0)); (case aS => exact (bs_ HB)); (case aL => have := r0.out; omega); intro C0 E0 ho hb hg hat; rw [← n0.out] at ho; replace HB := a_ (hb); have o0 := a_ (ho); clear h0; clear ho hb hg hat))
 first | go_roundg k1 | (subst e0; go_roundg k1)
 case measure => have := p0.out; omega
 case rel => exact ⟨(s0), (wrap64 (d0 + 1)), rs_, H', ⟨by have := p0.out; omega⟩, ⟨kR_ o0⟩, ⟨bl_ HB⟩⟩}
 {
 obtain rfl := Option.some.inj H
 go_wp2_with (first | ((with_reducible refine gate_callee (f := 109) rfl ?_); refine gL_ (some 9) Try.func109 #[.int .i64 a1] ?_; (with_reducible refine (psalteryref10_Width.calls k1 a1 m0 _ A3.out).mono ?_); rintro e w' ⟨rfl, ⟨nd, rfl⟩⟩; refine ⟨_, rfl, ?_⟩))
 go_ret
 exact ⟨_, er_, kR_ h0, bl_ HB⟩}))
def psalteryref10_Gains.l0 : Nat → List Int → List Int → Int → Option (List Int)
  | 0, _, _, _ => none
  | k + 1, x0, x3, x4 => if x4 < 5 then ((psalteryref10_Band.f k x0 x4).bind fun a0 => ((psalteryref10_Gain.f k a0).bind fun b0 => (if x3.length < 17592186044416 then (psalteryref10_Gains.l0 k x0 (x3 ++ [b0]) (wrap64 (x4 + 1))) else (none)))) else (some x3)
def psalteryref10_Gains.f (k : Nat) (l0 : List Int) : Option (List Int) := psalteryref10_Gains.l0 k l0 ([] : List Int) 0
theorem psalteryref10_Gains.mono_l : ∀ k, (∀ y0 y1 y2, LeO (psalteryref10_Gains.l0 k y0 y1 y2) (psalteryref10_Gains.l0 (k + 1) y0 y1 y2))
  | 0 => fun _ _ _ r h => by simp [psalteryref10_Gains.l0] at h
  | k + 1 => by
    have a0 := psalteryref10_Gains.mono_l k
    · intro y0 y1 y2
      unfold psalteryref10_Gains.l0
      with_reducible repeat' first
   | apply a0
   | apply psalteryref10_Band.mono
   | apply psalteryref10_Gain.mono
   | exact LeO.refl _
   | exact LeO.none _
   | refine LeO.ite ?_ ?_
   | refine LeO.bind ?_ (fun _ => ?_)
theorem psalteryref10_Gains.mono : ∀ a0 k, LeO (psalteryref10_Gains.f k a0) (psalteryref10_Gains.f (k + 1) a0) := by
  intro a0 k
  have b0 := psalteryref10_Gains.mono_l k
  unfold psalteryref10_Gains.f
  with_reducible repeat' first
   | apply b0
   | apply psalteryref10_Band.mono
   | apply psalteryref10_Gain.mono
   | exact LeO.refl _
   | exact LeO.none _
   | refine LeO.ite ?_ ?_
   | refine LeO.bind ?_ (fun _ => ?_)
set_option maxHeartbeats 8000000 in
set_option maxRecDepth 100000 in
theorem psalteryref10_Gains.calls (k : Nat) (A0 : Option Addr) (c0 : Nat) (l0 : List Int) (r : List Int) (w : World) (hr0 : Kd.C (Kd.int .i64) w A0 l0.length l0) (hc0 : l0.length ≤ c0) (h : psalteryref10_Gains.f k l0 = some r) :
    Calls Try.prog 63 #[.slice A0 l0.length c0] w fun e w' => ∃ v0_ : Value, e = .returned (v0_) ∧ Kd.R (Kd.int .i64) 3 w' w.heap.size (fun _ => True) v0_ r ∧ Below w.heap.size w w' := by
 have q0 := a_ hr0
 have r0 := a_ hc0
 clear hr0 hc0
 have HB := a_ (Below.refl w.heap.size w)
 have H : (psalteryref10_Gains.l0 k l0 ([] : List Int) 0) = some r := h
 clear h
 have H' := a_ H
 clear H
 go_enter Try.func63, Try.ntmps63
 go_wp2
 go_loopg [3, 4] k (fun kq v3 v4 w' => ∃ (f0 : List Int) (b0 : Int), v4 = .int .i64 b0 ∧ Aside0 (psalteryref10_Gains.l0 kq l0 f0 b0 = some r) ∧ Aside0 (kq ≤ k) ∧ Aside0 (Kd.R (Kd.int .i64) 3 w' w.heap.size (fun _ => True) v3 f0) ∧ Aside0 (Below w.heap.size w w'))
 case atStart => exact ⟨(([] : List Int)), (0), rs_, H', ⟨Nat.le_refl _⟩, ⟨kn_⟩, ⟨bl_ HB⟩⟩
 case round => (
 clear H'
 obtain ⟨f0, b0, rfl, HA, k0, d0, HB⟩ := hrel
 cases gk with
 | zero => exact absurd HA.out (by simp [psalteryref10_Gains.l0])
 | succ k1 => (
 have H := HA.out
 clear HA
 simp only [psalteryref10_Gains.l0] at H
 replace H := id_ H
 rcases H with ⟨n0, H⟩ | ⟨n0, H⟩
 {
 obtain ⟨h0, A3, H⟩ := ob_ H
 (try dsimp only at H)
 obtain ⟨g0, A4, H⟩ := ob_ H
 (try dsimp only at H)
 replace H := gt_ H
 obtain ⟨c5, H⟩ := H
 have o0 := a_ c5
 clear c5
 obtain ⟨p0, e0⟩ : ∃ y_ : List Int, y_ = (f0 ++ [g0]) := ⟨_, rfl⟩
 first | replace H := by_ H e0 | rw [← e0] at H
 have i0 := a_ e0
 clear e0
 have H' := a_ H
 clear H
 go_wp2_with (first | ((with_reducible refine gate_callee (f := 92) rfl ?_); refine gL_ (some 12) Try.func92 #[.slice A0 l0.length c0, .int .i64 b0] ?_; (with_reducible refine (psalteryref10_Band.calls k1 _ _ l0 b0 h0 _ ?side1 ?side2 A3.out).mono ?_); (case side1 => exact kC_ q0 HB); (case side2 => exact r0.out); rintro e w6 ⟨y0, rfl, m0, hb⟩; refine ⟨_, rfl, ?_⟩; replace d0 := FR_ d0 hb; have a0 := a_ (Kd.R_lower m0 (bs_ HB)); replace HB := BS_ HB hb; (try clear hb); (try clear hk); (try clear m0); obtain ⟨s0, t0, v0⟩ := Kd.R_slice a0.out; subst v0) | ((with_reducible refine gate_callee (f := 91) rfl ?_); refine gL_ (some 13) Try.func91 #[.slice s0 h0.length t0] ?_; (with_reducible refine (psalteryref10_Gain.calls k1 _ _ h0 g0 _ ?side1 ?side2 A4.out).mono ?_); (case side1 => exact kCt_ (Kd.R_reads' a0.out).2.2); (case side2 => exact (Kd.R_reads' a0.out).2.1); rintro e w' ⟨rfl, ⟨nd, rfl⟩⟩; refine ⟨_, rfl, ?_⟩) | ((with_reducible refine gate_builtin (b := .append) (xs := #[.tmp 9, .tmp 14]) rfl ?_); at_builtin; refine Kd.R_append (Kd.int .i64) (w0 := w) w.heap.size rfl (.tmp 9) (.tmp 14) 22 3 (.int .i64 0) 8 rfl Try.underlying22 info3 rfl (by decide) (by omega) u3 f0 g0 [.int .i64 g0] (fun _ => True) (fun _ => False) rfl rfl ?aP (fun _ hk => hk.elim) ?aF ?aO ?aB ?aS ?aL ?_; (case aP => exact rfl); (case aB => exact (bl_ HB)); (case aF => exact (fun _ _ => trivial)); (case aO => exact (kR_ d0)); (case aS => exact (bs_ HB)); (case aL => have := o0.out; omega); intro z0 w8 ho hb hg hat; rw [← i0.out] at ho; replace a0 := a_ (Kd.R_over' (kR_ a0) (Kd.R_typed (kR_ d0)) (by decide) hg); replace HB := a_ (hb); have j0 := a_ (ho); clear d0; clear ho hb hg hat))
 go_roundg k1
 case measure => have := k0.out; omega
 case rel => exact ⟨(p0), (wrap64 (b0 + 1)), rs_, H', ⟨by have := k0.out; omega⟩, ⟨kR_ j0⟩, ⟨bl_ HB⟩⟩}
 {
 obtain rfl := Option.some.inj H
 go_wp2
 go_ret
 exact ⟨_, er_, kR_ d0, bl_ HB⟩}))
def psalteryref22_Posts.l0 : Nat → List Int → List Int → Int → Int → Int → List Int → List Int → Option (List Int)
  | 0, _, _, _, _, _, _, _ => none
  | k + 1, x1, x5, x6, c0, a0, b0, d0 => if x6 < 6 then ((psalteryref10_Gains.f k x1).bind fun e0 => ((psalteryref14_Fit.f k e0 a0 x6).bind fun f0 => ((psalteryref22_Settled.f k b0 f0).bind fun g0 => (if x5.length < 17592186044416 then (psalteryref22_Posts.l0 k x1 (x5 ++ [g0]) (wrap64 (x6 + 1)) c0 a0 b0 d0) else (none))))) else (some x5)
def psalteryref22_Posts.f (k : Nat) (a0 : Int) (b0 : Int) (c0 : List Int) (d0 : List Int) (l1 : List Int) : Option (List Int) := psalteryref22_Posts.l0 k l1 ([] : List Int) 0 a0 b0 c0 d0
theorem psalteryref22_Posts.mono_l : ∀ k, (∀ y0 y1 y2 y3 y4 y5 y6, LeO (psalteryref22_Posts.l0 k y0 y1 y2 y3 y4 y5 y6) (psalteryref22_Posts.l0 (k + 1) y0 y1 y2 y3 y4 y5 y6))
  | 0 => fun _ _ _ _ _ _ _ r h => by simp [psalteryref22_Posts.l0] at h
  | k + 1 => by
    have a0 := psalteryref22_Posts.mono_l k
    · intro y0 y1 y2 y3 y4 y5 y6
      unfold psalteryref22_Posts.l0
      with_reducible repeat' first
   | apply a0
   | apply psalteryref10_Gains.mono
   | apply psalteryref14_Fit.mono
   | apply psalteryref22_Settled.mono
   | exact LeO.refl _
   | exact LeO.none _
   | refine LeO.ite ?_ ?_
   | refine LeO.bind ?_ (fun _ => ?_)
theorem psalteryref22_Posts.mono : ∀ a0 a1 a2 a3 a4 k, LeO (psalteryref22_Posts.f k a0 a1 a2 a3 a4) (psalteryref22_Posts.f (k + 1) a0 a1 a2 a3 a4) := by
  intro a0 a1 a2 a3 a4 k
  have b0 := psalteryref22_Posts.mono_l k
  unfold psalteryref22_Posts.f
  with_reducible repeat' first
   | apply b0
   | apply psalteryref10_Gains.mono
   | apply psalteryref14_Fit.mono
   | apply psalteryref22_Settled.mono
   | exact LeO.refl _
   | exact LeO.none _
   | refine LeO.ite ?_ ?_
   | refine LeO.bind ?_ (fun _ => ?_)
def psalteryref22_Posts.T5 : Bool × List (List Nat × List Nat) := (true, [([], []), ([], []), ([1], [1]), ([], []), ([3], [3]), ([], []), ([5], [5]), ([], []), ([4, 6, 7, 4], [4, 6, 7]), ([2, 8, 8], [2, 8]), ([9], [9]), ([0, 10, 9], [0, 10]), ([11, 11, 0, 1, 2, 3, 4, 5, 6, 7, 8, 9, 10, 11], [0, 11])])
def psalteryref22_Posts.B5 : List Nat := [0, 0, 2, 0, 8, 0, 32, 0, 248, 510, 1022, 2047, 4095]
theorem psalteryref22_Posts.tab5 : rtab .any (opsOf Try.f27 5) = psalteryref22_Posts.T5 := by kernel_rfl
theorem psalteryref22_Posts.bits5 : waitsOk psalteryref22_Posts.T5.2 psalteryref22_Posts.B5 = true := by kernel_rfl
set_option maxHeartbeats 8000000 in
set_option maxRecDepth 100000 in
theorem psalteryref22_Posts.calls (k : Nat) (g0 : Int) (e0 : Int) (i0 : Option Addr) (j0 : Nat) (b0 : List Int) (n0 : Option Addr) (o0 : Nat) (c0 : List Int) (A1 : Option Addr) (c1 : Nat) (l1 : List Int) (r : List Int) (w : World) (hr0_2 : Kd.C (Kd.int .i64) w i0 b0.length b0) (hc0_2 : b0.length ≤ j0) (hr0_3 : Kd.C (Kd.int .i64) w n0 c0.length c0) (hc0_3 : c0.length ≤ o0) (hr1 : Kd.C (Kd.int .i64) w A1 l1.length l1) (hc1 : l1.length ≤ c1) (h : psalteryref22_Posts.f k g0 e0 b0 c0 l1 = some r) :
    Calls Try.prog 27 #[.agg #[.int .i64 g0, .int .i64 e0, .slice i0 b0.length j0, .slice n0 c0.length o0], .slice A1 l1.length c1] w fun e w' => ∃ v0_ : Value, e = .returned (v0_) ∧ Kd.R (Kd.int .i64) 3 w' w.heap.size (fun _ => True) v0_ r ∧ Below w.heap.size w w' := by
 have P0 := Try.underlying31
 have B0 := a_ hr0_2
 have C0 := a_ hc0_2
 clear hr0_2 hc0_2
 have M0 := a_ hr0_3
 have N0 := a_ hc0_3
 clear hr0_3 hc0_3
 have K0 := a_ hr1
 have L0 := a_ hc1
 clear hr1 hc1
 have HB := a_ (Below.refl w.heap.size w)
 have H : (psalteryref22_Posts.l0 k l1 ([] : List Int) 0 g0 e0 b0 c0) = some r := h
 clear h
 have H' := a_ H
 clear H
 go_enter Try.func27, Try.ntmps27
 go_wp2_with (first | ((with_reducible refine gate_dst (N := 2) rfl ?_); refine bx_ HB 2 #[.int .i64 g0, .int .i64 e0, .slice i0 b0.length j0, .slice n0 c0.length o0] 31 ?_; clear HB; intro h0 hg w3 hb a0 D0 HB; have O0 := D0; clear hb hg))
 go_loopg [5, 6] k (fun kq v5 v6 w' => ∃ (p0 : List Int) (k0 : Int), v6 = .int .i64 k0 ∧ Aside0 (psalteryref22_Posts.l0 kq l1 p0 k0 g0 e0 b0 c0 = some r) ∧ Aside0 (kq ≤ k) ∧ Aside0 (Kd.R (Kd.int .i64) 3 w' w.heap.size (fun _ => True) v5 p0) ∧ Aside0 (w'.heap[h0]? = some (.cells #[.int .i64 g0, .int .i64 e0, (.slice i0 b0.length j0), (.slice n0 c0.length o0)] 31 (0, 0))) ∧ Aside0 (Below w.heap.size w w'))
 case atStart => exact ⟨(([] : List Int)), (0), rs_, H', ⟨Nat.le_refl _⟩, ⟨kn_⟩, ⟨bk_ a0⟩, ⟨bl_ HB⟩⟩
 case round => (
 clear H'
 obtain ⟨p0, k0, rfl, HA, G0, d0, a0, HB⟩ := hrel
 cases gk with
 | zero => exact absurd HA.out (by simp [psalteryref22_Posts.l0])
 | succ k1 => (
 have H := HA.out
 clear HA
 simp only [psalteryref22_Posts.l0] at H
 replace H := id_ H
 rcases H with ⟨H0, H⟩ | ⟨H0, H⟩
 {
 obtain ⟨q0, A5, H⟩ := ob_ H
 (try dsimp only at H)
 obtain ⟨t0, A6, H⟩ := ob_ H
 (try dsimp only at H)
 obtain ⟨r0, A7, H⟩ := ob_ H
 (try dsimp only at H)
 replace H := gt_ H
 obtain ⟨c8, H⟩ := H
 have I0 := a_ c8
 clear c8
 obtain ⟨J0, m0⟩ : ∃ y_ : List Int, y_ = (p0 ++ [r0]) := ⟨_, rfl⟩
 first | replace H := by_ H m0 | rw [← m0] at H
 have E0 := a_ m0
 clear m0
 have H' := a_ H
 clear H
 try go_wp2
 replace d0 := a_ (Kd.R_drew d0.out)
 replace a0 := a_ (blk_drew a0.out)
 replace HB := a_ (below_drew1 HB.out)
 refine start_ (n := 13) (S := fun w' => w'.cell? ⟨h0, 0, none⟩ = some (.int .i64 g0) ∧ w'.cell? ⟨h0, 1, none⟩ = some (.int .i64 e0) ∧ w'.cell? ⟨h0, 2, none⟩ = some (.slice i0 b0.length j0) ∧ w'.cell? ⟨h0, 3, none⟩ = some (.slice n0 c0.length o0)) (ds := []) (B_ 13 0) kf_ rfl rfl ⟨ce_ a0 0, ce_ a0 1, ce_ a0 2, ce_ a0 3⟩ (fun hHeld => ?_); refine with_tabW psalteryref22_Posts.tab5 psalteryref22_Posts.bits5 (fun HT_ HW_ => ?_)
 generalize wr.drew = w9 at d0 a0 HB hHeld ⊢
 refine pu_ 0 (some 11) (B_ 13 1) HT_ ?_
 refine pu_ 1 (some 12) (B_ 13 3) HT_ ?_
 refine pu_ 3 (some 14) (B_ 13 11) HT_ ?_
 refine pu_ 5 (some 16) (B_ 13 43) HT_ ?_
 refine pu_ 7 (some 18) (B_ 13 171) HT_ ?_
 refine take_ (i := 2) (N := some 13) (v := ?_) (a' := ?_) (B_ 13 175) rfl rfl (take_ofW HT_.out HW_.out kf_) (fun _ _ _ h => h) (Or.inl ⟨by rfl, ?_⟩) hHeld ?_ ?_
 rotate_left
 {
 rintro w' ⟨s0, s1, s2, s3⟩
 go_simp
 with_reducible rfl}
 rotate_left
 {
 exact sp_}
 refine take_ (i := 6) (N := some 17) (v := ?_) (a' := ?_) (B_ 13 239) rfl rfl (take_ofW HT_.out HW_.out kf_) (fun _ _ _ h => h) (Or.inl ⟨by rfl, ?_⟩) hHeld ?_ ?_
 rotate_left
 {
 rintro w' ⟨s0, s1, s2, s3⟩
 go_simp
 with_reducible rfl}
 rotate_left
 {
 exact sp_}
 refine one_ (i := 4) (N := some 15) (B_ 13 255) rfl rfl (one_of HT_.out kf_) (by decide) (fun K hK => ?_)
 refine goes_ Try.func63 kf_ rfl #[.slice A1 l1.length c1] (by rfl) rfl rfl ar_ ?_
 with_reducible refine (psalteryref10_Gains.calls k1 _ _ l1 q0 _ ?side1 ?side2 A5.out).mono ?_
 (case side1 => exact kC_ K0 HB)
 (case side2 => exact L0.out)
 rintro e S0 ⟨Q0, rfl, v0, hb⟩
 refine ⟨_, rfl, ?_⟩
 have f0 := a_ (Kd.R_lower (Kd.R_new' v0 (Kd.R_lt (kR_ d0))) (bs_ HB))
 replace d0 := a_ (Kd.R_elder' (kR_ d0) (Kd.R_base v0) hb)
 replace a0 := FB_ a0 hb
 replace HB := BS_ HB hb
 (try clear hb)
 (try clear v0)
 obtain ⟨y0, z0, A0⟩ := Kd.R_slice f0.out
 (first | subst A0 | (injection A0 with f1_ f2_ f3_; have f4_ := f1_.symm; have f5_ := f3_.symm; clear f1_ f2_ f3_; subst f4_; subst f5_))
 refine hK.out _ _ ⟨ce_ a0 0, ce_ a0 1, ce_ a0 2, ce_ a0 3⟩ (fun hHeld => ?_)
 clear hK K
 refine norm_ (a' := ?_) ?_ ?_
 rotate_left
 {
 show Act.put _ (some 15) _ = _
 exact sp_}
 refine one_ (i := 8) (N := some 19) (B_ 13 511) rfl rfl (one_of HT_.out kf_) (by decide) (fun K hK => ?_)
 refine goes_ Try.func62 kf_ rfl #[.slice y0 q0.length z0, .int .i64 e0, .int .i64 k0] (by rfl) rfl rfl ar_ ?_
 with_reducible refine (psalteryref14_Fit.calls k1 _ _ q0 e0 k0 t0 _ ?side1 ?side2 A6.out).mono ?_
 (case side1 => exact kCt_ (Kd.R_reads' f0.out).2.2)
 (case side2 => exact (Kd.R_reads' f0.out).2.1)
 rintro e w' ⟨rfl, ⟨nd, rfl⟩⟩
 refine ⟨_, rfl, ?_⟩
 refine hK.out _ _ ⟨ce_ a0 0, ce_ a0 1, ce_ a0 2, ce_ a0 3⟩ (fun hHeld => ?_)
 clear hK K
 refine norm_ (a' := ?_) ?_ ?_
 rotate_left
 {
 show Act.put _ (some 19) _ = _
 exact sp_}
 refine one_ (i := 9) (N := some 20) (B_ 13 1023) rfl rfl (one_of HT_.out kf_) (by decide) (fun K hK => ?_)
 refine goes_ Try.func61 kf_ rfl #[.slice i0 b0.length j0, .int .i64 t0] (by rfl) rfl rfl ar_ ?_
 with_reducible refine (psalteryref22_Settled.calls k1 _ _ b0 t0 r0 _ ?side1 ?side2 A7.out).mono ?_
 (case side1 => repeat (first | exact (Kd.C_below B0.out (bl_ HB)) | (with_reducible refine Kd.C_alloc ?_ _) | (with_reducible refine Kd.C_drewN ?_ _) | (with_reducible refine Kd.C_drew ?_)))
 (case side2 => exact C0.out)
 rintro e w' ⟨rfl, ⟨nd, rfl⟩⟩
 refine ⟨_, rfl, ?_⟩
 refine hK.out _ _ ⟨ce_ a0 0, ce_ a0 1, ce_ a0 2, ce_ a0 3⟩ (fun hHeld => ?_)
 clear hK K
 refine norm_ (a' := ?_) ?_ ?_
 rotate_left
 {
 show Act.put _ (some 20) _ = _
 exact sp_}
 refine one_ (i := 10) (N := some 21) (B_ 13 2047) rfl rfl (one_of HT_.out kf_) (by decide) (fun K hK => ?_)
 refine value_ (w1 := ?_) (v := ?_) (by rfl) rfl ?_ ?_
 rotate_left 2
 {
 go_simp
 constructor
 {
 rfl}
 {
 rfl}}
 refine hK.out _ _ ⟨(blk_cell (blk_alloc a0.out _) 0).trans rfl, (blk_cell (blk_alloc a0.out _) 1).trans rfl, (blk_cell (blk_alloc a0.out _) 2).trans rfl, (blk_cell (blk_alloc a0.out _) 3).trans rfl⟩ (fun hHeld => ?_)
 clear hK K
 refine norm_ (a' := ?_) ?_ ?_
 rotate_left
 {
 show Act.put _ (some 21) _ = _
 exact sp_}
 refine one_ (i := 11) (N := some 22) (B_ 13 4095) rfl rfl (one_of HT_.out kf_) (by decide) (fun K hK => ?_)
 refine Kd.R_append_step (Kd.int .i64) (w0 := w) w.heap.size (by rfl) (.tmp 11) (.tmp 21) 22 3 (.int .i64 0) 8 rfl Try.underlying22 info3 rfl (by decide) (by omega) u5 p0 r0 [.int .i64 r0] (fun k_ => no_ k_ (.slice y0 q0.length z0)) (fun _ => False) rfl rfl ?aP (fun _ hk => hk.elim) ?aF ?aO ?aB ?aS ?aL ?_
 (case aP => exact rfl)
 (case aB => exact (bl_ HB))
 (case aF => exact (fun k_ hk => Kd.fresh' (Kd.R_lt (kR_ f0)) k_ hk))
 (case aO => exact (by (with_reducible repeat (first | apply Kd.R_alloc | apply Kd.R_drewN | apply Kd.R_drew)); exact Kd.R_mono d0.out (fun _ hk => hk.2)))
 (case aS => exact (bs_ HB))
 (case aL => have := I0.out; omega)
 intro R0 T0 ho hb hg hat
 rw [← E0.out] at ho
 replace a0 := (FG_ a0 hg (Kd.R_ne d0.out a0.out (by decide)))
 replace f0 := a_ (Kd.R_after (ok := (fun _ => True)) (kR_ f0) hg hat)
 replace HB := a_ (hb)
 have F0 := a_ (ho)
 clear d0
 clear ho hb hg hat
 refine hK.out _ _ ⟨ce_ a0 0, ce_ a0 1, ce_ a0 2, ce_ a0 3⟩ (fun hHeld => ?_)
 clear hK K
 refine norm_ (a' := ?_) ?_ ?_
 rotate_left
 {
 show Act.put _ (some 22) _ = _
 exact sp_}
 refine pu_ 12 (some 5) (B_ 13 8191) HT_ ?_
 refine done_ (done_of HT_.out kf_) ?_
 try go_wp2
 go_roundg k1
 case measure => have := G0.out; omega
 case rel => exact ⟨(J0), (wrap64 (k0 + 1)), rs_, H', ⟨by have := G0.out; omega⟩, ⟨by (with_reducible repeat (first | apply Kd.R_alloc | apply Kd.R_drewN | apply Kd.R_drew)); exact Kd.R_mono F0.out (fun _ hk => trivial)⟩, ⟨bk_ a0⟩, ⟨bl_ HB⟩⟩}
 {
 obtain rfl := Option.some.inj H
 go_wp2
 go_ret
 exact ⟨_, er_, kR_ d0, bl_ HB⟩}))
def psalteryref03_Div.j0 : Nat → Int → Int → Int → Bool → Option (Int)
  | 0, _, _, _, _ => none
  | k + 1, x1, x5, x6, a0 => if a0 = true then (some (wrap64 (x5 + 1))) else (if x6 < 0 then (if (wrap64 (-x6)) ≥ (wrap64 (x1 + x6)) then (some (wrap64 (x5 - 1))) else (some x5)) else (some x5))
def psalteryref03_Div.f (k : Nat) (a0 : Int) (a1 : Int) : Option (Int) := if a1 = 0 then (none) else (if (wrap64 (a0 - (wrap64 ((wrap64 (Int.tdiv a0 a1)) * a1)))) ≥ 0 then (psalteryref03_Div.j0 k a1 (wrap64 (Int.tdiv a0 a1)) (wrap64 (a0 - (wrap64 ((wrap64 (Int.tdiv a0 a1)) * a1)))) (decide ((wrap64 (a0 - (wrap64 ((wrap64 (Int.tdiv a0 a1)) * a1)))) ≥ (wrap64 (a1 - (wrap64 (a0 - (wrap64 ((wrap64 (Int.tdiv a0 a1)) * a1))))))))) else (psalteryref03_Div.j0 k a1 (wrap64 (Int.tdiv a0 a1)) (wrap64 (a0 - (wrap64 ((wrap64 (Int.tdiv a0 a1)) * a1)))) false))
theorem psalteryref03_Div.mono_l : ∀ k, (∀ y0 y1 y2 y3, LeO (psalteryref03_Div.j0 k y0 y1 y2 y3) (psalteryref03_Div.j0 (k + 1) y0 y1 y2 y3))
  | 0 => fun _ _ _ _ r h => by simp [psalteryref03_Div.j0] at h
  | k + 1 => by
    have a0 := psalteryref03_Div.mono_l k
    · intro y0 y1 y2 y3
      unfold psalteryref03_Div.j0
      with_reducible repeat' first
   | apply a0
   | exact LeO.refl _
   | exact LeO.none _
   | refine LeO.ite ?_ ?_
   | refine LeO.bind ?_ (fun _ => ?_)
theorem psalteryref03_Div.mono : ∀ a0 a1 k, LeO (psalteryref03_Div.f k a0 a1) (psalteryref03_Div.f (k + 1) a0 a1) := by
  intro a0 a1 k
  have b0 := psalteryref03_Div.mono_l k
  unfold psalteryref03_Div.f
  with_reducible repeat' first
   | apply b0
   | exact LeO.refl _
   | exact LeO.none _
   | refine LeO.ite ?_ ?_
   | refine LeO.bind ?_ (fun _ => ?_)
set_option maxHeartbeats 8000000 in
set_option maxRecDepth 100000 in
theorem psalteryref03_Div.calls (k : Nat) (a0 : Int) (a1 : Int) (r : Int) (w : World) (h : psalteryref03_Div.f k a0 a1 = some r) :
    Calls Try.prog 87 #[.int .i64 a0, .int .i64 a1] w fun e w' => e = .returned (.int .i64 r) ∧ Drawn0 w w' := by
 have H : (if a1 = 0 then (none) else (if (wrap64 (a0 - (wrap64 ((wrap64 (Int.tdiv a0 a1)) * a1)))) ≥ 0 then (psalteryref03_Div.j0 k a1 (wrap64 (Int.tdiv a0 a1)) (wrap64 (a0 - (wrap64 ((wrap64 (Int.tdiv a0 a1)) * a1)))) (decide ((wrap64 (a0 - (wrap64 ((wrap64 (Int.tdiv a0 a1)) * a1)))) ≥ (wrap64 (a1 - (wrap64 (a0 - (wrap64 ((wrap64 (Int.tdiv a0 a1)) * a1))))))))) else (psalteryref03_Div.j0 k a1 (wrap64 (Int.tdiv a0 a1)) (wrap64 (a0 - (wrap64 ((wrap64 (Int.tdiv a0 a1)) * a1)))) false))) = some r := h
 clear h
 replace H := ii_ H
 rcases H with ⟨c3, H⟩ | ⟨c3, H⟩
 {
 exact absurd H (by simp)}
 {
 have e0 : (a1 == 0) = false := beq_eq_false_iff_ne.mpr c3
 have f0 : (a1 != 0) = true := bne_iff_ne.mpr c3
 have d0 := a_ H
 clear H
 go_enter Try.func87, Try.ntmps87
 go_upto_region 3 with (fail)
 go_cut [23] (fun i0 wc => ∃ (kq : Nat) (b0 : Bool), i0 = .bool b0 ∧ Aside0 (psalteryref03_Div.j0 kq a1 (wrap64 (Int.tdiv a0 a1)) (wrap64 (a0 - (wrap64 ((wrap64 (Int.tdiv a0 a1)) * a1)))) b0 = some r) ∧ Aside0 (kq ≤ k) ∧ Drawn0 w wc)
 case first => (
 have H := d0.out
 clear d0
 replace H := ii_ H
 rcases H with ⟨c5, H⟩ | ⟨c5, H⟩
 {
 have c0 : decide (0 ≤ (wrap64 (a0 - (wrap64 ((wrap64 (Int.tdiv a0 a1)) * a1))))) = true := decide_eq_true c5
 clear c5
 (first | rw [c0] | (simp only [i64_w, i32_w]; rw [c0]) | skip)
 have H' := a_ H
 clear H
 go_wp2
 go_meet
 case rel => exact ⟨_, (decide ((wrap64 (a0 - (wrap64 ((wrap64 (Int.tdiv a0 a1)) * a1)))) ≥ (wrap64 (a1 - (wrap64 (a0 - (wrap64 ((wrap64 (Int.tdiv a0 a1)) * a1)))))))), rs_, H', ⟨ol_⟩, dr_⟩}
 {
 have c0 : decide (0 ≤ (wrap64 (a0 - (wrap64 ((wrap64 (Int.tdiv a0 a1)) * a1))))) = false := decide_eq_false c5
 clear c5
 (first | rw [c0] | (simp only [i64_w, i32_w]; rw [c0]) | skip)
 have H' := a_ H
 clear H
 go_wp2
 go_meet
 case rel => exact ⟨_, (false), rs_, H', ⟨ol_⟩, dr_⟩})
 case rest => (
 clear d0
 try clear c3
 try clear e0
 try clear f0
 obtain ⟨kq, b0, rfl, HA, HJ3, ⟨mc3, rfl⟩⟩ := hcut
 cases kq with
 | zero => exact absurd HA.out (by simp [psalteryref03_Div.j0])
 | succ kj3 => (
 have H := HA.out
 clear HA
 simp only [psalteryref03_Div.j0] at H
 by_cases c6 : b0 = true
 {
 subst c6
 rw [if_pos rfl] at H
 obtain rfl := Option.some.inj H
 go_wp2
 go_ret
 exact ⟨es_, dr_⟩}
 {
 replace c6 := Bool.eq_false_iff.mpr c6
 subst c6
 rw [if_neg (show ¬ (false = true) by decide)] at H
 replace H := id_ H
 rcases H with ⟨g0, H⟩ | ⟨g0, H⟩
 {
 replace H := ii_ H
 rcases H with ⟨c8, H⟩ | ⟨c8, H⟩
 {
 have h0 : decide ((wrap64 (a1 + (wrap64 (a0 - (wrap64 ((wrap64 (Int.tdiv a0 a1)) * a1)))))) ≤ (wrap64 (-(wrap64 (a0 - (wrap64 ((wrap64 (Int.tdiv a0 a1)) * a1))))))) = true := decide_eq_true c8
 clear c8
 obtain rfl := Option.some.inj H
 go_wp2
 go_ret
 exact ⟨es_, dr_⟩}
 {
 have h0 : decide ((wrap64 (a1 + (wrap64 (a0 - (wrap64 ((wrap64 (Int.tdiv a0 a1)) * a1)))))) ≤ (wrap64 (-(wrap64 (a0 - (wrap64 ((wrap64 (Int.tdiv a0 a1)) * a1))))))) = false := decide_eq_false c8
 clear c8
 obtain rfl := Option.some.inj H
 go_wp2
 go_ret
 exact ⟨es_, dr_⟩}}
 {
 obtain rfl := Option.some.inj H
 go_wp2
 go_ret
 exact ⟨es_, dr_⟩}}))}
def psalteryref21_Quantize.l0 : Nat → List Int → List Int → List Int → Int → Option (List Int)
  | 0, _, _, _, _ => none
  | k + 1, x0, x1, x5, x6 => if x6 < 16 then (if 0 ≤ x6 then (if x6 < (x0.length : Int) then (if x6 < (x1.length : Int) then ((psalteryref03_Div.f k (rd x0 x6) (rd x1 x6)).bind fun a0 => (if x5.length < 17592186044416 then (psalteryref21_Quantize.l0 k x0 x1 (x5 ++ [a0]) (wrap64 (x6 + 1))) else (none))) else (none)) else (none)) else (none)) else (some x5)
def psalteryref21_Quantize.f (k : Nat) (l0 : List Int) (l1 : List Int) : Option (List Int) := psalteryref21_Quantize.l0 k l0 l1 ([] : List Int) 0
theorem psalteryref21_Quantize.mono_l : ∀ k, (∀ y0 y1 y2 y3, LeO (psalteryref21_Quantize.l0 k y0 y1 y2 y3) (psalteryref21_Quantize.l0 (k + 1) y0 y1 y2 y3))
  | 0 => fun _ _ _ _ r h => by simp [psalteryref21_Quantize.l0] at h
  | k + 1 => by
    have a0 := psalteryref21_Quantize.mono_l k
    · intro y0 y1 y2 y3
      unfold psalteryref21_Quantize.l0
      with_reducible repeat' first
   | apply a0
   | apply psalteryref03_Div.mono
   | exact LeO.refl _
   | exact LeO.none _
   | refine LeO.ite ?_ ?_
   | refine LeO.bind ?_ (fun _ => ?_)
theorem psalteryref21_Quantize.mono : ∀ a0 a1 k, LeO (psalteryref21_Quantize.f k a0 a1) (psalteryref21_Quantize.f (k + 1) a0 a1) := by
  intro a0 a1 k
  have b0 := psalteryref21_Quantize.mono_l k
  unfold psalteryref21_Quantize.f
  with_reducible repeat' first
   | apply b0
   | apply psalteryref03_Div.mono
   | exact LeO.refl _
   | exact LeO.none _
   | refine LeO.ite ?_ ?_
   | refine LeO.bind ?_ (fun _ => ?_)
def psalteryref21_Quantize.T5 : Bool × List (List Nat × List Nat) := (true, [([], []), ([], []), ([], []), ([1, 2], [1, 2]), ([3], [3]), ([], []), ([], []), ([5, 6], [5, 6]), ([7], [7]), ([4, 8], [4, 8]), ([9], [9]), ([0, 10, 9], [0, 10]), ([11, 11, 0, 1, 2, 3, 4, 5, 6, 7, 8, 9, 10, 11], [0, 11])])
def psalteryref21_Quantize.B5 : List Nat := [0, 0, 0, 6, 14, 0, 0, 96, 224, 510, 1022, 2047, 4095]
theorem psalteryref21_Quantize.tab5 : rtab .any (opsOf Try.f54 5) = psalteryref21_Quantize.T5 := by kernel_rfl
theorem psalteryref21_Quantize.bits5 : waitsOk psalteryref21_Quantize.T5.2 psalteryref21_Quantize.B5 = true := by kernel_rfl
set_option maxHeartbeats 8000000 in
set_option maxRecDepth 100000 in
theorem psalteryref21_Quantize.calls (k : Nat) (A0 : Option Addr) (c0 : Nat) (l0 : List Int) (A1 : Option Addr) (c1 : Nat) (l1 : List Int) (r : List Int) (w : World) (hr0 : Kd.C (Kd.int .i64) w A0 l0.length l0) (hc0 : l0.length ≤ c0) (hr1 : Kd.C (Kd.int .i64) w A1 l1.length l1) (hc1 : l1.length ≤ c1) (h : psalteryref21_Quantize.f k l0 l1 = some r) :
    Calls Try.prog 54 #[.slice A0 l0.length c0, .slice A1 l1.length c1] w fun e w' => ∃ v0_ : Value, e = .returned (v0_) ∧ Kd.R (Kd.int .i64) 2 w' w.heap.size (fun _ => True) v0_ r ∧ Below w.heap.size w w' := by
 have E0 := a_ hr0
 have K0 := a_ hc0
 clear hr0 hc0
 have F0 := a_ hr1
 have L0 := a_ hc1
 clear hr1 hc1
 have HB := a_ (Below.refl w.heap.size w)
 have H : (psalteryref21_Quantize.l0 k l0 l1 ([] : List Int) 0) = some r := h
 clear h
 have H' := a_ H
 clear H
 go_enter Try.func54, Try.ntmps54
 go_wp2
 go_loopg [5, 6] k (fun kq v5 v6 w' => ∃ (i0 : List Int) (a0 : Int), v6 = .int .i64 a0 ∧ Aside0 (psalteryref21_Quantize.l0 kq l0 l1 i0 a0 = some r) ∧ Aside0 (kq ≤ k) ∧ Aside0 (Kd.R (Kd.int .i64) 2 w' w.heap.size (fun _ => True) v5 i0) ∧ Aside0 (Below w.heap.size w w'))
 case atStart => exact ⟨(([] : List Int)), (0), rs_, H', ⟨Nat.le_refl _⟩, ⟨kn_⟩, ⟨bl_ HB⟩⟩
 case round => (
 clear H'
 obtain ⟨i0, a0, rfl, HA, v0, g0, HB⟩ := hrel
 cases gk with
 | zero => exact absurd HA.out (by simp [psalteryref21_Quantize.l0])
 | succ k1 => (
 have H := HA.out
 clear HA
 simp only [psalteryref21_Quantize.l0] at H
 replace H := id_ H
 rcases H with ⟨y0, H⟩ | ⟨y0, H⟩
 {
 replace H := gd_ H
 obtain ⟨G0, H⟩ := H
 replace H := gd_ H
 obtain ⟨H0, H⟩ := H
 replace H := gd_ H
 obtain ⟨I0, H⟩ := H
 obtain ⟨j0, A7, H⟩ := ob_ H
 (try dsimp only at H)
 replace H := gt_ H
 obtain ⟨c8, H⟩ := H
 have z0 := a_ c8
 clear c8
 obtain ⟨B0, h0⟩ : ∃ y_ : List Int, y_ = (i0 ++ [j0]) := ⟨_, rfl⟩
 first | replace H := by_ H h0 | rw [← h0] at H
 have p0 := a_ h0
 clear h0
 have H' := a_ H
 clear H
 try go_wp2
 replace g0 := a_ (Kd.R_drew g0.out)
 replace HB := a_ (below_drew1 HB.out)
 have k0 : 0 ≤ (a0 : Int) := dm_
 have m0 : a0 < (l0.length : Int) := dm_
 obtain ⟨q0, C0, e0⟩ := Kd.at_int E0.out a0 k0 m0
 have b0 := e0
 cases C0
 replace e0 := hc_ HB e0
 replace k0 := eq_true k0
 replace m0 := eq_true m0
 have n0 : 0 ≤ (a0 : Int) := dm_
 have o0 : a0 < (l1.length : Int) := dm_
 obtain ⟨r0, D0, f0⟩ := Kd.at_int F0.out a0 n0 o0
 have d0 := f0
 cases D0
 replace f0 := hc_ HB f0
 replace n0 := eq_true n0
 replace o0 := eq_true o0
 refine start_ (n := 13) (S := fun w' => w'.cell? (q0.add (a0).toNat) = some (.int .i64 (rd l0 a0)) ∧ w'.cell? (r0.add (a0).toNat) = some (.int .i64 (rd l1 a0))) (ds := []) (B_ 13 0) kf_ rfl rfl ⟨(hc_ HB b0), (hc_ HB d0)⟩ (fun hHeld => ?_); refine with_tabW psalteryref21_Quantize.tab5 psalteryref21_Quantize.bits5 (fun HT_ HW_ => ?_)
 generalize wr.drew = w9 at g0 HB e0 f0 hHeld ⊢
 refine pu_ 0 (some 11) (B_ 13 1) HT_ ?_
 refine pu_ 1 (some 12) (B_ 13 3) HT_ ?_
 refine pu_ 2 (some 13) (B_ 13 7) HT_ ?_
 refine pu_ 3 (some 14) (B_ 13 15) HT_ ?_
 refine pu_ 5 (some 16) (B_ 13 47) HT_ ?_
 refine pu_ 6 (some 17) (B_ 13 111) HT_ ?_
 refine pu_ 7 (some 18) (B_ 13 239) HT_ ?_
 refine take_ (i := 4) (N := some 15) (v := ?_) (a' := ?_) (B_ 13 255) rfl rfl (take_ofW HT_.out HW_.out kf_) (fun _ _ _ h => h) (Or.inl ⟨by rfl, ?_⟩) hHeld ?_ ?_
 rotate_left
 {
 rintro w' ⟨s0, s1⟩
 go_simp
 with_reducible rfl}
 rotate_left
 {
 exact sp_}
 refine take_ (i := 8) (N := some 19) (v := ?_) (a' := ?_) (B_ 13 511) rfl rfl (take_ofW HT_.out HW_.out kf_) (fun _ _ _ h => h) (Or.inl ⟨by rfl, ?_⟩) hHeld ?_ ?_
 rotate_left
 {
 rintro w' ⟨s0, s1⟩
 go_simp
 with_reducible rfl}
 rotate_left
 {
 exact sp_}
 refine one_ (i := 9) (N := some 20) (B_ 13 1023) rfl rfl (one_of HT_.out kf_) (by decide) (fun K hK => ?_)
 refine goes_ Try.func87 kf_ rfl #[.int .i64 (rd l0 a0), .int .i64 (rd l1 a0)] (by rfl) rfl rfl ar_ ?_
 with_reducible refine (psalteryref03_Div.calls k1 (rd l0 a0) (rd l1 a0) j0 _ A7.out).mono ?_
 rintro e w' ⟨rfl, ⟨nd, rfl⟩⟩
 refine ⟨_, rfl, ?_⟩
 refine hK.out _ _ ⟨(hc_ HB b0), (hc_ HB d0)⟩ (fun hHeld => ?_)
 clear hK K
 refine norm_ (a' := ?_) ?_ ?_
 rotate_left
 {
 show Act.put _ (some 20) _ = _
 exact sp_}
 refine one_ (i := 10) (N := some 21) (B_ 13 2047) rfl rfl (one_of HT_.out kf_) (by decide) (fun K hK => ?_)
 refine value_ (w1 := ?_) (v := ?_) (by rfl) rfl ?_ ?_
 rotate_left 2
 {
 go_simp
 constructor
 {
 rfl}
 {
 rfl}}
 refine hK.out _ _ ⟨(World.cell?_alloc_lt _ _ _ (World.block_lt_of_cell? _ _ ((hc_ HB b0)))).trans ((hc_ HB b0)), (World.cell?_alloc_lt _ _ _ (World.block_lt_of_cell? _ _ ((hc_ HB d0)))).trans ((hc_ HB d0))⟩ (fun hHeld => ?_)
 clear hK K
 refine norm_ (a' := ?_) ?_ ?_
 rotate_left
 {
 show Act.put _ (some 21) _ = _
 exact sp_}
 refine one_ (i := 11) (N := some 22) (B_ 13 4095) rfl rfl (one_of HT_.out kf_) (by decide) (fun K hK => ?_)
 refine Kd.R_append_step (Kd.int .i64) (w0 := w) w.heap.size (by rfl) (.tmp 11) (.tmp 21) 53 2 (.int .i64 0) 8 rfl Try.underlying53 info2 rfl (by decide) (by omega) u5 i0 j0 [.int .i64 j0] (fun _ => True) (fun _ => False) rfl rfl ?aP (fun _ hk => hk.elim) ?aF ?aO ?aB ?aS ?aL ?_
 (case aP => exact rfl)
 (case aB => exact (bl_ HB))
 (case aF => exact (fun _ _ => trivial))
 (case aO => exact (kR_ g0))
 (case aS => exact (bs_ HB))
 (case aL => have := z0.out; omega)
 intro J0 M0 ho hb hg hat
 rw [← p0.out] at ho
 replace HB := a_ (hb)
 have t0 := a_ (ho)
 clear g0
 clear ho hb hg hat
 refine hK.out _ _ ⟨(hc_ HB b0), (hc_ HB d0)⟩ (fun hHeld => ?_)
 clear hK K
 refine norm_ (a' := ?_) ?_ ?_
 rotate_left
 {
 show Act.put _ (some 22) _ = _
 exact sp_}
 refine pu_ 12 (some 5) (B_ 13 8191) HT_ ?_
 refine done_ (done_of HT_.out kf_) ?_
 try go_wp2
 go_roundg k1
 case measure => have := v0.out; omega
 case rel => exact ⟨(B0), (wrap64 (a0 + 1)), rs_, H', ⟨by have := v0.out; omega⟩, ⟨kR_ t0⟩, ⟨bl_ HB⟩⟩}
 {
 obtain rfl := Option.some.inj H
 go_wp2
 go_ret
 exact ⟨_, er_, kR_ g0, bl_ HB⟩}))
def psalteryref22_noughts.l0 : Nat → List Int → Int → Option (Bool)
  | 0, _, _ => none
  | k + 1, x0, x3 => if x3 < (x0.length : Int) then (if 0 ≤ x3 then (if (rd x0 x3) = 0 then (psalteryref22_noughts.l0 k x0 (wrap64 (x3 + 1))) else (some false)) else (none)) else (some true)
def psalteryref22_noughts.f (k : Nat) (l0 : List Int) : Option (Bool) := psalteryref22_noughts.l0 k l0 0
theorem psalteryref22_noughts.mono_l : ∀ k, (∀ y0 y1, LeO (psalteryref22_noughts.l0 k y0 y1) (psalteryref22_noughts.l0 (k + 1) y0 y1))
  | 0 => fun _ _ r h => by simp [psalteryref22_noughts.l0] at h
  | k + 1 => by
    have a0 := psalteryref22_noughts.mono_l k
    · intro y0 y1
      unfold psalteryref22_noughts.l0
      with_reducible repeat' first
   | apply a0
   | exact LeO.refl _
   | exact LeO.none _
   | refine LeO.ite ?_ ?_
   | refine LeO.bind ?_ (fun _ => ?_)
theorem psalteryref22_noughts.mono : ∀ a0 k, LeO (psalteryref22_noughts.f k a0) (psalteryref22_noughts.f (k + 1) a0) := by
  intro a0 k
  have b0 := psalteryref22_noughts.mono_l k
  unfold psalteryref22_noughts.f
  with_reducible repeat' first
   | apply b0
   | exact LeO.refl _
   | exact LeO.none _
   | refine LeO.ite ?_ ?_
   | refine LeO.bind ?_ (fun _ => ?_)
set_option maxHeartbeats 8000000 in
set_option maxRecDepth 100000 in
theorem psalteryref22_noughts.calls (k : Nat) (A0 : Option Addr) (c0 : Nat) (l0 : List Int) (r : Bool) (w : World) (hr0 : Kd.C (Kd.int .i64) w A0 l0.length l0) (hc0 : l0.length ≤ c0) (h : psalteryref22_noughts.f k l0 = some r) :
    Calls Try.prog 55 #[.slice A0 l0.length c0] w fun e w' => e = .returned (.bool r) ∧ Drawn0 w w' := by
 have h0 := a_ hr0
 have o0 := a_ hc0
 clear hr0 hc0
 have H : (psalteryref22_noughts.l0 k l0 0) = some r := h
 clear h
 have H' := a_ H
 clear H
 go_enter Try.func55, Try.ntmps55
 go_wp2
 go_loopg [3] k (fun kq v3 w' => ∃ (a0 : Int), v3 = .int .i64 a0 ∧ Aside0 (psalteryref22_noughts.l0 kq l0 a0 = some r) ∧ Aside0 (kq ≤ k) ∧ Drawn0 w w')
 case atStart => exact ⟨(0), rs_, H', ⟨Nat.le_refl _⟩, dr_⟩
 case round => (
 clear H'
 obtain ⟨a0, rfl, HA, i0, ⟨m1, rfl⟩⟩ := hrel
 cases gk with
 | zero => exact absurd HA.out (by simp [psalteryref22_noughts.l0])
 | succ k1 => (
 have H := HA.out
 clear HA
 simp only [psalteryref22_noughts.l0] at H
 replace H := id_ H
 rcases H with ⟨j0, H⟩ | ⟨j0, H⟩
 {
 replace H := gd_ H
 obtain ⟨n0, H⟩ := H
 replace H := ie_ H
 rcases H with ⟨k0, m0, H⟩ | ⟨c4, k0, m0, H⟩
 {
 have H' := a_ H
 clear H
 have b0 : 0 ≤ (a0 : Int) := dm_
 have d0 : a0 < (l0.length : Int) := dm_
 obtain ⟨g0, e0, f0⟩ := Kd.at_int h0.out a0 b0 d0
 cases e0
 replace b0 := eq_true b0
 replace d0 := eq_true d0
 go_wp2
 go_roundg k1
 case measure => have := i0.out; omega
 case rel => exact ⟨(wrap64 (a0 + 1)), rs_, H', ⟨by have := i0.out; omega⟩, dr_⟩}
 {
 obtain rfl := Option.some.inj H
 have b0 : 0 ≤ (a0 : Int) := dm_
 have d0 : a0 < (l0.length : Int) := dm_
 obtain ⟨g0, e0, f0⟩ := Kd.at_int h0.out a0 b0 d0
 cases e0
 replace b0 := eq_true b0
 replace d0 := eq_true d0
 go_wp2
 go_ret
 exact ⟨es_, dr_⟩}}
 {
 obtain rfl := Option.some.inj H
 go_wp2
 go_ret
 exact ⟨es_, dr_⟩}))
def psalteryref15_size.f (a0 : Int) : Option (Int) := if a0 < 0 then (some (wrap64 (-a0))) else (some a0)
set_option maxHeartbeats 8000000 in
set_option maxRecDepth 100000 in
theorem psalteryref15_size.calls (a0 : Int) (r : Int) (w : World) (h : psalteryref15_size.f a0 = some r) :
    Calls Try.prog 88 #[.int .i64 a0] w fun e w' => e = .returned (.int .i64 r) ∧ Drawn0 w w' := by
 have H : (if a0 < 0 then (some (wrap64 (-a0))) else (some a0)) = some r := h
 clear h
 replace H := id_ H
 rcases H with ⟨b0, H⟩ | ⟨b0, H⟩
 {
 obtain rfl := Option.some.inj H
 go_enter Try.func88, Try.ntmps88
 go_wp2
 go_ret
 exact ⟨es_, dr_⟩}
 {
 obtain rfl := Option.some.inj H
 go_enter Try.func88, Try.ntmps88
 go_wp2
 go_ret
 exact ⟨es_, dr_⟩}
def psalteryref15_Couple.f (a0 : Int) (a1 : Int) : Option (Int × Int) := (psalteryref15_size.f a0).bind fun b0 => ((psalteryref15_size.f a1).bind fun c0 => (if b0 > c0 then (if a0 > 0 then (some (a0, wrap64 (a0 - a1))) else (some (a0, wrap64 (a1 - a0)))) else (if a1 > 0 then (some (a1, wrap64 (a0 - a1))) else (some (a1, wrap64 (a1 - a0))))))
set_option maxHeartbeats 8000000 in
set_option maxRecDepth 100000 in
theorem psalteryref15_Couple.calls (a0 : Int) (a1 : Int) (r1 : Int) (r2 : Int) (w : World) (h : psalteryref15_Couple.f a0 a1 = some (r1, r2)) :
    Calls Try.prog 56 #[.int .i64 a0, .int .i64 a1] w fun e w' => e = .returned (.tuple #[.int .i64 r1, .int .i64 r2]) ∧ Drawn0 w w' := by
 have H : ((psalteryref15_size.f a0).bind fun b0 => ((psalteryref15_size.f a1).bind fun c0 => (if b0 > c0 then (if a0 > 0 then (some (a0, wrap64 (a0 - a1))) else (some (a0, wrap64 (a1 - a0)))) else (if a1 > 0 then (some (a1, wrap64 (a0 - a1))) else (some (a1, wrap64 (a1 - a0))))))) = some (r1, r2) := h
 clear h
 obtain ⟨b0, A3, H⟩ := ob_ H
 (try dsimp only at H)
 obtain ⟨c0, A4, H⟩ := ob_ H
 (try dsimp only at H)
 replace H := ii_ H
 rcases H with ⟨c5, H⟩ | ⟨c5, H⟩
 {
 have d0 : decide (c0 < b0) = true := decide_eq_true c5
 clear c5
 replace H := ii_ H
 rcases H with ⟨c6, H⟩ | ⟨c6, H⟩
 {
 have e0 : decide (0 < a0) = true := decide_eq_true c6
 clear c6
 simp only [Option.some.injEq, Prod.mk.injEq] at H
 obtain ⟨rfl, rfl⟩ := H
 go_enter Try.func56, Try.ntmps56
 go_wp2_with (first | ((with_reducible refine gate_callee (f := 88) rfl ?_); refine gL_ (some 7) Try.func88 #[.int .i64 a0] ?_; (with_reducible refine (psalteryref15_size.calls a0 b0 _ A3.out).mono ?_); rintro e w' ⟨rfl, ⟨nd, rfl⟩⟩; refine ⟨_, rfl, ?_⟩) | ((with_reducible refine gate_callee (f := 88) rfl ?_); refine gL_ (some 9) Try.func88 #[.int .i64 a1] ?_; (with_reducible refine (psalteryref15_size.calls a1 c0 _ A4.out).mono ?_); rintro e w' ⟨rfl, ⟨nd, rfl⟩⟩; refine ⟨_, rfl, ?_⟩))
 go_ret2
 exact ⟨es_, dr_⟩}
 {
 have e0 : decide (0 < a0) = false := decide_eq_false c6
 clear c6
 simp only [Option.some.injEq, Prod.mk.injEq] at H
 obtain ⟨rfl, rfl⟩ := H
 go_enter Try.func56, Try.ntmps56
 go_wp2_with (first | ((with_reducible refine gate_callee (f := 88) rfl ?_); refine gL_ (some 7) Try.func88 #[.int .i64 a0] ?_; (with_reducible refine (psalteryref15_size.calls a0 b0 _ A3.out).mono ?_); rintro e w' ⟨rfl, ⟨nd, rfl⟩⟩; refine ⟨_, rfl, ?_⟩) | ((with_reducible refine gate_callee (f := 88) rfl ?_); refine gL_ (some 9) Try.func88 #[.int .i64 a1] ?_; (with_reducible refine (psalteryref15_size.calls a1 c0 _ A4.out).mono ?_); rintro e w' ⟨rfl, ⟨nd, rfl⟩⟩; refine ⟨_, rfl, ?_⟩))
 go_ret2
 exact ⟨es_, dr_⟩}}
 {
 have d0 : decide (c0 < b0) = false := decide_eq_false c5
 clear c5
 replace H := ii_ H
 rcases H with ⟨c7, H⟩ | ⟨c7, H⟩
 {
 have f0 : decide (0 < a1) = true := decide_eq_true c7
 clear c7
 simp only [Option.some.injEq, Prod.mk.injEq] at H
 obtain ⟨rfl, rfl⟩ := H
 go_enter Try.func56, Try.ntmps56
 go_wp2_with (first | ((with_reducible refine gate_callee (f := 88) rfl ?_); refine gL_ (some 7) Try.func88 #[.int .i64 a0] ?_; (with_reducible refine (psalteryref15_size.calls a0 b0 _ A3.out).mono ?_); rintro e w' ⟨rfl, ⟨nd, rfl⟩⟩; refine ⟨_, rfl, ?_⟩) | ((with_reducible refine gate_callee (f := 88) rfl ?_); refine gL_ (some 9) Try.func88 #[.int .i64 a1] ?_; (with_reducible refine (psalteryref15_size.calls a1 c0 _ A4.out).mono ?_); rintro e w' ⟨rfl, ⟨nd, rfl⟩⟩; refine ⟨_, rfl, ?_⟩))
 go_ret2
 exact ⟨es_, dr_⟩}
 {
 have f0 : decide (0 < a1) = false := decide_eq_false c7
 clear c7
 simp only [Option.some.injEq, Prod.mk.injEq] at H
 obtain ⟨rfl, rfl⟩ := H
 go_enter Try.func56, Try.ntmps56
 go_wp2_with (first | ((with_reducible refine gate_callee (f := 88) rfl ?_); refine gL_ (some 7) Try.func88 #[.int .i64 a0] ?_; (with_reducible refine (psalteryref15_size.calls a0 b0 _ A3.out).mono ?_); rintro e w' ⟨rfl, ⟨nd, rfl⟩⟩; refine ⟨_, rfl, ?_⟩) | ((with_reducible refine gate_callee (f := 88) rfl ?_); refine gL_ (some 9) Try.func88 #[.int .i64 a1] ?_; (with_reducible refine (psalteryref15_size.calls a1 c0 _ A4.out).mono ?_); rintro e w' ⟨rfl, ⟨nd, rfl⟩⟩; refine ⟨_, rfl, ?_⟩))
 go_ret2
 exact ⟨es_, dr_⟩}}
end Go.Proofs.Ytdajlfijkbafiaa.P
