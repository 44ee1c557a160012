/- Words, walks and what they compute, as the law's proof needs them. -/
import Derived.Test.YtdajlfijkbafiaaW3
import Derived.Test.YtdajlfijkbafiaaW5
import Derived.Maps.OwnSet
import Derived.DeepKeys4
set_option linter.unusedVariables false
set_option linter.unusedSimpArgs false
set_option maxHeartbeats 8000000
set_option maxRecDepth 100000
namespace Go.Proofs.Ytdajlfijkbafiaa.P
open Go.RowKit Go.Proofs.YtdajlfijkbafiaaW.PrintWords Go.Proofs.YtdajlfijkbafiaaW.PrintLast Go.Proofs.YtdajlfijkbafiaaW.PrintMore
attribute [local go_sem] max2_int min2_int max_two min_two max_three min_three max_four min_four
mutual
def FD_.l0 : Nat → List Int → List Int → Int → Int → Option (List Int × Int)
  | 0, _, _, _, _ => none
  | k + 1, x0, x4, x5, x6 => if x6 ≤ 16 then (FD_.l1 k x0 x4 ((x5 * 2) % 4294967296) x6 x0 (x0.length : Int) 0) else (some (x4, 0))
def FD_.l1 : Nat → List Int → List Int → Int → Int → List Int → Int → Int → Option (List Int × Int)
  | 0, _, _, _, _, _, _, _ => none
  | k + 1, x0, x4, x5, x6, b0, c0, a0 => if a0 < c0 then (if 0 ≤ a0 then (if a0 < (b0.length : Int) then (if (rd b0 a0) = x6 then (if a0 < (x4.length : Int) then (FD_.l1 k x0 (x4.set (a0 : Int).toNat x5) ((x5 + 1) % 4294967296) x6 b0 c0 (wrap64 (a0 + 1))) else (none)) else (FD_.l1 k x0 x4 x5 x6 b0 c0 (wrap64 (a0 + 1)))) else (none)) else (none)) else (FD_.l0 k x0 x4 x5 (wrap64 (x6 + 1)))
end
def FD_.f (k : Nat) (l0 : List Int) : Option (List Int × Int) := (Fq_.f k l0).bind fun a0 => (if a0 = true then (if 0 ≤ (l0.length : Int) then (if ((l0.length : Int) : Int).toNat ≤ 70368744177664 then (FD_.l0 k l0 (List.replicate ((l0.length : Int) : Int).toNat 0) 0 1) else (none)) else (none)) else (some (([] : List Int), 1)))
theorem FD_.mono_l : ∀ k, (∀ y0 y1 y2 y3, LeO (FD_.l0 k y0 y1 y2 y3) (FD_.l0 (k + 1) y0 y1 y2 y3)) ∧ (∀ y0 y1 y2 y3 y4 y5 y6, LeO (FD_.l1 k y0 y1 y2 y3 y4 y5 y6) (FD_.l1 (k + 1) y0 y1 y2 y3 y4 y5 y6))
  | 0 => ⟨fun _ _ _ _ r h => by simp [FD_.l0] at h, fun _ _ _ _ _ _ _ r h => by simp [FD_.l1] at h⟩
  | k + 1 => by
    obtain ⟨a0, b0⟩ := FD_.mono_l k
    refine ⟨?_, ?_⟩
    all_goals (intros; first | unfold FD_.l0 | unfold FD_.l1)
    all_goals with_reducible repeat' first
     | apply a0
     | exact b0 _ _ _ _ _ _ _
     | apply Fq_.mono
     | exact LeO.refl _
     | exact LeO.none _
     | refine LeO.ite ?_ ?_
     | refine LeO.bind ?_ (fun _ => ?_)
theorem FD_.mono : ∀ a0 k, LeO (FD_.f k a0) (FD_.f (k + 1) a0) := by
  intro a0 k
  obtain ⟨b0, c0⟩ := FD_.mono_l k
  unfold FD_.f
  with_reducible repeat' first
   | apply b0
   | exact c0 _ _ _ _ _ _ _
   | apply Fq_.mono
   | exact LeO.refl _
   | exact LeO.none _
   | refine LeO.ite ?_ ?_
   | refine LeO.bind ?_ (fun _ => ?_)
theorem FD_.calls (k : Nat) (A0 : Option Addr) (c0 : Nat) (l0 : List Int) (r1 : List Int) (r2 : Int) (w : World) (hr0 : Kd.C (Kd.int .i64) w A0 l0.length l0) (hc0 : l0.length ≤ c0) (h : FD_.f k l0 = some (r1, r2)) :
    Calls Try.prog 85 #[.slice A0 l0.length c0] w fun e w' => ∃ v0_ : Value, e = .returned (.tuple #[v0_, .int .i64 r2]) ∧ Kd.R (Kd.int .u32) 119 w' w.heap.size (fun _ => True) v0_ r1 ∧ Below w.heap.size w w' := by
 have s0 := a_ hr0
 have P0 := a_ hc0
 clear hr0 hc0
 have HB := a_ (Below.refl w.heap.size w)
 have H : ((Fq_.f k l0).bind fun v0 => (if v0 = true then (if 0 ≤ (l0.length : Int) then (if ((l0.length : Int) : Int).toNat ≤ 70368744177664 then (FD_.l0 k l0 (List.replicate ((l0.length : Int) : Int).toNat 0) 0 1) else (none)) else (none)) else (some (([] : List Int), 1)))) = some (r1, r2) := h
 clear h
 obtain ⟨v0, A2, H⟩ := ob_ H
 (try dsimp only at H)
 replace H := ib_ H
 rcases H with ⟨rfl, H⟩ | ⟨rfl, H⟩
 {
 replace H := gt_ H
 obtain ⟨c4, H⟩ := H
 have w0 := eq_true c4
 have y0 : decide (0 ≤ (l0.length : Int)) = true := decide_eq_true c4
 clear c4
 replace H := gt_ H
 obtain ⟨c5, H⟩ := H
 have z0 := eq_true c5
 have B0 : decide (((l0.length : Int) : Int).toNat ≤ 70368744177664) = true := decide_eq_true c5
 clear c5
 obtain ⟨Q0, i0⟩ : ∃ y_ : List Int, y_ = (List.replicate ((l0.length : Int) : Int).toNat 0) := ⟨_, rfl⟩
 first | replace H := by_ H i0 | rw [← i0] at H
 have t0 := a_ i0
 clear i0
 have H' := a_ H
 clear H
 go_enter Try.func85, Try.ntmps85
 go_wp2_with (first | ((with_reducible refine gate_callee (f := 101) rfl ?_); refine gL_ (some 10) Try.func101 #[.slice A0 l0.length c0] ?_; (with_reducible refine (Fq_.calls k _ _ l0 true _ ?side1 ?side2 A2.out).mono ?_); (case side1 => repeat (first | exact s0.out | (with_reducible refine Kd.C_alloc ?_ _) | (with_reducible refine Kd.C_drewN ?_ _) | (with_reducible refine Kd.C_drew ?_))); (case side2 => exact P0.out); rintro e w' ⟨rfl, ⟨nd, rfl⟩⟩; refine ⟨_, rfl, ?_⟩) | ((with_reducible refine gate_dst (N := 14) rfl ?_); refine Kd.R_make (Kd.int .u32) _ 119 rfl (N := 14) rfl 116 _ _ rfl (l0.length : Int) rfl rfl Try.underlying116 (.int .u32 0) 4 info119 rfl (by decide) (by omega) 0 (ok := fun _ => True) (okp := fun _ => True) rfl (fun _ hk => hk) trivial (dm_) (Nat.le_trans (Nat.mul_le_mul_right _ (dm_ : (l0.length : Int).toNat ≤ 70368744177664)) (by omega)) (Below.refl _ _) (Nat.le_refl _) ?_; intro C0 w6 q0 hb hg_ hnew_; clear hg_ hnew_; (first | rw [← t0.out] at q0 | (simp only [Int.reduceToNat] at q0; rw [← t0.out] at q0)); have K0 := a_ (Kd.R_lower q0 (bs_ HB)); replace HB := BS_ HB hb; clear hb q0))
 go_loopg [5, 6] k (fun kq v5 v6 w' => ∃ (o0 : List Int) (p0 : Int) (k0 : Int), v5 = .int .u32 p0 ∧ v6 = .int .i64 k0 ∧ Aside0 (FD_.l0 kq l0 o0 p0 k0 = some (r1, r2)) ∧ Aside0 (kq ≤ k) ∧ Aside0 (Kd.R (Kd.int .u32) 119 w' w.heap.size (fun _ => True) C0 o0) ∧ Aside0 (Below w.heap.size w w'))
 case atStart => exact ⟨(Q0), (0), (1), rs_, rs_, H', ⟨Nat.le_refl _⟩, ⟨kR_ K0⟩, ⟨bl_ HB⟩⟩
 case round => (
 clear H'
 try clear c3
 try clear c4
 try clear w0
 try clear y0
 try clear c5
 try clear z0
 try clear B0
 obtain ⟨o0, p0, k0, rfl, rfl, HA, m0, b0, HB⟩ := hrel
 cases gk with
 | zero => exact absurd HA.out (by simp [FD_.l0])
 | succ k1 => (
 have H := HA.out
 clear HA
 simp only [FD_.l0] at H
 replace H := id_ H
 rcases H with ⟨D0, H⟩ | ⟨D0, H⟩
 {
 have H' := a_ H
 clear H
 go_wp2
 go_loopg [5, 23] k1 (fun kq v5 T0 w' => ∃ (f0 : List Int) (e0 : Int) (a0 : Int), v5 = .int .u32 e0 ∧ T0 = .int .i64 a0 ∧ Aside0 (FD_.l1 kq l0 f0 e0 k0 l0 (l0.length : Int) a0 = some (r1, r2)) ∧ Aside0 (kq ≤ k1) ∧ Aside0 (Kd.R (Kd.int .u32) 119 w' w.heap.size (fun _ => True) C0 f0) ∧ Aside0 (Below w.heap.size w w'))
 case atStart => exact ⟨(o0), ((p0 * 2) % 4294967296), (0), rs_, rs_, H', ⟨Nat.le_refl _⟩, ⟨kR_ b0⟩, ⟨bl_ HB⟩⟩
 case round => (
 clear H'
 try clear c3
 try clear c4
 try clear w0
 try clear y0
 try clear c5
 try clear z0
 try clear B0
 try clear c8
 try clear D0
 obtain ⟨f0, e0, a0, rfl, rfl, HA, n0, b0, HB⟩ := hrel
 cases gk with
 | zero => exact absurd HA.out (by simp [FD_.l1])
 | succ k2 => (
 have H := HA.out
 clear HA
 simp only [FD_.l1] at H
 replace H := id_ H
 rcases H with ⟨R0, H⟩ | ⟨R0, H⟩
 {
 replace H := gd_ H
 obtain ⟨V0, H⟩ := H
 replace H := gd_ H
 obtain ⟨W0, H⟩ := H
 replace H := ie_ H
 rcases H with ⟨L0, M0, H⟩ | ⟨Y0, L0, M0, H⟩
 {
 replace H := gd_ H
 obtain ⟨X0, H⟩ := H
 obtain ⟨E0, j0⟩ : ∃ y_ : List Int, y_ = (f0.set (a0 : Int).toNat e0) := ⟨_, rfl⟩
 first | replace H := by_ H j0 | rw [← j0] at H
 have N0 := a_ j0
 clear j0
 have H' := a_ H
 clear H
 have g0 : 0 ≤ (a0 : Int) := dm_
 have h0 : a0 < (l0.length : Int) := dm_
 obtain ⟨O0, r0, d0⟩ := Kd.at_int s0.out a0 g0 h0
 cases r0
 replace d0 := hc_ HB d0
 replace g0 := eq_true g0
 replace h0 := eq_true h0
 have F0 : 0 ≤ (a0 : Int) := dm_
 have G0 : (a0 : Int) < ((f0.length : Int) : Int) := dm_
 obtain ⟨go14, S0, H0, I0, gl14, cl14, HG14⟩ := Kd.R_form b0.out (by omega)
 (first | cases H0 | (injection H0 with ea_ en_ ec_; (first | subst ea_ | (injection ea_ with ea_; subst ea_)); subst ec_; clear en_))
 have GB14 := a_ I0
 have GG14 := a_ HG14
 clear I0 gl14 HG14
 obtain ⟨U0, hf14_0⟩ := Kd.R_celln 0 b0.out (a0 : Int) F0 G0
 replace F0 := eq_true F0
 replace G0 := eq_true G0
 have HP15 := Kd.R_putg b0.out (a0 : Int) e0
 go_wp2_with (first | ((with_reducible refine gate_store (t := 119) (p := 34) rfl ?_); refine store_event (t := 119) (p := 34) (v := ?vo_w16) (w1 := (wr.setCell ⟨go14, (a0 : Int).toNat, none⟩ (.int .u32 e0))) ?hg ?ho ?hn ?hr ?_; (case ho => rfl); (case hg => rfl); (case hn => rfl); (case hr => first | (go_simp; done) | (go_simp; rfl)); intro J0 hw; have hg : wr.grownBy J0 (some go14) := (by rw [hw]; exact HP15.2); have hp_ : Kd.R (Kd.int .u32) 119 J0 w.heap.size (fun _ => True) (.slice (some ⟨go14, 0, none⟩) f0.length S0) E0 := (by rw [hw, N0.out]; exact HP15.1); clear HP15; replace b0 := a_ (hp_); replace HB := a_ ((by rw [hw]; exact below_set (HB.out) GB14.out : Below w.heap.size w J0)); clear hg hw hp_))
 go_roundg k2
 case measure => have := m0.out; have := n0.out; omega
 case rel => exact ⟨(E0), ((e0 + 1) % 4294967296), (wrap64 (a0 + 1)), rs_, rs_, H', ⟨by have := m0.out; have := n0.out; omega⟩, ⟨kR_ b0⟩, ⟨bl_ HB⟩⟩}
 {
 have H' := a_ H
 clear H
 have g0 : 0 ≤ (a0 : Int) := dm_
 have h0 : a0 < (l0.length : Int) := dm_
 obtain ⟨O0, r0, d0⟩ := Kd.at_int s0.out a0 g0 h0
 cases r0
 replace d0 := hc_ HB d0
 replace g0 := eq_true g0
 replace h0 := eq_true h0
 go_wp2
 go_roundg k2
 case measure => have := m0.out; have := n0.out; omega
 case rel => exact ⟨(f0), (e0), (wrap64 (a0 + 1)), rs_, rs_, H', ⟨by have := m0.out; have := n0.out; omega⟩, ⟨kR_ b0⟩, ⟨bl_ HB⟩⟩}}
 {
 have H' := a_ H
 clear H
 go_wp2
 go_roundg k2
 case measure => have := m0.out; have := n0.out; omega
 case rel => exact ⟨(f0), (e0), (wrap64 (k0 + 1)), rs_, rs_, H', ⟨by have := m0.out; have := n0.out; omega⟩, ⟨kR_ b0⟩, ⟨bl_ HB⟩⟩}))}
 {
 simp only [Option.some.injEq, Prod.mk.injEq] at H
 obtain ⟨rfl, rfl⟩ := H
 go_wp2
 go_ret2
 exact ⟨_, er_, kR_ b0, bl_ HB⟩}))}
 {
 simp only [Option.some.injEq, Prod.mk.injEq] at H
 obtain ⟨rfl, rfl⟩ := H
 go_enter Try.func85, Try.ntmps85
 go_wp2_with (first | ((with_reducible refine gate_callee (f := 101) rfl ?_); refine gL_ (some 10) Try.func101 #[.slice A0 l0.length c0] ?_; (with_reducible refine (Fq_.calls k _ _ l0 false _ ?side1 ?side2 A2.out).mono ?_); (case side1 => repeat (first | exact s0.out | (with_reducible refine Kd.C_alloc ?_ _) | (with_reducible refine Kd.C_drewN ?_ _) | (with_reducible refine Kd.C_drew ?_))); (case side2 => exact P0.out); rintro e w' ⟨rfl, ⟨nd, rfl⟩⟩; refine ⟨_, rfl, ?_⟩))
 go_ret2
 exact ⟨_, er_, kn_, bl_ HB⟩}
theorem G1_ {α : Type} {d : Kd α} {e : Nat} {W : World} {base : Nat} {P Q R : Nat → Prop} {v : Value} {xs : List α} (h : Kd.V d e W base (fun k => Q k ∧ R k) v xs) : Kd.V d e W base (fun k => (P k ∨ Q k) ∧ R k) v xs := Kd.V_mono h (fun _ hk => ⟨.inr hk.1, hk.2⟩)
mutual
def Fk_.j0 : Nat → List Int → Int → List Int → Bool → List Int → Int → Option (List Int × Int × Int)
  | 0, _, _, _, _, _, _ => none
  | k + 1, x1, x2, x8, d0, a0, b0 => if d0 = true then ((Fo_.f k a0 b0 0 0).bind fun c0 => (some (c0.1, c0.2.1, 1))) else (if 0 ≤ x2 then (if x2 < (x1.length : Int) then (Fk_.l0 k x2 x8 (wrap64 ((rd x1 x2) - 1)) a0 b0 a0 b0) else (none)) else (none))
def Fk_.l0 : Nat → Int → List Int → Int → List Int → Int → List Int → Int → Option (List Int × Int × Int)
  | 0, _, _, _, _, _, _, _ => none
  | k + 1, x2, x8, f0, b0, c0, d0, e0 => if f0 ≥ 0 then (if 0 ≤ x2 then (if x2 < (x8.length : Int) then (if 0 ≤ f0 then ((Fo_.f k d0 e0 (IntKind.u64.wrap (Go.bits .and .u32 (shr .u32 (rd x8 x2) f0) 1)) 1).bind fun a0 => (if a0.2.2 = 0 then (Fk_.l0 k x2 x8 (wrap64 (f0 - 1)) b0 c0 a0.1 a0.2.1) else ((Fo_.f k b0 c0 0 0).bind fun g0 => (some (g0.1, g0.2.1, a0.2.2))))) else (none)) else (none)) else (none)) else (some (d0, e0, 0))
end
def Fk_.f (k : Nat) (b0 : List Int) (c0 : Int) (l1 : List Int) (a2 : Int) : Option (List Int × Int × Int) := (FD_.f k l1).bind fun a0 => (if a0.2 = 0 then (if a2 < 0 then (Fk_.j0 k l1 a2 a0.1 true b0 c0) else (if a2 ≥ (l1.length : Int) then (Fk_.j0 k l1 a2 a0.1 true b0 c0) else (if 0 ≤ a2 then (if a2 < (l1.length : Int) then (Fk_.j0 k l1 a2 a0.1 ((rd l1 a2) == 0) b0 c0) else (none)) else (none)))) else (Fk_.j0 k l1 a2 a0.1 true b0 c0))
theorem Fk_.mono_l : ∀ k, (∀ y0 y1 y2 y3 y4 y5, LeO (Fk_.j0 k y0 y1 y2 y3 y4 y5) (Fk_.j0 (k + 1) y0 y1 y2 y3 y4 y5)) ∧ (∀ y0 y1 y2 y3 y4 y5 y6, LeO (Fk_.l0 k y0 y1 y2 y3 y4 y5 y6) (Fk_.l0 (k + 1) y0 y1 y2 y3 y4 y5 y6))
  | 0 => ⟨fun _ _ _ _ _ _ r h => by simp [Fk_.j0] at h, fun _ _ _ _ _ _ _ r h => by simp [Fk_.l0] at h⟩
  | k + 1 => by
    obtain ⟨a0, b0⟩ := Fk_.mono_l k
    refine ⟨?_, ?_⟩
    all_goals (intros; first | unfold Fk_.j0 | unfold Fk_.l0)
    all_goals with_reducible repeat' first
     | apply a0
     | exact b0 _ _ _ _ _ _ _
     | apply Fo_.mono
     | apply FD_.mono
     | exact LeO.refl _
     | exact LeO.none _
     | refine LeO.ite ?_ ?_
     | refine LeO.bind ?_ (fun _ => ?_)
theorem Fk_.mono : ∀ a0 a1 a2 a3 k, LeO (Fk_.f k a0 a1 a2 a3) (Fk_.f (k + 1) a0 a1 a2 a3) := by
  intro a0 a1 a2 a3 k
  obtain ⟨b0, c0⟩ := Fk_.mono_l k
  unfold Fk_.f
  with_reducible repeat' first
   | apply b0
   | exact c0 _ _ _ _ _ _ _
   | apply Fo_.mono
   | apply FD_.mono
   | exact LeO.refl _
   | exact LeO.none _
   | refine LeO.ite ?_ ?_
   | refine LeO.bind ?_ (fun _ => ?_)
def Fk_.T9 : Bool × List (List Nat × List Nat) := (true, [([], []), ([], []), ([], []), ([1, 2], [1, 2]), ([3], [3]), ([], []), ([4, 5], [4, 5]), ([6], [6]), ([7], [7]), ([0, 8], [0, 8]), ([9], [9]), ([10], [10]), ([10], [10]), ([], []), ([13, 11, 9, 0, 1, 2, 3, 4, 5, 6, 7, 8, 9, 10, 11, 13], [11, 13]), ([12, 14, 0, 1, 2, 3, 4, 5, 6, 7, 8, 9, 10, 11, 12, 13, 14], [12])])
def Fk_.B9 : List Nat := [0, 0, 0, 6, 14, 0, 62, 126, 254, 511, 1023, 2047, 2047, 0, 12287, 32767]
theorem Fk_.tab9 : rtab .any (opsOf Try.f45 9) = Fk_.T9 := by kernel_rfl
theorem Fk_.bits9 : waitsOk Fk_.T9.2 Fk_.B9 = true := by kernel_rfl
theorem Fk_.calls (k : Nat) (P0_0_ : Nat → Prop) (G0 : Option Addr) (E0 : Nat) (o0 : List Int) (J0 : Int) (A1 : Option Addr) (c1 : Nat) (l1 : List Int) (a2 : Int) (r1 : List Int) (r2 : Int) (r3 : Int) (w : World) (hs0_0 : Kd.V (Kd.int .u8) 5 w w.heap.size (fun k_ => P0_0_ k_) (.slice G0 o0.length E0) o0) (hr1 : Kd.C (Kd.int .i64) w A1 l1.length l1) (hc1 : l1.length ≤ c1) (h : Fk_.f k o0 J0 l1 a2 = some (r1, r2, r3)) :
    Calls Try.prog 45 #[.agg #[.slice G0 o0.length E0, .int .i64 J0], .slice A1 l1.length c1, .int .i64 a2] w fun e w' => ∃ v0_ : Value, e = .returned (.tuple #[.agg #[v0_, .int .i64 r2], .int .i64 r3]) ∧ Kd.V (Kd.int .u8) 5 w' w.heap.size (fun k_ => (P0_0_ k_ ∨ w.heap.size ≤ k_)) v0_ r1 ∧ Below w.heap.size w w' := by
 have Q4 := Try.underlying74
 have L0 := a_ (show Kd.V (Kd.int .u8) 5 w w.heap.size (fun k_ => (P0_0_ k_ ∨ w.heap.size ≤ k_)) (.slice G0 o0.length E0) o0 from Kd.V_mono hs0_0 (fun k_ hk => .inl hk))
 have n2 := a_ hr1
 have L3 := a_ hc1
 clear hr1 hc1
 have HB := a_ (Below.refl w.heap.size w)
 have H : ((FD_.f k l1).bind fun n1 => (if n1.2 = 0 then (if a2 < 0 then (Fk_.j0 k l1 a2 n1.1 true o0 J0) else (if a2 ≥ (l1.length : Int) then (Fk_.j0 k l1 a2 n1.1 true o0 J0) else (if 0 ≤ a2 then (if a2 < (l1.length : Int) then (Fk_.j0 k l1 a2 n1.1 ((rd l1 a2) == 0) o0 J0) else (none)) else (none)))) else (Fk_.j0 k l1 a2 n1.1 true o0 J0))) = some (r1, r2, r3) := h
 clear h
 obtain ⟨⟨z0, J2⟩, A4, H⟩ := ob_ H
 (try dsimp only at H)
 have p2 := a_ H
 clear H
 go_enter Try.func45, Try.ntmps45
 go_upto_region 2 with (first | ((with_reducible refine gate_dst (N := 3) rfl ?_); (try (refine gate_guard (by rfl) ?_; dsimp only)); refine box_ 3 #[.slice G0 o0.length E0, .int .i64 J0] 74 ?_; intro y0 hg w6 hbox hb; replace L0 := a_ (Kd.V_below (Kd.V_elderB (kV_ L0) y0 (Nat.le_of_eq hg.symm)) hb); have d0 := a_ (hbox); have U3 := GE_ HB hg; have V3 := GE_ HB hg; replace HB := BS_ HB hb; clear hb hbox hg) | ((with_reducible refine gate_dst (N := 6) rfl ?_); (try (refine gate_guard (by rfl) ?_; dsimp only)); refine box_ 6 #[.slice none 0 0, .int .i64 0] 74 ?_; intro v0 hg w7 hbox hb; replace L0 := a_ (Kd.V_below (Kd.V_elderB (kV_ L0) v0 (Nat.le_of_eq hg.symm)) hb); have e0 := a_ (hbox); have W3 := GE_ HB hg; have X3 := GE_ HB hg; replace HB := BS_ HB hb; obtain ⟨R0, S0⟩ := NN_ d0 hg; replace d0 := FB_ d0 hb; clear hb hbox hg) | ((with_reducible refine gate_callee (f := 85) rfl ?_); refine gL_ (some 16) Try.func85 #[.slice A1 l1.length c1] ?_; (with_reducible refine (FD_.calls k _ _ l1 z0 J2 _ ?side1 ?side2 A4.out).mono ?_); (case side1 => exact kC_ n2 HB); (case side2 => exact L3.out); rintro e w8 ⟨v1, rfl, A0, hb⟩; refine ⟨_, rfl, ?_⟩; replace L0 := a_ (Kd.V_elder' (kV_ L0) (Kd.R_base A0) hb); have p1 := a_ (Kd.R_lower (Kd.R_newM (M := fun k_ => (w.heap.size ≤ k_)) A0 (bs_ HB) (fun k_ h_ => h_)) (bs_ HB)); replace d0 := FB_ d0 hb; replace e0 := FB_ e0 hb; replace HB := BS_ HB hb; (try clear hb); (try clear A0)))
 (try simp only [Act.put, List.setIfInBounds_toArray, List.set_cons_zero, List.set_cons_succ])
 go_cut [37] (fun M3 wc => ∃ (kq : Nat) (q1 : Bool), M3 = .bool q1 ∧ Aside0 (Fk_.j0 kq l1 a2 z0 q1 o0 J0 = some (r1, r2, r3)) ∧ Aside0 (kq ≤ k) ∧ Aside0 (Kd.R (Kd.int .u32) 119 wc w.heap.size (fun k_ => (w.heap.size ≤ k_)) v1 z0) ∧ Aside0 (Kd.V (Kd.int .u8) 5 wc w.heap.size (fun k_ => (P0_0_ k_ ∨ w.heap.size ≤ k_) ∧ no_ k_ v1 ∧ k_ ≠ y0 ∧ k_ ≠ v0) (.slice G0 o0.length E0) o0) ∧ Aside0 (wc.heap[y0]? = some (.cells #[(.slice G0 o0.length E0), .int .i64 J0] 74 (0, 0))) ∧ Aside0 (wc.heap[v0]? = some (.cells #[(.slice none 0 0), .int .i64 0] 74 (0, 0))) ∧ Aside0 (Below w.heap.size w wc))
 case first => (
 have H := p2.out
 clear p2
 replace H := ie_ H
 rcases H with ⟨y1, K2, H⟩ | ⟨c9, y1, K2, H⟩
 {
 (first | rw [y1] | (simp only [i64_w, i32_w]; rw [y1]) | skip)
 replace H := id_ H
 rcases H with ⟨B2, H⟩ | ⟨B2, H⟩
 {
 have H' := a_ H
 clear H
 go_wp2
 go_meet
 case rel => exact ⟨_, (true), rs_, H', ⟨ol_⟩, ⟨by (with_reducible repeat (first | apply Kd.R_alloc | apply Kd.R_drewN | apply Kd.R_drew)); exact Kd.R_mono p1.out (fun _ hk => hk.1)⟩, ⟨by (with_reducible repeat (first | apply Kd.V_alloc | apply Kd.V_drewN | apply Kd.V_drew)); exact Kd.V_mono L0.out cj_⟩, ⟨bk_ d0⟩, ⟨bk_ e0⟩, ⟨bl_ HB⟩⟩}
 {
 replace H := ii_ H
 rcases H with ⟨K1, H⟩ | ⟨K1, H⟩
 {
 have C2 : decide ((l1.length : Int) ≤ a2) = true := decide_eq_true K1
 clear K1
 have H' := a_ H
 clear H
 go_wp2
 go_meet
 case rel => exact ⟨_, (true), rs_, H', ⟨ol_⟩, ⟨by (with_reducible repeat (first | apply Kd.R_alloc | apply Kd.R_drewN | apply Kd.R_drew)); exact Kd.R_mono p1.out (fun _ hk => hk.1)⟩, ⟨by (with_reducible repeat (first | apply Kd.V_alloc | apply Kd.V_drewN | apply Kd.V_drew)); exact Kd.V_mono L0.out cj_⟩, ⟨bk_ d0⟩, ⟨bk_ e0⟩, ⟨bl_ HB⟩⟩}
 {
 have C2 : decide ((l1.length : Int) ≤ a2) = false := decide_eq_false K1
 clear K1
 replace H := gd_ H
 obtain ⟨Y3, H⟩ := H
 replace H := gd_ H
 obtain ⟨Z3, H⟩ := H
 have H' := a_ H
 clear H
 have P1 : 0 ≤ (a2 : Int) := dm_
 have Q1 : a2 < (l1.length : Int) := dm_
 obtain ⟨a4, L2, C1⟩ := Kd.at_int n2.out a2 P1 Q1
 cases L2
 replace C1 := hc_ HB C1
 replace P1 := eq_true P1
 replace Q1 := eq_true Q1
 go_wp2
 go_meet
 case rel => exact ⟨_, (((rd l1 a2) == 0)), rs_, H', ⟨ol_⟩, ⟨by (with_reducible repeat (first | apply Kd.R_alloc | apply Kd.R_drewN | apply Kd.R_drew)); exact Kd.R_mono p1.out (fun _ hk => hk.1)⟩, ⟨by (with_reducible repeat (first | apply Kd.V_alloc | apply Kd.V_drewN | apply Kd.V_drew)); exact Kd.V_mono L0.out cj_⟩, ⟨bk_ d0⟩, ⟨bk_ e0⟩, ⟨bl_ HB⟩⟩}}}
 {
 (first | rw [y1] | (simp only [i64_w, i32_w]; rw [y1]) | skip)
 have H' := a_ H
 clear H
 go_wp2
 go_meet
 case rel => exact ⟨_, (true), rs_, H', ⟨ol_⟩, ⟨by (with_reducible repeat (first | apply Kd.R_alloc | apply Kd.R_drewN | apply Kd.R_drew)); exact Kd.R_mono p1.out (fun _ hk => hk.1)⟩, ⟨by (with_reducible repeat (first | apply Kd.V_alloc | apply Kd.V_drewN | apply Kd.V_drew)); exact Kd.V_mono L0.out cj_⟩, ⟨bk_ d0⟩, ⟨bk_ e0⟩, ⟨bl_ HB⟩⟩})
 case rest => (
 clear p2
 try clear c1
 obtain ⟨kq, q1, rfl, HA, HJ4, g0, a0, d0, e0, HB⟩ := hcut
 cases kq with
 | zero => exact absurd HA.out (by simp [Fk_.j0])
 | succ kj4 => (
 have H := HA.out
 clear HA
 simp only [Fk_.j0] at H
 by_cases L1 : q1 = true
 {
 subst L1
 rw [if_pos rfl] at H
 obtain ⟨⟨D1, E1, M2⟩, N3, H⟩ := ob_ H
 (try dsimp only at H)
 simp only [Option.some.injEq, Prod.mk.injEq] at H
 obtain ⟨rfl, rfl, rfl⟩ := H
 have b4 := R0.out
 have c4 := S0.out
 obtain ⟨U2, V2, W2, X2⟩ := e2_ d0
 go_wp2_with (first | ((with_reducible refine gate_callee (f := 84) rfl ?_); refine gL_ (some 40) Try.func84 #[.agg #[.slice G0 o0.length E0, .int .i64 J0], .int .u64 0, .int .i64 0] ?_; (with_reducible refine (Fo_.calls kj4 _ _ o0 J0 0 0 D1 E1 M2 _ ?side1 ?side2 N3.out).mono ?_); (case side1 => exact kCt_ (Kd.V_reads' a0.out).2.2); (case side2 => exact (Kd.V_reads' a0.out).2.1); rintro e V4 ⟨R4, rfl, A0, hb⟩; refine ⟨_, rfl, ?_⟩; replace g0 := FR_ g0 hb; replace a0 := a_ (Kd.V_elder' (kV_ a0) (Kd.R_base A0) hb); have X1 := a_ (Kd.R_lower (Kd.R_newM (M := fun k_ => (w.heap.size ≤ k_)) A0 (bs_ HB) (fun k_ h_ => h_)) (bs_ HB)); replace d0 := FB_ d0 hb; replace e0 := FB_ e0 hb; replace HB := BS_ HB hb; (try clear hb); (try clear A0); obtain ⟨R1, S1, N2⟩ := Kd.R_slice X1.out; subst N2; obtain ⟨Y2, Z2, a3, b3⟩ := e2_ d0; obtain ⟨c3, d3, e3, f3⟩ := e2_ e0))
 refine bodyPost_ret (results_ct rfl _ _ v0 74 #[.slice R1 D1.length S1, .int .i64 E1] (0, 0) _ rfl (bp_ e0) Try.underlying74 rfl kf_) rfl ?_
 exact ⟨_, er_, Kd.V_mono (Kd.R_V (by (with_reducible repeat (first | apply Kd.R_alloc | apply Kd.R_drewN | apply Kd.R_drew)); exact Kd.R_mono (Kd.R_far (p := ⟨v0, 1, none⟩) (Kd.R_far (p := ⟨v0, 0, none⟩) (Kd.R_far (p := ⟨y0, 1, none⟩) (Kd.R_far (p := ⟨y0, 0, none⟩) (Kd.R_types (Kd.R_types X1.out d0.out (by decide)) e0.out (by decide)) (fun _ hk => hk.1.2) (.slice R1 D1.length S1)) (fun _ hk => hk.1.2) (.int .i64 E1)) (fun _ hk => hk.2) (.slice R1 D1.length S1)) (fun _ hk => hk.2) (.int .i64 E1)) (fun _ hk => hk.1.1.1))) (fun k_ hk => by first | exact ⟨(.inr (hk.1)), hk.2⟩ | exact (.inr (hk))), bl_ HB⟩}
 {
 replace L1 := Bool.eq_false_iff.mpr L1
 subst L1
 rw [if_neg (show ¬ (false = true) by decide)] at H
 replace H := gd_ H
 obtain ⟨D2, H⟩ := H
 replace H := gd_ H
 obtain ⟨E2, H⟩ := H
 have H' := a_ H
 clear H
 have d4 := R0.out
 have e4 := S0.out
 obtain ⟨e2, f2, g2, h2⟩ := e2_ d0
 go_wp2_with (first | ((with_reducible refine gate_dst (N := 10) rfl ?_); (try (refine gate_guard (by rfl) ?_; dsimp only)); refine box_ 10 #[.slice none 0 0, .int .i64 0] 74 ?_; intro k0 hg W4 hbox hb; replace g0 := FR_ g0 hb; replace a0 := a_ (Kd.V_below (Kd.V_elderB (kV_ a0) k0 (Nat.le_of_eq hg.symm)) hb); have c0 := a_ (hbox); have Y1 := GE_ HB hg; have f4 := GE_ HB hg; replace HB := BS_ HB hb; obtain ⟨T0, U0⟩ := NN_ d0 hg; replace d0 := FB_ d0 hb; obtain ⟨V0, W0⟩ := NN_ e0 hg; replace e0 := FB_ e0 hb; clear hb hbox hg; have g4 := U0.out; have h4 := T0.out; have i4 := W0.out; have j4 := V0.out; obtain ⟨i2, j2, l2, m2⟩ := e2_ c0; have F1 : 0 ≤ (a2 : Int) := dm_; have G1 : a2 < (l1.length : Int) := dm_; obtain ⟨Z1, O2, I0⟩ := Kd.at_int n2.out a2 F1 G1; cases O2; have a1 : Z1.block ≠ k0 := Nat.ne_of_lt (Nat.lt_of_lt_of_le (by have := World.block_lt_of_cell? _ _ I0; first | rwa [add_block] at this | exact this) Y1.out); have b1 : Z1.block ≠ k0 := Nat.ne_of_lt (Nat.lt_of_lt_of_le (by have := World.block_lt_of_cell? _ _ I0; first | rwa [add_block] at this | exact this) Y1.out); replace I0 := hc_ HB I0; replace I0 := (cell_far (p := ⟨k0, 0, none⟩) (by first | (rw [add_block]; exact a1) | (show (Addr.add _ _).block ≠ _; rw [add_block]; exact a1) | exact a1) (.slice G0 o0.length E0)).trans I0; replace I0 := (cell_far (p := ⟨k0, 1, none⟩) (by first | (rw [add_block]; exact b1) | (show (Addr.add _ _).block ≠ _; rw [add_block]; exact b1) | exact b1) (.int .i64 J0)).trans I0; clear a1; clear b1; replace F1 := eq_true F1; replace G1 := eq_true G1))
 go_loopg [11] kj4 (fun kq O3 w' => ∃ (K0 : Int) (C0 : Int) (M0 : Int) (h0 : List Int) (m0 : Int) (o1 : Value), O3 = .int .i64 K0 ∧ Aside0 (Fk_.l0 kq a2 z0 K0 o0 C0 h0 m0 = some (r1, r2, r3)) ∧ Aside0 (kq ≤ kj4) ∧ Aside0 (Kd.R (Kd.int .u32) 119 w' w.heap.size (fun k_ => (w.heap.size ≤ k_)) v1 z0) ∧ Aside0 (Kd.V (Kd.int .u8) 5 w' w.heap.size (fun k_ => (P0_0_ k_ ∨ w.heap.size ≤ k_) ∧ no_ k_ v1 ∧ k_ ≠ y0 ∧ k_ ≠ v0 ∧ k_ ≠ k0) (.slice G0 o0.length E0) o0) ∧ Aside0 (Kd.V (Kd.int .u8) 5 w' w.heap.size (fun k_ => (P0_0_ k_ ∨ w.heap.size ≤ k_) ∧ no_ k_ v1 ∧ k_ ≠ y0 ∧ k_ ≠ v0 ∧ k_ ≠ k0) o1 h0) ∧ Aside0 (w'.heap[y0]? = some (.cells #[(.slice G0 o0.length E0), .int .i64 C0] 74 (0, 0))) ∧ Aside0 (w'.heap[v0]? = some (.cells #[(.slice none 0 0), .int .i64 M0] 74 (0, 0))) ∧ Aside0 (w'.heap[k0]? = some (.cells #[o1, .int .i64 m0] 74 (0, 0))) ∧ Aside0 (Below w.heap.size w w'))
 case atStart => exact ⟨(wrap64 ((rd l1 a2) - 1)), (J0), (0), (o0), (J0), (.slice G0 o0.length E0), rs_, H', ⟨Nat.le_refl _⟩, ⟨kRk_ g0 c0⟩, ⟨by (with_reducible repeat (first | apply Kd.V_alloc | apply Kd.V_drewN | apply Kd.V_drew)); exact Kd.V_mono (Kd.V_far (p := ⟨k0, 1, none⟩) (Kd.V_far (p := ⟨k0, 0, none⟩) (Kd.V_mono a0.out (fun k_ hk => (⟨hk, hk.2⟩ : _ ∧ k_ ≠ k0))) (fun _ hk => hk.2) (.slice G0 o0.length E0)) (fun _ hk => hk.2) (.int .i64 J0)) cj_⟩, ⟨by (with_reducible repeat (first | apply Kd.V_alloc | apply Kd.V_drewN | apply Kd.V_drew)); exact Kd.V_mono (Kd.V_far (p := ⟨k0, 1, none⟩) (Kd.V_far (p := ⟨k0, 0, none⟩) (Kd.V_mono a0.out (fun k_ hk => (⟨hk, hk.2⟩ : _ ∧ k_ ≠ k0))) (fun _ hk => hk.2) (.slice G0 o0.length E0)) (fun _ hk => hk.2) (.int .i64 J0)) cj_⟩, ⟨bk_ d0⟩, ⟨bk_ e0⟩, ⟨bp_ c0⟩, ⟨bl_ HB⟩⟩
 case round => (
 clear H'
 try clear c1
 try clear L1
 try clear X4
 try clear D2
 try clear Y4
 try clear E2
 try clear e2 f2 g2 h2
 try clear i2 j2 l2 m2
 try clear I0
 try clear F1
 try clear G1
 obtain ⟨K0, C0, M0, h0, m0, o1, rfl, HA, I2, g0, a0, b0, d0, e0, c0, HB⟩ := hrel
 cases gk with
 | zero => exact absurd HA.out (by simp [Fk_.l0])
 | succ k2 => (
 have H := HA.out
 clear HA
 simp only [Fk_.l0] at H
 replace H := ii_ H
 rcases H with ⟨M1, H⟩ | ⟨M1, H⟩
 {
 have F2 : decide (0 ≤ K0) = true := decide_eq_true M1
 clear M1
 replace H := gd_ H
 obtain ⟨k4, H⟩ := H
 replace H := gd_ H
 obtain ⟨l4, H⟩ := H
 replace H := gt_ H
 obtain ⟨q2, H⟩ := H
 have m4 := eq_true q2
 have n4 : decide (0 ≤ K0) = true := decide_eq_true q2
 clear q2
 obtain ⟨Q0, N0⟩ : ∃ j_ : Int, (shr .u32 (rd z0 a2) K0) = j_ := ⟨_, rfl⟩
 replace H : ((Fo_.f k2 h0 m0 (IntKind.u64.wrap (Go.bits .and .u32 (Q0) 1)) 1).bind fun t1 => (if t1.2.2 = 0 then (Fk_.l0 k2 a2 z0 (wrap64 (K0 - 1)) o0 C0 t1.1 t1.2.1) else ((Fo_.f k2 o0 C0 0 0).bind fun b2 => (some (b2.1, b2.2.1, t1.2.2))))) = some (r1, r2, r3) := by first | (rw [N0] at H; exact H) | (simp only [N0] at H ⊢; exact H)
 have hji34_ : ((rd z0 a2) / 2 ^ min K0.toNat 32) = Q0 := N0
 have hji34z : K0 ≤ 32 → ((rd z0 a2) / 2 ^ K0.toNat) = Q0 := shr_small N0
 obtain ⟨⟨F0, D0, X0⟩, c2, H⟩ := ob_ H
 (try dsimp only at H)
 replace H := ie_ H
 rcases H with ⟨G2, H2, H⟩ | ⟨Z4, G2, H2, H⟩
 {
 have H' := a_ H
 clear H
 obtain ⟨d1, e1, P2⟩ := Kd.V_slice b0.out
 subst P2
 try go_wp2
 replace g0 := a_ (Kd.R_drew g0.out)
 replace a0 := a_ (Kd.V_drew a0.out)
 replace b0 := a_ (Kd.V_drew b0.out)
 replace d0 := a_ (blk_drew d0.out)
 replace e0 := a_ (blk_drew e0.out)
 replace c0 := a_ (blk_drew c0.out)
 replace HB := a_ (below_drew1 HB.out)
 obtain ⟨S4, T1, t2⟩ := Kd.R_slice g0.out
 (first | subst t2 | (injection t2 with f1_ f2_ f3_; have f4_ := f1_.symm; have f5_ := f3_.symm; clear f1_ f2_ f3_; subst f4_; subst f5_))
 have f1 : 0 ≤ (a2 : Int) := dm_
 have h1 : a2 < (z0.length : Int) := dm_
 obtain ⟨H0, U1, Y0⟩ := Kd.at_int (Kd.R_reads' g0.out).2.2 a2 f1 h1
 cases U1
 replace f1 := eq_true f1
 replace h1 := eq_true h1
 refine start_ (n := 16) (S := fun w' => w'.cell? ⟨k0, 0, none⟩ = some (.slice d1 h0.length e1) ∧ w'.cell? ⟨k0, 1, none⟩ = some (.int .i64 m0) ∧ w'.cell? (H0.add (a2).toNat) = some (.int .u32 (rd z0 a2))) (ds := []) (B_ 16 0) kf_ rfl rfl ⟨ce_ c0 0, ce_ c0 1, Y0⟩ (fun hHeld => ?_); refine with_tabW Fk_.tab9 Fk_.bits9 (fun HT_ HW_ => ?_)
 generalize wr.drew = a5 at g0 a0 b0 d0 e0 c0 HB Y0 hHeld ⊢
 refine pu_ 1 (some 56) (B_ 16 2) HT_ ?_
 refine pu_ 2 (some 57) (B_ 16 6) HT_ ?_
 refine pu_ 3 (some 58) (B_ 16 14) HT_ ?_
 refine pu_ 5 (some 60) (B_ 16 46) HT_ ?_
 refine take_ (i := 0) (N := some 55) (v := ?_) (a' := ?_) (B_ 16 47) rfl rfl (take_ofW HT_.out HW_.out kf_) (fun _ _ _ h => h) (Or.inl ⟨by rfl, ?_⟩) hHeld ?_ ?_
 rotate_left
 {
 rintro w' ⟨s0, s1, s2⟩
 go_simp
 with_reducible rfl}
 rotate_left
 {
 exact sp_}
 refine take_ (i := 4) (N := some 59) (v := ?_) (a' := ?_) (B_ 16 63) rfl rfl (take_ofW HT_.out HW_.out kf_) (fun _ _ _ h => h) (Or.inl ⟨by rfl, ?_⟩) hHeld ?_ ?_
 rotate_left
 {
 rintro w' ⟨s0, s1, s2⟩
 go_simp
 with_reducible rfl}
 rotate_left
 {
 exact sp_}
 refine pu_ 6 (some 61) (B_ 16 127) HT_ ?_
 refine pu_ 7 (some 62) (B_ 16 255) HT_ ?_
 refine pu_ 8 (some 63) (B_ 16 511) HT_ ?_
 refine join_ (σ := Value × Nat) 2 (B_ 16 16383) (fun s_ => [(64, .tuple #[.agg #[s_.1, .int .i64 D0], .int .i64 X0]), (12, .pointer (some ⟨s_.2, 0, none⟩)), (54, .tuple #[.agg #[s_.1, .int .i64 D0], .int .i64 X0]), (65, .agg #[s_.1, .int .i64 D0]), (66, .int .i64 X0)]) (fun s_ w' => (w'.cell? ⟨k0, 0, none⟩ = some (.slice d1 h0.length e1) ∧ w'.cell? ⟨k0, 1, none⟩ = some (.int .i64 m0) ∧ w'.cell? (H0.add (a2).toNat) = some (.int .u32 (rd z0 a2))) ∧ (Kd.R (Kd.int .u8) 5 w' w.heap.size (fun k_ => (w.heap.size ≤ k_)) s_.1 F0) ∧ (Kd.V (Kd.int .u8) 5 w' w.heap.size (fun k_ => (P0_0_ k_ ∨ w.heap.size ≤ k_) ∧ no_ k_ s_.1 ∧ no_ k_ (.slice (some H0) z0.length T1) ∧ k_ ≠ y0 ∧ k_ ≠ v0 ∧ k_ ≠ k0 ∧ k_ ≠ s_.2) (.slice G0 o0.length E0) o0) ∧ (Kd.V (Kd.int .u8) 5 w' w.heap.size (fun k_ => (P0_0_ k_ ∨ w.heap.size ≤ k_) ∧ no_ k_ s_.1 ∧ no_ k_ (.slice (some H0) z0.length T1) ∧ k_ ≠ y0 ∧ k_ ≠ v0 ∧ k_ ≠ k0 ∧ k_ ≠ s_.2) (.slice d1 h0.length e1) h0) ∧ (Kd.R (Kd.int .u32) 119 w' w.heap.size (fun k_ => (w.heap.size ≤ k_)) (.slice (some H0) z0.length T1) z0) ∧ (w'.heap[y0]? = some (.cells #[.slice G0 o0.length E0, .int .i64 C0] 74 (0, 0))) ∧ (w'.heap[v0]? = some (.cells #[.slice none 0 0, .int .i64 M0] 74 (0, 0))) ∧ (w'.heap[k0]? = some (.cells #[.slice d1 h0.length e1, .int .i64 m0] 74 (0, 0))) ∧ (w'.heap[s_.2]? = some (.cells #[.slice none 0 0, .int .i64 0] 74 (0, 0))) ∧ (w.heap.size ≤ s_.2) ∧ (w.heap.size ≤ s_.2) ∧ (y0 ≠ s_.2) ∧ (s_.2 ≠ y0) ∧ (v0 ≠ s_.2) ∧ (s_.2 ≠ v0) ∧ (k0 ≠ s_.2) ∧ (s_.2 ≠ k0) ∧ (Below w.heap.size w w')) ?_ ?_
 rotate_left
 {
 intro hCont
 refine two_ (i := 9) (j := 13) (Ni := some 64) (Nj := some 12) (B_ 16 1023) (B_ 16 8703) rfl rfl rfl rfl (two_of HT_.out kf_) (by decide) (by decide) (fun K hK => ?_) (fun K hK => ?_)
 {
 skip
 refine goes_ Try.func84 kf_ rfl #[.agg #[.slice d1 h0.length e1, .int .i64 m0], .int .u64 (IntKind.u64.wrap (Go.bits .and .u32 (Q0) 1)), .int .i64 1] (by rfl) rfl rfl (by (try simp only [List.map_toArray, List.map_cons, List.map_nil]); first | done | (simp only [N0]; rfl) | rfl | (simp only [List.length_drop, List.length_take]; rfl)) ?_
 with_reducible refine (Fo_.calls k2 _ _ h0 m0 (IntKind.u64.wrap (Go.bits .and .u32 (Q0) 1)) 1 F0 D0 X0 _ ?side1 ?side2 c2.out).mono ?_
 (case side1 => exact kCt_ (Kd.V_reads' b0.out).2.2)
 (case side2 => exact (Kd.V_reads' b0.out).2.1)
 rintro e P3 ⟨Z0, rfl, A0, hb⟩
 have HS2_ := (hb.cell (World.block_lt_of_cell? _ _ (hHeld.2.2))).trans (hHeld.2.2)
 refine ⟨_, rfl, ?_⟩
 replace g0 := FR_ g0 hb
 replace a0 := a_ (Kd.V_elder' (kV_ a0) (Kd.R_base A0) hb)
 replace b0 := a_ (Kd.V_elder' (kV_ b0) (Kd.R_base A0) hb)
 have B0 := a_ (Kd.R_lower (Kd.R_newM (M := fun k_ => (w.heap.size ≤ k_)) A0 (bs_ HB) (fun k_ h_ => h_)) (bs_ HB))
 replace d0 := FB_ d0 hb
 replace e0 := FB_ e0 hb
 replace c0 := FB_ c0 hb
 replace HB := BS_ HB hb
 (try clear hb)
 (try clear hk)
 (try clear A0)
 refine hK.out _ _ ⟨ce_ c0 0, ce_ c0 1, HS2_⟩ (fun hHeld => ?_)
 clear hK K
 refine norm_ (a' := ?_) ?_ ?_
 rotate_left
 {
 show Act.put _ (some 64) _ = _
 exact sp_}
 refine pu_ 10 (some 54) (B_ 16 2047) HT_ ?_
 refine pu_ 11 (some 65) (B_ 16 4095) HT_ ?_
 refine pu_ 12 (some 66) (B_ 16 8191) HT_ ?_
 refine one_ (i := 13) (N := some 12) (B_ 16 16383) rfl rfl (one_of HT_.out kf_) (by decide) (fun K hK => ?_)
 refine box_step ?hg (N := 12) ?hd (cs := #[.slice none 0 0, .int .i64 0]) (t := 74) ?hr ?_; (case hd => rfl); (case hg => rfl); (case hr => first | (go_simp; done) | (go_simp; rfl))
 intro f0 hg Q3 hbox hb
 have HS2_ := (hb.cell (World.block_lt_of_cell? _ _ (hHeld.2.2))).trans (hHeld.2.2)
 replace g0 := FR_ g0 hb
 replace a0 := a_ (Kd.V_below (Kd.V_elderB (kV_ a0) f0 (Nat.le_of_eq hg.symm)) hb)
 replace b0 := a_ (Kd.V_below (Kd.V_elderB (kV_ b0) f0 (Nat.le_of_eq hg.symm)) hb)
 replace B0 := FR_ B0 hb
 have i0 := a_ (hbox)
 have O0 := GE_ HB hg
 have P0 := GE_ HB hg
 replace HB := BS_ HB hb
 obtain ⟨p0, q0⟩ := NN_ d0 hg
 replace d0 := FB_ d0 hb
 obtain ⟨r0, t0⟩ := NN_ e0 hg
 replace e0 := FB_ e0 hb
 obtain ⟨n0, w0⟩ := NN_ c0 hg
 replace c0 := FB_ c0 hb
 clear hb hbox hg
 refine hK.out _ _ ⟨ce_ c0 0, ce_ c0 1, HS2_⟩ (fun hHeld => ?_)
 clear hK K
 refine norm_ (a' := ?_) ?_ ?_
 rotate_left
 {
 show Act.put _ (some 12) _ = _
 exact sp_}
 exact norm_ pa_ (hCont (Z0, f0) _ ⟨hHeld, (by (with_reducible repeat (first | apply Kd.R_alloc | apply Kd.R_drewN | apply Kd.R_drew)); exact Kd.R_mono B0.out (fun _ hk => hk.1)), (by (with_reducible repeat (first | apply Kd.V_alloc | apply Kd.V_drewN | apply Kd.V_drew)); exact Kd.V_mono a0.out cj_), (by (with_reducible repeat (first | apply Kd.V_alloc | apply Kd.V_drewN | apply Kd.V_drew)); exact Kd.V_mono b0.out cj_), (kR_ g0), (bk_ d0), (bk_ e0), (bk_ c0), (bk_ i0), O0.out, P0.out, p0.out, q0.out, r0.out, t0.out, n0.out, w0.out, (bl_ HB)⟩)}
 {
 skip
 refine box_step ?hg (N := 12) ?hd (cs := #[.slice none 0 0, .int .i64 0]) (t := 74) ?hr ?_; (case hd => rfl); (case hg => rfl); (case hr => first | (go_simp; done) | (go_simp; rfl))
 intro f0 hg P3 hbox hb
 have HS2_ := (hb.cell (World.block_lt_of_cell? _ _ (hHeld.2.2))).trans (hHeld.2.2)
 replace g0 := FR_ g0 hb
 replace a0 := a_ (Kd.V_below (Kd.V_elderB (kV_ a0) f0 (Nat.le_of_eq hg.symm)) hb)
 replace b0 := a_ (Kd.V_below (Kd.V_elderB (kV_ b0) f0 (Nat.le_of_eq hg.symm)) hb)
 have i0 := a_ (hbox)
 have O0 := GE_ HB hg
 have P0 := GE_ HB hg
 replace HB := BS_ HB hb
 obtain ⟨p0, q0⟩ := NN_ d0 hg
 replace d0 := FB_ d0 hb
 obtain ⟨r0, t0⟩ := NN_ e0 hg
 replace e0 := FB_ e0 hb
 obtain ⟨n0, w0⟩ := NN_ c0 hg
 replace c0 := FB_ c0 hb
 clear hb hbox hg
 refine hK.out _ _ ⟨ce_ c0 0, ce_ c0 1, HS2_⟩ (fun hHeld => ?_)
 clear hK K
 refine norm_ (a' := ?_) ?_ ?_
 rotate_left
 {
 show Act.put _ (some 12) _ = _
 exact sp_}
 refine one_ (i := 9) (N := some 64) (B_ 16 9215) rfl rfl (one_of HT_.out kf_) (by decide) (fun K hK => ?_)
 refine goes_ Try.func84 kf_ rfl #[.agg #[.slice d1 h0.length e1, .int .i64 m0], .int .u64 (IntKind.u64.wrap (Go.bits .and .u32 (Q0) 1)), .int .i64 1] (by rfl) rfl rfl (by (try simp only [List.map_toArray, List.map_cons, List.map_nil]); first | done | (simp only [N0]; rfl) | rfl | (simp only [List.length_drop, List.length_take]; rfl)) ?_
 with_reducible refine (Fo_.calls k2 _ _ h0 m0 (IntKind.u64.wrap (Go.bits .and .u32 (Q0) 1)) 1 F0 D0 X0 _ ?side1 ?side2 c2.out).mono ?_
 (case side1 => exact kCt_ (Kd.V_reads' b0.out).2.2)
 (case side2 => exact (Kd.V_reads' b0.out).2.1)
 rintro e Q3 ⟨Z0, rfl, A0, hb⟩
 have HS2_ := (hb.cell (World.block_lt_of_cell? _ _ (hHeld.2.2))).trans (hHeld.2.2)
 refine ⟨_, rfl, ?_⟩
 replace g0 := FR_ g0 hb
 replace a0 := a_ (Kd.V_elder' (kV_ a0) (Kd.R_base A0) hb)
 replace b0 := a_ (Kd.V_elder' (kV_ b0) (Kd.R_base A0) hb)
 have B0 := a_ (Kd.R_lower (Kd.R_newM (M := fun k_ => (w.heap.size ≤ k_)) A0 (bs_ HB) (fun k_ h_ => h_)) (bs_ HB))
 replace d0 := FB_ d0 hb
 replace e0 := FB_ e0 hb
 replace c0 := FB_ c0 hb
 replace i0 := FB_ i0 hb
 replace HB := BS_ HB hb
 (try clear hb)
 (try clear hk)
 (try clear A0)
 refine hK.out _ _ ⟨ce_ c0 0, ce_ c0 1, HS2_⟩ (fun hHeld => ?_)
 clear hK K
 refine norm_ (a' := ?_) ?_ ?_
 rotate_left
 {
 show Act.put _ (some 64) _ = _
 exact sp_}
 refine pu_ 10 (some 54) (B_ 16 10239) HT_ ?_
 refine pu_ 11 (some 65) (B_ 16 12287) HT_ ?_
 refine pu_ 12 (some 66) (B_ 16 16383) HT_ ?_
 exact norm_ pa_ (hCont (Z0, f0) _ ⟨hHeld, (by (with_reducible repeat (first | apply Kd.R_alloc | apply Kd.R_drewN | apply Kd.R_drew)); exact Kd.R_mono B0.out (fun _ hk => hk.1)), (by (with_reducible repeat (first | apply Kd.V_alloc | apply Kd.V_drewN | apply Kd.V_drew)); exact Kd.V_mono a0.out cj_), (by (with_reducible repeat (first | apply Kd.V_alloc | apply Kd.V_drewN | apply Kd.V_drew)); exact Kd.V_mono b0.out cj_), (kR_ g0), (bk_ d0), (bk_ e0), (bk_ c0), (bk_ i0), O0.out, P0.out, p0.out, q0.out, r0.out, t0.out, n0.out, w0.out, (bl_ HB)⟩)}}
 clear g0 a0 b0 d0 e0 c0 HB
 rintro ⟨Z0, f0⟩ N1 ⟨hS_, h0_, h1_, h2_, h3_, h4_, h5_, h6_, h7_, h8_, h9_, h10_, h11_, h12_, h13_, h14_, h15_, h16_⟩
 (try dsimp only at h0_ h1_ h2_ h3_ h4_ h5_ h6_ h7_ h8_ h9_ h10_ h11_ h12_ h13_ h14_ h15_ h16_)
 have B0 := a_ h0_
 have a0 := a_ h1_
 have b0 := a_ h2_
 have g0 := a_ h3_
 have d0 := a_ h4_
 have e0 := a_ h5_
 have c0 := a_ h6_
 have i0 := a_ h7_
 have O0 := a_ h8_
 have P0 := a_ h9_
 have p0 := a_ h10_
 have q0 := a_ h11_
 have r0 := a_ h12_
 have t0 := a_ h13_
 have n0 := a_ h14_
 have w0 := a_ h15_
 have HB := a_ h16_
 clear h0_ h1_ h2_ h3_ h4_ h5_ h6_ h7_ h8_ h9_ h10_ h11_ h12_ h13_ h14_ h15_ h16_
 have hHeld : N1.cell? ⟨k0, 0, none⟩ = some (.slice d1 h0.length e1) ∧ N1.cell? ⟨k0, 1, none⟩ = some (.int .i64 m0) ∧ N1.cell? (H0.add (a2).toNat) = some (.int .u32 (rd z0 a2)) := hS_
 obtain ⟨i1, j1, v2⟩ := Kd.R_slice B0.out
 (first | subst v2 | (injection v2 with f1_ f2_ f3_; have f4_ := f1_.symm; have f5_ := f3_.symm; clear f1_ f2_ f3_; subst f4_; subst f5_))
 refine norm_ (a' := ?_) ?_ ?_
 rotate_left
 {
 simp only [putAll, Act.put, List.setIfInBounds_toArray, List.set_cons_zero, List.set_cons_succ]
 rfl}
 refine one_ (i := 14) (N := none) (B_ 16 32767) rfl rfl (one_of HT_.out kf_) (by decide) (fun K hK => ?_)
 have hs44 : N1.cell? ⟨f0, 0, none⟩ = some (.slice none 0 0) := ce_ i0 0
 have hfs44 := blk_frozen i0.out 0
 have hns44_0 := p0.out
 have hns44_1 := r0.out
 have hns44_2 := n0.out
 have hms44_0 := q0.out
 have hms44_1 := t0.out
 have hms44_2 := w0.out
 have hs45 : N1.cell? ⟨f0, 1, none⟩ = some (.int .i64 0) := ce_ i0 1
 have hfs45 := blk_frozen i0.out 1
 have hns45_0 := p0.out
 have hns45_1 := r0.out
 have hns45_2 := n0.out
 have hms45_0 := q0.out
 have hms45_1 := t0.out
 have hms45_2 := w0.out
 refine skip_ (w1 := ?_) (by rfl) rfl ?_ ?_
 rotate_left
 {
 go_simp
 rfl}
 refine hK.out _ _ ⟨((cell_far (p := ⟨f0, _, none⟩) n0.out _).trans (((cell_far (p := ⟨f0, _, none⟩) n0.out _).trans (hHeld.1)))), ((cell_far (p := ⟨f0, _, none⟩) n0.out _).trans (((cell_far (p := ⟨f0, _, none⟩) n0.out _).trans (hHeld.2.1)))), ((cell_far (p := ⟨f0, _, none⟩) (by first | exact Kd.own_blk (Kd.R_ne g0.out i0.out (by decide)) | (rw [add_block]; exact Kd.own_blk (Kd.R_ne g0.out i0.out (by decide))) | (show (Addr.add _ _).block ≠ _; rw [add_block]; exact Kd.own_blk (Kd.R_ne g0.out i0.out (by decide))) | (dsimp only; exact Kd.own_blk (Kd.R_ne g0.out i0.out (by decide)))) _).trans (((cell_far (p := ⟨f0, _, none⟩) (by first | exact Kd.own_blk (Kd.R_ne g0.out i0.out (by decide)) | (rw [add_block]; exact Kd.own_blk (Kd.R_ne g0.out i0.out (by decide))) | (show (Addr.add _ _).block ≠ _; rw [add_block]; exact Kd.own_blk (Kd.R_ne g0.out i0.out (by decide))) | (dsimp only; exact Kd.own_blk (Kd.R_ne g0.out i0.out (by decide)))) _).trans (hHeld.2.2))))⟩ (fun hHeld => ?_)
 clear hK K
 refine pu_ 15 (some 13) (B_ 16 65535) HT_ ?_
 refine done_ (done_of HT_.out kf_) ?_
 have o4 := q0.out
 have p4 := p0.out
 have q4 := t0.out
 have r4 := r0.out
 have s4 := w0.out
 have t4 := n0.out
 obtain ⟨g3, h3, i3, j3⟩ := e2_ i0
 have v4 := U0.out
 have w4 := T0.out
 have x4 := W0.out
 have y4 := V0.out
 obtain ⟨k3, l3, m3, n3⟩ := e2_ c0
 try go_wp2
 go_roundg k2
 case measure => have := HJ4.out; have := I2.out; omega
 case rel => exact ⟨(wrap64 (K0 - 1)), (C0), (M0), (F0), (D0), (.slice i1 F0.length j1), rs_, H', ⟨by have := HJ4.out; have := I2.out; omega⟩, ⟨by (with_reducible repeat (first | apply Kd.R_alloc | apply Kd.R_drewN | apply Kd.R_drew)); exact Kd.R_mono (Kd.R_far (p := ⟨k0, 1, none⟩) (Kd.R_far (p := ⟨k0, 0, none⟩) (Kd.R_far (p := ⟨f0, 1, none⟩) (Kd.R_far (p := ⟨f0, 0, none⟩) (Kd.R_types (Kd.R_types g0.out i0.out (by decide)) c0.out (by decide)) (fun _ hk => hk.1.2) (.slice i1 F0.length j1)) (fun _ hk => hk.1.2) (.int .i64 D0)) (fun _ hk => hk.2) (.slice i1 F0.length j1)) (fun _ hk => hk.2) (.int .i64 D0)) (fun _ hk => hk.1.1)⟩, ⟨by (with_reducible repeat (first | apply Kd.V_alloc | apply Kd.V_drewN | apply Kd.V_drew)); exact Kd.V_mono (Kd.V_far (p := ⟨k0, 1, none⟩) (Kd.V_far (p := ⟨k0, 0, none⟩) (Kd.V_far (p := ⟨f0, 1, none⟩) (Kd.V_far (p := ⟨f0, 0, none⟩) (Kd.V_mono (Kd.V_mono a0.out (fun k_ hk => (⟨hk, hk.2.2.2.2.2.2⟩ : _ ∧ k_ ≠ f0))) (fun k_ hk => (⟨hk, hk.1.2.2.2.2.2.1⟩ : _ ∧ k_ ≠ k0))) (fun _ hk => hk.1.2) (.slice i1 F0.length j1)) (fun _ hk => hk.1.2) (.int .i64 D0)) (fun _ hk => hk.2) (.slice i1 F0.length j1)) (fun _ hk => hk.2) (.int .i64 D0)) cj_⟩, ⟨G1_ (Kd.R_V (by (with_reducible repeat (first | apply Kd.R_alloc | apply Kd.R_drewN | apply Kd.R_drew)); exact Kd.R_mono (Kd.R_far (p := ⟨k0, 1, none⟩) (Kd.R_far (p := ⟨k0, 0, none⟩) (Kd.R_far (p := ⟨f0, 1, none⟩) (Kd.R_far (p := ⟨f0, 0, none⟩) (Kd.R_types (Kd.R_types (Kd.R_types (Kd.R_types (Kd.R_types (Kd.R_apart' B0.out (Kd.R_typed g0.out) (by decide)) d0.out (by decide)) e0.out (by decide)) c0.out (by decide)) i0.out (by decide)) c0.out (by decide)) (fun _ hk => hk.1.2) (.slice i1 F0.length j1)) (fun _ hk => hk.1.2) (.int .i64 D0)) (fun _ hk => hk.2) (.slice i1 F0.length j1)) (fun _ hk => hk.2) (.int .i64 D0)) cj_))⟩, ⟨bk_ d0⟩, ⟨bk_ e0⟩, ⟨bp_ c0⟩, ⟨bl_ HB⟩⟩}
 {
 obtain ⟨⟨H1, I1, Q2⟩, R3, H⟩ := ob_ H
 (try dsimp only at H)
 simp only [Option.some.injEq, Prod.mk.injEq] at H
 obtain ⟨rfl, rfl, rfl⟩ := H
 obtain ⟨k1, m1, R2⟩ := Kd.V_slice b0.out
 subst R2
 try go_wp2
 replace g0 := a_ (Kd.R_drew g0.out)
 replace a0 := a_ (Kd.V_drew a0.out)
 replace b0 := a_ (Kd.V_drew b0.out)
 replace d0 := a_ (blk_drew d0.out)
 replace e0 := a_ (blk_drew e0.out)
 replace c0 := a_ (blk_drew c0.out)
 replace HB := a_ (below_drew1 HB.out)
 obtain ⟨T4, J1, w2⟩ := Kd.R_slice g0.out
 (first | subst w2 | (injection w2 with f1_ f2_ f3_; have f4_ := f1_.symm; have f5_ := f3_.symm; clear f1_ f2_ f3_; subst f4_; subst f5_))
 have f1 : 0 ≤ (a2 : Int) := dm_
 have h1 : a2 < (z0.length : Int) := dm_
 obtain ⟨H0, U1, Y0⟩ := Kd.at_int (Kd.R_reads' g0.out).2.2 a2 f1 h1
 cases U1
 replace f1 := eq_true f1
 replace h1 := eq_true h1
 refine start_ (n := 16) (S := fun w' => w'.cell? ⟨k0, 0, none⟩ = some (.slice k1 h0.length m1) ∧ w'.cell? ⟨k0, 1, none⟩ = some (.int .i64 m0) ∧ w'.cell? (H0.add (a2).toNat) = some (.int .u32 (rd z0 a2))) (ds := []) (B_ 16 0) kf_ rfl rfl ⟨ce_ c0 0, ce_ c0 1, Y0⟩ (fun hHeld => ?_); refine with_tabW Fk_.tab9 Fk_.bits9 (fun HT_ HW_ => ?_)
 generalize wr.drew = b5 at g0 a0 b0 d0 e0 c0 HB Y0 hHeld ⊢
 refine pu_ 1 (some 56) (B_ 16 2) HT_ ?_
 refine pu_ 2 (some 57) (B_ 16 6) HT_ ?_
 refine pu_ 3 (some 58) (B_ 16 14) HT_ ?_
 refine pu_ 5 (some 60) (B_ 16 46) HT_ ?_
 refine take_ (i := 0) (N := some 55) (v := ?_) (a' := ?_) (B_ 16 47) rfl rfl (take_ofW HT_.out HW_.out kf_) (fun _ _ _ h => h) (Or.inl ⟨by rfl, ?_⟩) hHeld ?_ ?_
 rotate_left
 {
 rintro w' ⟨s0, s1, s2⟩
 go_simp
 with_reducible rfl}
 rotate_left
 {
 exact sp_}
 refine take_ (i := 4) (N := some 59) (v := ?_) (a' := ?_) (B_ 16 63) rfl rfl (take_ofW HT_.out HW_.out kf_) (fun _ _ _ h => h) (Or.inl ⟨by rfl, ?_⟩) hHeld ?_ ?_
 rotate_left
 {
 rintro w' ⟨s0, s1, s2⟩
 go_simp
 with_reducible rfl}
 rotate_left
 {
 exact sp_}
 refine pu_ 6 (some 61) (B_ 16 127) HT_ ?_
 refine pu_ 7 (some 62) (B_ 16 255) HT_ ?_
 refine pu_ 8 (some 63) (B_ 16 511) HT_ ?_
 refine join_ (σ := Value × Nat) 2 (B_ 16 16383) (fun s_ => [(64, .tuple #[.agg #[s_.1, .int .i64 D0], .int .i64 X0]), (12, .pointer (some ⟨s_.2, 0, none⟩)), (54, .tuple #[.agg #[s_.1, .int .i64 D0], .int .i64 X0]), (65, .agg #[s_.1, .int .i64 D0]), (66, .int .i64 X0)]) (fun s_ w' => (w'.cell? ⟨k0, 0, none⟩ = some (.slice k1 h0.length m1) ∧ w'.cell? ⟨k0, 1, none⟩ = some (.int .i64 m0) ∧ w'.cell? (H0.add (a2).toNat) = some (.int .u32 (rd z0 a2))) ∧ (Kd.R (Kd.int .u8) 5 w' w.heap.size (fun k_ => (w.heap.size ≤ k_)) s_.1 F0) ∧ (Kd.V (Kd.int .u8) 5 w' w.heap.size (fun k_ => (P0_0_ k_ ∨ w.heap.size ≤ k_) ∧ no_ k_ s_.1 ∧ no_ k_ (.slice (some H0) z0.length J1) ∧ k_ ≠ y0 ∧ k_ ≠ v0 ∧ k_ ≠ k0 ∧ k_ ≠ s_.2) (.slice G0 o0.length E0) o0) ∧ (Kd.V (Kd.int .u8) 5 w' w.heap.size (fun k_ => (P0_0_ k_ ∨ w.heap.size ≤ k_) ∧ no_ k_ s_.1 ∧ no_ k_ (.slice (some H0) z0.length J1) ∧ k_ ≠ y0 ∧ k_ ≠ v0 ∧ k_ ≠ k0 ∧ k_ ≠ s_.2) (.slice k1 h0.length m1) h0) ∧ (Kd.R (Kd.int .u32) 119 w' w.heap.size (fun k_ => (w.heap.size ≤ k_)) (.slice (some H0) z0.length J1) z0) ∧ (w'.heap[y0]? = some (.cells #[.slice G0 o0.length E0, .int .i64 C0] 74 (0, 0))) ∧ (w'.heap[v0]? = some (.cells #[.slice none 0 0, .int .i64 M0] 74 (0, 0))) ∧ (w'.heap[k0]? = some (.cells #[.slice k1 h0.length m1, .int .i64 m0] 74 (0, 0))) ∧ (w'.heap[s_.2]? = some (.cells #[.slice none 0 0, .int .i64 0] 74 (0, 0))) ∧ (w.heap.size ≤ s_.2) ∧ (w.heap.size ≤ s_.2) ∧ (y0 ≠ s_.2) ∧ (s_.2 ≠ y0) ∧ (v0 ≠ s_.2) ∧ (s_.2 ≠ v0) ∧ (k0 ≠ s_.2) ∧ (s_.2 ≠ k0) ∧ (Below w.heap.size w w')) ?_ ?_
 rotate_left
 {
 intro hCont
 refine two_ (i := 9) (j := 13) (Ni := some 64) (Nj := some 12) (B_ 16 1023) (B_ 16 8703) rfl rfl rfl rfl (two_of HT_.out kf_) (by decide) (by decide) (fun K hK => ?_) (fun K hK => ?_)
 {
 skip
 refine goes_ Try.func84 kf_ rfl #[.agg #[.slice k1 h0.length m1, .int .i64 m0], .int .u64 (IntKind.u64.wrap (Go.bits .and .u32 (Q0) 1)), .int .i64 1] (by rfl) rfl rfl (by (try simp only [List.map_toArray, List.map_cons, List.map_nil]); first | done | (simp only [N0]; rfl) | rfl | (simp only [List.length_drop, List.length_take]; rfl)) ?_
 with_reducible refine (Fo_.calls k2 _ _ h0 m0 (IntKind.u64.wrap (Go.bits .and .u32 (Q0) 1)) 1 F0 D0 X0 _ ?side1 ?side2 c2.out).mono ?_
 (case side1 => exact kCt_ (Kd.V_reads' b0.out).2.2)
 (case side2 => exact (Kd.V_reads' b0.out).2.1)
 rintro e S3 ⟨Z0, rfl, A0, hb⟩
 have HS2_ := (hb.cell (World.block_lt_of_cell? _ _ (hHeld.2.2))).trans (hHeld.2.2)
 refine ⟨_, rfl, ?_⟩
 replace g0 := FR_ g0 hb
 replace a0 := a_ (Kd.V_elder' (kV_ a0) (Kd.R_base A0) hb)
 replace b0 := a_ (Kd.V_elder' (kV_ b0) (Kd.R_base A0) hb)
 have B0 := a_ (Kd.R_lower (Kd.R_newM (M := fun k_ => (w.heap.size ≤ k_)) A0 (bs_ HB) (fun k_ h_ => h_)) (bs_ HB))
 replace d0 := FB_ d0 hb
 replace e0 := FB_ e0 hb
 replace c0 := FB_ c0 hb
 replace HB := BS_ HB hb
 (try clear hb)
 (try clear hk)
 (try clear A0)
 refine hK.out _ _ ⟨ce_ c0 0, ce_ c0 1, HS2_⟩ (fun hHeld => ?_)
 clear hK K
 refine norm_ (a' := ?_) ?_ ?_
 rotate_left
 {
 show Act.put _ (some 64) _ = _
 exact sp_}
 refine pu_ 10 (some 54) (B_ 16 2047) HT_ ?_
 refine pu_ 11 (some 65) (B_ 16 4095) HT_ ?_
 refine pu_ 12 (some 66) (B_ 16 8191) HT_ ?_
 refine one_ (i := 13) (N := some 12) (B_ 16 16383) rfl rfl (one_of HT_.out kf_) (by decide) (fun K hK => ?_)
 refine box_step ?hg (N := 12) ?hd (cs := #[.slice none 0 0, .int .i64 0]) (t := 74) ?hr ?_; (case hd => rfl); (case hg => rfl); (case hr => first | (go_simp; done) | (go_simp; rfl))
 intro f0 hg T3 hbox hb
 have HS2_ := (hb.cell (World.block_lt_of_cell? _ _ (hHeld.2.2))).trans (hHeld.2.2)
 replace g0 := FR_ g0 hb
 replace a0 := a_ (Kd.V_below (Kd.V_elderB (kV_ a0) f0 (Nat.le_of_eq hg.symm)) hb)
 replace b0 := a_ (Kd.V_below (Kd.V_elderB (kV_ b0) f0 (Nat.le_of_eq hg.symm)) hb)
 replace B0 := FR_ B0 hb
 have i0 := a_ (hbox)
 have O0 := GE_ HB hg
 have P0 := GE_ HB hg
 replace HB := BS_ HB hb
 obtain ⟨p0, q0⟩ := NN_ d0 hg
 replace d0 := FB_ d0 hb
 obtain ⟨r0, t0⟩ := NN_ e0 hg
 replace e0 := FB_ e0 hb
 obtain ⟨n0, w0⟩ := NN_ c0 hg
 replace c0 := FB_ c0 hb
 clear hb hbox hg
 refine hK.out _ _ ⟨ce_ c0 0, ce_ c0 1, HS2_⟩ (fun hHeld => ?_)
 clear hK K
 refine norm_ (a' := ?_) ?_ ?_
 rotate_left
 {
 show Act.put _ (some 12) _ = _
 exact sp_}
 exact norm_ pa_ (hCont (Z0, f0) _ ⟨hHeld, (by (with_reducible repeat (first | apply Kd.R_alloc | apply Kd.R_drewN | apply Kd.R_drew)); exact Kd.R_mono B0.out (fun _ hk => hk.1)), (by (with_reducible repeat (first | apply Kd.V_alloc | apply Kd.V_drewN | apply Kd.V_drew)); exact Kd.V_mono a0.out cj_), (by (with_reducible repeat (first | apply Kd.V_alloc | apply Kd.V_drewN | apply Kd.V_drew)); exact Kd.V_mono b0.out cj_), (kR_ g0), (bk_ d0), (bk_ e0), (bk_ c0), (bk_ i0), O0.out, P0.out, p0.out, q0.out, r0.out, t0.out, n0.out, w0.out, (bl_ HB)⟩)}
 {
 skip
 refine box_step ?hg (N := 12) ?hd (cs := #[.slice none 0 0, .int .i64 0]) (t := 74) ?hr ?_; (case hd => rfl); (case hg => rfl); (case hr => first | (go_simp; done) | (go_simp; rfl))
 intro f0 hg S3 hbox hb
 have HS2_ := (hb.cell (World.block_lt_of_cell? _ _ (hHeld.2.2))).trans (hHeld.2.2)
 replace g0 := FR_ g0 hb
 replace a0 := a_ (Kd.V_below (Kd.V_elderB (kV_ a0) f0 (Nat.le_of_eq hg.symm)) hb)
 replace b0 := a_ (Kd.V_below (Kd.V_elderB (kV_ b0) f0 (Nat.le_of_eq hg.symm)) hb)
 have i0 := a_ (hbox)
 have O0 := GE_ HB hg
 have P0 := GE_ HB hg
 replace HB := BS_ HB hb
 obtain ⟨p0, q0⟩ := NN_ d0 hg
 replace d0 := FB_ d0 hb
 obtain ⟨r0, t0⟩ := NN_ e0 hg
 replace e0 := FB_ e0 hb
 obtain ⟨n0, w0⟩ := NN_ c0 hg
 replace c0 := FB_ c0 hb
 clear hb hbox hg
 refine hK.out _ _ ⟨ce_ c0 0, ce_ c0 1, HS2_⟩ (fun hHeld => ?_)
 clear hK K
 refine norm_ (a' := ?_) ?_ ?_
 rotate_left
 {
 show Act.put _ (some 12) _ = _
 exact sp_}
 refine one_ (i := 9) (N := some 64) (B_ 16 9215) rfl rfl (one_of HT_.out kf_) (by decide) (fun K hK => ?_)
 refine goes_ Try.func84 kf_ rfl #[.agg #[.slice k1 h0.length m1, .int .i64 m0], .int .u64 (IntKind.u64.wrap (Go.bits .and .u32 (Q0) 1)), .int .i64 1] (by rfl) rfl rfl (by (try simp only [List.map_toArray, List.map_cons, List.map_nil]); first | done | (simp only [N0]; rfl) | rfl | (simp only [List.length_drop, List.length_take]; rfl)) ?_
 with_reducible refine (Fo_.calls k2 _ _ h0 m0 (IntKind.u64.wrap (Go.bits .and .u32 (Q0) 1)) 1 F0 D0 X0 _ ?side1 ?side2 c2.out).mono ?_
 (case side1 => exact kCt_ (Kd.V_reads' b0.out).2.2)
 (case side2 => exact (Kd.V_reads' b0.out).2.1)
 rintro e T3 ⟨Z0, rfl, A0, hb⟩
 have HS2_ := (hb.cell (World.block_lt_of_cell? _ _ (hHeld.2.2))).trans (hHeld.2.2)
 refine ⟨_, rfl, ?_⟩
 replace g0 := FR_ g0 hb
 replace a0 := a_ (Kd.V_elder' (kV_ a0) (Kd.R_base A0) hb)
 replace b0 := a_ (Kd.V_elder' (kV_ b0) (Kd.R_base A0) hb)
 have B0 := a_ (Kd.R_lower (Kd.R_newM (M := fun k_ => (w.heap.size ≤ k_)) A0 (bs_ HB) (fun k_ h_ => h_)) (bs_ HB))
 replace d0 := FB_ d0 hb
 replace e0 := FB_ e0 hb
 replace c0 := FB_ c0 hb
 replace i0 := FB_ i0 hb
 replace HB := BS_ HB hb
 (try clear hb)
 (try clear hk)
 (try clear A0)
 refine hK.out _ _ ⟨ce_ c0 0, ce_ c0 1, HS2_⟩ (fun hHeld => ?_)
 clear hK K
 refine norm_ (a' := ?_) ?_ ?_
 rotate_left
 {
 show Act.put _ (some 64) _ = _
 exact sp_}
 refine pu_ 10 (some 54) (B_ 16 10239) HT_ ?_
 refine pu_ 11 (some 65) (B_ 16 12287) HT_ ?_
 refine pu_ 12 (some 66) (B_ 16 16383) HT_ ?_
 exact norm_ pa_ (hCont (Z0, f0) _ ⟨hHeld, (by (with_reducible repeat (first | apply Kd.R_alloc | apply Kd.R_drewN | apply Kd.R_drew)); exact Kd.R_mono B0.out (fun _ hk => hk.1)), (by (with_reducible repeat (first | apply Kd.V_alloc | apply Kd.V_drewN | apply Kd.V_drew)); exact Kd.V_mono a0.out cj_), (by (with_reducible repeat (first | apply Kd.V_alloc | apply Kd.V_drewN | apply Kd.V_drew)); exact Kd.V_mono b0.out cj_), (kR_ g0), (bk_ d0), (bk_ e0), (bk_ c0), (bk_ i0), O0.out, P0.out, p0.out, q0.out, r0.out, t0.out, n0.out, w0.out, (bl_ HB)⟩)}}
 clear g0 a0 b0 d0 e0 c0 HB
 rintro ⟨Z0, f0⟩ O1 ⟨hS_, h0_, h1_, h2_, h3_, h4_, h5_, h6_, h7_, h8_, h9_, h10_, h11_, h12_, h13_, h14_, h15_, h16_⟩
 (try dsimp only at h0_ h1_ h2_ h3_ h4_ h5_ h6_ h7_ h8_ h9_ h10_ h11_ h12_ h13_ h14_ h15_ h16_)
 have B0 := a_ h0_
 have a0 := a_ h1_
 have b0 := a_ h2_
 have g0 := a_ h3_
 have d0 := a_ h4_
 have e0 := a_ h5_
 have c0 := a_ h6_
 have i0 := a_ h7_
 have O0 := a_ h8_
 have P0 := a_ h9_
 have p0 := a_ h10_
 have q0 := a_ h11_
 have r0 := a_ h12_
 have t0 := a_ h13_
 have n0 := a_ h14_
 have w0 := a_ h15_
 have HB := a_ h16_
 clear h0_ h1_ h2_ h3_ h4_ h5_ h6_ h7_ h8_ h9_ h10_ h11_ h12_ h13_ h14_ h15_ h16_
 have hHeld : O1.cell? ⟨k0, 0, none⟩ = some (.slice k1 h0.length m1) ∧ O1.cell? ⟨k0, 1, none⟩ = some (.int .i64 m0) ∧ O1.cell? (H0.add (a2).toNat) = some (.int .u32 (rd z0 a2)) := hS_
 obtain ⟨z1, B1, y2⟩ := Kd.R_slice B0.out
 (first | subst y2 | (injection y2 with f1_ f2_ f3_; have f4_ := f1_.symm; have f5_ := f3_.symm; clear f1_ f2_ f3_; subst f4_; subst f5_))
 refine norm_ (a' := ?_) ?_ ?_
 rotate_left
 {
 simp only [putAll, Act.put, List.setIfInBounds_toArray, List.set_cons_zero, List.set_cons_succ]
 rfl}
 refine one_ (i := 14) (N := none) (B_ 16 32767) rfl rfl (one_of HT_.out kf_) (by decide) (fun K hK => ?_)
 have hs61 : O1.cell? ⟨f0, 0, none⟩ = some (.slice none 0 0) := ce_ i0 0
 have hfs61 := blk_frozen i0.out 0
 have hns61_0 := p0.out
 have hns61_1 := r0.out
 have hns61_2 := n0.out
 have hms61_0 := q0.out
 have hms61_1 := t0.out
 have hms61_2 := w0.out
 have hs62 : O1.cell? ⟨f0, 1, none⟩ = some (.int .i64 0) := ce_ i0 1
 have hfs62 := blk_frozen i0.out 1
 have hns62_0 := p0.out
 have hns62_1 := r0.out
 have hns62_2 := n0.out
 have hms62_0 := q0.out
 have hms62_1 := t0.out
 have hms62_2 := w0.out
 refine skip_ (w1 := ?_) (by rfl) rfl ?_ ?_
 rotate_left
 {
 go_simp
 rfl}
 refine hK.out _ _ ⟨((cell_far (p := ⟨f0, _, none⟩) n0.out _).trans (((cell_far (p := ⟨f0, _, none⟩) n0.out _).trans (hHeld.1)))), ((cell_far (p := ⟨f0, _, none⟩) n0.out _).trans (((cell_far (p := ⟨f0, _, none⟩) n0.out _).trans (hHeld.2.1)))), ((cell_far (p := ⟨f0, _, none⟩) (by first | exact Kd.own_blk (Kd.R_ne g0.out i0.out (by decide)) | (rw [add_block]; exact Kd.own_blk (Kd.R_ne g0.out i0.out (by decide))) | (show (Addr.add _ _).block ≠ _; rw [add_block]; exact Kd.own_blk (Kd.R_ne g0.out i0.out (by decide))) | (dsimp only; exact Kd.own_blk (Kd.R_ne g0.out i0.out (by decide)))) _).trans (((cell_far (p := ⟨f0, _, none⟩) (by first | exact Kd.own_blk (Kd.R_ne g0.out i0.out (by decide)) | (rw [add_block]; exact Kd.own_blk (Kd.R_ne g0.out i0.out (by decide))) | (show (Addr.add _ _).block ≠ _; rw [add_block]; exact Kd.own_blk (Kd.R_ne g0.out i0.out (by decide))) | (dsimp only; exact Kd.own_blk (Kd.R_ne g0.out i0.out (by decide)))) _).trans (hHeld.2.2))))⟩ (fun hHeld => ?_)
 clear hK K
 refine pu_ 15 (some 13) (B_ 16 65535) HT_ ?_
 refine done_ (done_of HT_.out kf_) ?_
 have z4 := R0.out
 have B4 := S0.out
 have C4 := T0.out
 have D4 := U0.out
 have E4 := p0.out
 have F4 := q0.out
 obtain ⟨o3, p3, q3, s3⟩ := e2_ d0
 try go_wp2_with (first | ((with_reducible refine gate_callee (f := 84) rfl ?_); refine gL_ (some 71) Try.func84 #[.agg #[.slice G0 o0.length E0, .int .i64 C0], .int .u64 0, .int .i64 0] ?_; (with_reducible refine (Fo_.calls k2 _ _ o0 C0 0 0 H1 I1 Q2 _ ?side1 ?side2 R3.out).mono ?_); (case side1 => refine (Kd.V_reads' (e := 5) (base := w.heap.size) (ok := fun k_ => ((P0_0_ k_ ∨ w.heap.size ≤ k_) ∧ (no_ k_ (.slice z1 F0.length B1) ∧ (no_ k_ (.slice (some H0) z0.length J1) ∧ (k_ ≠ y0 ∧ (k_ ≠ v0 ∧ (k_ ≠ k0 ∧ k_ ≠ f0))))))) (n := o0.length) (c := E0) ?_).2.2; exact (by (with_reducible repeat (first | apply Kd.V_alloc | apply Kd.V_drewN | apply Kd.V_drew)); exact (Kd.V_mono (Kd.V_far (p := ⟨f0, 1, none⟩) (Kd.V_far (p := ⟨f0, 0, none⟩) (Kd.V_mono a0.out (fun k_ hk => (⟨hk, hk.2.2.2.2.2.2⟩ : _ ∧ k_ ≠ f0))) (fun _ hk => hk.2) (.slice z1 F0.length B1)) (fun _ hk => hk.2) (.int .i64 D0)) (fun _ h_ => h_.1)))); (case side2 => exact (Kd.V_reads' a0.out).2.1); rintro e c5 ⟨U4, rfl, A0, hb⟩; refine ⟨_, rfl, ?_⟩; replace g0 := a_ (Kd.R_below (kRk_ g0 i0) hb); replace a0 := a_ (Kd.V_elder' (by (with_reducible repeat (first | apply Kd.V_alloc | apply Kd.V_drewN | apply Kd.V_drew)); exact (Kd.V_mono (Kd.V_far (p := ⟨f0, 1, none⟩) (Kd.V_far (p := ⟨f0, 0, none⟩) (Kd.V_mono a0.out (fun k_ hk => (⟨hk, hk.2.2.2.2.2.2⟩ : _ ∧ k_ ≠ f0))) (fun _ hk => hk.2) (.slice z1 F0.length B1)) (fun _ hk => hk.2) (.int .i64 D0)) (fun _ h_ => h_.1))) (Kd.R_base A0) hb); replace b0 := a_ (Kd.V_elder' (by (with_reducible repeat (first | apply Kd.V_alloc | apply Kd.V_drewN | apply Kd.V_drew)); exact (Kd.V_mono (Kd.V_far (p := ⟨f0, 1, none⟩) (Kd.V_far (p := ⟨f0, 0, none⟩) (Kd.V_mono b0.out (fun k_ hk => (⟨hk, hk.2.2.2.2.2.2⟩ : _ ∧ k_ ≠ f0))) (fun _ hk => hk.2) (.slice z1 F0.length B1)) (fun _ hk => hk.2) (.int .i64 D0)) (fun _ h_ => h_.1))) (Kd.R_base A0) hb); have d2 := a_ (Kd.R_lower (Kd.R_new' (Kd.R_newM (M := fun k_ => (w.heap.size ≤ k_)) A0 (bs_ HB) (fun k_ h_ => h_)) (Kd.R_lt (kRk_ B0 i0))) (bs_ HB)); replace B0 := a_ (Kd.R_elder' (kRk_ B0 i0) (Kd.R_base A0) hb); replace d0 := FB_ d0 hb; replace e0 := FB_ e0 hb; replace c0 := FB_ c0 hb; replace i0 := a_ (blk_below (g := f0) (o := .cells #[.slice z1 F0.length B1, .int .i64 D0] 74 (0, 0)) (bp_ i0) hb); replace HB := BS_ HB hb; (try clear hb); (try clear hk); (try clear A0); obtain ⟨V1, W1, S2⟩ := Kd.R_slice d2.out; subst S2; obtain ⟨t3, v3, w3, y3⟩ := e2_ d0; have G4 := V0.out; have H4 := W0.out; have I4 := r0.out; have J4 := t0.out; obtain ⟨z3, A3, B3, C3⟩ := e2_ e0))
 refine bodyPost_ret (results_ct rfl _ _ v0 74 #[.slice V1 H1.length W1, .int .i64 I1] (0, 0) _ rfl (bp_ e0) Try.underlying74 rfl kf_) rfl ?_
 exact ⟨_, by first | rfl | (simp [errW_none, errW_some] <;> rfl) | (simp only [← N0]; first | rfl | (simp [errW_none, errW_some] <;> rfl)) | (simp [*, errW_none, errW_some] <;> rfl), Kd.V_mono (Kd.R_V (by (with_reducible repeat (first | apply Kd.R_alloc | apply Kd.R_drewN | apply Kd.R_drew)); exact Kd.R_mono (Kd.R_far (p := ⟨v0, 1, none⟩) (Kd.R_far (p := ⟨v0, 0, none⟩) (Kd.R_far (p := ⟨y0, 1, none⟩) (Kd.R_far (p := ⟨y0, 0, none⟩) (Kd.R_types (Kd.R_types d2.out d0.out (by decide)) e0.out (by decide)) (fun _ hk => hk.1.2) (.slice V1 H1.length W1)) (fun _ hk => hk.1.2) (.int .i64 I1)) (fun _ hk => hk.2) (.slice V1 H1.length W1)) (fun _ hk => hk.2) (.int .i64 I1)) (fun _ hk => hk.1.1.1.1))) (fun k_ hk => by first | exact ⟨(.inr (hk.1)), hk.2⟩ | exact (.inr (hk))), bl_ HB⟩}}
 {
 have F2 : decide (0 ≤ K0) = false := decide_eq_false M1
 clear M1
 simp only [Option.some.injEq, Prod.mk.injEq] at H
 obtain ⟨rfl, rfl, rfl⟩ := H
 have K4 := U0.out
 have L4 := T0.out
 have M4 := W0.out
 have N4 := V0.out
 obtain ⟨D3, E3, F3, G3⟩ := e2_ c0
 obtain ⟨z2, A2, T2⟩ := Kd.V_slice b0.out
 subst T2
 have O4 := S0.out
 have P4 := R0.out
 obtain ⟨H3, I3, J3, K3⟩ := e2_ e0
 go_wp2
 refine bodyPost_ret (results_ct rfl _ _ v0 74 #[.slice z2 h0.length A2, .int .i64 m0] (0, 0) _ rfl (bp_ e0) Try.underlying74 rfl kf_) rfl ?_
 exact ⟨_, er_, by (with_reducible repeat (first | apply Kd.V_alloc | apply Kd.V_drewN | apply Kd.V_drew)); exact Kd.V_mono (Kd.V_far (p := ⟨v0, 1, none⟩) (Kd.V_far (p := ⟨v0, 0, none⟩) (Kd.V_mono b0.out (fun k_ hk => (⟨hk, hk.2.2.2.1⟩ : _ ∧ k_ ≠ v0))) (fun _ hk => hk.2) (.slice z2 h0.length A2)) (fun _ hk => hk.2) (.int .i64 m0)) (fun _ hk => hk.1.1), bl_ HB⟩}))}))
def FL_.j0 : Nat → List Int → Int → Bool → List Int → Int → Option (List Int × Int)
  | 0, _, _, _, _, _ => none
  | k + 1, x1, x2, i0, b0, c0 => if i0 = true then ((Fk_.f k b0 c0 x1 (wrap64 (x2 + 7))).bind fun d0 => (some (d0.1, d0.2.1))) else ((Fk_.f k b0 c0 x1 15).bind fun a0 => (if x2 < 0 then ((Gp_.f k a0.1 a0.2.1 1 1).bind fun e0 => ((Gp_.f k e0.1 e0.2 (IntKind.u64.wrap (mx x2 (wrap64 (-x2)))) 22).bind fun f0 => (some (f0.1, f0.2)))) else ((Gp_.f k a0.1 a0.2.1 0 1).bind fun g0 => ((Gp_.f k g0.1 g0.2 (IntKind.u64.wrap (mx x2 (wrap64 (-x2)))) 22).bind fun h0 => (some (h0.1, h0.2))))))
def FL_.f (k : Nat) (a0 : List Int) (b0 : Int) (l1 : List Int) (a2 : Int) : Option (List Int × Int) := if a2 ≥ (-7) then (if a2 ≤ 7 then (if 0 ≤ (wrap64 (a2 + 7)) then (if (wrap64 (a2 + 7)) < (l1.length : Int) then (FL_.j0 k l1 a2 (decide ((rd l1 (wrap64 (a2 + 7))) > 0)) a0 b0) else (none)) else (none)) else (FL_.j0 k l1 a2 false a0 b0)) else (FL_.j0 k l1 a2 false a0 b0)
theorem FL_.mono_l : ∀ k, (∀ y0 y1 y2 y3 y4, LeO (FL_.j0 k y0 y1 y2 y3 y4) (FL_.j0 (k + 1) y0 y1 y2 y3 y4))
  | 0 => fun _ _ _ _ _ r h => by simp [FL_.j0] at h
  | k + 1 => by
    have a0 := FL_.mono_l k
    · intro y0 y1 y2 y3 y4
      unfold FL_.j0
      with_reducible repeat' first
   | apply a0
   | apply Fk_.mono
   | apply Gp_.mono
   | exact LeO.refl _
   | exact LeO.none _
   | refine LeO.ite ?_ ?_
   | refine LeO.bind ?_ (fun _ => ?_)
theorem FL_.mono : ∀ a0 a1 a2 a3 k, LeO (FL_.f k a0 a1 a2 a3) (FL_.f (k + 1) a0 a1 a2 a3) := by
  intro a0 a1 a2 a3 k
  have b0 := FL_.mono_l k
  unfold FL_.f
  with_reducible repeat' first
   | apply b0
   | apply Fk_.mono
   | apply Gp_.mono
   | exact LeO.refl _
   | exact LeO.none _
   | refine LeO.ite ?_ ?_
   | refine LeO.bind ?_ (fun _ => ?_)
theorem FL_.calls (k : Nat) (P0_0_ : Nat → Prop) (m0 : Option Addr) (n0 : Nat) (f0 : List Int) (i0 : Int) (A1 : Option Addr) (c1 : Nat) (l1 : List Int) (a2 : Int) (r1 : List Int) (r2 : Int) (w : World) (hs0_0 : Kd.V (Kd.int .u8) 5 w w.heap.size (fun k_ => P0_0_ k_) (.slice m0 f0.length n0) f0) (hr1 : Kd.C (Kd.int .i64) w A1 l1.length l1) (hc1 : l1.length ≤ c1) (h : FL_.f k f0 i0 l1 a2 = some (r1, r2)) :
    Calls Try.prog 46 #[.agg #[.slice m0 f0.length n0, .int .i64 i0], .slice A1 l1.length c1, .int .i64 a2] w fun e w' => ∃ v0_ : Value, e = .returned (.agg #[v0_, .int .i64 r2]) ∧ Kd.V (Kd.int .u8) 5 w' w.heap.size (fun k_ => (P0_0_ k_ ∨ w.heap.size ≤ k_)) v0_ r1 ∧ Below w.heap.size w w' := by
 have R2 := Try.underlying74
 have o0 := a_ (show Kd.V (Kd.int .u8) 5 w w.heap.size (fun k_ => (P0_0_ k_ ∨ w.heap.size ≤ k_)) (.slice m0 f0.length n0) f0 from Kd.V_mono hs0_0 (fun k_ hk => .inl hk))
 have W0 := a_ hr1
 have f1 := a_ hc1
 clear hr1 hc1
 have HB := a_ (Below.refl w.heap.size w)
 have H : (if a2 ≥ (-7) then (if a2 ≤ 7 then (if 0 ≤ (wrap64 (a2 + 7)) then (if (wrap64 (a2 + 7)) < (l1.length : Int) then (FL_.j0 k l1 a2 (decide ((rd l1 (wrap64 (a2 + 7))) > 0)) f0 i0) else (none)) else (none)) else (FL_.j0 k l1 a2 false f0 i0)) else (FL_.j0 k l1 a2 false f0 i0)) = some (r1, r2) := h
 clear h
 have h1 := a_ H
 clear H
 go_enter Try.func46, Try.ntmps46
 go_upto_region 1 with (first | ((with_reducible refine gate_dst (N := 3) rfl ?_); refine box_ 3 #[.slice m0 f0.length n0, .int .i64 i0] 74 ?_; intro a0 hg w5 hbox hb; replace o0 := a_ (Kd.V_below (Kd.V_elderB (kV_ o0) a0 (Nat.le_of_eq hg.symm)) hb); have c0 := a_ (hbox); have E2 := GE_ HB hg; have F2 := GE_ HB hg; replace HB := BS_ HB hb; clear hb hbox hg) | ((with_reducible refine gate_dst (N := 6) rfl ?_); refine box_ 6 #[.slice none 0 0, .int .i64 0] 74 ?_; intro e0 hg w6 hbox hb; replace o0 := a_ (Kd.V_below (Kd.V_elderB (kV_ o0) e0 (Nat.le_of_eq hg.symm)) hb); have d0 := a_ (hbox); have G2 := GE_ HB hg; have H2 := GE_ HB hg; replace HB := BS_ HB hb; obtain ⟨r0, s0⟩ := NN_ c0 hg; replace c0 := FB_ c0 hb; clear hb hbox hg))
 (try simp only [Act.put, List.setIfInBounds_toArray, List.set_cons_zero, List.set_cons_succ])
 go_cut [21] (fun A2 wc => ∃ (kq : Nat) (A0 : Bool), A2 = .bool A0 ∧ Aside0 (FL_.j0 kq l1 a2 A0 f0 i0 = some (r1, r2)) ∧ Aside0 (kq ≤ k) ∧ Aside0 (Kd.V (Kd.int .u8) 5 wc w.heap.size (fun k_ => (P0_0_ k_ ∨ w.heap.size ≤ k_) ∧ k_ ≠ a0 ∧ k_ ≠ e0) (.slice m0 f0.length n0) f0) ∧ Aside0 (wc.heap[a0]? = some (.cells #[(.slice m0 f0.length n0), .int .i64 i0] 74 (0, 0))) ∧ Aside0 (wc.heap[e0]? = some (.cells #[(.slice none 0 0), .int .i64 0] 74 (0, 0))) ∧ Aside0 (Below w.heap.size w wc))
 case first => (
 have H := h1.out
 clear h1
 replace H := ii_ H
 rcases H with ⟨c7, H⟩ | ⟨c7, H⟩
 {
 have B0 : decide ((-7) ≤ a2) = true := decide_eq_true c7
 clear c7
 (first | rw [B0] | (simp only [i64_w, i32_w]; rw [B0]) | skip)
 replace H := id_ H
 rcases H with ⟨s1, H⟩ | ⟨s1, H⟩
 {
 obtain ⟨z0, F0⟩ : ∃ j_ : Int, (wrap64 (a2 + 7)) = j_ := ⟨_, rfl⟩
 replace H : (if 0 ≤ (z0) then (if (z0) < (l1.length : Int) then (FL_.j0 k l1 a2 (decide ((rd l1 (z0)) > 0)) f0 i0) else (none)) else (none)) = some (r1, r2) := by first | (rw [F0] at H; exact H) | (simp only [F0] at H ⊢; exact H)
 have hji9w : (IntKind.i64.wrap (a2 + 7)) = z0 := (i64_w _).trans F0
 replace H := gd_ H
 obtain ⟨I2, H⟩ := H
 replace H := gd_ H
 obtain ⟨J2, H⟩ := H
 have H' := a_ H
 clear H
 have O0 : 0 ≤ ((z0) : Int) := dm_
 have P0 : (z0) < (l1.length : Int) := dm_
 obtain ⟨K2, t1, E0⟩ := Kd.at_int W0.out (z0) O0 P0
 cases t1
 replace E0 := hc_ HB E0
 replace O0 := eq_true O0
 replace P0 := eq_true P0
 go_wp2
 go_meet
 case rel => exact ⟨_, (decide ((rd l1 (z0)) > 0)), (by first | rfl | (simp; done) | (simp only [← F0] <;> (first | rfl | simp)) | (simp [*]; done)), H', ⟨ol_⟩, ⟨by (with_reducible repeat (first | apply Kd.V_alloc | apply Kd.V_drewN | apply Kd.V_drew)); exact Kd.V_mono o0.out cj_⟩, ⟨bk_ c0⟩, ⟨bk_ d0⟩, ⟨bl_ HB⟩⟩}
 {
 have H' := a_ H
 clear H
 go_wp2
 go_meet
 case rel => exact ⟨_, (false), rs_, H', ⟨ol_⟩, ⟨by (with_reducible repeat (first | apply Kd.V_alloc | apply Kd.V_drewN | apply Kd.V_drew)); exact Kd.V_mono o0.out cj_⟩, ⟨bk_ c0⟩, ⟨bk_ d0⟩, ⟨bl_ HB⟩⟩}}
 {
 have B0 : decide ((-7) ≤ a2) = false := decide_eq_false c7
 clear c7
 (first | rw [B0] | (simp only [i64_w, i32_w]; rw [B0]) | skip)
 have H' := a_ H
 clear H
 go_wp2
 go_meet
 case rel => exact ⟨_, (false), rs_, H', ⟨ol_⟩, ⟨by (with_reducible repeat (first | apply Kd.V_alloc | apply Kd.V_drewN | apply Kd.V_drew)); exact Kd.V_mono o0.out cj_⟩, ⟨bk_ c0⟩, ⟨bk_ d0⟩, ⟨bl_ HB⟩⟩})
 case rest => (
 clear h1
 obtain ⟨kq, A0, rfl, HA, HJ3, b0, c0, d0, HB⟩ := hcut
 cases kq with
 | zero => exact absurd HA.out (by simp [FL_.j0])
 | succ kj3 => (
 have H := HA.out
 clear HA
 simp only [FL_.j0] at H
 by_cases X0 : A0 = true
 {
 subst X0
 rw [if_pos rfl] at H
 obtain ⟨⟨G0, H0, v1⟩, B2, H⟩ := ob_ H
 (try dsimp only at H)
 simp only [Option.some.injEq, Prod.mk.injEq] at H
 obtain ⟨rfl, rfl⟩ := H
 have L2 := r0.out
 have M2 := s0.out
 obtain ⟨L1, M1, N1, O1⟩ := e2_ c0
 go_wp2_with (first | ((with_reducible refine gate_callee (f := 45) rfl ?_); refine gL_ (some 27) Try.func45 #[.agg #[.slice m0 f0.length n0, .int .i64 i0], .slice A1 l1.length c1, .int .i64 (wrap64 (a2 + 7))] ?_; (with_reducible refine (Fk_.calls kj3 (fun k_ => ((P0_0_ k_ ∨ w.heap.size ≤ k_) ∧ (k_ ≠ a0 ∧ k_ ≠ e0))) _ _ f0 i0 _ _ l1 (wrap64 (a2 + 7)) G0 H0 v1 _ ?side1 ?side2 ?side3 B2.out).mono ?_); (case side1 => exact b0.out); (case side2 => exact kC_ W0 HB); (case side3 => exact f1.out); rintro e X2 ⟨S2, rfl, g0, hb⟩; refine ⟨_, rfl, ?_⟩; replace b0 := FV_ b0 hb; have Y0 := a_ (Kd.V_lower (Kd.V_mono (ok' := fun k_ => (P0_0_ k_ ∨ w.heap.size ≤ k_) ∧ k_ ≠ a0 ∧ k_ ≠ e0) g0 (fun k_ hk_ => ⟨Or.elim hk_ (fun hs_ => hs_.1) (fun hn_ => (.inr (Nat.le_trans (bs_ HB) hn_))), Or.elim hk_ (fun hs_ => hs_.2.1) (fun hn_ => (Kd.freshB (g := a0) (o := .cells #[.slice m0 f0.length n0, .int .i64 i0] 74 (0, 0)) (bk_ c0) k_ hn_)), Or.elim hk_ (fun hs_ => hs_.2.2) (fun hn_ => (Kd.freshB (g := e0) (o := .cells #[.slice none 0 0, .int .i64 0] 74 (0, 0)) (bk_ d0) k_ hn_))⟩)) (bs_ HB)); replace c0 := FB_ c0 hb; replace d0 := FB_ d0 hb; replace HB := BS_ HB hb; (try clear hb); (try clear g0); obtain ⟨Q0, R0, y1⟩ := Kd.V_slice Y0.out; subst y1; obtain ⟨P1, Q1, R1, S1⟩ := e2_ c0; obtain ⟨T1, U1, V1, W1⟩ := e2_ d0))
 refine bodyPost_ret (results_cell_row rfl _ _ e0 74 #[.slice Q0 G0.length R0, .int .i64 H0] (0, 0) _ rfl (bp_ d0) Try.underlying74 rfl kf_) rfl ?_
 exact ⟨_, er_, by (with_reducible repeat (first | apply Kd.V_alloc | apply Kd.V_drewN | apply Kd.V_drew)); exact Kd.V_mono (Kd.V_far (p := ⟨e0, 1, none⟩) (Kd.V_far (p := ⟨e0, 0, none⟩) (Kd.V_far (p := ⟨a0, 1, none⟩) (Kd.V_far (p := ⟨a0, 0, none⟩) (Kd.V_mono (Kd.V_mono Y0.out (fun k_ hk => (⟨hk, hk.2.1⟩ : _ ∧ k_ ≠ a0))) (fun k_ hk => (⟨hk, hk.1.2.2⟩ : _ ∧ k_ ≠ e0))) (fun _ hk => hk.1.2) (.slice Q0 G0.length R0)) (fun _ hk => hk.1.2) (.int .i64 H0)) (fun _ hk => hk.2) (.slice Q0 G0.length R0)) (fun _ hk => hk.2) (.int .i64 H0)) (fun _ hk => hk.1.1.1), bl_ HB⟩}
 {
 replace X0 := Bool.eq_false_iff.mpr X0
 subst X0
 rw [if_neg (show ¬ (false = true) by decide)] at H
 obtain ⟨⟨k0, l0, i1⟩, Z0, H⟩ := ob_ H
 (try dsimp only at H)
 replace H := id_ H
 rcases H with ⟨o1, H⟩ | ⟨o1, H⟩
 {
 obtain ⟨⟨I0, J0⟩, p1, H⟩ := ob_ H
 (try dsimp only at H)
 obtain ⟨K0, p0⟩ : ∃ j_ : Int, (mx a2 (wrap64 (-a2))) = j_ := ⟨_, rfl⟩
 replace H : ((Gp_.f kj3 I0 J0 (IntKind.u64.wrap (K0)) 22).bind fun a1 => (some (a1.1, a1.2))) = some (r1, r2) := by first | (rw [p0] at H; exact H) | (simp only [p0] at H ⊢; exact H)
 (try rw [p0] at Z0)
 (try rw [p0] at p1)
 have hji23_ : (if a2 < (wrap64 (-a2)) then (wrap64 (-a2)) else a2) = K0 := p0
 obtain ⟨⟨S0, T0⟩, C2, H⟩ := ob_ H
 (try dsimp only at H)
 simp only [Option.some.injEq, Prod.mk.injEq] at H
 obtain ⟨rfl, rfl⟩ := H
 have N2 := r0.out
 have O2 := s0.out
 obtain ⟨X1, Y1, Z1, b2⟩ := e2_ c0
 go_wp2_with (first | ((with_reducible refine gate_callee (f := 45) rfl ?_); refine gL_ (some 34) Try.func45 #[.agg #[.slice m0 f0.length n0, .int .i64 i0], .slice A1 l1.length c1, .int .i64 15] ?_; (with_reducible refine (Fk_.calls kj3 (fun k_ => ((P0_0_ k_ ∨ w.heap.size ≤ k_) ∧ (k_ ≠ a0 ∧ k_ ≠ e0))) _ _ f0 i0 _ _ l1 15 k0 l0 i1 _ ?side1 ?side2 ?side3 Z0.out).mono ?_); (case side1 => exact b0.out); (case side2 => exact kC_ W0 HB); (case side3 => exact f1.out); rintro e Y2 ⟨z1, rfl, g0, hb⟩; refine ⟨_, rfl, ?_⟩; replace b0 := FV_ b0 hb; have h0 := a_ (Kd.V_lower (Kd.V_mono (ok' := fun k_ => (P0_0_ k_ ∨ w.heap.size ≤ k_) ∧ k_ ≠ a0 ∧ k_ ≠ e0) g0 (fun k_ hk_ => ⟨Or.elim hk_ (fun hs_ => hs_.1) (fun hn_ => (.inr (Nat.le_trans (bs_ HB) hn_))), Or.elim hk_ (fun hs_ => hs_.2.1) (fun hn_ => (Kd.freshB (g := a0) (o := .cells #[.slice m0 f0.length n0, .int .i64 i0] 74 (0, 0)) (bk_ c0) k_ hn_)), Or.elim hk_ (fun hs_ => hs_.2.2) (fun hn_ => (Kd.freshB (g := e0) (o := .cells #[.slice none 0 0, .int .i64 0] 74 (0, 0)) (bk_ d0) k_ hn_))⟩)) (bs_ HB)); replace c0 := FB_ c0 hb; replace d0 := FB_ d0 hb; replace HB := BS_ HB hb; (try clear hb); (try clear hk); (try clear g0); obtain ⟨C0, w0, B1⟩ := Kd.V_slice h0.out; subst B1; obtain ⟨c2, d2, e2, f2⟩ := e2_ c0) | ((with_reducible refine gate_callee (f := 44) rfl ?_); refine gL_ (some 41) Try.func44 #[.agg #[.slice C0 k0.length w0, .int .i64 l0], .int .u64 1, .int .i64 1] ?_; (with_reducible refine (Gp_.calls kj3 _ _ k0 l0 1 1 I0 J0 _ ?side1 ?side2 p1.out).mono ?_); (case side1 => refine (Kd.V_reads' (e := 5) (base := w.heap.size) (ok := fun k_ => ((P0_0_ k_ ∨ w.heap.size ≤ k_) ∧ (k_ ≠ a0 ∧ k_ ≠ e0))) (n := k0.length) (c := w0) ?_).2.2; exact (by (with_reducible repeat (first | apply Kd.V_alloc | apply Kd.V_drewN | apply Kd.V_drew)); exact (Kd.V_mono (Kd.V_far (p := ⟨a0, 1, none⟩) (Kd.V_far (p := ⟨a0, 0, none⟩) (Kd.V_mono h0.out (fun k_ hk => (⟨hk, hk.2.1⟩ : _ ∧ k_ ≠ a0))) (fun _ hk => hk.2) (.slice C0 k0.length w0)) (fun _ hk => hk.2) (.int .i64 l0)) (fun _ h_ => h_.1)))); (case side2 => exact (Kd.V_reads' h0.out).2.1); rintro e Z2 ⟨T2, rfl, g0, hb⟩; refine ⟨_, rfl, ?_⟩; replace b0 := a_ (Kd.V_elder' (by (with_reducible repeat (first | apply Kd.V_alloc | apply Kd.V_drewN | apply Kd.V_drew)); exact (Kd.V_mono (Kd.V_far (p := ⟨a0, 1, none⟩) (Kd.V_far (p := ⟨a0, 0, none⟩) (Kd.V_mono b0.out (fun k_ hk => (⟨hk, hk.2.1⟩ : _ ∧ k_ ≠ a0))) (fun _ hk => hk.2) (.slice C0 k0.length w0)) (fun _ hk => hk.2) (.int .i64 l0)) (fun _ h_ => h_.1))) (Kd.R_base g0) hb); replace h0 := a_ (Kd.V_elder' (by (with_reducible repeat (first | apply Kd.V_alloc | apply Kd.V_drewN | apply Kd.V_drew)); exact (Kd.V_mono (Kd.V_far (p := ⟨a0, 1, none⟩) (Kd.V_far (p := ⟨a0, 0, none⟩) (Kd.V_mono h0.out (fun k_ hk => (⟨hk, hk.2.1⟩ : _ ∧ k_ ≠ a0))) (fun _ hk => hk.2) (.slice C0 k0.length w0)) (fun _ hk => hk.2) (.int .i64 l0)) (fun _ h_ => h_.1))) (Kd.R_base g0) hb); have t0 := a_ (Kd.R_lower (Kd.R_newM (M := fun k_ => (w.heap.size ≤ k_)) g0 (bs_ HB) (fun k_ h_ => h_)) (bs_ HB)); replace c0 := a_ (blk_below (g := a0) (o := .cells #[.slice C0 k0.length w0, .int .i64 l0] 74 (0, 0)) (bp_ c0) hb); replace d0 := FB_ d0 hb; replace HB := BS_ HB hb; (try clear hb); (try clear hk); (try clear g0); obtain ⟨C1, D1, E1⟩ := Kd.R_slice t0.out; subst E1) | ((with_reducible refine gate_callee (f := 44) rfl ?_); refine goesL_ (some 47) rfl rfl Try.func44 kf_ rfl #[.agg #[.slice C1 I0.length D1, .int .i64 J0], .int .u64 (IntKind.u64.wrap (K0)), .int .i64 22] rfl (by (try simp only [List.map_toArray, List.map_cons, List.map_nil]); first | done | (simp only [p0]; rfl) | rfl | (simp only [List.length_drop, List.length_take]; rfl)) ?_; (with_reducible refine (Gp_.calls kj3 _ _ I0 J0 (IntKind.u64.wrap (K0)) 22 S0 T0 _ ?side1 ?side2 C2.out).mono ?_); (case side1 => exact kCt_ (Kd.R_reads' t0.out).2.2); (case side2 => exact (Kd.R_reads' t0.out).2.1); rintro e a3 ⟨U2, rfl, g0, hb⟩; refine ⟨_, rfl, ?_⟩; replace b0 := a_ (Kd.V_elder' (kV_ b0) (Kd.R_base g0) hb); replace h0 := a_ (Kd.V_elder' (kV_ h0) (Kd.R_base g0) hb); have b1 := a_ (Kd.R_lower (Kd.R_new' (Kd.R_newM (M := fun k_ => (w.heap.size ≤ k_)) g0 (bs_ HB) (fun k_ h_ => h_)) (Kd.R_lt (kR_ t0))) (bs_ HB)); replace t0 := a_ (Kd.R_elder' (kR_ t0) (Kd.R_base g0) hb); replace c0 := FB_ c0 hb; replace d0 := FB_ d0 hb; replace HB := BS_ HB hb; (try clear hb); (try clear hk); (try clear g0); obtain ⟨j1, k1, F1⟩ := Kd.R_slice b1.out; subst F1; obtain ⟨g2, h2, i2, j2⟩ := e2_ d0))
 refine bodyPost_ret (results_cell_row rfl _ _ e0 74 #[.slice j1 S0.length k1, .int .i64 T0] (0, 0) _ rfl (bp_ d0) Try.underlying74 rfl kf_) rfl ?_
 exact ⟨_, by first | rfl | (simp [errW_none, errW_some] <;> rfl) | (simp only [← p0]; first | rfl | (simp [errW_none, errW_some] <;> rfl)) | (simp [*, errW_none, errW_some] <;> rfl), Kd.V_mono (Kd.R_V (by (with_reducible repeat (first | apply Kd.R_alloc | apply Kd.R_drewN | apply Kd.R_drew)); exact Kd.R_mono (Kd.R_far (p := ⟨e0, 1, none⟩) (Kd.R_far (p := ⟨e0, 0, none⟩) (Kd.R_types b1.out d0.out (by decide)) (fun _ hk => hk.2) (.slice j1 S0.length k1)) (fun _ hk => hk.2) (.int .i64 T0)) (fun _ hk => hk.1.1.1))) (fun k_ hk => by first | exact ⟨(.inr (hk.1)), hk.2⟩ | exact (.inr (hk))), bl_ HB⟩}
 {
 obtain ⟨⟨L0, M0⟩, q1, H⟩ := ob_ H
 (try dsimp only at H)
 obtain ⟨N0, q0⟩ : ∃ j_ : Int, (mx a2 (wrap64 (-a2))) = j_ := ⟨_, rfl⟩
 replace H : ((Gp_.f kj3 L0 M0 (IntKind.u64.wrap (N0)) 22).bind fun d1 => (some (d1.1, d1.2))) = some (r1, r2) := by first | (rw [q0] at H; exact H) | (simp only [q0] at H ⊢; exact H)
 (try rw [q0] at Z0)
 (try rw [q0] at q1)
 have hji36_ : (if a2 < (wrap64 (-a2)) then (wrap64 (-a2)) else a2) = N0 := q0
 obtain ⟨⟨U0, V0⟩, D2, H⟩ := ob_ H
 (try dsimp only at H)
 simp only [Option.some.injEq, Prod.mk.injEq] at H
 obtain ⟨rfl, rfl⟩ := H
 have P2 := r0.out
 have Q2 := s0.out
 obtain ⟨k2, l2, m2, n2⟩ := e2_ c0
 go_wp2_with (first | ((with_reducible refine gate_callee (f := 45) rfl ?_); refine gL_ (some 34) Try.func45 #[.agg #[.slice m0 f0.length n0, .int .i64 i0], .slice A1 l1.length c1, .int .i64 15] ?_; (with_reducible refine (Fk_.calls kj3 (fun k_ => ((P0_0_ k_ ∨ w.heap.size ≤ k_) ∧ (k_ ≠ a0 ∧ k_ ≠ e0))) _ _ f0 i0 _ _ l1 15 k0 l0 i1 _ ?side1 ?side2 ?side3 Z0.out).mono ?_); (case side1 => exact b0.out); (case side2 => exact kC_ W0 HB); (case side3 => exact f1.out); rintro e b3 ⟨z1, rfl, g0, hb⟩; refine ⟨_, rfl, ?_⟩; replace b0 := FV_ b0 hb; have h0 := a_ (Kd.V_lower (Kd.V_mono (ok' := fun k_ => (P0_0_ k_ ∨ w.heap.size ≤ k_) ∧ k_ ≠ a0 ∧ k_ ≠ e0) g0 (fun k_ hk_ => ⟨Or.elim hk_ (fun hs_ => hs_.1) (fun hn_ => (.inr (Nat.le_trans (bs_ HB) hn_))), Or.elim hk_ (fun hs_ => hs_.2.1) (fun hn_ => (Kd.freshB (g := a0) (o := .cells #[.slice m0 f0.length n0, .int .i64 i0] 74 (0, 0)) (bk_ c0) k_ hn_)), Or.elim hk_ (fun hs_ => hs_.2.2) (fun hn_ => (Kd.freshB (g := e0) (o := .cells #[.slice none 0 0, .int .i64 0] 74 (0, 0)) (bk_ d0) k_ hn_))⟩)) (bs_ HB)); replace c0 := FB_ c0 hb; replace d0 := FB_ d0 hb; replace HB := BS_ HB hb; (try clear hb); (try clear hk); (try clear g0); obtain ⟨D0, y0, G1⟩ := Kd.V_slice h0.out; subst G1; obtain ⟨p2, q2, s2, t2⟩ := e2_ c0) | ((with_reducible refine gate_callee (f := 44) rfl ?_); refine gL_ (some 41) Try.func44 #[.agg #[.slice D0 k0.length y0, .int .i64 l0], .int .u64 0, .int .i64 1] ?_; (with_reducible refine (Gp_.calls kj3 _ _ k0 l0 0 1 L0 M0 _ ?side1 ?side2 q1.out).mono ?_); (case side1 => refine (Kd.V_reads' (e := 5) (base := w.heap.size) (ok := fun k_ => ((P0_0_ k_ ∨ w.heap.size ≤ k_) ∧ (k_ ≠ a0 ∧ k_ ≠ e0))) (n := k0.length) (c := y0) ?_).2.2; exact (by (with_reducible repeat (first | apply Kd.V_alloc | apply Kd.V_drewN | apply Kd.V_drew)); exact (Kd.V_mono (Kd.V_far (p := ⟨a0, 1, none⟩) (Kd.V_far (p := ⟨a0, 0, none⟩) (Kd.V_mono h0.out (fun k_ hk => (⟨hk, hk.2.1⟩ : _ ∧ k_ ≠ a0))) (fun _ hk => hk.2) (.slice D0 k0.length y0)) (fun _ hk => hk.2) (.int .i64 l0)) (fun _ h_ => h_.1)))); (case side2 => exact (Kd.V_reads' h0.out).2.1); rintro e c3 ⟨V2, rfl, g0, hb⟩; refine ⟨_, rfl, ?_⟩; replace b0 := a_ (Kd.V_elder' (by (with_reducible repeat (first | apply Kd.V_alloc | apply Kd.V_drewN | apply Kd.V_drew)); exact (Kd.V_mono (Kd.V_far (p := ⟨a0, 1, none⟩) (Kd.V_far (p := ⟨a0, 0, none⟩) (Kd.V_mono b0.out (fun k_ hk => (⟨hk, hk.2.1⟩ : _ ∧ k_ ≠ a0))) (fun _ hk => hk.2) (.slice D0 k0.length y0)) (fun _ hk => hk.2) (.int .i64 l0)) (fun _ h_ => h_.1))) (Kd.R_base g0) hb); replace h0 := a_ (Kd.V_elder' (by (with_reducible repeat (first | apply Kd.V_alloc | apply Kd.V_drewN | apply Kd.V_drew)); exact (Kd.V_mono (Kd.V_far (p := ⟨a0, 1, none⟩) (Kd.V_far (p := ⟨a0, 0, none⟩) (Kd.V_mono h0.out (fun k_ hk => (⟨hk, hk.2.1⟩ : _ ∧ k_ ≠ a0))) (fun _ hk => hk.2) (.slice D0 k0.length y0)) (fun _ hk => hk.2) (.int .i64 l0)) (fun _ h_ => h_.1))) (Kd.R_base g0) hb); have v0 := a_ (Kd.R_lower (Kd.R_newM (M := fun k_ => (w.heap.size ≤ k_)) g0 (bs_ HB) (fun k_ h_ => h_)) (bs_ HB)); replace c0 := a_ (blk_below (g := a0) (o := .cells #[.slice D0 k0.length y0, .int .i64 l0] 74 (0, 0)) (bp_ c0) hb); replace d0 := FB_ d0 hb; replace HB := BS_ HB hb; (try clear hb); (try clear hk); (try clear g0); obtain ⟨H1, I1, J1⟩ := Kd.R_slice v0.out; subst J1) | ((with_reducible refine gate_callee (f := 44) rfl ?_); refine goesL_ (some 47) rfl rfl Try.func44 kf_ rfl #[.agg #[.slice H1 L0.length I1, .int .i64 M0], .int .u64 (IntKind.u64.wrap (N0)), .int .i64 22] rfl (by (try simp only [List.map_toArray, List.map_cons, List.map_nil]); first | done | (simp only [q0]; rfl) | rfl | (simp only [List.length_drop, List.length_take]; rfl)) ?_; (with_reducible refine (Gp_.calls kj3 _ _ L0 M0 (IntKind.u64.wrap (N0)) 22 U0 V0 _ ?side1 ?side2 D2.out).mono ?_); (case side1 => exact kCt_ (Kd.R_reads' v0.out).2.2); (case side2 => exact (Kd.R_reads' v0.out).2.1); rintro e d3 ⟨W2, rfl, g0, hb⟩; refine ⟨_, rfl, ?_⟩; replace b0 := a_ (Kd.V_elder' (kV_ b0) (Kd.R_base g0) hb); replace h0 := a_ (Kd.V_elder' (kV_ h0) (Kd.R_base g0) hb); have e1 := a_ (Kd.R_lower (Kd.R_new' (Kd.R_newM (M := fun k_ => (w.heap.size ≤ k_)) g0 (bs_ HB) (fun k_ h_ => h_)) (Kd.R_lt (kR_ v0))) (bs_ HB)); replace v0 := a_ (Kd.R_elder' (kR_ v0) (Kd.R_base g0) hb); replace c0 := FB_ c0 hb; replace d0 := FB_ d0 hb; replace HB := BS_ HB hb; (try clear hb); (try clear hk); (try clear g0); obtain ⟨m1, n1, K1⟩ := Kd.R_slice e1.out; subst K1; obtain ⟨v2, w2, y2, z2⟩ := e2_ d0))
 refine bodyPost_ret (results_cell_row rfl _ _ e0 74 #[.slice m1 U0.length n1, .int .i64 V0] (0, 0) _ rfl (bp_ d0) Try.underlying74 rfl kf_) rfl ?_
 exact ⟨_, by first | rfl | (simp [errW_none, errW_some] <;> rfl) | (simp only [← q0]; first | rfl | (simp [errW_none, errW_some] <;> rfl)) | (simp [*, errW_none, errW_some] <;> rfl), Kd.V_mono (Kd.R_V (by (with_reducible repeat (first | apply Kd.R_alloc | apply Kd.R_drewN | apply Kd.R_drew)); exact Kd.R_mono (Kd.R_far (p := ⟨e0, 1, none⟩) (Kd.R_far (p := ⟨e0, 0, none⟩) (Kd.R_types e1.out d0.out (by decide)) (fun _ hk => hk.2) (.slice m1 U0.length n1)) (fun _ hk => hk.2) (.int .i64 V0)) (fun _ hk => hk.1.1.1))) (fun k_ hk => by first | exact ⟨(.inr (hk.1)), hk.2⟩ | exact (.inr (hk))), bl_ HB⟩}}))
mutual
def Fj_.l0 : Nat → List (List Int) → Int → Int → Int → Int → List Int → List Int → List (List Int) → List (List Int) → List Int → Int → Option (List Int × Int)
  | 0, _, _, _, _, _, _, _, _, _, _, _ => none
  | k + 1, i0, n0, h0, b0, c0, d0, e0, j0, a0, f0, g0 => if h0 < n0 then (if 0 ≤ h0 then (if h0 < (i0.length : Int) then (if ((rd_L1 i0 h0).length : Int) = 0 then ((Gp_.f k f0 g0 0 1).bind fun k0 => (Fj_.l0 k i0 n0 (wrap64 (h0 + 1)) b0 c0 d0 e0 j0 a0 k0.1 k0.2)) else ((Gp_.f k f0 g0 1 1).bind fun m0 => (Fj_.l1 k i0 n0 h0 (rd_L1 i0 h0) ((rd_L1 i0 h0).length : Int) 0 b0 c0 d0 e0 j0 a0 m0.1 m0.2))) else (none)) else (none)) else (Fj_.l2 k a0 (a0.length : Int) 0 b0 c0 d0 e0 f0 g0)
def Fj_.l1 : Nat → List (List Int) → Int → Int → List Int → Int → Int → Int → Int → List Int → List Int → List (List Int) → List (List Int) → List Int → Int → Option (List Int × Int)
  | 0, _, _, _, _, _, _, _, _, _, _, _, _, _, _ => none
  | k + 1, m0, n0, o0, k0, p0, i0, b0, c0, a0, d0, e0, f0, g0, h0 => if i0 < p0 then (if 0 ≤ i0 then (if i0 < (k0.length : Int) then ((Fk_.f k g0 h0 a0 (rd k0 i0)).bind fun j0 => (Fj_.l1 k m0 n0 o0 k0 p0 (wrap64 (i0 + 1)) b0 c0 a0 d0 e0 f0 j0.1 j0.2.1)) else (none)) else (none)) else (Fj_.l0 k m0 n0 (wrap64 (o0 + 1)) b0 c0 a0 d0 e0 f0 g0 h0)
def Fj_.l2 : Nat → List (List Int) → Int → Int → Int → Int → List Int → List Int → List Int → Int → Option (List Int × Int)
  | 0, _, _, _, _, _, _, _, _, _ => none
  | k + 1, c0, i0, a0, d0, e0, f0, g0, b0, h0 => if a0 < i0 then (if 0 ≤ a0 then (if a0 < (c0.length : Int) then (Fj_.l3 k c0 i0 a0 (rd_L2 c0 a0) ((rd_L2 c0 a0).length : Int) 0 d0 e0 f0 g0 b0 h0) else (none)) else (none)) else (some (b0, 0))
def Fj_.l3 : Nat → List (List Int) → Int → Int → List Int → Int → Int → Int → Int → List Int → List Int → List Int → Int → Option (List Int × Int)
  | 0, _, _, _, _, _, _, _, _, _, _, _, _ => none
  | k + 1, j0, k0, l0, i0, m0, g0, b0, c0, d0, a0, e0, f0 => if g0 < m0 then (if 0 ≤ g0 then (if g0 < (i0.length : Int) then ((FL_.f k e0 f0 a0 (rd i0 g0)).bind fun h0 => (Fj_.l3 k j0 k0 l0 i0 m0 (wrap64 (g0 + 1)) b0 c0 d0 a0 h0.1 h0.2)) else (none)) else (none)) else (Fj_.l2 k j0 k0 (wrap64 (l0 + 1)) b0 c0 d0 a0 e0 f0)
end
def Fj_.f (k : Nat) (b0 : Int) (c0 : Int) (d0 : List Int) (e0 : List Int) (a0 : List (List Int)) (f0 : List (List Int)) : Option (List Int × Int) := (Fd_.f k b0 c0 d0 e0 a0 f0).bind fun g0 => (if g0 = true then (Fj_.l0 k a0 (a0.length : Int) 0 b0 c0 d0 e0 a0 f0 ([] : List Int) 0) else (some (([] : List Int), 1)))
theorem Fj_.mono_l : ∀ k, (∀ y0 y1 y2 y3 y4 y5 y6 y7 y8 y9 a0, LeO (Fj_.l0 k y0 y1 y2 y3 y4 y5 y6 y7 y8 y9 a0) (Fj_.l0 (k + 1) y0 y1 y2 y3 y4 y5 y6 y7 y8 y9 a0)) ∧ (∀ y0 y1 y2 y3 y4 y5 y6 y7 y8 y9 a0 b0 c0 d0, LeO (Fj_.l1 k y0 y1 y2 y3 y4 y5 y6 y7 y8 y9 a0 b0 c0 d0) (Fj_.l1 (k + 1) y0 y1 y2 y3 y4 y5 y6 y7 y8 y9 a0 b0 c0 d0)) ∧ (∀ y0 y1 y2 y3 y4 y5 y6 y7 y8, LeO (Fj_.l2 k y0 y1 y2 y3 y4 y5 y6 y7 y8) (Fj_.l2 (k + 1) y0 y1 y2 y3 y4 y5 y6 y7 y8)) ∧ (∀ y0 y1 y2 y3 y4 y5 y6 y7 y8 y9 a0 b0, LeO (Fj_.l3 k y0 y1 y2 y3 y4 y5 y6 y7 y8 y9 a0 b0) (Fj_.l3 (k + 1) y0 y1 y2 y3 y4 y5 y6 y7 y8 y9 a0 b0))
  | 0 => ⟨fun _ _ _ _ _ _ _ _ _ _ _ r h => by simp [Fj_.l0] at h, fun _ _ _ _ _ _ _ _ _ _ _ _ _ _ r h => by simp [Fj_.l1] at h, fun _ _ _ _ _ _ _ _ _ r h => by simp [Fj_.l2] at h, fun _ _ _ _ _ _ _ _ _ _ _ _ r h => by simp [Fj_.l3] at h⟩
  | k + 1 => by
    obtain ⟨e0, f0, g0, h0⟩ := Fj_.mono_l k
    refine ⟨?_, ?_, ?_, ?_⟩
    all_goals (intros; first | unfold Fj_.l0 | unfold Fj_.l1 | unfold Fj_.l2 | unfold Fj_.l3)
    all_goals with_reducible repeat' first
     | apply e0
     | exact f0 _ _ _ _ _ _ _ _ _ _ _ _ _ _
     | exact g0 _ _ _ _ _ _ _ _ _
     | exact h0 _ _ _ _ _ _ _ _ _ _ _ _
     | apply Fk_.mono
     | apply Fd_.mono
     | apply Gp_.mono
     | apply FL_.mono
     | exact LeO.refl _
     | exact LeO.none _
     | refine LeO.ite ?_ ?_
     | refine LeO.bind ?_ (fun _ => ?_)
theorem Fj_.mono : ∀ a0 a1 a2 a3 a4 a5 k, LeO (Fj_.f k a0 a1 a2 a3 a4 a5) (Fj_.f (k + 1) a0 a1 a2 a3 a4 a5) := by
  intro a0 a1 a2 a3 a4 a5 k
  obtain ⟨b0, c0, d0, e0⟩ := Fj_.mono_l k
  unfold Fj_.f
  with_reducible repeat' first
   | apply b0
   | exact c0 _ _ _ _ _ _ _ _ _ _ _ _ _ _
   | exact d0 _ _ _ _ _ _ _ _ _
   | exact e0 _ _ _ _ _ _ _ _ _ _ _ _
   | apply Fk_.mono
   | apply Fd_.mono
   | apply Gp_.mono
   | apply FL_.mono
   | exact LeO.refl _
   | exact LeO.none _
   | refine LeO.ite ?_ ?_
   | refine LeO.bind ?_ (fun _ => ?_)
theorem Fj_.calls (k : Nat) (o0 : Int) (p0 : Int) (D0 : Option Addr) (E0 : Nat) (m0 : List Int) (F0 : Option Addr) (G0 : Nat) (n0 : List Int) (O0 : Option Addr) (J0 : Nat) (e0 : List (List Int)) (P0 : Option Addr) (K0 : Nat) (g0 : List (List Int)) (r1 : List Int) (r2 : Int) (w : World) (hr0_2 : Kd.C (Kd.int .i64) w D0 m0.length m0) (hc0_2 : m0.length ≤ E0) (hr0_3 : Kd.C (Kd.int .i64) w F0 n0.length n0) (hc0_3 : n0.length ≤ G0) (hr1_0 : Kd.C (Kd.slice 3 (Kd.int .i64)) w O0 e0.length e0) (hc1_0 : e0.length ≤ J0) (hr1_1 : Kd.C (Kd.slice 2 (Kd.int .i64)) w P0 g0.length g0) (hc1_1 : g0.length ≤ K0) (h : Fj_.f k o0 p0 m0 n0 e0 g0 = some (r1, r2)) :
    Calls Try.prog 19 #[.agg #[.int .i64 o0, .int .i64 p0, .slice D0 m0.length E0, .slice F0 n0.length G0], .agg #[.slice O0 e0.length J0, .slice P0 g0.length K0]] w fun e w' => ∃ v0_ : Value, e = .returned (.tuple #[v0_, .int .i64 r2]) ∧ Kd.V (Kd.int .u8) 5 w' w.heap.size (fun k_ => (w.heap.size ≤ k_)) v0_ r1 ∧ Below w.heap.size w w' := by
 have G5 := Try.underlying24
 have H5 := Try.underlying28
 have I5 := Try.underlying74
 have H1 := a_ hr0_2
 have I1 := a_ hc0_2
 clear hr0_2 hc0_2
 have J1 := a_ hr0_3
 have K1 := a_ hc0_3
 clear hr0_3 hc0_3
 have t1 := a_ hr1_0
 have e2 := a_ hc1_0
 clear hr1_0 hc1_0
 have L1 := a_ hr1_1
 have f2 := a_ hc1_1
 clear hr1_1 hc1_1
 have HB := a_ (Below.refl w.heap.size w)
 have H : ((Fd_.f k o0 p0 m0 n0 e0 g0).bind fun F2 => (if F2 = true then (Fj_.l0 k e0 (e0.length : Int) 0 o0 p0 m0 n0 e0 g0 ([] : List Int) 0) else (some (([] : List Int), 1)))) = some (r1, r2) := h
 clear h
 obtain ⟨F2, A3, H⟩ := ob_ H
 (try dsimp only at H)
 replace H := ib_ H
 rcases H with ⟨rfl, H⟩ | ⟨rfl, H⟩
 {
 have H' := a_ H
 clear H
 go_enter Try.func19, Try.ntmps19
 go_wp2_with (first | ((with_reducible refine gate_dst (N := 2) rfl ?_); refine bx_ HB 2 #[.int .i64 o0, .int .i64 p0, .slice D0 m0.length E0, .slice F0 n0.length G0] 24 ?_; clear HB; intro s0 hg w5 hb b0 M1 HB; have U2 := M1; clear hb hg) | ((with_reducible refine gate_dst (N := 3) rfl ?_); refine bx_ HB 3 #[.slice O0 e0.length J0, .slice P0 g0.length K0] 28 ?_; clear HB; intro t0 hg w6 hb c0 N1 HB; have V2 := N1; obtain ⟨B0, C0⟩ := NN_ b0 hg; replace b0 := FB_ b0 hb; clear hb hg; have J5 := B0.out; have K5 := C0.out; obtain ⟨a1, b1, c1, d1, e1, f1, h1, i1⟩ := e4_ b0; obtain ⟨j1, m1, n1, o1⟩ := e2_ c0) | ((with_reducible refine gate_callee (f := 21) rfl ?_); refine gL_ (some 17) Try.func21 #[.agg #[.int .i64 o0, .int .i64 p0, .slice D0 m0.length E0, .slice F0 n0.length G0], .agg #[.slice O0 e0.length J0, .slice P0 g0.length K0]] ?_; (with_reducible refine (Fd_.calls k o0 p0 _ _ m0 _ _ n0 _ _ e0 _ _ g0 true _ ?side1 ?side2 ?side3 ?side4 ?side5 ?side6 ?side7 ?side8 A3.out).mono ?_); (case side1 => exact kC_ H1 HB); (case side2 => exact I1.out); (case side3 => exact kC_ J1 HB); (case side4 => exact K1.out); (case side5 => exact kC_ t1 HB); (case side6 => exact e2.out); (case side7 => exact kC_ L1 HB); (case side8 => exact f2.out); rintro e P5 ⟨rfl, hb⟩; refine ⟨_, rfl, ?_⟩; replace b0 := FB_ b0 hb; replace c0 := FB_ c0 hb; replace HB := BS_ HB hb; (try clear hb)) | ((with_reducible refine gate_dst (N := 6) rfl ?_); refine bx_ HB 6 #[.slice none 0 0, .int .i64 0] 74 ?_; clear HB; intro h0 hg Q5 hb d0 W2 HB; have R4 := W2; obtain ⟨H0, I0⟩ := NN_ b0 hg; replace b0 := FB_ b0 hb; obtain ⟨v0, w0⟩ := NN_ c0 hg; replace c0 := FB_ c0 hb; clear hb hg; have S4 := v0.out; have T4 := w0.out; obtain ⟨V0, W0, X0, Y0⟩ := e2_ c0))
 go_loopg [22] k (fun kq H4 w' => ∃ (k0 : Int) (q0 : List Int) (r0 : Int) (f0 : Value), H4 = .int .i64 k0 ∧ Aside0 (Fj_.l0 kq e0 (e0.length : Int) k0 o0 p0 m0 n0 e0 g0 q0 r0 = some (r1, r2)) ∧ Aside0 (kq ≤ k) ∧ Aside0 (Kd.V (Kd.int .u8) 5 w' w.heap.size (fun k_ => (w.heap.size ≤ k_) ∧ k_ ≠ s0 ∧ k_ ≠ t0 ∧ k_ ≠ h0) f0 q0) ∧ Aside0 (w'.heap[s0]? = some (.cells #[.int .i64 o0, .int .i64 p0, (.slice D0 m0.length E0), (.slice F0 n0.length G0)] 24 (0, 0))) ∧ Aside0 (w'.heap[t0]? = some (.cells #[(.slice O0 e0.length J0), (.slice P0 g0.length K0)] 28 (0, 0))) ∧ Aside0 (w'.heap[h0]? = some (.cells #[f0, .int .i64 r0] 74 (0, 0))) ∧ Aside0 (Below w.heap.size w w'))
 case atStart => exact ⟨(0), (([] : List Int)), (0), (.slice none 0 0), rs_, H', ⟨Nat.le_refl _⟩, ⟨Kd.V_nil _ _ _ _ _⟩, ⟨bk_ b0⟩, ⟨bk_ c0⟩, ⟨bk_ d0⟩, ⟨bl_ HB⟩⟩
 case round => (
 clear H'
 try clear c4
 try clear V0 W0 X0 Y0
 try clear a1 b1 c1 d1 e1 f1 h1 i1
 try clear j1 m1 n1 o1
 obtain ⟨k0, q0, r0, f0, rfl, HA, Z0, a0, b0, c0, d0, HB⟩ := hrel
 cases gk with
 | zero => exact absurd HA.out (by simp [Fj_.l0])
 | succ k1 => (
 have H := HA.out
 clear HA
 simp only [Fj_.l0] at H
 replace H := id_ H
 rcases H with ⟨v1, H⟩ | ⟨v1, H⟩
 {
 replace H := gd_ H
 obtain ⟨X2, H⟩ := H
 replace H := gd_ H
 obtain ⟨Y2, H⟩ := H
 replace H := ii_ H
 rcases H with ⟨s1, H⟩ | ⟨s1, H⟩
 {
 have g2 : (((rd_L1 e0 k0).length : Int) == 0) = true := beq_iff_eq.mpr s1
 have h2 : (((rd_L1 e0 k0).length : Int) != 0) = false := bne_eq_false_iff_eq.mpr s1
 clear s1
 obtain ⟨⟨O1, V1⟩, I4, H⟩ := ob_ H
 (try dsimp only at H)
 have H' := a_ H
 clear H
 have T0 : 0 ≤ (k0 : Int) := dm_
 have U0 : k0 < (e0.length : Int) := dm_
 obtain ⟨P1, G2, H2, W1, N0, Q0, R0⟩ := at_L1 t1.out k0 T0 U0
 cases W1
 replace N0 := hc_ HB N0
 have y1 := a_ R0
 have t2 := a_ Q0
 clear R0 Q0
 replace T0 := eq_true T0
 replace U0 := eq_true U0
 have U4 := I0.out
 have V4 := H0.out
 have W4 := w0.out
 have X4 := v0.out
 obtain ⟨z3, B3, C3, D3⟩ := e2_ d0
 obtain ⟨f3, g3, h3⟩ := Kd.V_slice a0.out
 subst h3
 go_wp2_with (first | ((with_reducible refine gate_callee (f := 44) rfl ?_); refine gL_ (some 30) Try.func44 #[.agg #[.slice f3 q0.length g3, .int .i64 r0], .int .u64 0, .int .i64 1] ?_; (with_reducible refine (Gp_.calls k1 _ _ q0 r0 0 1 O1 V1 _ ?side1 ?side2 I4.out).mono ?_); (case side1 => exact kCt_ (Kd.V_reads' a0.out).2.2); (case side2 => exact (Kd.V_reads' a0.out).2.1); rintro e R5 ⟨L5, rfl, S0, hb⟩; refine ⟨_, rfl, ?_⟩; replace a0 := a_ (Kd.V_elder' (kV_ a0) (Kd.R_base S0) hb); have i2 := a_ (Kd.R_lower (Kd.R_newM (M := fun k_ => (w.heap.size ≤ k_)) S0 (bs_ HB) (fun k_ h_ => h_)) (bs_ HB)); replace b0 := FB_ b0 hb; replace c0 := FB_ c0 hb; replace d0 := FB_ d0 hb; replace HB := BS_ HB hb; (try clear hb); (try clear S0); obtain ⟨I2, J2, i3⟩ := Kd.R_slice i2.out; subst i3; obtain ⟨E3, F3, G3, H3⟩ := e2_ d0))
 go_roundg k1
 case measure => have := Z0.out; omega
 case rel => exact ⟨(wrap64 (k0 + 1)), (O1), (V1), (.slice I2 O1.length J2), rs_, H', ⟨by have := Z0.out; omega⟩, ⟨Kd.R_V (by (with_reducible repeat (first | apply Kd.R_alloc | apply Kd.R_drewN | apply Kd.R_drew)); exact Kd.R_mono (Kd.R_far (p := ⟨h0, 1, none⟩) (Kd.R_far (p := ⟨h0, 0, none⟩) (Kd.R_types (Kd.R_types (Kd.R_types (Kd.R_types i2.out b0.out (by decide)) c0.out (by decide)) d0.out (by decide)) d0.out (by decide)) (fun _ hk => hk.2) (.slice I2 O1.length J2)) (fun _ hk => hk.2) (.int .i64 V1)) cj_)⟩, ⟨bk_ b0⟩, ⟨bk_ c0⟩, ⟨bp_ d0⟩, ⟨bl_ HB⟩⟩}
 {
 have g2 : (((rd_L1 e0 k0).length : Int) == 0) = false := beq_eq_false_iff_ne.mpr s1
 have h2 : (((rd_L1 e0 k0).length : Int) != 0) = true := bne_iff_ne.mpr s1
 have Z2 : ¬ ((rd_L1 e0 k0) = []) := fun h_ => s1 (by rw [h_]; rfl)
 obtain ⟨⟨Q1, X1⟩, J4, H⟩ := ob_ H
 (try dsimp only at H)
 have H' := a_ H
 clear H
 have T0 : 0 ≤ (k0 : Int) := dm_
 have U0 : k0 < (e0.length : Int) := dm_
 obtain ⟨P1, G2, H2, W1, N0, Q0, R0⟩ := at_L1 t1.out k0 T0 U0
 cases W1
 replace N0 := hc_ HB N0
 have y1 := a_ R0
 have t2 := a_ Q0
 clear R0 Q0
 replace T0 := eq_true T0
 replace U0 := eq_true U0
 have Y4 := I0.out
 have Z4 := H0.out
 have a5 := w0.out
 have b5 := v0.out
 obtain ⟨v2, w2, y2, z2⟩ := e2_ d0
 obtain ⟨j3, m3, n3⟩ := Kd.V_slice a0.out
 subst n3
 go_wp2_with (first | ((with_reducible refine gate_callee (f := 44) rfl ?_); refine gL_ (some 32) Try.func44 #[.agg #[.slice j3 q0.length m3, .int .i64 r0], .int .u64 1, .int .i64 1] ?_; (with_reducible refine (Gp_.calls k1 _ _ q0 r0 1 1 Q1 X1 _ ?side1 ?side2 J4.out).mono ?_); (case side1 => exact kCt_ (Kd.V_reads' a0.out).2.2); (case side2 => exact (Kd.V_reads' a0.out).2.1); rintro e S5 ⟨M5, rfl, S0, hb⟩; refine ⟨_, rfl, ?_⟩; replace a0 := a_ (Kd.V_elder' (kV_ a0) (Kd.R_base S0) hb); have j2 := a_ (Kd.R_lower (Kd.R_newM (M := fun k_ => (w.heap.size ≤ k_)) S0 (bs_ HB) (fun k_ h_ => h_)) (bs_ HB)); replace b0 := FB_ b0 hb; replace c0 := FB_ c0 hb; replace d0 := FB_ d0 hb; replace HB := BS_ HB hb; (try clear hb); (try clear S0); obtain ⟨K2, L2, o3⟩ := Kd.R_slice j2.out; subst o3; obtain ⟨A2, B2, C2, D2⟩ := e2_ d0))
 go_loopg [35] k1 (fun kq K4 w' => ∃ (L0 : Int) (i0 : List Int) (j0 : Int) (f0 : Value), K4 = .int .i64 L0 ∧ Aside0 (Fj_.l1 kq e0 (e0.length : Int) k0 (rd_L1 e0 k0) ((rd_L1 e0 k0).length : Int) L0 o0 p0 m0 n0 e0 g0 i0 j0 = some (r1, r2)) ∧ Aside0 (kq ≤ k1) ∧ Aside0 (Kd.V (Kd.int .u8) 5 w' w.heap.size (fun k_ => (w.heap.size ≤ k_) ∧ k_ ≠ s0 ∧ k_ ≠ t0 ∧ k_ ≠ h0) f0 i0) ∧ Aside0 (w'.heap[s0]? = some (.cells #[.int .i64 o0, .int .i64 p0, (.slice D0 m0.length E0), (.slice F0 n0.length G0)] 24 (0, 0))) ∧ Aside0 (w'.heap[t0]? = some (.cells #[(.slice (some P1) e0.length J0), (.slice P0 g0.length K0)] 28 (0, 0))) ∧ Aside0 (w'.heap[h0]? = some (.cells #[f0, .int .i64 j0] 74 (0, 0))) ∧ Aside0 (Below w.heap.size w w'))
 case atStart => exact ⟨(0), (Q1), (X1), (.slice K2 Q1.length L2), rs_, H', ⟨Nat.le_refl _⟩, ⟨Kd.R_V (by (with_reducible repeat (first | apply Kd.R_alloc | apply Kd.R_drewN | apply Kd.R_drew)); exact Kd.R_mono (Kd.R_far (p := ⟨h0, 1, none⟩) (Kd.R_far (p := ⟨h0, 0, none⟩) (Kd.R_types (Kd.R_types (Kd.R_types (Kd.R_types j2.out b0.out (by decide)) c0.out (by decide)) d0.out (by decide)) d0.out (by decide)) (fun _ hk => hk.2) (.slice K2 Q1.length L2)) (fun _ hk => hk.2) (.int .i64 X1)) cj_)⟩, ⟨bk_ b0⟩, ⟨bk_ c0⟩, ⟨bp_ d0⟩, ⟨bl_ HB⟩⟩
 case round => (
 clear H'
 try clear c4
 try clear e3
 try clear v1
 try clear T5
 try clear X2
 try clear U5
 try clear Y2
 try clear s1
 try clear g2
 try clear h2
 try clear Z2
 try clear V0 W0 X0 Y0
 try clear v2 w2 y2 z2
 try clear A2 B2 C2 D2
 try clear a1 b1 c1 d1 e1 f1 h1 i1
 try clear j1 m1 n1 o1
 try clear N0
 try clear T0
 try clear U0
 obtain ⟨L0, i0, j0, f0, rfl, HA, p1, a0, b0, c0, d0, HB⟩ := hrel
 cases gk with
 | zero => exact absurd HA.out (by simp [Fj_.l1])
 | succ k2 => (
 have H := HA.out
 clear HA
 simp only [Fj_.l1] at H
 replace H := id_ H
 rcases H with ⟨a3, H⟩ | ⟨a3, H⟩
 {
 replace H := gd_ H
 obtain ⟨c5, H⟩ := H
 replace H := gd_ H
 obtain ⟨d5, H⟩ := H
 obtain ⟨⟨R1, Y1, p3⟩, L4, H⟩ := ob_ H
 (try dsimp only at H)
 have H' := a_ H
 clear H
 have Z1 : 0 ≤ (L0 : Int) := dm_
 have a2 : L0 < ((rd_L1 e0 k0).length : Int) := dm_
 obtain ⟨e5, q3, z1⟩ := Kd.at_int y1.out L0 Z1 a2
 cases q3
 replace z1 := hc_ HB z1
 replace Z1 := eq_true Z1
 replace a2 := eq_true a2
 have f5 := I0.out
 have g5 := H0.out
 have h5 := w0.out
 have i5 := v0.out
 obtain ⟨I3, J3, K3, L3⟩ := e2_ d0
 have j5 := B0.out
 have k5 := C0.out
 obtain ⟨M3, N3, O3, P3, Q3, R3, S3, T3⟩ := e4_ b0
 obtain ⟨M2, N2, r3⟩ := Kd.V_slice a0.out
 subst r3
 go_wp2_with (first | ((with_reducible refine gate_callee (f := 45) rfl ?_); refine gL_ (some 44) Try.func45 #[.agg #[.slice M2 i0.length N2, .int .i64 j0], .slice D0 m0.length E0, .int .i64 (rd (rd_L1 e0 k0) L0)] ?_; (with_reducible refine (Fk_.calls k2 (fun k_ => ((w.heap.size ≤ k_) ∧ (k_ ≠ s0 ∧ (k_ ≠ t0 ∧ k_ ≠ h0)))) _ _ i0 j0 _ _ m0 (rd (rd_L1 e0 k0) L0) R1 Y1 p3 _ ?side1 ?side2 ?side3 L4.out).mono ?_); (case side1 => exact a0.out); (case side2 => exact kC_ H1 HB); (case side3 => exact I1.out); rintro e V5 ⟨N5, rfl, S0, hb⟩; refine ⟨_, rfl, ?_⟩; replace a0 := FV_ a0 hb; have m2 := a_ (Kd.V_lower (Kd.V_mono (ok' := fun k_ => (w.heap.size ≤ k_) ∧ k_ ≠ s0 ∧ k_ ≠ t0 ∧ k_ ≠ h0) S0 (fun k_ hk_ => ⟨Or.elim hk_ (fun hs_ => hs_.1) (fun hn_ => (Nat.le_trans (bs_ HB) hn_)), Or.elim hk_ (fun hs_ => hs_.2.1) (fun hn_ => (Kd.freshB (g := s0) (o := .cells #[.int .i64 o0, .int .i64 p0, .slice D0 m0.length E0, .slice F0 n0.length G0] 24 (0, 0)) (bk_ b0) k_ hn_)), Or.elim hk_ (fun hs_ => hs_.2.2.1) (fun hn_ => (Kd.freshB (g := t0) (o := .cells #[.slice (some P1) e0.length J0, .slice P0 g0.length K0] 28 (0, 0)) (bk_ c0) k_ hn_)), Or.elim hk_ (fun hs_ => hs_.2.2.2) (fun hn_ => (Kd.freshB (g := h0) (o := .cells #[.slice M2 i0.length N2, .int .i64 j0] 74 (0, 0)) (bk_ d0) k_ hn_))⟩)) (bs_ HB)); replace b0 := FB_ b0 hb; replace c0 := FB_ c0 hb; replace d0 := FB_ d0 hb; replace HB := BS_ HB hb; (try clear hb); (try clear S0); obtain ⟨O2, P2, s3⟩ := Kd.V_slice m2.out; subst s3; obtain ⟨U3, V3, W3, X3⟩ := e2_ d0))
 go_roundg k2
 case measure => have := Z0.out; have := p1.out; omega
 case rel => exact ⟨(wrap64 (L0 + 1)), (R1), (Y1), (.slice O2 R1.length P2), rs_, H', ⟨by have := Z0.out; have := p1.out; omega⟩, ⟨by (with_reducible repeat (first | apply Kd.V_alloc | apply Kd.V_drewN | apply Kd.V_drew)); exact Kd.V_mono (Kd.V_far (p := ⟨h0, 1, none⟩) (Kd.V_far (p := ⟨h0, 0, none⟩) (Kd.V_mono m2.out (fun k_ hk => (⟨hk, hk.2.2.2⟩ : _ ∧ k_ ≠ h0))) (fun _ hk => hk.2) (.slice O2 R1.length P2)) (fun _ hk => hk.2) (.int .i64 Y1)) cj_⟩, ⟨bk_ b0⟩, ⟨bk_ c0⟩, ⟨bp_ d0⟩, ⟨bl_ HB⟩⟩}
 {
 have H' := a_ H
 clear H
 go_wp2
 go_roundg k2
 case measure => have := Z0.out; have := p1.out; omega
 case rel => exact ⟨(wrap64 (k0 + 1)), (i0), (j0), (f0), rs_, H', ⟨by have := Z0.out; have := p1.out; omega⟩, ⟨kV_ a0⟩, ⟨bk_ b0⟩, ⟨bk_ c0⟩, ⟨bk_ d0⟩, ⟨bl_ HB⟩⟩}))}}
 {
 have H' := a_ H
 clear H
 have l5 := C0.out
 have m5 := B0.out
 have n5 := v0.out
 have o5 := w0.out
 obtain ⟨A1, B1, C1, D1⟩ := e2_ c0
 go_wp2
 go_loopg [52] k1 (fun kq M4 w' => ∃ (A0 : Int) (i0 : List Int) (j0 : Int) (f0 : Value), M4 = .int .i64 A0 ∧ Aside0 (Fj_.l2 kq g0 (g0.length : Int) A0 o0 p0 m0 n0 i0 j0 = some (r1, r2)) ∧ Aside0 (kq ≤ k1) ∧ Aside0 (Kd.V (Kd.int .u8) 5 w' w.heap.size (fun k_ => (w.heap.size ≤ k_) ∧ k_ ≠ s0 ∧ k_ ≠ t0 ∧ k_ ≠ h0) f0 i0) ∧ Aside0 (w'.heap[s0]? = some (.cells #[.int .i64 o0, .int .i64 p0, (.slice D0 m0.length E0), (.slice F0 n0.length G0)] 24 (0, 0))) ∧ Aside0 (w'.heap[t0]? = some (.cells #[(.slice O0 e0.length J0), (.slice P0 g0.length K0)] 28 (0, 0))) ∧ Aside0 (w'.heap[h0]? = some (.cells #[f0, .int .i64 j0] 74 (0, 0))) ∧ Aside0 (Below w.heap.size w w'))
 case atStart => exact ⟨(0), (q0), (r0), (f0), rs_, H', ⟨Nat.le_refl _⟩, ⟨kV_ a0⟩, ⟨bk_ b0⟩, ⟨bk_ c0⟩, ⟨bk_ d0⟩, ⟨bl_ HB⟩⟩
 case round => (
 clear H'
 try clear c4
 try clear e3
 try clear v1
 try clear V0 W0 X0 Y0
 try clear A1 B1 C1 D1
 try clear a1 b1 c1 d1 e1 f1 h1 i1
 try clear j1 m1 n1 o1
 obtain ⟨A0, i0, j0, f0, rfl, HA, p1, a0, b0, c0, d0, HB⟩ := hrel
 cases gk with
 | zero => exact absurd HA.out (by simp [Fj_.l2])
 | succ k2 => (
 have H := HA.out
 clear HA
 simp only [Fj_.l2] at H
 replace H := id_ H
 rcases H with ⟨n2, H⟩ | ⟨n2, H⟩
 {
 replace H := gd_ H
 obtain ⟨b3, H⟩ := H
 replace H := gd_ H
 obtain ⟨c3, H⟩ := H
 have H' := a_ H
 clear H
 have S1 : 0 ≤ (A0 : Int) := dm_
 have T1 : A0 < (g0.length : Int) := dm_
 obtain ⟨p2, N4, O4, t3, q1, E1, F1⟩ := at_L2 L1.out A0 S1 T1
 cases t3
 replace q1 := hc_ HB q1
 have E2 := a_ F1
 have Y3 := a_ E1
 clear F1 E1
 replace S1 := eq_true S1
 replace T1 := eq_true T1
 go_wp2
 go_loopg [58] k2 (fun kq P4 w' => ∃ (M0 : Int) (y0 : List Int) (z0 : Int) (f0 : Value), P4 = .int .i64 M0 ∧ Aside0 (Fj_.l3 kq g0 (g0.length : Int) A0 (rd_L2 g0 A0) ((rd_L2 g0 A0).length : Int) M0 o0 p0 m0 n0 y0 z0 = some (r1, r2)) ∧ Aside0 (kq ≤ k2) ∧ Aside0 (Kd.V (Kd.int .u8) 5 w' w.heap.size (fun k_ => (w.heap.size ≤ k_) ∧ k_ ≠ s0 ∧ k_ ≠ t0 ∧ k_ ≠ h0) f0 y0) ∧ Aside0 (w'.heap[s0]? = some (.cells #[.int .i64 o0, .int .i64 p0, (.slice D0 m0.length E0), (.slice F0 n0.length G0)] 24 (0, 0))) ∧ Aside0 (w'.heap[t0]? = some (.cells #[(.slice O0 e0.length J0), (.slice (some p2) g0.length K0)] 28 (0, 0))) ∧ Aside0 (w'.heap[h0]? = some (.cells #[f0, .int .i64 z0] 74 (0, 0))) ∧ Aside0 (Below w.heap.size w w'))
 case atStart => exact ⟨(0), (i0), (j0), (f0), rs_, H', ⟨Nat.le_refl _⟩, ⟨kV_ a0⟩, ⟨bk_ b0⟩, ⟨bk_ c0⟩, ⟨bk_ d0⟩, ⟨bl_ HB⟩⟩
 case round => (
 clear H'
 try clear c4
 try clear e3
 try clear v1
 try clear W5
 try clear n2
 try clear X5
 try clear b3
 try clear Y5
 try clear c3
 try clear V0 W0 X0 Y0
 try clear A1 B1 C1 D1
 try clear a1 b1 c1 d1 e1 f1 h1 i1
 try clear j1 m1 n1 o1
 try clear q1
 try clear S1
 try clear T1
 obtain ⟨M0, y0, z0, f0, rfl, HA, q2, a0, b0, c0, d0, HB⟩ := hrel
 cases gk with
 | zero => exact absurd HA.out (by simp [Fj_.l3])
 | succ k3 => (
 have H := HA.out
 clear HA
 simp only [Fj_.l3] at H
 replace H := id_ H
 rcases H with ⟨d3, H⟩ | ⟨d3, H⟩
 {
 replace H := gd_ H
 obtain ⟨p5, H⟩ := H
 replace H := gd_ H
 obtain ⟨q5, H⟩ := H
 obtain ⟨⟨U1, b2⟩, Q4, H⟩ := ob_ H
 (try dsimp only at H)
 have H' := a_ H
 clear H
 have c2 : 0 ≤ (M0 : Int) := dm_
 have d2 : M0 < ((rd_L2 g0 A0).length : Int) := dm_
 obtain ⟨r5, v3, G1⟩ := Kd.at_int E2.out M0 c2 d2
 cases v3
 replace G1 := hc_ HB G1
 replace c2 := eq_true c2
 replace d2 := eq_true d2
 have s5 := I0.out
 have t5 := H0.out
 have v5 := w0.out
 have x5 := v0.out
 obtain ⟨Z3, a4, b4, d4⟩ := e2_ d0
 have y5 := B0.out
 have z5 := C0.out
 obtain ⟨e4, f4, g4, h4, i4, j4, k4, l4⟩ := e4_ b0
 obtain ⟨Q2, R2, w3⟩ := Kd.V_slice a0.out
 subst w3
 go_wp2_with (first | ((with_reducible refine gate_callee (f := 46) rfl ?_); refine gL_ (some 66) Try.func46 #[.agg #[.slice Q2 y0.length R2, .int .i64 z0], .slice F0 n0.length G0, .int .i64 (rd (rd_L2 g0 A0) M0)] ?_; (with_reducible refine (FL_.calls k3 (fun k_ => ((w.heap.size ≤ k_) ∧ (k_ ≠ s0 ∧ (k_ ≠ t0 ∧ k_ ≠ h0)))) _ _ y0 z0 _ _ n0 (rd (rd_L2 g0 A0) M0) U1 b2 _ ?side1 ?side2 ?side3 Q4.out).mono ?_); (case side1 => exact a0.out); (case side2 => exact kC_ J1 HB); (case side3 => exact K1.out); rintro e Z5 ⟨O5, rfl, S0, hb⟩; refine ⟨_, rfl, ?_⟩; replace a0 := FV_ a0 hb; have s2 := a_ (Kd.V_lower (Kd.V_mono (ok' := fun k_ => (w.heap.size ≤ k_) ∧ k_ ≠ s0 ∧ k_ ≠ t0 ∧ k_ ≠ h0) S0 (fun k_ hk_ => ⟨Or.elim hk_ (fun hs_ => hs_.1) (fun hn_ => (Nat.le_trans (bs_ HB) hn_)), Or.elim hk_ (fun hs_ => hs_.2.1) (fun hn_ => (Kd.freshB (g := s0) (o := .cells #[.int .i64 o0, .int .i64 p0, .slice D0 m0.length E0, .slice F0 n0.length G0] 24 (0, 0)) (bk_ b0) k_ hn_)), Or.elim hk_ (fun hs_ => hs_.2.2.1) (fun hn_ => (Kd.freshB (g := t0) (o := .cells #[.slice O0 e0.length J0, .slice (some p2) g0.length K0] 28 (0, 0)) (bk_ c0) k_ hn_)), Or.elim hk_ (fun hs_ => hs_.2.2.2) (fun hn_ => (Kd.freshB (g := h0) (o := .cells #[.slice Q2 y0.length R2, .int .i64 z0] 74 (0, 0)) (bk_ d0) k_ hn_))⟩)) (bs_ HB)); replace b0 := FB_ b0 hb; replace c0 := FB_ c0 hb; replace d0 := FB_ d0 hb; replace HB := BS_ HB hb; (try clear hb); (try clear S0); obtain ⟨S2, T2, y3⟩ := Kd.V_slice s2.out; subst y3; obtain ⟨m4, n4, o4, p4⟩ := e2_ d0))
 go_roundg k3
 case measure => have := Z0.out; have := p1.out; have := q2.out; omega
 case rel => exact ⟨(wrap64 (M0 + 1)), (U1), (b2), (.slice S2 U1.length T2), rs_, H', ⟨by have := Z0.out; have := p1.out; have := q2.out; omega⟩, ⟨by (with_reducible repeat (first | apply Kd.V_alloc | apply Kd.V_drewN | apply Kd.V_drew)); exact Kd.V_mono (Kd.V_far (p := ⟨h0, 1, none⟩) (Kd.V_far (p := ⟨h0, 0, none⟩) (Kd.V_mono s2.out (fun k_ hk => (⟨hk, hk.2.2.2⟩ : _ ∧ k_ ≠ h0))) (fun _ hk => hk.2) (.slice S2 U1.length T2)) (fun _ hk => hk.2) (.int .i64 b2)) cj_⟩, ⟨bk_ b0⟩, ⟨bk_ c0⟩, ⟨bp_ d0⟩, ⟨bl_ HB⟩⟩}
 {
 have H' := a_ H
 clear H
 go_wp2
 go_roundg k3
 case measure => have := Z0.out; have := p1.out; have := q2.out; omega
 case rel => exact ⟨(wrap64 (A0 + 1)), (y0), (z0), (f0), rs_, H', ⟨by have := Z0.out; have := p1.out; have := q2.out; omega⟩, ⟨kV_ a0⟩, ⟨bk_ b0⟩, ⟨bk_ c0⟩, ⟨bk_ d0⟩, ⟨bl_ HB⟩⟩}))}
 {
 simp only [Option.some.injEq, Prod.mk.injEq] at H
 obtain ⟨rfl, rfl⟩ := H
 have A5 := I0.out
 have B5 := H0.out
 have C5 := w0.out
 have D5 := v0.out
 obtain ⟨q4, r4, s4, t4⟩ := e2_ d0
 go_wp2
 go_ret2
 exact ⟨_, er_, by (with_reducible repeat (first | apply Kd.V_alloc | apply Kd.V_drewN | apply Kd.V_drew)); exact Kd.V_mono a0.out (fun _ hk => hk.1), bl_ HB⟩}))}))}
 {
 simp only [Option.some.injEq, Prod.mk.injEq] at H
 obtain ⟨rfl, rfl⟩ := H
 go_enter Try.func19, Try.ntmps19
 go_wp2_with (first | ((with_reducible refine gate_dst (N := 2) rfl ?_); refine bx_ HB 2 #[.int .i64 o0, .int .i64 p0, .slice D0 m0.length E0, .slice F0 n0.length G0] 24 ?_; clear HB; intro s0 hg a6 hb b0 M1 HB; have U2 := M1; clear hb hg) | ((with_reducible refine gate_dst (N := 3) rfl ?_); refine bx_ HB 3 #[.slice O0 e0.length J0, .slice P0 g0.length K0] 28 ?_; clear HB; intro t0 hg b6 hb c0 N1 HB; have V2 := N1; obtain ⟨B0, C0⟩ := NN_ b0 hg; replace b0 := FB_ b0 hb; clear hb hg; have E5 := B0.out; have F5 := C0.out; obtain ⟨v4, w4, x4, y4, z4, A4, B4, C4⟩ := e4_ b0; obtain ⟨D4, E4, F4, G4⟩ := e2_ c0) | ((with_reducible refine gate_callee (f := 21) rfl ?_); refine gL_ (some 17) Try.func21 #[.agg #[.int .i64 o0, .int .i64 p0, .slice D0 m0.length E0, .slice F0 n0.length G0], .agg #[.slice O0 e0.length J0, .slice P0 g0.length K0]] ?_; (with_reducible refine (Fd_.calls k o0 p0 _ _ m0 _ _ n0 _ _ e0 _ _ g0 false _ ?side1 ?side2 ?side3 ?side4 ?side5 ?side6 ?side7 ?side8 A3.out).mono ?_); (case side1 => exact kC_ H1 HB); (case side2 => exact I1.out); (case side3 => exact kC_ J1 HB); (case side4 => exact K1.out); (case side5 => exact kC_ t1 HB); (case side6 => exact e2.out); (case side7 => exact kC_ L1 HB); (case side8 => exact f2.out); rintro e c6 ⟨rfl, hb⟩; refine ⟨_, rfl, ?_⟩; replace b0 := FB_ b0 hb; replace c0 := FB_ c0 hb; replace HB := BS_ HB hb; (try clear hb)))
 go_ret2
 exact ⟨_, er_, Kd.V_nil _ _ _ _ _, bl_ HB⟩}
def GL_.f (b0 : List Int) (a0 : Int) : Option (Int) := if a0 < 0 then (some 0) else (if a0 > (wrap64 (8 * (b0.length : Int))) then (some 0) else (some (wrap64 ((wrap64 (8 * (b0.length : Int))) - a0))))
theorem GL_.calls (e0 : Option Addr) (f0 : Nat) (a0 : List Int) (b0 : Int) (r : Int) (w : World) (hr0_0 : Kd.C (Kd.int .u8) w e0 a0.length a0) (hc0_0 : a0.length ≤ f0) (h : GL_.f a0 b0 = some r) :
    Calls Try.prog 50 #[.agg #[.slice e0 a0.length f0, .int .i64 b0]] w fun e w' => e = .returned (.int .i64 r) ∧ Below w.heap.size w w' := by
 have A0 := Try.underlying81
 have y0 := a_ hr0_0
 have z0 := a_ hc0_0
 clear hr0_0 hc0_0
 have HB := a_ (Below.refl w.heap.size w)
 have H : (if b0 < 0 then (some 0) else (if b0 > (wrap64 (8 * (a0.length : Int))) then (some 0) else (some (wrap64 ((wrap64 (8 * (a0.length : Int))) - b0))))) = some r := h
 clear h
 replace H := id_ H
 rcases H with ⟨i0, H⟩ | ⟨i0, H⟩
 {
 obtain rfl := Option.some.inj H
 go_enter Try.func50, Try.ntmps50
 go_wp2_with (first | ((with_reducible refine gate_dst (N := 1) rfl ?_); (try (refine gate_guard (by rfl) ?_; dsimp only)); refine bx_ HB 1 #[.slice e0 a0.length f0, .int .i64 b0] 81 ?_; clear HB; intro g0 hg w3 hb c0 d0 HB; have h0 := d0; clear hb hg; obtain ⟨k0, l0, m0, n0⟩ := e2_ c0))
 go_ret
 exact ⟨er_, bl_ HB⟩}
 {
 replace H := ii_ H
 rcases H with ⟨c5, H⟩ | ⟨c5, H⟩
 {
 have j0 : decide ((wrap64 (8 * (a0.length : Int))) < b0) = true := decide_eq_true c5
 clear c5
 obtain rfl := Option.some.inj H
 go_enter Try.func50, Try.ntmps50
 go_wp2_with (first | ((with_reducible refine gate_dst (N := 1) rfl ?_); (try (refine gate_guard (by rfl) ?_; dsimp only)); refine bx_ HB 1 #[.slice e0 a0.length f0, .int .i64 b0] 81 ?_; clear HB; intro g0 hg w6 hb c0 d0 HB; have h0 := d0; clear hb hg; obtain ⟨o0, p0, q0, r0⟩ := e2_ c0))
 go_ret
 exact ⟨er_, bl_ HB⟩}
 {
 have j0 : decide ((wrap64 (8 * (a0.length : Int))) < b0) = false := decide_eq_false c5
 clear c5
 obtain rfl := Option.some.inj H
 go_enter Try.func50, Try.ntmps50
 go_wp2_with (first | ((with_reducible refine gate_dst (N := 1) rfl ?_); (try (refine gate_guard (by rfl) ?_; dsimp only)); refine bx_ HB 1 #[.slice e0 a0.length f0, .int .i64 b0] 81 ?_; clear HB; intro g0 hg w8 hb c0 d0 HB; have h0 := d0; clear hb hg; obtain ⟨s0, t0, v0, w0⟩ := e2_ c0))
 go_ret
 exact ⟨er_, bl_ HB⟩}}
mutual
def Fp_.j0 : Nat → Int → Bool → List Int → Int → Option (Int × Int × Int)
  | 0, _, _, _, _ => none
  | k + 1, x1, d0, b0, a0 => if d0 = true then (some (a0, 0, 1)) else (if a0 > (wrap64 (8 * (b0.length : Int))) then (Fp_.j1 k x1 true b0 a0) else ((GL_.f b0 a0).bind fun c0 => (Fp_.j1 k x1 (decide (c0 < x1)) b0 a0)))
def Fp_.j1 : Nat → Int → Bool → List Int → Int → Option (Int × Int × Int)
  | 0, _, _, _, _ => none
  | k + 1, x1, c0, b0, a0 => if c0 = true then (some (a0, 0, 4)) else (Fp_.l0 k x1 0 x1 0 b0 a0)
def Fp_.l0 : Nat → Int → Int → Int → Int → List Int → Int → Option (Int × Int × Int)
  | 0, _, _, _, _, _, _ => none
  | k + 1, x1, x7, d0, b0, c0, a0 => if b0 < d0 then (if 0 ≤ (wrap64 (Int.tdiv (wrap64 (a0 + b0)) 8)) then (if (wrap64 (Int.tdiv (wrap64 (a0 + b0)) 8)) < (c0.length : Int) then (if 0 ≤ (Int.tmod (wrap64 (a0 + b0)) 8) then (if 0 ≤ b0 then (Fp_.l0 k x1 (Go.bits .or .u64 x7 (shl .u64 (IntKind.u64.wrap (Go.bits .and .u8 (shr .u8 (rd c0 (wrap64 (Int.tdiv (wrap64 (a0 + b0)) 8))) (Int.tmod (wrap64 (a0 + b0)) 8)) 1)) b0)) d0 (wrap64 (b0 + 1)) c0 a0) else (none)) else (none)) else (none)) else (none)) else (some (wrap64 (a0 + x1), x7, 0))
end
def Fp_.f (k : Nat) (b0 : List Int) (a0 : Int) (a1 : Int) : Option (Int × Int × Int) := if a1 < 0 then (Fp_.j0 k a1 true b0 a0) else (if a1 > 32 then (Fp_.j0 k a1 true b0 a0) else (Fp_.j0 k a1 (decide (a0 < 0)) b0 a0))
theorem Fp_.mono_l : ∀ k, (∀ y0 y1 y2 y3, LeO (Fp_.j0 k y0 y1 y2 y3) (Fp_.j0 (k + 1) y0 y1 y2 y3)) ∧ (∀ y0 y1 y2 y3, LeO (Fp_.j1 k y0 y1 y2 y3) (Fp_.j1 (k + 1) y0 y1 y2 y3)) ∧ (∀ y0 y1 y2 y3 y4 y5, LeO (Fp_.l0 k y0 y1 y2 y3 y4 y5) (Fp_.l0 (k + 1) y0 y1 y2 y3 y4 y5))
  | 0 => ⟨fun _ _ _ _ r h => by simp [Fp_.j0] at h, fun _ _ _ _ r h => by simp [Fp_.j1] at h, fun _ _ _ _ _ _ r h => by simp [Fp_.l0] at h⟩
  | k + 1 => by
    obtain ⟨a0, b0, c0⟩ := Fp_.mono_l k
    refine ⟨?_, ?_, ?_⟩
    all_goals (intros; first | unfold Fp_.j0 | unfold Fp_.j1 | unfold Fp_.l0)
    all_goals with_reducible repeat' first
     | apply a0
     | exact b0 _ _ _ _
     | exact c0 _ _ _ _ _ _
     | exact LeO.refl _
     | exact LeO.none _
     | refine LeO.ite ?_ ?_
     | refine LeO.bind ?_ (fun _ => ?_)
theorem Fp_.mono : ∀ a0 a1 a2 k, LeO (Fp_.f k a0 a1 a2) (Fp_.f (k + 1) a0 a1 a2) := by
  intro a0 a1 a2 k
  obtain ⟨b0, c0, d0⟩ := Fp_.mono_l k
  unfold Fp_.f
  with_reducible repeat' first
   | apply b0
   | exact c0 _ _ _ _
   | exact d0 _ _ _ _ _ _
   | exact LeO.refl _
   | exact LeO.none _
   | refine LeO.ite ?_ ?_
   | refine LeO.bind ?_ (fun _ => ?_)
theorem Fp_.calls (k : Nat) (i0 : Option Addr) (k0 : Nat) (a0 : List Int) (c0 : Int) (a1 : Int) (r1 : Int) (r2 : Int) (r3 : Int) (w : World) (hr0_0 : Kd.C (Kd.int .u8) w i0 a0.length a0) (hc0_0 : a0.length ≤ k0) (h : Fp_.f k a0 c0 a1 = some (r1, r2, r3)) :
    Calls Try.prog 47 #[.agg #[.slice i0 a0.length k0, .int .i64 c0], .int .i64 a1] w fun e w' => e = .returned (.tuple #[.agg #[.slice i0 a0.length k0, .int .i64 r1], .int .u64 r2, .int .i64 r3]) ∧ Below w.heap.size w w' := by
 have q2 := Try.underlying81
 have J0 := a_ hr0_0
 have O0 := a_ hc0_0
 clear hr0_0 hc0_0
 have HB := a_ (Below.refl w.heap.size w)
 have H : (if a1 < 0 then (Fp_.j0 k a1 true a0 c0) else (if a1 > 32 then (Fp_.j0 k a1 true a0 c0) else (Fp_.j0 k a1 (decide (c0 < 0)) a0 c0))) = some (r1, r2, r3) := h
 clear h
 have K0 := a_ H
 clear H
 go_enter Try.func47, Try.ntmps47
 go_upto_region 1 with (first | ((with_reducible refine gate_dst (N := 2) rfl ?_); refine bx_ HB 2 #[.slice i0 a0.length k0, .int .i64 c0] 81 ?_; clear HB; intro B0 hg w4 hb d0 P0 HB; have U1 := P0; clear hb hg) | ((with_reducible refine gate_dst (N := 4) rfl ?_); refine bx_ HB 4 #[.slice none 0 0, .int .i64 0] 81 ?_; clear HB; intro o0 hg w5 hb e0 Q0 HB; have V1 := Q0; obtain ⟨f0, g0⟩ := NN_ d0 hg; replace d0 := FB_ d0 hb; clear hb hg))
 (try simp only [Act.put, List.setIfInBounds_toArray, List.set_cons_zero, List.set_cons_succ])
 go_cut [20] (fun M1 wc => ∃ (kq : Nat) (v0 : Bool), M1 = .bool v0 ∧ Aside0 (Fp_.j0 kq a1 v0 a0 c0 = some (r1, r2, r3)) ∧ Aside0 (kq ≤ k) ∧ Aside0 (wc.heap[B0]? = some (.cells #[(.slice i0 a0.length k0), .int .i64 c0] 81 (0, 0))) ∧ Aside0 (wc.heap[o0]? = some (.cells #[(.slice none 0 0), .int .i64 0] 81 (0, 0))) ∧ Aside0 (Below w.heap.size w wc))
 case first => (
 have H := K0.out
 clear K0
 replace H := id_ H
 rcases H with ⟨y0, H⟩ | ⟨y0, H⟩
 {
 (first | rw [y0] | (simp only [i64_w, i32_w]; rw [y0]) | skip)
 have H' := a_ H
 clear H
 go_wp2
 go_meet
 case rel => exact ⟨_, (true), rs_, H', ⟨ol_⟩, ⟨bk_ d0⟩, ⟨bk_ e0⟩, ⟨bl_ HB⟩⟩}
 {
 (first | rw [y0] | (simp only [i64_w, i32_w]; rw [y0]) | skip)
 replace H := ii_ H
 rcases H with ⟨c7, H⟩ | ⟨c7, H⟩
 {
 have T0 : decide (32 < a1) = true := decide_eq_true c7
 clear c7
 have H' := a_ H
 clear H
 go_wp2
 go_meet
 case rel => exact ⟨_, (true), rs_, H', ⟨ol_⟩, ⟨bk_ d0⟩, ⟨bk_ e0⟩, ⟨bl_ HB⟩⟩}
 {
 have T0 : decide (32 < a1) = false := decide_eq_false c7
 clear c7
 have H' := a_ H
 clear H
 have s2 := f0.out
 have t2 := g0.out
 obtain ⟨N1, O1, P1, Q1⟩ := e2_ d0
 go_wp2
 go_meet
 case rel => exact ⟨_, (decide (c0 < 0)), rs_, H', ⟨ol_⟩, ⟨bk_ d0⟩, ⟨bk_ e0⟩, ⟨bl_ HB⟩⟩}})
 case rest => (
 clear K0
 obtain ⟨kq, v0, rfl, HA, HJ2, d0, e0, HB⟩ := hcut
 cases kq with
 | zero => exact absurd HA.out (by simp [Fp_.j0])
 | succ kj2 => (
 have H := HA.out
 clear HA
 simp only [Fp_.j0] at H
 by_cases z0 : v0 = true
 {
 subst z0
 rw [if_pos rfl] at H
 simp only [Option.some.injEq, Prod.mk.injEq] at H
 obtain ⟨rfl, rfl, rfl⟩ := H
 have W1 := f0.out
 have X1 := g0.out
 obtain ⟨V0, W0, X0, Y0⟩ := e2_ d0
 obtain ⟨Z0, b1, c1, d1⟩ := e2_ e0
 go_wp2
 refine bodyPost_ret (results_ctt rfl _ _ o0 81 #[.slice i0 a0.length k0, .int .i64 c0] (0, 0) _ rfl (bp_ e0) Try.underlying81 rfl kf_) rfl ?_
 exact ⟨er_, bl_ HB⟩}
 {
 replace z0 := Bool.eq_false_iff.mpr z0
 subst z0
 rw [if_neg (show ¬ (false = true) by decide)] at H
 have G0 := a_ H
 clear H
 go_upto_region 3 with (fail)
 go_cut [34] (fun R1 wc => ∃ (kq : Nat) (p0 : Bool), R1 = .bool p0 ∧ Aside0 (Fp_.j1 kq a1 p0 a0 c0 = some (r1, r2, r3)) ∧ Aside0 (kq ≤ kj2) ∧ Aside0 (wc.heap[B0]? = some (.cells #[(.slice i0 a0.length k0), .int .i64 c0] 81 (0, 0))) ∧ Aside0 (wc.heap[o0]? = some (.cells #[(.slice none 0 0), .int .i64 0] 81 (0, 0))) ∧ Aside0 (Below w.heap.size w wc))
 case first => (
 have H := G0.out
 clear G0
 replace H := ii_ H
 rcases H with ⟨E0, H⟩ | ⟨E0, H⟩
 {
 have q0 : decide ((wrap64 (8 * (a0.length : Int))) < c0) = true := decide_eq_true E0
 clear E0
 (first | rw [q0] | (simp only [i64_w, i32_w]; rw [q0]) | skip)
 have H' := a_ H
 clear H
 have Y1 := f0.out
 have Z1 := g0.out
 obtain ⟨e1, f1, h1, i1⟩ := e2_ d0
 go_wp2
 go_meet
 case rel => exact ⟨_, (true), rs_, H', ⟨by have := HJ2.out; first | omega | exact Nat.le_refl _⟩, ⟨bk_ d0⟩, ⟨bk_ e0⟩, ⟨bl_ HB⟩⟩}
 {
 have q0 : decide ((wrap64 (8 * (a0.length : Int))) < c0) = false := decide_eq_false E0
 clear E0
 (first | rw [q0] | (simp only [i64_w, i32_w]; rw [q0]) | skip)
 obtain ⟨L0, S1, H⟩ := ob_ H
 (try dsimp only at H)
 have H' := a_ H
 clear H
 have a2 := f0.out
 have b2 := g0.out
 obtain ⟨k1, l1, m1, n1⟩ := e2_ d0
 go_wp2_with (first | (go_at_call 50; (with_reducible refine (GL_.calls _ _ a0 c0 L0 _ ?side1 ?side2 S1.out).mono ?_); (case side1 => exact kC_ J0 HB); (case side2 => exact O0.out); rintro e v2 ⟨rfl, hb⟩; replace d0 := FB_ d0 hb; replace e0 := FB_ e0 hb; replace HB := BS_ HB hb; (try clear hb)))
 go_meet
 case rel => exact ⟨_, (decide (L0 < a1)), rs_, H', ⟨by have := HJ2.out; first | omega | exact Nat.le_refl _⟩, ⟨bk_ d0⟩, ⟨bk_ e0⟩, ⟨bl_ HB⟩⟩})
 case rest => (
 clear G0
 try clear z0
 obtain ⟨kq, p0, rfl, HA, HJ13, d0, e0, HB⟩ := hcut
 cases kq with
 | zero => exact absurd HA.out (by simp [Fp_.j1])
 | succ kj13 => (
 have H := HA.out
 clear HA
 simp only [Fp_.j1] at H
 by_cases F0 : p0 = true
 {
 subst F0
 rw [if_pos rfl] at H
 simp only [Option.some.injEq, Prod.mk.injEq] at H
 obtain ⟨rfl, rfl, rfl⟩ := H
 have c2 := f0.out
 have d2 := g0.out
 obtain ⟨o1, p1, q1, s1⟩ := e2_ d0
 obtain ⟨t1, v1, y1, z1⟩ := e2_ e0
 go_wp2
 refine bodyPost_ret (results_ctt rfl _ _ o0 81 #[.slice i0 a0.length k0, .int .i64 c0] (0, 0) _ rfl (bp_ e0) Try.underlying81 rfl kf_) rfl ?_
 exact ⟨er_, bl_ HB⟩}
 {
 replace F0 := Bool.eq_false_iff.mpr F0
 subst F0
 rw [if_neg (show ¬ (false = true) by decide)] at H
 have H' := a_ H
 clear H
 go_wp2
 go_loopg [7, 37] kj13 (fun kq v7 T1 w' => ∃ (m0 : Int) (b0 : Int), v7 = .int .u64 m0 ∧ T1 = .int .i64 b0 ∧ Aside0 (Fp_.l0 kq a1 m0 a1 b0 a0 c0 = some (r1, r2, r3)) ∧ Aside0 (kq ≤ kj13) ∧ Aside0 (w'.heap[B0]? = some (.cells #[(.slice i0 a0.length k0), .int .i64 c0] 81 (0, 0))) ∧ Aside0 (w'.heap[o0]? = some (.cells #[(.slice none 0 0), .int .i64 0] 81 (0, 0))) ∧ Aside0 (Below w.heap.size w w'))
 case atStart => exact ⟨(0), (0), rs_, rs_, H', ⟨Nat.le_refl _⟩, ⟨bk_ d0⟩, ⟨bk_ e0⟩, ⟨bl_ HB⟩⟩
 case round => (
 clear H'
 try clear z0
 try clear F0
 obtain ⟨m0, b0, rfl, rfl, HA, S0, d0, e0, HB⟩ := hrel
 cases gk with
 | zero => exact absurd HA.out (by simp [Fp_.l0])
 | succ k3 => (
 have H := HA.out
 clear HA
 simp only [Fp_.l0] at H
 replace H := id_ H
 rcases H with ⟨R0, H⟩ | ⟨R0, H⟩
 {
 obtain ⟨h0, r0⟩ : ∃ j_ : Int, (wrap64 (Int.tdiv (wrap64 (c0 + b0)) 8)) = j_ := ⟨_, rfl⟩
 replace H : (if 0 ≤ (h0) then (if (h0) < (a0.length : Int) then (if 0 ≤ (Int.tmod (wrap64 (c0 + b0)) 8) then (if 0 ≤ b0 then (Fp_.l0 k3 a1 (Go.bits .or .u64 m0 (shl .u64 (IntKind.u64.wrap (Go.bits .and .u8 (shr .u8 (rd a0 (h0)) (Int.tmod (wrap64 (c0 + b0)) 8)) 1)) b0)) a1 (wrap64 (b0 + 1)) a0 c0) else (none)) else (none)) else (none)) else (none)) = some (r1, r2, r3) := by first | (rw [r0] at H; exact H) | (simp only [r0] at H ⊢; exact H)
 have hji27w : (IntKind.i64.wrap (Int.tdiv (wrap64 (c0 + b0)) 8)) = h0 := (i64_w _).trans r0
 replace H := gd_ H
 obtain ⟨e2, H⟩ := H
 replace H := gd_ H
 obtain ⟨f2, H⟩ := H
 obtain ⟨n0, C0⟩ : ∃ j_ : Int, (Int.tmod (wrap64 (c0 + b0)) 8) = j_ := ⟨_, rfl⟩
 replace H : (if 0 ≤ (n0) then (if 0 ≤ b0 then (Fp_.l0 k3 a1 (Go.bits .or .u64 m0 (shl .u64 (IntKind.u64.wrap (Go.bits .and .u8 (shr .u8 (rd a0 (h0)) (n0)) 1)) b0)) a1 (wrap64 (b0 + 1)) a0 c0) else (none)) else (none)) = some (r1, r2, r3) := by first | (rw [C0] at H; exact H) | (simp only [C0] at H ⊢; exact H)
 have hji30b : n0 ≤ 8 := by have h_ := Int.tmod_lt_of_pos (wrap64 (c0 + b0)) (show (0 : Int) < 8 by decide); rw [C0] at h_; omega
 replace H := gt_ H
 obtain ⟨M0, H⟩ := H
 have g2 := eq_true M0
 have h2 : decide (0 ≤ (n0)) = true := decide_eq_true M0
 clear M0
 obtain ⟨t0, w0⟩ : ∃ j_ : Int, (shr .u8 (rd a0 (h0)) (n0)) = j_ := ⟨_, rfl⟩
 replace H : (if 0 ≤ b0 then (Fp_.l0 k3 a1 (Go.bits .or .u64 m0 (shl .u64 (IntKind.u64.wrap (Go.bits .and .u8 (t0) 1)) b0)) a1 (wrap64 (b0 + 1)) a0 c0) else (none)) = some (r1, r2, r3) := by first | (rw [w0] at H; exact H) | (simp only [w0] at H ⊢; exact H)
 have hji32_ : ((rd a0 (h0)) / 2 ^ min (n0).toNat 8) = t0 := w0
 have hji32z : (n0) ≤ 8 → ((rd a0 (h0)) / 2 ^ (n0).toNat) = t0 := shr_small w0
 replace H := gt_ H
 obtain ⟨N0, H⟩ := H
 have i2 := eq_true N0
 have j2 : decide (0 ≤ b0) = true := decide_eq_true N0
 clear N0
 obtain ⟨D0, s0⟩ : ∃ j_ : Int, (shl .u64 (IntKind.u64.wrap (Go.bits .and .u8 (t0) 1)) b0) = j_ := ⟨_, rfl⟩
 replace H : (Fp_.l0 k3 a1 (Go.bits .or .u64 m0 (D0)) a1 (wrap64 (b0 + 1)) a0 c0) = some (r1, r2, r3) := by first | (rw [s0] at H; exact H) | (simp only [s0] at H ⊢; exact H)
 have hji34_ : (IntKind.u64.wrap ((IntKind.u64.wrap (Go.bits .and .u8 (t0) 1)) * 2 ^ min b0.toNat 64)) = D0 := s0
 have hji34z : b0 ≤ 64 → (IntKind.u64.wrap ((IntKind.u64.wrap (Go.bits .and .u8 (t0) 1)) * 2 ^ b0.toNat)) = D0 := shl_small s0
 have H' := a_ H
 clear H
 have k2 := f0.out
 have l2 := g0.out
 obtain ⟨A1, B1, C1, D1⟩ := e2_ d0
 have H0 : 0 ≤ ((h0) : Int) := dm_
 have I0 : (h0) < (a0.length : Int) := dm_
 obtain ⟨m2, U0, A0⟩ := Kd.at_int J0.out (h0) H0 I0
 cases U0
 replace A0 := hc_ HB A0
 replace H0 := eq_true H0
 replace I0 := eq_true I0
 (try subst r0)
 go_wp2
 first | go_roundg k3 | (subst r0; go_roundg k3)
 case measure => have := HJ2.out; have := HJ13.out; have := S0.out; omega
 case rel => exact ⟨(Go.bits .or .u64 m0 (D0)), (wrap64 (b0 + 1)), (by first | rfl | (simp; done) | (simp only [← s0] <;> (first | rfl | simp)) | (simp [*]; done)), rs_, H', ⟨by have := HJ2.out; have := HJ13.out; have := S0.out; omega⟩, ⟨bk_ d0⟩, ⟨bk_ e0⟩, ⟨bl_ HB⟩⟩}
 {
 simp only [Option.some.injEq, Prod.mk.injEq] at H
 obtain ⟨rfl, rfl, rfl⟩ := H
 have n2 := f0.out
 have p2 := g0.out
 obtain ⟨E1, F1, G1, H1⟩ := e2_ d0
 obtain ⟨I1, J1, K1, L1⟩ := e2_ e0
 go_wp2
 refine bodyPost_ret (results_ctt rfl _ _ o0 81 #[.slice i0 a0.length k0, .int .i64 (wrap64 (c0 + a1))] (0, 0) _ rfl (bp_ e0) Try.underlying81 rfl kf_) rfl ?_
 exact ⟨er_, bl_ HB⟩}))}))}))
def Fa_.tab (c l : List Int) : Nat → List (Int × Int × Int)
  | 0 => []
  | j + 1 => if rd l (j : Int) > 0 then (rd c (j : Int), rd l (j : Int), (j : Int)) :: Fa_.tab c l j else Fa_.tab c l j
def Fa_.look : List (Int × Int × Int) → Int → Int → Option Int
  | [], _, _ => none
  | x :: M, c, n => if x.1 = c ∧ x.2.1 = n then some x.2.2 else Fa_.look M c n
def Fa_.size : List (Int × Int × Int) → Nat
  | [] => 0
  | x :: M => if (Fa_.look M x.1 x.2.1).isSome = true then Fa_.size M else Fa_.size M + 1
def Fa_.fit (c l : List Int) : Bool := c.all (fun x => decide (0 ≤ x ∧ x < 4294967296)) && l.all (fun x => decide (-9223372036854775808 ≤ x ∧ x ≤ 9223372036854775807)) && decide (l.length ≤ c.length ∧ l.length ≤ 1000000)
def Fa_.go (k : Nat) (b0 : List Int) (a0 : Int) (M : List (Int × Int × Int)) : Nat → Int → Int → Option (Int × Int × Int)
  | 0, _, _ => some (a0, 0, 2)
  | d + 1, x, m => (Fp_.f k b0 x 1).bind fun g => if g.2.2 = 0 then
      (if 0 ≤ Go.bits .or .u32 (IntKind.u32.wrap (m * 2)) (IntKind.u32.wrap g.2.1) ∧ Go.bits .or .u32 (IntKind.u32.wrap (m * 2)) (IntKind.u32.wrap g.2.1) < 4294967296 then
        (if (Fa_.look M (Go.bits .or .u32 (IntKind.u32.wrap (m * 2)) (IntKind.u32.wrap g.2.1)) (16 - (d : Int))).isSome = true then
          some (g.1, (Fa_.look M (Go.bits .or .u32 (IntKind.u32.wrap (m * 2)) (IntKind.u32.wrap g.2.1)) (16 - (d : Int))).getD 0, 0)
        else if Fa_.size M = 1 then some (a0, 0, 2)
        else Fa_.go k b0 a0 M d g.1 (Go.bits .or .u32 (IntKind.u32.wrap (m * 2)) (IntKind.u32.wrap g.2.1)))
      else none) else some (a0, 0, g.2.2)
def Fa_.f (k : Nat) (b0 : List Int) (a0 : Int) (l1 : List Int) : Option (Int × Int × Int) :=
  (FD_.f k l1).bind fun c => if c.2 = 0 then (if a0 < 0 then some (a0, 0, 1) else if Fa_.fit c.1 l1 = true then Fa_.go k b0 a0 (Fa_.tab c.1 l1 l1.length) 16 a0 0 else none) else some (a0, 0, 1)
theorem Fa_.go_mono (a0 : List Int) (b0 : Int) (M : List (Int × Int × Int)) (k : Nat) : ∀ (d : Nat) (x m : Int), LeO (Fa_.go k a0 b0 M d x m) (Fa_.go (k + 1) a0 b0 M d x m)
  | 0, _, _ => LeO.refl _
  | d + 1, x, m => by
    unfold Fa_.go
    exact LeO.bind (Fp_.mono _ _ _ _) (fun _ => LeO.ite (LeO.ite (LeO.ite (LeO.refl _) (LeO.ite (LeO.refl _) (Fa_.go_mono a0 b0 M k d _ _))) (LeO.refl _)) (LeO.refl _))
theorem Fa_.mono : ∀ a0 a1 a2 k, LeO (Fa_.f k a0 a1 a2) (Fa_.f (k + 1) a0 a1 a2) := by
  intro a0 a1 a2 k
  unfold Fa_.f
  exact LeO.bind (FD_.mono _ _) (fun _ => LeO.ite (LeO.ite (LeO.refl _) (LeO.ite (Fa_.go_mono _ _ _ _ _ _ _) (LeO.refl _))) (LeO.refl _))
theorem Fa_.law : Go.Maps.Keyed Try.prog 122 := Go.Maps.Keyed.of_law (deep_law_laid (by kernel_rfl) (m := 2) (by omega) (by decide +kernel) (by kernel_rfl) (by kernel_rfl))
theorem Fa_.zeroE (w : World) : (zeroValue 3).run Try.prog w = .ok (.int .i64 0) w := by kernel_rfl
theorem Fa_.lits {c n : Int} (hc : (Lit.int .u32 c).wf = true) (hn : (Lit.int .i64 n).wf = true) (d : Nat) : Try.prog.keyLits (d + 2) 122 [.int .u32 c, .int .i64 n] = some [.int .u32 c, .int .i64 n] := by
  have e2 : Try.prog.cellsOf 122 = 2 := by kernel_rfl
  have e3 : Try.prog.cellsOf 119 = 1 := by kernel_rfl
  have e4 : Try.prog.cellsOf 3 = 1 := by kernel_rfl
  simp [Program.keyLits, Try.underlying122, Try.underlying119, Try.underlying3, hc, hn, e2, e3, e4]
theorem Fa_.key {c n : Int} (hc : (Lit.int .u32 c).wf = true) (hn : (Lit.int .i64 n).wf = true) : ∃ kl, keyOf Try.prog 122 (.agg #[.int .u32 c, .int .i64 n]) = some kl := by
  have h1 : (keyOf Try.prog 122 (.agg #[.int .u32 c, .int .i64 n])).isSome = true := by
    simp [keyOf, Try.underlying122, Value.formed]
    rw [if_pos ⟨by kernel_rfl, by kernel_rfl⟩]
    have e := Fa_.lits hc hn (Try.prog.types.size - 1)
    rw [show Try.prog.types.size - 1 + 2 = Try.prog.types.size + 1 by kernel_rfl] at e
    simp only [Value.cells]
    exact (congrArg (fun o => (Option.map (fun ls => Lit.string (keyBytes ls)) o).isSome) e).trans rfl
  exact Option.isSome_iff_exists.1 h1
def Fa_.Tells (D : DataW Unit) (M : List (Int × Int × Int)) : Prop :=
  (∀ (c n : Int) (kl : Lit), keyOf Try.prog 122 (.agg #[.int .u32 c, .int .i64 n]) = some kl → Maps.has D kl = (Fa_.look M c n).isSome ∧ D.atKey kl (.lit (.int .i64 0)) = .lit (.int .i64 ((Fa_.look M c n).getD 0))) ∧ Maps.size D = Fa_.size M
def Fa_.Own (w : World) (b n : Nat) (M : List (Int × Int × Int)) : Prop :=
  ∃ D : DataW Unit, w.ownsMap Try.prog 122 (plainElem Try.prog 3) b n D ∧ Fa_.Tells D M
theorem Fa_.own_below {w w1 : World} {b n : Nat} {M : List (Int × Int × Int)} (h : Fa_.Own w b n M) (hb : Below w.heap.size w w1) : Fa_.Own w1 b n M := by
  obtain ⟨D, h, ht⟩ := h
  have hlt := h.lt
  obtain ⟨es, clock, hm, F, hs, hD⟩ := h
  exact ⟨D, ⟨es, clock, (hb.block b hlt).trans hm, F, hs, hD⟩, ht⟩
theorem Fa_.own_lt {w : World} {b n : Nat} {M : List (Int × Int × Int)} (h : Fa_.Own w b n M) : b < w.heap.size := by
  obtain ⟨D, h, ht⟩ := h; exact h.lt
theorem Fa_.own_far {w : World} {b n : Nat} {M : List (Int × Int × Int)} (h : Fa_.Own w b n M) {p : Addr} (hp : b ≠ p.block) (u : Value) : Fa_.Own (w.setCell p u) b n M := by
  obtain ⟨D, ⟨es, clock, hm, F, hs, hD⟩, ht⟩ := h
  exact ⟨D, ⟨es, clock, (Below.heap_setCell w p u b hp).trans hm, F, hs, hD⟩, ht⟩
theorem Fa_.own_drew {w : World} {b n : Nat} {M : List (Int × Int × Int)} (h : Fa_.Own w b n M) : Fa_.Own w.drew b n M := h
theorem Fa_.own_made (w : World) : Fa_.Own (w.alloc (.map #[] 0)) w.heap.size 0 [] :=
  ⟨.map [], World.ownsMap_made _ _ _ _, fun c n kl h => ⟨rfl, rfl⟩, rfl⟩
theorem Fa_.tells_put {D : DataW Unit} {M : List (Int × Int × Int)} (h : Fa_.Tells D M) (hD : Maps.Tidy D) {c n s : Int} {kl : Lit} (hk : keyOf Try.prog 122 (.agg #[.int .u32 c, .int .i64 n]) = some kl) :
    Fa_.Tells (D.put kl (.lit (.int .i64 s))) ((c, n, s) :: M) := by
  have hkl := Fa_.law.key hk
  refine ⟨fun c' n' kl' hk' => ?_, ?_⟩
  · by_cases e : c = c' ∧ n = n'
    · obtain ⟨rfl, rfl⟩ := e
      obtain rfl : kl = kl' := Option.some.inj (hk.symm.trans hk')
      rw [Maps.has_put_same hD.isMap hkl, Maps.atKey_put_same hD.isMap hkl]
      simp [Fa_.look]
    · have hne : kl' ≠ kl := by
        rintro rfl
        have := Fa_.law.inj hk hk'
        simp at this
        exact e this
      rw [Maps.has_put_other hne, Maps.atKey_put_other hne]
      have : Fa_.look ((c, n, s) :: M) c' n' = Fa_.look M c' n' := by simp only [Fa_.look]; rw [if_neg e]
      rw [this]
      exact h.1 c' n' kl' hk'
  · rw [Maps.size_put hD, h.2, (h.1 c n kl hk).1]; rfl
theorem Fa_.wf64 {x : Int} (h : -9223372036854775808 ≤ x ∧ x ≤ 9223372036854775807) : (Lit.int .i64 x).wf = true := by
  simp [Lit.wf, IntKind.min, IntKind.max, IntKind.bits, IntKind.signed]; omega
theorem Fa_.wf32 {x : Int} (h : 0 ≤ x ∧ x < 4294967296) : (Lit.int .u32 x).wf = true := by
  simp [Lit.wf, IntKind.min, IntKind.max, IntKind.bits, IntKind.signed]; omega
theorem Fa_.rd_all {p : Int → Bool} {l : List Int} (h : l.all p = true) (j : Nat) (hj : j < l.length) : p (rd l (j : Int)) = true := by
  have : rd l (j : Int) ∈ l := by simp [rd, List.getD_eq_getElem?_getD, hj]
  exact List.all_eq_true.1 h _ this
theorem Fa_.fit_at {c l : List Int} (h : Fa_.fit c l = true) : l.length ≤ c.length ∧ l.length ≤ 1000000 ∧ ∀ j : Nat, j < l.length → (Lit.int .u32 (rd c (j : Int))).wf = true ∧ (Lit.int .i64 (rd l (j : Int))).wf = true ∧ (Lit.int .i64 (j : Int)).wf = true := by
  simp only [Fa_.fit, Bool.and_eq_true, decide_eq_true_eq] at h
  refine ⟨h.2.1, h.2.2, fun j hj => ⟨Fa_.wf32 ?_, Fa_.wf64 ?_, Fa_.wf64 (by omega)⟩⟩
  · have := Fa_.rd_all h.1.1 j (by omega); simpa using this
  · have := Fa_.rd_all h.1.2 j hj; simpa using this
theorem Fa_.calls (k : Nat) (c0 : Option Addr) (d0 : Nat) (b0 : List Int) (k0 : Int) (A1 : Option Addr) (c1 : Nat) (l1 : List Int) (r1 : Int) (r2 : Int) (r3 : Int) (w : World) (hr0_0 : Kd.C (Kd.int .u8) w c0 b0.length b0) (hc0_0 : b0.length ≤ d0) (hr1 : Kd.C (Kd.int .i64) w A1 l1.length l1) (hc1 : l1.length ≤ c1) (h : Fa_.f k b0 k0 l1 = some (r1, r2, r3)) :
    Calls Try.prog 48 #[.agg #[.slice c0 b0.length d0, .int .i64 k0], .slice A1 l1.length c1] w fun e w' => e = .returned (.tuple #[.agg #[.slice c0 b0.length d0, .int .i64 r1], .int .i64 r2, .int .i64 r3]) ∧ Below w.heap.size w w' := by
 have i1 := Try.underlying81
 have j1 := Try.underlying122
 have hmm := @run_makeMap Try.prog
 have T0 := a_ hr0_0
 have U0 := a_ hc0_0
 have V0 := a_ hr1
 have h1 := a_ hc1
 clear hr0_0 hc0_0 hr1 hc1
 have HB := a_ (Below.refl w.heap.size w)
 unfold Fa_.f at h
 replace h := Option.bind_eq_some_iff.mp h
 obtain ⟨⟨t1, t2⟩, W0, H⟩ := h
 have A4 := a_ W0
 clear W0
 have X0 := a_ H
 clear H
 go_enter Try.func48, Try.ntmps48
 go_upto_region 2 with (first
   | ((with_reducible refine gate_dst (N := 2) rfl ?_); refine box_ 2 #[.slice c0 b0.length d0, .int .i64 k0] 81 ?_; intro t0 hg w4 hbox hb; have n1_ := a_ (below_step HB.out hb); have n2_ := a_ hbox; have n3_ := a_ ((by rw [hg]; exact (below_size HB.out)) : w.heap.size ≤ t0); clear HB; have HB := n1_; have i0 := n2_; have K0 := n3_; clear n1_ n2_ n3_; clear hb hbox hg)
   | ((with_reducible refine gate_dst (N := 4) rfl ?_); refine box_ 4 #[.slice none 0 0, .int .i64 0] 81 ?_; intro F0 hg w5 hbox hb; have n0_ := a_ (blk_below i0.out hb); have n1_ := a_ (below_step HB.out hb); have n2_ := a_ hbox; have n3_ := a_ ((by rw [hg]; exact (below_size HB.out)) : w.heap.size ≤ F0); have n4_ := a_ ((by rw [hg]; exact Nat.ne_of_lt (blk_lt i0.out)) : t0 ≠ F0); clear i0 HB; have i0 := n0_; have HB := n1_; have j0 := n2_; have L0 := n3_; have NB := n4_; clear n0_ n1_ n2_ n3_ n4_; clear hb hbox hg)
   | (go_at_call 85; (with_reducible refine (FD_.calls k _ _ l1 t1 t2 _ ?side1 ?side2 A4.out).mono ?_); (case side1 => exact (Kd.C_below V0.out HB.out)); (case side2 => exact h1.out); rintro e w8 ⟨k1, rfl, Y0, hb⟩; have n1_ := a_ Y0; have n2_ := a_ (blk_below i0.out hb); have n3_ := a_ (blk_below j0.out hb); have n4_ := a_ (below_step HB.out hb); clear i0; clear j0; clear HB; have HO := n1_; have i0 := n2_; have j0 := n3_; have HB := n4_; clear n1_ n2_ n3_ n4_; clear hb Y0))
 (try simp only [Act.put, List.setIfInBounds_toArray, List.set_cons_zero, List.set_cons_succ])
 have H := X0.out
 clear X0
 have l0 : w8.cell? ⟨t0, 0, none⟩ = some (.slice c0 b0.length d0) := ce_ i0 0
 have m0 : w8.cell? ⟨t0, 1, none⟩ = some (.int .i64 k0) := ce_ i0 1
 have m1 := NB.out
 have n1 := NB.out.symm
 obtain ⟨v0, w0, y0, z0⟩ := e2_ j0
 replace H := ie_ H
 rcases H with ⟨ceb0, ceb1, H⟩ | ⟨ce, ceb0, ceb1, H⟩
 {
 replace H := id_ H
 rcases H with ⟨cab0, H⟩ | ⟨cab0, H⟩
 {
 simp only [Option.some.injEq, Prod.mk.injEq] at H
 obtain ⟨rfl, rfl, rfl⟩ := H
 go_wp2
 refine bodyPost_ret (results_ctt rfl _ _ F0 81 #[.slice c0 b0.length d0, .int .i64 k0] (0, 0) _ rfl (bp_ j0) Try.underlying81 rfl kf_) rfl ?_
 exact ⟨es_, bl_ HB⟩}
 {
 replace H := gt_ H
 obtain ⟨cf, H⟩ := H
 have HF := a_ cf
 have H' := a_ H
 clear H cf
 obtain ⟨Ao, co, eo⟩ := Kd.R_slice HO.out
 (first | subst eo | (injection eo with f1_ f2_ f3_; have f4_ := f1_.symm; have f5_ := f3_.symm; clear f1_ f2_ f3_; subst f4_; subst f5_))
 have HOC := a_ (Kd.R_reads' HO.out).2.2
 have hfit := Fa_.fit_at HF.out
 have HFIT := a_ hfit
 clear hfit
 go_wp2
 go_loopg [35] l1.length (fun g s35 wr => ∃ j : Nat, j + g = l1.length ∧ s35 = .int .i64 (j : Int) ∧ Aside0 (Fa_.Own wr w8.heap.size j (Fa_.tab t1 l1 j)) ∧ Aside0 (Below w8.heap.size w8 wr))
 case atStart => exact ⟨0, by omega, rfl, ⟨Fa_.own_made w8⟩, ⟨by repeat (first | exact Below.refl _ _ | apply below_alloc)⟩⟩
 case round => (
 obtain ⟨j, hj, rfl, HM, HB8⟩ := hrel
 have HBa := a_ (below_step HB.out HB8.out)
 cases gk with
 | zero => (
 have cjb : decide ((j : Int) < (l1.length : Int)) = false := decide_eq_false (by omega)
 obtain rfl : j = l1.length := by omega
 clear HFIT HF hj
 have n2_ := a_ (blk_below i0.out HB8.out)
 have n3_ := a_ (blk_below j0.out HB8.out)
 have HM2 := HM
 clear i0 j0 HB HB8 HM HO HOC l0 m0 v0 w0 y0 z0
 have i0 := n2_
 have j0 := n3_
 clear n2_ n3_
 have HB := HBa
 clear HBa
 have HB2 := a_ (Below.refl wr.heap.size wr)
 have l0 : wr.cell? ⟨t0, 0, none⟩ = some (.slice c0 b0.length d0) := ce_ i0 0
 have m0 : wr.cell? ⟨t0, 1, none⟩ = some (.int .i64 k0) := ce_ i0 1
 go_upto_region 12 with (first
   | ((with_reducible refine gate_dst (N := 12) rfl ?_); refine box_ 12 #[.slice none 0 0, .int .i64 0] 81 ?_; intro a0 hg o1 hbox hb; have n1_ := a_ (below_step HB2.out hb); have n2_ := a_ hbox; have n3_ := a_ ((by rw [hg]; exact (below_size HB2.out)) : wr.heap.size ≤ a0); clear HB2; have HB2 := n1_; have g0 := n2_; have G0 := n3_; clear n1_ n2_ n3_; clear hb hbox hg)
   | ((with_reducible refine gate_dst (N := 13) rfl ?_); refine box_ 13 #[.int .u32 0, .int .i64 0] 122 ?_; intro e0 hg J0 hbox hb; have n0_ := a_ (blk_below g0.out hb); have n1_ := a_ (below_step HB2.out hb); have n2_ := a_ hbox; have n3_ := a_ ((by rw [hg]; exact (below_size HB2.out)) : wr.heap.size ≤ e0); have n4_ := a_ ((by rw [hg]; exact Nat.ne_of_gt (blk_lt g0.out)) : e0 ≠ a0); clear g0 HB2; have g0 := n0_; have HB2 := n1_; have f0 := n2_; have H0 := n3_; have ND := n4_; clear n0_ n1_ n2_ n3_ n4_; clear hb hbox hg; have hnd := ND.out; have hne := ND.out.symm; have o0 : J0.cell? ⟨a0, 0, none⟩ = some (.slice none 0 0) := ce_ g0 0; have p0 : J0.cell? ⟨a0, 1, none⟩ = some (.int .i64 0) := ce_ g0 1; have q0 : J0.cell? ⟨e0, 0, none⟩ = some (.int .u32 0) := ce_ f0 0; have r0 : J0.cell? ⟨e0, 1, none⟩ = some (.int .i64 0) := ce_ f0 1; have A0 := blk_frozen g0.out 0; have B0 := blk_frozen g0.out 1; have C0 := blk_frozen f0.out 0; have D0 := blk_frozen f0.out 1))
 obtain ⟨W2, hW2⟩ : ∃ W2 : World, W2 = wr := ⟨_, rfl⟩
 subst hW2
 have LT2 := a_ (blk_lt i0.out)
 have LT4 := a_ (blk_lt j0.out)
 have LTM := a_ (Fa_.own_lt HM2.out)
 clear l0 m0
 have n0_ : Aside0 ((((((J0.setCell ⟨a0, 0, none⟩ (.slice c0 b0.length d0)).setCell ⟨a0, 1, none⟩ (.int .i64 k0)).setCell ⟨e0, 0, none⟩ (.int .u32 0)).setCell ⟨e0, 1, none⟩ (.int .i64 0))).heap[a0]? = some (.cells #[.slice c0 b0.length d0, .int .i64 k0] 81 (0, 0))) := ⟨by refine blk_far ?_ hne _; refine blk_far ?_ hne _; refine blk_put (cs := #[.slice c0 b0.length d0, .int .i64 0]) ?_ 1 _ rfl; refine blk_put (cs := #[.slice none 0 0, .int .i64 0]) ?_ 0 _ rfl; exact g0.out⟩
 have n1_ : Aside0 ((((((J0.setCell ⟨a0, 0, none⟩ (.slice c0 b0.length d0)).setCell ⟨a0, 1, none⟩ (.int .i64 k0)).setCell ⟨e0, 0, none⟩ (.int .u32 0)).setCell ⟨e0, 1, none⟩ (.int .i64 0))).heap[e0]? = some (.cells #[.int .u32 0, .int .i64 0] 122 (0, 0))) := ⟨by refine blk_put (cs := #[.int .u32 0, .int .i64 0]) ?_ 1 _ rfl; refine blk_put (cs := #[.int .u32 0, .int .i64 0]) ?_ 0 _ rfl; refine blk_far ?_ hnd _; refine blk_far ?_ hnd _; exact f0.out⟩
 have n2_ : Aside0 (Below W2.heap.size W2 ((((J0.setCell ⟨a0, 0, none⟩ (.slice c0 b0.length d0)).setCell ⟨a0, 1, none⟩ (.int .i64 k0)).setCell ⟨e0, 0, none⟩ (.int .u32 0)).setCell ⟨e0, 1, none⟩ (.int .i64 0))) := ⟨by repeat (first | (with_reducible first | exact HB2.out | apply below_alloc | apply pw_below_drewN | apply below_drew1 | refine below_set ?_ G0.out | refine below_set ?_ H0.out) | exact HB2.out)⟩
 clear HB2 g0 f0
 clear o0 p0 q0 r0 A0 B0 C0 D0
 generalize (((J0.setCell ⟨a0, 0, none⟩ (.slice c0 b0.length d0)).setCell ⟨a0, 1, none⟩ (.int .i64 k0)).setCell ⟨e0, 0, none⟩ (.int .u32 0)).setCell ⟨e0, 1, none⟩ (.int .i64 0) = W3 at n0_ n1_ n2_ ⊢
 go_loopg [] 16 (fun g wr => ∃ (x m mm : Int), Aside0 (mm = 16 - (g : Int)) ∧ Aside0 (g ≤ 16) ∧ Aside0 (Fa_.go k b0 k0 (Fa_.tab t1 l1 l1.length) g x m = some (r1, r2, r3)) ∧ Aside0 (wr.heap[a0]? = some (.cells #[.slice c0 b0.length d0, .int .i64 x] 81 (0, 0))) ∧ Aside0 (wr.heap[e0]? = some (.cells #[.int .u32 m, .int .i64 mm] 122 (0, 0))) ∧ Aside0 (Below W2.heap.size W2 wr))
 case atStart => exact ⟨k0, 0, 0, ⟨by omega⟩, ⟨Nat.le_refl _⟩, H', n0_, n1_, n2_⟩
 case round => (
 clear H' n0_ n1_ n2_
 obtain ⟨x, m, mm, HMM, HD16, H', g0, f0, HB2⟩ := hrel
 have HBw := a_ (below_step HB.out HB2.out)
 have n2_ := a_ (blk_below i0.out HB2.out)
 have n3_ := a_ (blk_below j0.out HB2.out)
 have n4_ := a_ (Fa_.own_below HM2.out HB2.out)
 clear i0 j0
 have i0 := n2_
 have j0 := n3_
 have HMw := n4_
 clear n2_ n3_ n4_
 have l0 : wr.cell? ⟨t0, 0, none⟩ = some (.slice c0 b0.length d0) := ce_ i0 0
 have m0 : wr.cell? ⟨t0, 1, none⟩ = some (.int .i64 k0) := ce_ i0 1
 obtain ⟨v0, w0, y0, z0⟩ := e2_ j0
 have o0 : wr.cell? ⟨a0, 0, none⟩ = some (.slice c0 b0.length d0) := ce_ g0 0
 have p0 : wr.cell? ⟨a0, 1, none⟩ = some (.int .i64 x) := ce_ g0 1
 have q0 : wr.cell? ⟨e0, 0, none⟩ = some (.int .u32 m) := ce_ f0 0
 have r0 : wr.cell? ⟨e0, 1, none⟩ = some (.int .i64 mm) := ce_ f0 1
 have A0 := blk_frozen g0.out 0
 have B0 := blk_frozen g0.out 1
 have C0 := blk_frozen f0.out 0
 have D0 := blk_frozen f0.out 1
 cases gk with
 | zero => (
 have H := H'.out
 clear H'
 simp only [Fa_.go, Option.some.injEq, Prod.mk.injEq] at H
 obtain ⟨rfl, rfl, rfl⟩ := H
 have cmb : decide (mm < 16) = false := decide_eq_false (by have := HMM.out; omega)
 go_wp2
 refine bodyPost_ret (results_ctt rfl _ _ F0 81 #[.slice c0 b0.length d0, .int .i64 k0] (0, 0) _ rfl (bp_ j0) Try.underlying81 rfl kf_) rfl ?_
 exact ⟨es_, by repeat (first | (with_reducible first | exact HBw.out | apply below_alloc | apply pw_below_drewN | apply below_drew1 | refine below_set ?_ K0.out | refine below_set ?_ L0.out) | exact HBw.out)⟩)
 | succ d => (
 have H := H'.out
 clear H'
 simp only [Fa_.go] at H
 replace H := Option.bind_eq_some_iff.mp H
 obtain ⟨⟨t3, t4, t5⟩, Z0, H⟩ := H
 have A5 := a_ Z0
 have a1 := a_ H
 clear Z0 H
 have cmb : decide (mm < 16) = true := decide_eq_true (by have := HMM.out; omega)
 go_upto_region 14 with (first
   | (go_at_call 47; (with_reducible refine (Fp_.calls k _ _ b0 x 1 t3 t4 t5 _ ?side1 ?side2 A5.out).mono ?_); (case side1 => repeat (first | exact (Kd.C_below T0.out HBw.out) | (with_reducible refine Kd.C_alloc ?_ _) | (with_reducible refine Kd.C_drewN ?_ _) | (with_reducible refine Kd.C_drew ?_))); (case side2 => exact U0.out); rintro e wg ⟨rfl, hb⟩; have n2_ := a_ (blk_below i0.out hb); have n3_ := a_ (blk_below j0.out hb); have n4_ := a_ (Fa_.own_below HMw.out hb); have n5_ := a_ (blk_below g0.out hb); have n6_ := a_ (blk_below f0.out hb); have n7_ := a_ (below_step HB2.out hb); have n8_ := a_ (below_step HBw.out hb); clear i0 j0 HMw g0 f0 HB2 HBw l0 m0 v0 w0 y0 z0 o0 p0 q0 r0 A0 B0 C0 D0; have i0 := n2_; have j0 := n3_; have HMw := n4_; have g0 := n5_; have f0 := n6_; have HB2 := n7_; have HBw := n8_; clear n2_ n3_ n4_ n5_ n6_ n7_ n8_; clear hb)
   | ((with_reducible refine gate_dst (N := 14) rfl ?_); refine box_ 14 #[.slice none 0 0, .int .i64 0] 81 ?_; intro h0 hg I0 hbox hb; have n2_ := a_ (blk_below i0.out hb); have n3_ := a_ (blk_below j0.out hb); have n4_ := a_ (Fa_.own_below HMw.out hb); have n5_ := a_ (blk_below g0.out hb); have n6_ := a_ (blk_below f0.out hb); have n7_ := a_ (below_step HB2.out hb); have n8_ := a_ (below_step HBw.out hb); have n9_ := a_ hbox; have m1_ := a_ ((by rw [hg]; exact (below_size HBw.out)) : w.heap.size ≤ h0); have m2_ := a_ ((by rw [hg]; exact Nat.ne_of_gt (blk_lt g0.out)) : h0 ≠ a0); have m3_ := a_ ((by rw [hg]; exact Nat.ne_of_gt (blk_lt f0.out)) : h0 ≠ e0); have m4_ := a_ ((by rw [hg]; exact Nat.ne_of_gt (blk_lt i0.out)) : h0 ≠ t0); have m5_ := a_ ((by rw [hg]; exact Nat.ne_of_gt (blk_lt j0.out)) : h0 ≠ F0); have m6_ := a_ ((by rw [hg]; exact (below_size HB2.out)) : W2.heap.size ≤ h0); have m7_ := a_ hg; clear i0 j0 HMw g0 f0 HB2 HBw; have i0 := n2_; have j0 := n3_; have HMw := n4_; have g0 := n5_; have f0 := n6_; have HB2 := n7_; have HBw := n8_; have n0 := n9_; have S0 := m1_; have N12 := m2_; have N13 := m3_; have N2 := m4_; have N4 := m5_; have GF14 := m6_; clear n2_ n3_ n4_ n5_ n6_ n7_ n8_ n9_ m1_ m2_ m3_ m4_ m5_ m6_ m7_; clear hb hbox hg; obtain ⟨O0, P0, Q0, R0⟩ := e2_ n0))
 have hNM : w8.heap.size ≠ h0 := Nat.ne_of_lt (Nat.lt_of_lt_of_le (Fa_.own_lt HM2.out) GF14.out)
 have n1_ : Aside0 (((I0.setCell ⟨h0, 0, none⟩ (.slice c0 b0.length d0)).setCell ⟨h0, 1, none⟩ (.int .i64 t3)).heap[t0]? = some (.cells #[.slice c0 b0.length d0, .int .i64 k0] 81 (0, 0))) := ⟨by refine blk_far ?_ N2.out.symm _; refine blk_far ?_ N2.out.symm _; exact i0.out⟩
 have n2_ : Aside0 (((I0.setCell ⟨h0, 0, none⟩ (.slice c0 b0.length d0)).setCell ⟨h0, 1, none⟩ (.int .i64 t3)).heap[F0]? = some (.cells #[.slice none 0 0, .int .i64 0] 81 (0, 0))) := ⟨by refine blk_far ?_ N4.out.symm _; refine blk_far ?_ N4.out.symm _; exact j0.out⟩
 have n3_ : Aside0 (((I0.setCell ⟨h0, 0, none⟩ (.slice c0 b0.length d0)).setCell ⟨h0, 1, none⟩ (.int .i64 t3)).heap[a0]? = some (.cells #[.slice c0 b0.length d0, .int .i64 x] 81 (0, 0))) := ⟨by refine blk_far ?_ N12.out.symm _; refine blk_far ?_ N12.out.symm _; exact g0.out⟩
 have n4_ : Aside0 (((I0.setCell ⟨h0, 0, none⟩ (.slice c0 b0.length d0)).setCell ⟨h0, 1, none⟩ (.int .i64 t3)).heap[e0]? = some (.cells #[.int .u32 m, .int .i64 mm] 122 (0, 0))) := ⟨by refine blk_far ?_ N13.out.symm _; refine blk_far ?_ N13.out.symm _; exact f0.out⟩
 have n5_ : Aside0 (((I0.setCell ⟨h0, 0, none⟩ (.slice c0 b0.length d0)).setCell ⟨h0, 1, none⟩ (.int .i64 t3)).heap[h0]? = some (.cells #[.slice c0 b0.length d0, .int .i64 t3] 81 (0, 0))) := ⟨by refine blk_put (cs := #[.slice c0 b0.length d0, .int .i64 0]) ?_ 1 _ rfl; refine blk_put (cs := #[.slice none 0 0, .int .i64 0]) ?_ 0 _ rfl; exact n0.out⟩
 have n6_ : Aside0 (Fa_.Own ((I0.setCell ⟨h0, 0, none⟩ (.slice c0 b0.length d0)).setCell ⟨h0, 1, none⟩ (.int .i64 t3)) w8.heap.size l1.length (Fa_.tab t1 l1 l1.length)) := ⟨Fa_.own_far (Fa_.own_far HMw.out hNM _) hNM _⟩
 have n7_ : Aside0 (Below W2.heap.size W2 ((I0.setCell ⟨h0, 0, none⟩ (.slice c0 b0.length d0)).setCell ⟨h0, 1, none⟩ (.int .i64 t3))) := ⟨below_set (below_set HB2.out GF14.out) GF14.out⟩
 have n8_ : Aside0 (Below w.heap.size w ((I0.setCell ⟨h0, 0, none⟩ (.slice c0 b0.length d0)).setCell ⟨h0, 1, none⟩ (.int .i64 t3))) := ⟨below_set (below_set HBw.out S0.out) S0.out⟩
 clear i0 j0 g0 f0 n0 HMw HB2 HBw O0 P0 Q0 R0 hNM
 have i0 := n1_
 have j0 := n2_
 have g0 := n3_
 have f0 := n4_
 have n0 := n5_
 have HMw := n6_
 have HB2 := n7_
 have HBw := n8_
 clear n1_ n2_ n3_ n4_ n5_ n6_ n7_ n8_
 generalize ((I0.setCell ⟨h0, 0, none⟩ (.slice c0 b0.length d0)).setCell ⟨h0, 1, none⟩ (.int .i64 t3)) = wr2 at i0 j0 g0 f0 n0 HMw HB2 HBw ⊢
 have H := a1.out
 clear a1
 have l0 : wr2.cell? ⟨t0, 0, none⟩ = some (.slice c0 b0.length d0) := ce_ i0 0
 have m0 : wr2.cell? ⟨t0, 1, none⟩ = some (.int .i64 k0) := ce_ i0 1
 obtain ⟨v0, w0, y0, z0⟩ := e2_ j0
 by_cases c5 : t5 = 0
 {
 subst c5
 have d1 : ((0 : Int) == 0) = true := rfl
 have f1 : ((0 : Int) != 0) = false := rfl
 rw [if_pos rfl] at H
 replace H := gt_ H
 obtain ⟨cn, H⟩ := H
 have CN := a_ cn
 have b1 := a_ H
 clear H cn
 clear l0 m0 v0 w0 y0 z0
 go_upto_region 16 with (fail)
 have n1_ := a_ (blk_drew i0.out)
 have n2_ := a_ (blk_drew j0.out)
 have n3_ := a_ (blk_drew g0.out)
 have n4_ := a_ (blk_drew f0.out)
 have n5_ := a_ (blk_drew n0.out)
 have n6_ := a_ (Fa_.own_drew HMw.out)
 have n7_ := a_ (below_drew1 HB2.out)
 have n8_ := a_ (below_drew1 HBw.out)
 clear i0 j0 g0 f0 n0 HMw HB2 HBw
 have i0 := n1_
 have j0 := n2_
 have g0 := n3_
 have f0 := n4_
 have n0 := n5_
 have HMw := n6_
 have HB2 := n7_
 have HBw := n8_
 clear n1_ n2_ n3_ n4_ n5_ n6_ n7_ n8_
 have hne : h0 ≠ a0 := N12.out
 have hnd : e0 ≠ a0 := ND.out
 have hnd' : a0 ≠ e0 := ND.out.symm
 refine start_ (n := 13) (S := fun w' => w'.cell? ⟨h0, 0, none⟩ = some (.slice c0 b0.length d0) ∧ w'.cell? ⟨h0, 1, none⟩ = some (.int .i64 t3) ∧ w'.cell? ⟨e0, 0, none⟩ = some (.int .u32 m) ∧ w'.cell? ⟨e0, 1, none⟩ = some (.int .i64 mm)) (ds := [12]) (B_ 13 0) kf_ rfl rfl ⟨ce_ n0 0, ce_ n0 1, ce_ f0 0, ce_ f0 1⟩ (fun hHeld => ?_)
 generalize wr2.drew = E0 at i0 j0 g0 f0 n0 HB2 HBw hHeld HMw ⊢
 have o0 : E0.cell? ⟨a0, 0, none⟩ = some (.slice c0 b0.length d0) := ce_ g0 0
 have p0 : E0.cell? ⟨a0, 1, none⟩ = some (.int .i64 x) := ce_ g0 1
 have q0 : E0.cell? ⟨e0, 0, none⟩ = some (.int .u32 m) := ce_ f0 0
 have r0 : E0.cell? ⟨e0, 1, none⟩ = some (.int .i64 mm) := ce_ f0 1
 have A0 := blk_frozen g0.out 0
 have B0 := blk_frozen g0.out 1
 have C0 := blk_frozen f0.out 0
 have D0 := blk_frozen f0.out 1
 refine pure_ (i := 1) (N := some 67) (v := ?_) (a' := ?_) (B_ 13 2) rfl rfl kf_ (fun _ _ _ h => h) (Or.inl ⟨by rfl, ?_⟩) ?_ ?_
 rotate_left
 {
 intro w'
 go_simp
 with_reducible rfl}
 rotate_left
 {
 exact sp_}
 refine pure_ (i := 4) (N := some 70) (v := ?_) (a' := ?_) (B_ 13 18) rfl rfl kf_ (fun _ _ _ h => h) (Or.inl ⟨by rfl, ?_⟩) ?_ ?_
 rotate_left
 {
 intro w'
 go_simp
 with_reducible rfl}
 rotate_left
 {
 exact sp_}
 refine pure_ (i := 5) (N := some 71) (v := ?_) (a' := ?_) (B_ 13 50) rfl rfl kf_ (fun _ _ _ h => h) (Or.inl ⟨by rfl, ?_⟩) ?_ ?_
 rotate_left
 {
 intro w'
 go_simp
 with_reducible rfl}
 rotate_left
 {
 exact sp_}
 refine pure_ (i := 7) (N := some 73) (v := ?_) (a' := ?_) (B_ 13 178) rfl rfl kf_ (fun _ _ _ h => h) (Or.inl ⟨by rfl, ?_⟩) ?_ ?_
 rotate_left
 {
 intro w'
 go_simp
 with_reducible rfl}
 rotate_left
 {
 exact sp_}
 refine take_ (i := 0) (N := some 66) (v := ?_) (a' := ?_) (B_ 13 179) rfl rfl kf_ (fun _ _ _ h => h) (Or.inl ⟨by rfl, ?_⟩) hHeld ?_ ?_
 rotate_left
 {
 rintro w' ⟨s0, s1, s2, s3⟩
 go_simp
 with_reducible rfl}
 rotate_left
 {
 exact sp_}
 refine take_ (i := 2) (N := some 68) (v := ?_) (a' := ?_) (B_ 13 183) rfl rfl kf_ (fun _ _ _ h => h) (Or.inl ⟨by rfl, ?_⟩) hHeld ?_ ?_
 rotate_left
 {
 rintro w' ⟨s0, s1, s2, s3⟩
 go_simp
 with_reducible rfl}
 rotate_left
 {
 exact sp_}
 refine pure_ (i := 3) (N := some 69) (v := ?_) (a' := ?_) (B_ 13 191) rfl rfl kf_ (fun _ _ _ h => h) (Or.inl ⟨by rfl, ?_⟩) ?_ ?_
 rotate_left
 {
 intro w'
 go_simp
 with_reducible rfl}
 rotate_left
 {
 exact sp_}
 refine pure_ (i := 6) (N := some 72) (v := ?_) (a' := ?_) (B_ 13 255) rfl rfl kf_ (fun _ _ _ h => h) (Or.inl ⟨by rfl, ?_⟩) ?_ ?_
 rotate_left
 {
 intro w'
 go_simp
 with_reducible rfl}
 rotate_left
 {
 exact sp_}
 refine take_ (i := 8) (N := some 74) (v := ?_) (a' := ?_) (B_ 13 511) rfl rfl kf_ (fun _ _ _ h => h) (Or.inl ⟨by rfl, ?_⟩) hHeld ?_ ?_
 rotate_left
 {
 rintro w' ⟨s0, s1, s2, s3⟩
 go_simp
 with_reducible rfl}
 rotate_left
 {
 exact sp_}
 refine pure_ (i := 9) (N := some 75) (v := ?_) (a' := ?_) (B_ 13 1023) rfl rfl kf_ (fun _ _ _ h => h) (Or.inl ⟨by rfl, ?_⟩) ?_ ?_
 rotate_left
 {
 intro w'
 go_simp
 with_reducible rfl}
 rotate_left
 {
 exact sp_}
 refine pure_ (i := 10) (N := some 76) (v := ?_) (a' := ?_) (B_ 13 2047) rfl rfl kf_ (fun _ _ _ h => h) (Or.inl ⟨by rfl, ?_⟩) ?_ ?_
 rotate_left
 {
 intro w'
 go_simp
 with_reducible rfl}
 rotate_left
 {
 exact sp_}
 refine one_ (i := 11) (N := none) (B_ 13 4095) rfl rfl kf_ (by decide) (fun K hK => ?_)
 refine skip_ (w1 := ?_) (by rfl) rfl ?_ ?_
 rotate_left
 {
 go_simp
 rfl}
 refine hK.out _ _ ⟨((cell_far (p := ⟨a0, 1, none⟩) (show h0 ≠ a0 from hne) _).trans ((cell_far (p := ⟨a0, 0, none⟩) (show h0 ≠ a0 from hne) _).trans hHeld.1)), ((cell_far (p := ⟨a0, 1, none⟩) (show h0 ≠ a0 from hne) _).trans ((cell_far (p := ⟨a0, 0, none⟩) (show h0 ≠ a0 from hne) _).trans hHeld.2.1)), ((cell_far (p := ⟨a0, 1, none⟩) (show e0 ≠ a0 from hnd) _).trans ((cell_far (p := ⟨a0, 0, none⟩) (show e0 ≠ a0 from hnd) _).trans hHeld.2.2.1)), ((cell_far (p := ⟨a0, 1, none⟩) (show e0 ≠ a0 from hnd) _).trans ((cell_far (p := ⟨a0, 0, none⟩) (show e0 ≠ a0 from hnd) _).trans hHeld.2.2.2))⟩ (fun hHeld => ?_)
 clear hK K
 refine last_ (i := 12) (N := none) (B_ 13 8191) rfl rfl kf_ (by decide) (fun K hK => ?_)
 refine skip_ (w1 := ?_) (by rfl) rfl ?_ ?_
 rotate_left
 {
 go_simp
 rfl}
 refine hK.out _ _ ?_
 clear hK K
 refine done_ kf_ ?_
 have n1_ : Aside0 (((((E0.setCell ⟨a0, 0, none⟩ (.slice c0 b0.length d0)).setCell ⟨a0, 1, none⟩ (.int .i64 t3)).setCell ⟨e0, 0, none⟩ (.int .u32 (Go.bits .or .u32 (IntKind.u32.wrap (m * 2)) (IntKind.u32.wrap t4)))).setCell ⟨e0, 1, none⟩ (.int .i64 (wrap64 (mm + 1)))).heap[t0]? = some (.cells #[.slice c0 b0.length d0, .int .i64 k0] 81 (0, 0))) := ⟨by have q2_ := Nat.ne_of_lt (Nat.lt_of_lt_of_le LT2.out G0.out); have q3_ := Nat.ne_of_lt (Nat.lt_of_lt_of_le LT2.out H0.out); refine blk_far ?_ q3_ _; refine blk_far ?_ q3_ _; refine blk_far ?_ q2_ _; refine blk_far ?_ q2_ _; exact i0.out⟩
 have n2_ : Aside0 (((((E0.setCell ⟨a0, 0, none⟩ (.slice c0 b0.length d0)).setCell ⟨a0, 1, none⟩ (.int .i64 t3)).setCell ⟨e0, 0, none⟩ (.int .u32 (Go.bits .or .u32 (IntKind.u32.wrap (m * 2)) (IntKind.u32.wrap t4)))).setCell ⟨e0, 1, none⟩ (.int .i64 (wrap64 (mm + 1)))).heap[F0]? = some (.cells #[.slice none 0 0, .int .i64 0] 81 (0, 0))) := ⟨by have q2_ := Nat.ne_of_lt (Nat.lt_of_lt_of_le LT4.out G0.out); have q3_ := Nat.ne_of_lt (Nat.lt_of_lt_of_le LT4.out H0.out); refine blk_far ?_ q3_ _; refine blk_far ?_ q3_ _; refine blk_far ?_ q2_ _; refine blk_far ?_ q2_ _; exact j0.out⟩
 have n3_ : Aside0 (((((E0.setCell ⟨a0, 0, none⟩ (.slice c0 b0.length d0)).setCell ⟨a0, 1, none⟩ (.int .i64 t3)).setCell ⟨e0, 0, none⟩ (.int .u32 (Go.bits .or .u32 (IntKind.u32.wrap (m * 2)) (IntKind.u32.wrap t4)))).setCell ⟨e0, 1, none⟩ (.int .i64 (wrap64 (mm + 1)))).heap[a0]? = some (.cells #[.slice c0 b0.length d0, .int .i64 t3] 81 (0, 0))) := ⟨by refine blk_far ?_ hnd' _; refine blk_far ?_ hnd' _; refine blk_put (cs := #[.slice c0 b0.length d0, .int .i64 x]) ?_ 1 _ rfl; refine blk_put (cs := #[.slice c0 b0.length d0, .int .i64 x]) ?_ 0 _ rfl; exact g0.out⟩
 have n4_ : Aside0 (((((E0.setCell ⟨a0, 0, none⟩ (.slice c0 b0.length d0)).setCell ⟨a0, 1, none⟩ (.int .i64 t3)).setCell ⟨e0, 0, none⟩ (.int .u32 (Go.bits .or .u32 (IntKind.u32.wrap (m * 2)) (IntKind.u32.wrap t4)))).setCell ⟨e0, 1, none⟩ (.int .i64 (wrap64 (mm + 1)))).heap[e0]? = some (.cells #[.int .u32 (Go.bits .or .u32 (IntKind.u32.wrap (m * 2)) (IntKind.u32.wrap t4)), .int .i64 (wrap64 (mm + 1))] 122 (0, 0))) := ⟨by refine blk_put (cs := #[.int .u32 (Go.bits .or .u32 (IntKind.u32.wrap (m * 2)) (IntKind.u32.wrap t4)), .int .i64 mm]) ?_ 1 _ rfl; refine blk_put (cs := #[.int .u32 m, .int .i64 mm]) ?_ 0 _ rfl; refine blk_far ?_ hnd _; refine blk_far ?_ hnd _; exact f0.out⟩
 have n6_ : Aside0 (Fa_.Own ((((E0.setCell ⟨a0, 0, none⟩ (.slice c0 b0.length d0)).setCell ⟨a0, 1, none⟩ (.int .i64 t3)).setCell ⟨e0, 0, none⟩ (.int .u32 (Go.bits .or .u32 (IntKind.u32.wrap (m * 2)) (IntKind.u32.wrap t4)))).setCell ⟨e0, 1, none⟩ (.int .i64 (wrap64 (mm + 1)))) w8.heap.size l1.length (Fa_.tab t1 l1 l1.length)) := ⟨by have q2_ := Nat.ne_of_lt (Nat.lt_of_lt_of_le LTM.out G0.out); have q3_ := Nat.ne_of_lt (Nat.lt_of_lt_of_le LTM.out H0.out); refine Fa_.own_far ?_ q3_ _; refine Fa_.own_far ?_ q3_ _; refine Fa_.own_far ?_ q2_ _; refine Fa_.own_far ?_ q2_ _; exact HMw.out⟩
 have n7_ : Aside0 (Below W2.heap.size W2 ((((E0.setCell ⟨a0, 0, none⟩ (.slice c0 b0.length d0)).setCell ⟨a0, 1, none⟩ (.int .i64 t3)).setCell ⟨e0, 0, none⟩ (.int .u32 (Go.bits .or .u32 (IntKind.u32.wrap (m * 2)) (IntKind.u32.wrap t4)))).setCell ⟨e0, 1, none⟩ (.int .i64 (wrap64 (mm + 1))))) := ⟨below_set (below_set (below_set (below_set HB2.out G0.out) G0.out) H0.out) H0.out⟩
 have n8_ : Aside0 (Below w.heap.size w ((((E0.setCell ⟨a0, 0, none⟩ (.slice c0 b0.length d0)).setCell ⟨a0, 1, none⟩ (.int .i64 t3)).setCell ⟨e0, 0, none⟩ (.int .u32 (Go.bits .or .u32 (IntKind.u32.wrap (m * 2)) (IntKind.u32.wrap t4)))).setCell ⟨e0, 1, none⟩ (.int .i64 (wrap64 (mm + 1))))) := ⟨by have q2_ := Nat.le_trans (below_size HB.out) G0.out; have q3_ := Nat.le_trans (below_size HB.out) H0.out; exact below_set (below_set (below_set (below_set HBw.out q2_) q2_) q3_) q3_⟩
 clear i0 j0 g0 f0 n0 HMw HB2 HBw o0 p0 q0 r0 A0 B0 C0 D0 hHeld
 have i0 := n1_
 have j0 := n2_
 have g0 := n3_
 have f0 := n4_
 have HMw := n6_
 have HB2 := n7_
 have HBw := n8_
 clear n1_ n2_ n3_ n4_ n6_ n7_ n8_
 generalize ((((E0.setCell ⟨a0, 0, none⟩ (.slice c0 b0.length d0)).setCell ⟨a0, 1, none⟩ (.int .i64 t3)).setCell ⟨e0, 0, none⟩ (.int .u32 (Go.bits .or .u32 (IntKind.u32.wrap (m * 2)) (IntKind.u32.wrap t4)))).setCell ⟨e0, 1, none⟩ (.int .i64 (wrap64 (mm + 1)))) = wv at i0 j0 g0 f0 HMw HB2 HBw ⊢
 have hmw : wrap64 (mm + 1) = 16 - (d : Int) := by (
 have := HMM.out
 have := HD16.out
 unfold wrap64; omega)
 rw [hmw] at f0
 have H := b1.out
 clear b1
 obtain ⟨nb, hnb_⟩ : ∃ nb : Int, (Go.bits .or .u32 (IntKind.u32.wrap (m * 2)) (IntKind.u32.wrap t4)) = nb := ⟨_, rfl⟩
 have CN' := CN.out
 rw [hnb_] at H f0 CN'
 have CNb := a_ CN'
 clear CN CN'
 obtain ⟨q, hq⟩ : ∃ q : Int, 16 - (d : Int) = q := ⟨_, rfl⟩
 rw [hq] at H f0
 have HQ := a_ hq
 clear hmw hq
 obtain ⟨kl, hkl⟩ := Fa_.key (Fa_.wf32 CNb.out) (Fa_.wf64 (x := q) (by have := HD16.out; have := HQ.out; omega))
 obtain ⟨D, hown, htell⟩ := HMw.out
 have HOW := a_ hown
 have HKL := a_ hkl
 have HT := a_ htell
 clear hown hkl htell
 have o0 : wv.cell? ⟨a0, 0, none⟩ = some (.slice c0 b0.length d0) := ce_ g0 0
 have p0 : wv.cell? ⟨a0, 1, none⟩ = some (.int .i64 t3) := ce_ g0 1
 have q0 : wv.cell? ⟨e0, 0, none⟩ = some (.int .u32 nb) := ce_ f0 0
 have r0 : wv.cell? ⟨e0, 1, none⟩ = some (.int .i64 q) := ce_ f0 1
 have l0 : wv.cell? ⟨t0, 0, none⟩ = some (.slice c0 b0.length d0) := ce_ i0 0
 have m0 : wv.cell? ⟨t0, 1, none⟩ = some (.int .i64 k0) := ce_ i0 1
 obtain ⟨v0, w0, y0, z0⟩ := e2_ j0
 replace H := ii_ H
 rcases H with ⟨cl, H⟩ | ⟨cl, H⟩
 {
 have hhas : Maps.has D kl = true := (HT.out.1 nb q kl HKL.out).1.trans cl
 have HAT := a_ (HT.out.1 nb q kl HKL.out).2
 simp only [Option.some.injEq, Prod.mk.injEq] at H
 obtain ⟨rfl, rfl, rfl⟩ := H
 clear cl
 go_wp2_with (first | (at_lookup; refine wpList_lookup_own_ok_int _ rfl _ _ 120 rfl 122 3 .i64 Fa_.law Try.underlying120 Try.underlying3 (Fa_.zeroE _) w8.heap.size l1.length D rfl HOW.out _ kl rfl HKL.out ?_; intro c hat hwc; obtain rfl : (Fa_.look (Fa_.tab t1 l1 l1.length) nb q).getD 0 = c := (by have h_ := HAT.out.symm.trans hat; simpa using h_); clear hat hwc) | go_in)
 refine bodyPost_ret (results_ctt rfl _ _ F0 81 #[.slice c0 b0.length d0, .int .i64 t3] (0, 0) _ rfl (bp_ j0) Try.underlying81 rfl kf_) rfl ?_
 exact ⟨es_, by repeat (first | (with_reducible first | exact HBw.out | apply below_alloc | apply pw_below_drewN | apply below_drew1 | refine below_set ?_ K0.out | refine below_set ?_ L0.out) | exact HBw.out)⟩}
 {
 have hhas : Maps.has D kl = false := (HT.out.1 nb q kl HKL.out).1.trans (by simpa using cl)
 replace H := ii_ H
 rcases H with ⟨cz, H⟩ | ⟨cz, H⟩
 {
 have czb : (((Maps.size D : Nat) : Int) == 1) = true := by rw [HT.out.2, cz]; rfl
 simp only [Option.some.injEq, Prod.mk.injEq] at H
 obtain ⟨rfl, rfl, rfl⟩ := H
 clear cl cz
 go_wp2_with (first | (at_lookup; refine wpList_lookup_own_ok_int _ rfl _ _ 120 rfl 122 3 .i64 Fa_.law Try.underlying120 Try.underlying3 (Fa_.zeroE _) w8.heap.size l1.length D rfl HOW.out _ kl rfl HKL.out ?_; intro c hat hwc; clear hat hwc) | (at_len; refine wpList_len_own _ rfl _ 120 rfl 122 3 Try.underlying120 (plainElem Try.prog 3) w8.heap.size l1.length D rfl HOW.out ?_) | go_in)
 refine bodyPost_ret (results_ctt rfl _ _ F0 81 #[.slice c0 b0.length d0, .int .i64 k0] (0, 0) _ rfl (bp_ j0) Try.underlying81 rfl kf_) rfl ?_
 exact ⟨es_, by repeat (first | (with_reducible first | exact HBw.out | apply below_alloc | apply pw_below_drewN | apply below_drew1 | refine below_set ?_ K0.out | refine below_set ?_ L0.out) | exact HBw.out)⟩}
 {
 have czb : (((Maps.size D : Nat) : Int) == 1) = false := by rw [beq_eq_false_iff_ne, HT.out.2]; omega
 have HGO := a_ H
 clear H cl cz
 go_wp2_with (first | (at_lookup; refine wpList_lookup_own_ok_int _ rfl _ _ 120 rfl 122 3 .i64 Fa_.law Try.underlying120 Try.underlying3 (Fa_.zeroE _) w8.heap.size l1.length D rfl HOW.out _ kl rfl HKL.out ?_; intro c hat hwc; clear hat hwc) | (at_len; refine wpList_len_own _ rfl _ 120 rfl 122 3 Try.underlying120 (plainElem Try.prog 3) w8.heap.size l1.length D rfl HOW.out ?_) | go_in)
 go_roundg d
 case measure => omega
 case rel => exact ⟨t3, nb, q, ⟨HQ.out.symm⟩, ⟨by have := HD16.out; omega⟩, HGO, ⟨by repeat (first | exact g0.out | apply blk_drew)⟩, ⟨by repeat (first | exact f0.out | apply blk_drew)⟩, ⟨by repeat (first | exact HB2.out | apply below_drew1)⟩⟩}}}
 {
 rw [if_neg c5] at H
 have d1 : (t5 == 0) = false := beq_eq_false_iff_ne.mpr c5
 have f1 : (t5 != 0) = true := bne_iff_ne.mpr c5
 simp only [Option.some.injEq, Prod.mk.injEq] at H
 obtain ⟨rfl, rfl, rfl⟩ := H
 go_wp2
 refine bodyPost_ret (results_ctt rfl _ _ F0 81 #[.slice c0 b0.length d0, .int .i64 k0] (0, 0) _ rfl (bp_ j0) Try.underlying81 rfl kf_) rfl ?_
 exact ⟨es_, by repeat (first | (with_reducible first | exact HBw.out | apply below_alloc | apply pw_below_drewN | apply below_drew1 | refine below_set ?_ K0.out | refine below_set ?_ L0.out) | exact HBw.out)⟩})))
 | succ g => (
 have cjb : decide ((j : Int) < (l1.length : Int)) = true := decide_eq_true (by omega)
 obtain ⟨hfc, hfl, hfj⟩ := HFIT.out
 have p1 : 0 ≤ (j : Int) := by omega
 have q1 : (j : Int) < (l1.length : Int) := by omega
 have q2 : (j : Int) < (t1.length : Int) := by omega
 obtain ⟨hwc, hwn, hwj⟩ := hfj j (by omega)
 clear hfc hfl hfj
 obtain ⟨kl, hkl⟩ := Fa_.key hwc hwn
 obtain ⟨D, hown, htell⟩ := HM.out
 have HT := a_ htell
 have HOW := a_ hown
 have HKL := a_ hkl
 have HWJ := a_ hwj
 clear htell hown hkl hwc hwn hwj
 have hjm : j < maxLen := by have := HFIT.out.2.1; unfold maxLen; omega
 have HJM := a_ hjm
 clear hjm
 obtain ⟨v1, e1, M0⟩ := Kd.at_int V0.out (j : Int) p1 q1
 cases e1
 obtain ⟨y1, e2, N0⟩ := Kd.at_int HOC.out (j : Int) p1 q2
 cases e2
 replace M0 := (HBa.out.cell (World.block_lt_of_cell? w _ M0)).trans M0
 replace N0 := (HB8.out.cell (World.block_lt_of_cell? w8 _ N0)).trans N0
 rw [Int.toNat_natCast] at M0 N0
 replace p1 := eq_true p1
 replace q1 := eq_true q1
 replace q2 := eq_true q2
 by_cases cu : rd l1 (j : Int) > 0
 {
 have cub : decide (0 < rd l1 (j : Int)) = true := decide_eq_true cu
 have HCU := a_ cu
 clear cu
 go_wp2_with (first | (at_mapUpdate; refine wpList_mapUpdate_own _ rfl _ _ _ 120 rfl 122 3 Fa_.law Try.underlying120 (plainElem Try.prog 3) w8.heap.size j D rfl HOW.out HJM.out _ _ kl rfl rfl HKL.out (.lit (.int .i64 (j : Int))) [] (plainElem_int Try.underlying3 HWJ.out) ?_; intro w9 hown1 hgrow1) | go_in)
 go_roundg g
 case measure => omega
 case rel => (
 refine ⟨j + 1, by omega, by (have := HFIT.out.2.1; simp; unfold wrap64; omega), ⟨⟨_, hown1, ?_⟩⟩, ⟨HB8.out.grown hgrow1 (below_size HB8.out) (fun k_ hk => by cases hk; exact Nat.le_refl _)⟩⟩
 have e : Fa_.tab t1 l1 (j + 1) = (rd t1 (j : Int), rd l1 (j : Int), (j : Int)) :: Fa_.tab t1 l1 j := if_pos HCU.out
 rw [e]
 exact Fa_.tells_put HT.out (HOW.out.tidy Fa_.law) HKL.out)}
 {
 have cub : decide (0 < rd l1 (j : Int)) = false := decide_eq_false cu
 have HCU := a_ cu
 clear cu
 go_wp2
 go_roundg g
 case measure => omega
 case rel => (
 have e : Fa_.tab t1 l1 (j + 1) = Fa_.tab t1 l1 j := if_neg (by have := HCU.out; omega)
 refine ⟨j + 1, by omega, by (have := HFIT.out.2.1; simp; unfold wrap64; omega), ⟨⟨D, HOW.out.mono (Nat.le_succ j), by rw [e]; exact HT.out⟩⟩, ⟨by repeat (first | exact HB8.out | apply pw_below_drewN | apply below_drew1)⟩⟩)}))}}
 {
 simp only [Option.some.injEq, Prod.mk.injEq] at H
 obtain ⟨rfl, rfl, rfl⟩ := H
 go_wp2
 refine bodyPost_ret (results_ctt rfl _ _ F0 81 #[.slice c0 b0.length d0, .int .i64 k0] (0, 0) _ rfl (bp_ j0) Try.underlying81 rfl kf_) rfl ?_
 exact ⟨es_, bl_ HB⟩}
mutual
def FE_.j0 : Nat → Int → Int → Bool → List Int → Int → Option (Int × Int × Int)
  | 0, _, _, _, _, _ => none
  | k + 1, x7, x8, e0, b0, d0 => if e0 = true then (some (d0, wrap64 (x7 - 7), x8)) else ((Fp_.f k b0 d0 1).bind fun c0 => ((Fp_.f k b0 c0.1 22).bind fun a0 => (if c0.2.2 = 0 then (if a0.2.2 = 0 then (if c0.2.1 = 1 then (FE_.j1 k c0.2.1 a0.2.1 (a0.2.1 == 0) b0 a0.1) else (FE_.j1 k c0.2.1 a0.2.1 false b0 a0.1)) else (some (a0.1, 0, a0.2.2))) else (some (a0.1, 0, c0.2.2)))))
def FE_.j1 : Nat → Int → Int → Bool → List Int → Int → Option (Int × Int × Int)
  | 0, _, _, _, _, _ => none
  | k + 1, x9, b0, d0, c0, a0 => if d0 = true then (some (a0, 0, 2)) else (if x9 = 1 then (some (a0, wrap64 (-(wrap64 (b0))), 0)) else (some (a0, wrap64 (b0), 0)))
end
def FE_.f (k : Nat) (b0 : List Int) (c0 : Int) (l1 : List Int) : Option (Int × Int × Int) := (Fa_.f k b0 c0 l1).bind fun a0 => (if a0.2.2 = 0 then (FE_.j0 k a0.2.1 a0.2.2 (a0.2.1 != 15) b0 a0.1) else (FE_.j0 k a0.2.1 a0.2.2 true b0 a0.1))
theorem FE_.mono_l : ∀ k, (∀ y0 y1 y2 y3 y4, LeO (FE_.j0 k y0 y1 y2 y3 y4) (FE_.j0 (k + 1) y0 y1 y2 y3 y4)) ∧ (∀ y0 y1 y2 y3 y4, LeO (FE_.j1 k y0 y1 y2 y3 y4) (FE_.j1 (k + 1) y0 y1 y2 y3 y4))
  | 0 => ⟨fun _ _ _ _ _ r h => by simp [FE_.j0] at h, fun _ _ _ _ _ r h => by simp [FE_.j1] at h⟩
  | k + 1 => by
    obtain ⟨a0, b0⟩ := FE_.mono_l k
    refine ⟨?_, ?_⟩
    all_goals (intros; first | unfold FE_.j0 | unfold FE_.j1)
    all_goals with_reducible repeat' first
     | apply a0
     | exact b0 _ _ _ _ _
     | apply Fp_.mono
     | apply Fa_.mono
     | exact LeO.refl _
     | exact LeO.none _
     | refine LeO.ite ?_ ?_
     | refine LeO.bind ?_ (fun _ => ?_)
theorem FE_.mono : ∀ a0 a1 a2 k, LeO (FE_.f k a0 a1 a2) (FE_.f (k + 1) a0 a1 a2) := by
  intro a0 a1 a2 k
  obtain ⟨b0, c0⟩ := FE_.mono_l k
  unfold FE_.f
  with_reducible repeat' first
   | apply b0
   | exact c0 _ _ _ _ _
   | apply Fp_.mono
   | apply Fa_.mono
   | exact LeO.refl _
   | exact LeO.none _
   | refine LeO.ite ?_ ?_
   | refine LeO.bind ?_ (fun _ => ?_)
theorem FE_.calls (k : Nat) (d0 : Option Addr) (e0 : Nat) (c0 : List Int) (t0 : Int) (A1 : Option Addr) (c1 : Nat) (l1 : List Int) (r1 : Int) (r2 : Int) (r3 : Int) (w : World) (hr0_0 : Kd.C (Kd.int .u8) w d0 c0.length c0) (hc0_0 : c0.length ≤ e0) (hr1 : Kd.C (Kd.int .i64) w A1 l1.length l1) (hc1 : l1.length ≤ c1) (h : FE_.f k c0 t0 l1 = some (r1, r2, r3)) :
    Calls Try.prog 49 #[.agg #[.slice d0 c0.length e0, .int .i64 t0], .slice A1 l1.length c1] w fun e w' => e = .returned (.tuple #[.agg #[.slice d0 c0.length e0, .int .i64 r1], .int .i64 r2, .int .i64 r3]) ∧ Below w.heap.size w w' := by
 have i3 := Try.underlying81
 have n0 := a_ hr0_0
 have o0 := a_ hc0_0
 clear hr0_0 hc0_0
 have M2 := a_ hr1
 have N2 := a_ hc1
 clear hr1 hc1
 have HB := a_ (Below.refl w.heap.size w)
 have H : ((Fa_.f k c0 t0 l1).bind fun i0 => (if i0.2.2 = 0 then (FE_.j0 k i0.2.1 i0.2.2 (i0.2.1 != 15) c0 i0.1) else (FE_.j0 k i0.2.1 i0.2.2 true c0 i0.1))) = some (r1, r2, r3) := h
 clear h
 obtain ⟨⟨l0, I0, e1⟩, A3, H⟩ := ob_ H
 (try dsimp only at H)
 have f1 := a_ H
 clear H
 go_enter Try.func49, Try.ntmps49
 go_upto_region 2 with (first | ((with_reducible refine gate_dst (N := 2) rfl ?_); refine bx_ HB 2 #[.slice d0 c0.length e0, .int .i64 t0] 81 ?_; clear HB; intro p0 hg w5 hb a0 k1 HB; have S2 := k1; clear hb hg) | ((with_reducible refine gate_dst (N := 4) rfl ?_); refine bx_ HB 4 #[.slice none 0 0, .int .i64 0] 81 ?_; clear HB; intro k0 hg w6 hb b0 m1 HB; have T2 := m1; obtain ⟨f0, g0⟩ := NN_ a0 hg; replace a0 := FB_ a0 hb; clear hb hg; have j3 := f0.out; have k3 := g0.out; obtain ⟨D0, E0, F0, G0⟩ := e2_ a0) | ((with_reducible refine gate_callee (f := 48) rfl ?_); refine gL_ (some 15) Try.func48 #[.agg #[.slice d0 c0.length e0, .int .i64 t0], .slice A1 l1.length c1] ?_; (with_reducible refine (Fa_.calls k _ _ c0 t0 _ _ l1 l0 I0 e1 _ ?side1 ?side2 ?side3 ?side4 A3.out).mono ?_); (case side1 => exact kC_ n0 HB); (case side2 => exact o0.out); (case side3 => exact kC_ M2 HB); (case side4 => exact N2.out); rintro e w9 ⟨rfl, hb⟩; refine ⟨_, rfl, ?_⟩; replace a0 := FB_ a0 hb; replace b0 := FB_ b0 hb; replace HB := BS_ HB hb; (try clear hb); obtain ⟨y0, z0, A0, B0⟩ := e2_ a0))
 (try simp only [Act.put, List.setIfInBounds_toArray, List.set_cons_zero, List.set_cons_succ])
 go_cut [24] (fun O2 wc => ∃ (kq : Nat) (v0 : Bool), O2 = .bool v0 ∧ Aside0 (FE_.j0 kq I0 e1 v0 c0 l0 = some (r1, r2, r3)) ∧ Aside0 (kq ≤ k) ∧ Aside0 (wc.heap[p0]? = some (.cells #[(.slice d0 c0.length e0), .int .i64 l0] 81 (0, 0))) ∧ Aside0 (wc.heap[k0]? = some (.cells #[(.slice none 0 0), .int .i64 0] 81 (0, 0))) ∧ Aside0 (Below w.heap.size w wc))
 case first => (
 have H := f1.out
 clear f1
 replace H := ie_ H
 rcases H with ⟨q0, n1, H⟩ | ⟨l3, q0, n1, H⟩
 {
 (first | rw [q0] | (simp only [i64_w, i32_w]; rw [q0]) | skip)
 have H' := a_ H
 clear H
 go_wp2
 go_meet
 case rel => exact ⟨_, ((I0 != 15)), rs_, H', ⟨ol_⟩, ⟨bp_ a0⟩, ⟨bk_ b0⟩, ⟨bl_ HB⟩⟩}
 {
 (first | rw [q0] | (simp only [i64_w, i32_w]; rw [q0]) | skip)
 have H' := a_ H
 clear H
 go_wp2
 go_meet
 case rel => exact ⟨_, (true), rs_, H', ⟨ol_⟩, ⟨bp_ a0⟩, ⟨bk_ b0⟩, ⟨bl_ HB⟩⟩})
 case rest => (
 clear f1
 try clear c1
 try clear y0 z0 A0 B0
 try clear D0 E0 F0 G0
 obtain ⟨kq, v0, rfl, HA, HJ3, a0, b0, HB⟩ := hcut
 cases kq with
 | zero => exact absurd HA.out (by simp [FE_.j0])
 | succ kj3 => (
 have H := HA.out
 clear HA
 simp only [FE_.j0] at H
 by_cases H0 : v0 = true
 {
 subst H0
 rw [if_pos rfl] at H
 simp only [Option.some.injEq, Prod.mk.injEq] at H
 obtain ⟨rfl, rfl, rfl⟩ := H
 have U2 := f0.out
 have V2 := g0.out
 obtain ⟨s1, t1, v1, y1⟩ := e2_ a0
 obtain ⟨z1, B1, C1, D1⟩ := e2_ b0
 go_wp2
 refine bodyPost_ret (results_ctt rfl _ _ k0 81 #[.slice d0 c0.length e0, .int .i64 l0] (0, 0) _ rfl (bp_ b0) Try.underlying81 rfl kf_) rfl ?_
 exact ⟨er_, bl_ HB⟩}
 {
 replace H0 := Bool.eq_false_iff.mpr H0
 subst H0
 rw [if_neg (show ¬ (false = true) by decide)] at H
 obtain ⟨⟨h0, C0, J0⟩, h1, H⟩ := ob_ H
 (try dsimp only at H)
 obtain ⟨⟨m0, w0, K0⟩, i1, H⟩ := ob_ H
 (try dsimp only at H)
 replace H := ie_ H
 rcases H with ⟨M0, N0, H⟩ | ⟨P2, M0, N0, H⟩
 {
 replace H := ie_ H
 rcases H with ⟨O0, P0, H⟩ | ⟨Q2, O0, P0, H⟩
 {
 have L0 := a_ H
 clear H
 have W2 := f0.out
 have X2 := g0.out
 obtain ⟨R0, S0, T0, U0⟩ := e2_ a0
 go_upto_region 10 with (first | ((with_reducible refine gate_callee (f := 47) rfl ?_); refine gL_ (some 31) Try.func47 #[.agg #[.slice d0 c0.length e0, .int .i64 l0], .int .i64 1] ?_; (with_reducible refine (Fp_.calls kj3 _ _ c0 l0 1 h0 C0 J0 _ ?side1 ?side2 h1.out).mono ?_); (case side1 => exact kC_ n0 HB); (case side2 => exact o0.out); rintro e m3 ⟨rfl, hb⟩; refine ⟨_, rfl, ?_⟩; replace a0 := FB_ a0 hb; replace b0 := FB_ b0 hb; replace HB := BS_ HB hb; (try clear hb); obtain ⟨V0, W0, X0, Y0⟩ := e2_ a0) | ((with_reducible refine gate_callee (f := 47) rfl ?_); refine gL_ (some 37) Try.func47 #[.agg #[.slice d0 c0.length e0, .int .i64 h0], .int .i64 22] ?_; (with_reducible refine (Fp_.calls kj3 _ _ c0 h0 22 m0 w0 K0 _ ?side1 ?side2 i1.out).mono ?_); (case side1 => exact Kd.C_below n0.out (bl_ HB)); (case side2 => exact o0.out); rintro e n3 ⟨rfl, hb⟩; refine ⟨_, rfl, ?_⟩; replace a0 := a_ (blk_below (g := p0) (o := .cells #[.slice d0 c0.length e0, .int .i64 h0] 81 (0, 0)) (bp_ a0) hb); replace b0 := FB_ b0 hb; replace HB := BS_ HB hb; (try clear hb); obtain ⟨Z0, a1, b1, d1⟩ := e2_ a0))
 (try simp only [Act.put, List.setIfInBounds_toArray, List.set_cons_zero, List.set_cons_succ])
 go_cut [51] (fun R2 wc => ∃ (kq : Nat) (r0 : Bool), R2 = .bool r0 ∧ Aside0 (FE_.j1 kq C0 w0 r0 c0 m0 = some (r1, r2, r3)) ∧ Aside0 (kq ≤ kj3) ∧ Aside0 (wc.heap[p0]? = some (.cells #[(.slice d0 c0.length e0), .int .i64 m0] 81 (0, 0))) ∧ Aside0 (wc.heap[k0]? = some (.cells #[(.slice none 0 0), .int .i64 0] 81 (0, 0))) ∧ Aside0 (Below w.heap.size w wc))
 case first => (
 have H := L0.out
 clear L0
 replace H := ie_ H
 rcases H with ⟨s0, o1, H⟩ | ⟨o3, s0, o1, H⟩
 {
 (first | rw [s0] | (simp only [i64_w, i32_w]; rw [s0]) | skip)
 have H' := a_ H
 clear H
 go_wp2
 go_meet
 case rel => exact ⟨_, ((w0 == 0)), rs_, H', ⟨by have := HJ3.out; first | omega | exact Nat.le_refl _⟩, ⟨bp_ a0⟩, ⟨bk_ b0⟩, ⟨bl_ HB⟩⟩}
 {
 (first | rw [s0] | (simp only [i64_w, i32_w]; rw [s0]) | skip)
 have H' := a_ H
 clear H
 go_wp2
 go_meet
 case rel => exact ⟨_, (false), rs_, H', ⟨by have := HJ3.out; first | omega | exact Nat.le_refl _⟩, ⟨bp_ a0⟩, ⟨bk_ b0⟩, ⟨bl_ HB⟩⟩})
 case rest => (
 clear L0
 try clear c1
 try clear H0
 try clear P2
 try clear M0
 try clear N0
 try clear Q2
 try clear O0
 try clear P0
 try clear y0 z0 A0 B0
 try clear R0 S0 T0 U0
 try clear V0 W0 X0 Y0
 try clear Z0 a1 b1 d1
 try clear D0 E0 F0 G0
 obtain ⟨kq, r0, rfl, HA, HJ19, a0, b0, HB⟩ := hcut
 cases kq with
 | zero => exact absurd HA.out (by simp [FE_.j1])
 | succ kj19 => (
 have H := HA.out
 clear HA
 simp only [FE_.j1] at H
 by_cases Q0 : r0 = true
 {
 subst Q0
 rw [if_pos rfl] at H
 simp only [Option.some.injEq, Prod.mk.injEq] at H
 obtain ⟨rfl, rfl, rfl⟩ := H
 have Y2 := f0.out
 have Z2 := g0.out
 obtain ⟨E1, F1, G1, H1⟩ := e2_ a0
 obtain ⟨I1, J1, K1, L1⟩ := e2_ b0
 go_wp2
 refine bodyPost_ret (results_ctt rfl _ _ k0 81 #[.slice d0 c0.length e0, .int .i64 m0] (0, 0) _ rfl (bp_ b0) Try.underlying81 rfl kf_) rfl ?_
 exact ⟨er_, bl_ HB⟩}
 {
 replace Q0 := Bool.eq_false_iff.mpr Q0
 subst Q0
 rw [if_neg (show ¬ (false = true) by decide)] at H
 replace H := ie_ H
 rcases H with ⟨p1, q1, H⟩ | ⟨p3, p1, q1, H⟩
 {
 simp only [Option.some.injEq, Prod.mk.injEq] at H
 obtain ⟨rfl, rfl, rfl⟩ := H
 have a3 := f0.out
 have b3 := g0.out
 obtain ⟨M1, N1, O1, P1⟩ := e2_ a0
 obtain ⟨Q1, R1, S1, T1⟩ := e2_ b0
 go_wp2
 refine bodyPost_ret (results_ctt rfl _ _ k0 81 #[.slice d0 c0.length e0, .int .i64 m0] (0, 0) _ rfl (bp_ b0) Try.underlying81 rfl kf_) rfl ?_
 exact ⟨er_, bl_ HB⟩}
 {
 simp only [Option.some.injEq, Prod.mk.injEq] at H
 obtain ⟨rfl, rfl, rfl⟩ := H
 have c3 := f0.out
 have d3 := g0.out
 obtain ⟨U1, V1, W1, X1⟩ := e2_ a0
 obtain ⟨Y1, Z1, a2, b2⟩ := e2_ b0
 go_wp2
 refine bodyPost_ret (results_ctt rfl _ _ k0 81 #[.slice d0 c0.length e0, .int .i64 m0] (0, 0) _ rfl (bp_ b0) Try.underlying81 rfl kf_) rfl ?_
 exact ⟨er_, bl_ HB⟩}}))}
 {
 simp only [Option.some.injEq, Prod.mk.injEq] at H
 obtain ⟨rfl, rfl, rfl⟩ := H
 have e3 := f0.out
 have f3 := g0.out
 obtain ⟨c2, d2, e2, f2⟩ := e2_ a0
 go_wp2_with (first | ((with_reducible refine gate_callee (f := 47) rfl ?_); refine gL_ (some 31) Try.func47 #[.agg #[.slice d0 c0.length e0, .int .i64 l0], .int .i64 1] ?_; (with_reducible refine (Fp_.calls kj3 _ _ c0 l0 1 h0 C0 J0 _ ?side1 ?side2 h1.out).mono ?_); (case side1 => exact kC_ n0 HB); (case side2 => exact o0.out); rintro e q3 ⟨rfl, hb⟩; refine ⟨_, rfl, ?_⟩; replace a0 := FB_ a0 hb; replace b0 := FB_ b0 hb; replace HB := BS_ HB hb; (try clear hb); obtain ⟨g2, h2, i2, j2⟩ := e2_ a0) | ((with_reducible refine gate_callee (f := 47) rfl ?_); refine gL_ (some 37) Try.func47 #[.agg #[.slice d0 c0.length e0, .int .i64 h0], .int .i64 22] ?_; (with_reducible refine (Fp_.calls kj3 _ _ c0 h0 22 m0 w0 K0 _ ?side1 ?side2 i1.out).mono ?_); (case side1 => exact Kd.C_below n0.out (bl_ HB)); (case side2 => exact o0.out); rintro e s3 ⟨rfl, hb⟩; refine ⟨_, rfl, ?_⟩; replace a0 := a_ (blk_below (g := p0) (o := .cells #[.slice d0 c0.length e0, .int .i64 h0] 81 (0, 0)) (bp_ a0) hb); replace b0 := FB_ b0 hb; replace HB := BS_ HB hb; (try clear hb); obtain ⟨k2, l2, m2, n2⟩ := e2_ a0; obtain ⟨p2, q2, s2, t2⟩ := e2_ b0))
 refine bodyPost_ret (results_ctt rfl _ _ k0 81 #[.slice d0 c0.length e0, .int .i64 m0] (0, 0) _ rfl (bp_ b0) Try.underlying81 rfl kf_) rfl ?_
 exact ⟨er_, bl_ HB⟩}}
 {
 simp only [Option.some.injEq, Prod.mk.injEq] at H
 obtain ⟨rfl, rfl, rfl⟩ := H
 have g3 := f0.out
 have h3 := g0.out
 obtain ⟨v2, w2, y2, z2⟩ := e2_ a0
 go_wp2_with (first | ((with_reducible refine gate_callee (f := 47) rfl ?_); refine gL_ (some 31) Try.func47 #[.agg #[.slice d0 c0.length e0, .int .i64 l0], .int .i64 1] ?_; (with_reducible refine (Fp_.calls kj3 _ _ c0 l0 1 h0 C0 J0 _ ?side1 ?side2 h1.out).mono ?_); (case side1 => exact kC_ n0 HB); (case side2 => exact o0.out); rintro e t3 ⟨rfl, hb⟩; refine ⟨_, rfl, ?_⟩; replace a0 := FB_ a0 hb; replace b0 := FB_ b0 hb; replace HB := BS_ HB hb; (try clear hb); obtain ⟨A2, B2, C2, D2⟩ := e2_ a0) | ((with_reducible refine gate_callee (f := 47) rfl ?_); refine gL_ (some 37) Try.func47 #[.agg #[.slice d0 c0.length e0, .int .i64 h0], .int .i64 22] ?_; (with_reducible refine (Fp_.calls kj3 _ _ c0 h0 22 m0 w0 K0 _ ?side1 ?side2 i1.out).mono ?_); (case side1 => exact Kd.C_below n0.out (bl_ HB)); (case side2 => exact o0.out); rintro e v3 ⟨rfl, hb⟩; refine ⟨_, rfl, ?_⟩; replace a0 := a_ (blk_below (g := p0) (o := .cells #[.slice d0 c0.length e0, .int .i64 h0] 81 (0, 0)) (bp_ a0) hb); replace b0 := FB_ b0 hb; replace HB := BS_ HB hb; (try clear hb); obtain ⟨E2, F2, G2, H2⟩ := e2_ a0; obtain ⟨I2, J2, K2, L2⟩ := e2_ b0))
 refine bodyPost_ret (results_ctt rfl _ _ k0 81 #[.slice d0 c0.length e0, .int .i64 m0] (0, 0) _ rfl (bp_ b0) Try.underlying81 rfl kf_) rfl ?_
 exact ⟨er_, bl_ HB⟩}}))
end Go.Proofs.Ytdajlfijkbafiaa.P
