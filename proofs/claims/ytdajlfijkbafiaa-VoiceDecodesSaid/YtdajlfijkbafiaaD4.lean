/- Words, walks and what they compute, as the law's proof needs them. -/
import Derived.Test.YtdajlfijkbafiaaD3
set_option linter.unusedVariables false
set_option linter.unusedSimpArgs false
namespace Go.Proofs.Ytdajlfijkbafiaa.P
open Go.RowKit Go.Proofs.YtdajlfijkbafiaaW.PrintWords Go.Proofs.YtdajlfijkbafiaaW.PrintLast Go.Proofs.YtdajlfijkbafiaaW.PrintMore
attribute [local go_sem] max2_int min2_int max_two min_two max_three min_three max_four min_four
mutual
def floor_Line.l0 : Nat → List Int → List Int → Int → Option (List Int × Int)
  | 0, _, _, _ => none
  | k + 1, x0, x4, a0 => if a0 < 5 then ((floor_At.f a0).bind fun b0 => ((floor_At.f (wrap64 (a0 + 1))).bind fun c0 => (floor_Line.l1 k x0 x4 a0 b0 c0 b0 a0))) else (some (x4, 0))
def floor_Line.l1 : Nat → List Int → List Int → Int → Int → Int → Int → Int → Option (List Int × Int)
  | 0, _, _, _, _, _, _, _ => none
  | k + 1, x0, x4, x5, x6, x7, x8, a0 => if x8 ≤ x7 then (if 0 ≤ x5 then (if x5 < (x0.length : Int) then (if 0 ≤ (wrap64 (x5 + 1)) then (if (wrap64 (x5 + 1)) < (x0.length : Int) then (if (wrap64 (x7 - x6)) = 0 then (none) else (if 0 ≤ x8 then (if x8 < (x4.length : Int) then (floor_Line.l1 k x0 (x4.set (x8 : Int).toNat (wrap64 ((rd x0 x5) + (wrap64 (Int.tdiv (wrap64 ((wrap64 ((rd x0 (wrap64 (x5 + 1))) - (rd x0 x5))) * (wrap64 (x8 - x6)))) (wrap64 (x7 - x6))))))) x5 x6 x7 (wrap64 (x8 + 1)) a0) else (none)) else (none))) else (none)) else (none)) else (none)) else (none)) else (floor_Line.l0 k x0 x4 (wrap64 (a0 + 1)))
end
def floor_Line.f (k : Nat) (l0 : List Int) : Option (List Int × Int) := (floor_Right.f k l0).bind fun a0 => (if a0 = true then (if 16 ≤ 35184372088832 then (floor_Line.l0 k l0 (List.replicate 16 0) 0) else (none)) else (some (([] : List Int), 1)))
theorem floor_Line.mono_l : ∀ k, (∀ y0 y1 y2, LeO (floor_Line.l0 k y0 y1 y2) (floor_Line.l0 (k + 1) y0 y1 y2)) ∧ (∀ y0 y1 y2 y3 y4 y5 y6, LeO (floor_Line.l1 k y0 y1 y2 y3 y4 y5 y6) (floor_Line.l1 (k + 1) y0 y1 y2 y3 y4 y5 y6))
  | 0 => ⟨fun _ _ _ r h => by simp [floor_Line.l0] at h, fun _ _ _ _ _ _ _ r h => by simp [floor_Line.l1] at h⟩
  | k + 1 => by
    obtain ⟨a0, b0⟩ := floor_Line.mono_l k
    refine ⟨?_, ?_⟩
    all_goals (intros; first | unfold floor_Line.l0 | unfold floor_Line.l1)
    all_goals with_reducible repeat' first
     | exact a0 _ _ _
     | exact b0 _ _ _ _ _ _ _
     | exact floor_Right.mono _ _
     | exact LeO.refl _
     | exact LeO.none _
     | refine LeO.ite ?_ ?_
     | refine LeO.bind ?_ (fun _ => ?_)
theorem floor_Line.mono : ∀ a0 k, LeO (floor_Line.f k a0) (floor_Line.f (k + 1) a0) := by
  intro a0 k
  obtain ⟨b0, c0⟩ := floor_Line.mono_l k
  unfold floor_Line.f
  with_reducible repeat' first
   | exact b0 _ _ _
   | exact c0 _ _ _ _ _ _ _
   | exact floor_Right.mono _ _
   | exact LeO.refl _
   | exact LeO.none _
   | refine LeO.ite ?_ ?_
   | refine LeO.bind ?_ (fun _ => ?_)
def floor_Line.T11 : Bool × List (List Nat × List Nat) := (true, [([], []), ([], []), ([], []), ([], []), ([2, 3], [2, 3]), ([4], [4]), ([], []), ([], []), ([7], [7]), ([6, 8], [6, 8]), ([9], [9]), ([], []), ([], []), ([11, 12], [11, 12]), ([13], [13]), ([10, 14], [10, 14]), ([], []), ([], []), ([16, 17], [16, 17]), ([15, 18], [15, 18]), ([], []), ([], []), ([20, 21], [20, 21]), ([19, 22], [19, 22]), ([5, 23], [5, 23]), ([0, 1, 0, 1, 2, 3, 4, 5, 6, 7, 8, 9, 10, 11, 12, 13, 14, 15, 16, 17, 18, 19, 20, 21, 22, 23, 24], [0, 1]), ([25, 24, 0, 1, 2, 3, 4, 5, 6, 7, 8, 9, 10, 11, 12, 13, 14, 15, 16, 17, 18, 19, 20, 21, 22, 23, 24], [24, 25])])
def floor_Line.B11 : List Nat := [0, 0, 0, 0, 12, 28, 0, 0, 128, 448, 960, 0, 0, 6144, 14336, 32704, 0, 0, 196608, 524224, 0, 0, 3145728, 8388544, 16777212, 33554431, 67108863]
theorem floor_Line.tab11 : rtab .any (opsOf Try.f68 11) = floor_Line.T11 := by kernel_rfl
theorem floor_Line.bits11 : waitsOk floor_Line.T11.2 floor_Line.B11 = true := by kernel_rfl
set_option maxHeartbeats 8000000 in
set_option maxRecDepth 100000 in
theorem floor_Line.calls (k : Nat) (A0 : Option Addr) (c0 : Nat) (l0 : List Int) (r1 : List Int) (r2 : Int) (w : World) (hr0 : Kd.C (Kd.int .i64) w A0 l0.length l0) (hc0 : l0.length ≤ c0) (h : floor_Line.f k l0 = some (r1, r2)) :
    Calls Try.prog 68 #[.slice A0 l0.length c0] w fun e w' => ∃ v0_ : Value, e = .returned (.tuple #[v0_, .int .i64 r2]) ∧ Kd.R (Kd.int .i64) 3 w' w.heap.size (fun _ => True) v0_ r1 ∧ Below w.heap.size w w' := by
 have r0 := a_ hr0
 have Z0 := a_ hc0
 clear hr0 hc0
 have HB := a_ (Below.refl w.heap.size w)
 have H : ((floor_Right.f k l0).bind fun J0 => (if J0 = true then (if 16 ≤ 35184372088832 then (floor_Line.l0 k l0 (List.replicate 16 0) 0) else (none)) else (some (([] : List Int), 1)))) = some (r1, r2) := h
 clear h
 obtain ⟨J0, A2, H⟩ := ob_ H
 (try dsimp only at H)
 replace H := ib_ H
 rcases H with ⟨rfl, H⟩ | ⟨rfl, H⟩
 {
 replace H := gt_ H
 obtain ⟨c4, H⟩ := H
 have K0 := eq_true c4
 have L0 : decide (16 ≤ 35184372088832) = true := decide_eq_true c4
 clear c4
 obtain ⟨a1, n0⟩ : ∃ y_ : List Int, y_ = (List.replicate 16 0) := ⟨_, rfl⟩
 first | replace H := by_ H n0 | rw [← n0] at H
 have D0 := a_ n0
 clear n0
 have H' := a_ H
 clear H
 go_enter Try.func68, Try.ntmps68
 go_wp2_with (first | ((with_reducible refine gate_callee (f := 86) rfl ?_); refine gL_ (some 10) Try.func86 #[.slice A0 l0.length c0] ?_; (with_reducible refine (floor_Right.calls k _ _ l0 true _ ?side1 ?side2 A2.out).mono ?_); (case side1 => repeat (first | exact r0.out | (with_reducible refine Kd.C_alloc ?_ _) | (with_reducible refine Kd.C_drewN ?_ _) | (with_reducible refine Kd.C_drew ?_))); (case side2 => exact Z0.out); rintro e w' ⟨rfl, ⟨nd, rfl⟩⟩; refine ⟨_, rfl, ?_⟩) | ((with_reducible refine gate_dst (N := 12) rfl ?_); refine Kd.R_make (Kd.int .i64) _ 3 rfl (N := 12) rfl 22 _ _ rfl 16 rfl rfl Try.underlying22 (.int .i64 0) 8 info3 rfl (by decide) (by omega) 0 (ok := fun _ => True) (okp := fun _ => True) rfl (fun _ hk => hk) trivial (by omega) (by omega) (Below.refl _ _) (Nat.le_refl _) ?_; intro M0 w5 t0 hb hg_ hnew_; clear hg_ hnew_; (first | rw [← D0.out] at t0 | (simp only [Int.reduceToNat] at t0; rw [← D0.out] at t0)); have U0 := a_ (Kd.R_lower t0 (bs_ HB)); replace HB := BS_ HB hb; clear hb t0))
 go_loopg [13] k (fun kq f1 w' => ∃ (q0 : List Int) (a0 : Int), f1 = .int .i64 a0 ∧ Aside0 (floor_Line.l0 kq l0 q0 a0 = some (r1, r2)) ∧ Aside0 (kq ≤ k) ∧ Aside0 (Kd.R (Kd.int .i64) 3 w' w.heap.size (fun _ => True) M0 q0) ∧ Aside0 (Below w.heap.size w w'))
 case atStart => exact ⟨(a1), (0), rs_, H', ⟨Nat.le_refl _⟩, ⟨kR_ U0⟩, ⟨bl_ HB⟩⟩
 case round => (
 clear H'
 try clear c3
 try clear c4
 try clear K0
 try clear L0
 obtain ⟨q0, a0, rfl, HA, E0, d0, HB⟩ := hrel
 cases gk with
 | zero => exact absurd HA.out (by simp [floor_Line.l0])
 | succ k1 => (
 have H := HA.out
 clear HA
 simp only [floor_Line.l0] at H
 replace H := id_ H
 rcases H with ⟨N0, H⟩ | ⟨N0, H⟩
 {
 obtain ⟨e0, A8, H⟩ := ob_ H
 (try dsimp only at H)
 obtain ⟨g0, A9, H⟩ := ob_ H
 (try dsimp only at H)
 have H' := a_ H
 clear H
 go_wp2_with (first | ((with_reducible refine gate_callee (f := 95) rfl ?_); refine gL_ (some 17) Try.func95 #[.int .i64 a0] ?_; (with_reducible refine (floor_At.calls a0 e0 _ A8.out).mono ?_); rintro e v1 ⟨rfl, hb⟩; refine ⟨_, rfl, ?_⟩; replace d0 := FR_ d0 hb; replace HB := BS_ HB hb; (try clear hb)) | ((with_reducible refine gate_callee (f := 95) rfl ?_); refine gL_ (some 20) Try.func95 #[.int .i64 (wrap64 (a0 + 1))] ?_; (with_reducible refine (floor_At.calls (wrap64 (a0 + 1)) g0 _ A9.out).mono ?_); rintro e y1 ⟨rfl, hb⟩; refine ⟨_, rfl, ?_⟩; replace d0 := FR_ d0 hb; replace HB := BS_ HB hb; (try clear hb)))
 go_loopg [8] k1 (fun kq v8 w' => ∃ (h0 : List Int) (b0 : Int), v8 = .int .i64 b0 ∧ Aside0 (floor_Line.l1 kq l0 h0 a0 e0 g0 b0 a0 = some (r1, r2)) ∧ Aside0 (kq ≤ k1) ∧ Aside0 (Kd.R (Kd.int .i64) 3 w' w.heap.size (fun _ => True) M0 h0) ∧ Aside0 (Below w.heap.size w w'))
 case atStart => exact ⟨(q0), (e0), rs_, H', ⟨Nat.le_refl _⟩, ⟨kR_ d0⟩, ⟨bl_ HB⟩⟩
 case round => (
 clear H'
 try clear c3
 try clear c4
 try clear K0
 try clear L0
 try clear c7
 try clear N0
 obtain ⟨h0, b0, rfl, HA, F0, d0, HB⟩ := hrel
 cases gk with
 | zero => exact absurd HA.out (by simp [floor_Line.l1])
 | succ k2 => (
 have H := HA.out
 clear HA
 simp only [floor_Line.l1] at H
 replace H := id_ H
 rcases H with ⟨V0, H⟩ | ⟨V0, H⟩
 {
 replace H := gd_ H
 obtain ⟨h1, H⟩ := H
 replace H := gd_ H
 obtain ⟨i1, H⟩ := H
 obtain ⟨f0, o0⟩ : ∃ j_ : Int, (wrap64 (a0 + 1)) = j_ := ⟨_, rfl⟩
 replace H : (if 0 ≤ (f0) then (if (f0) < (l0.length : Int) then (if (wrap64 (g0 - e0)) = 0 then (none) else (if 0 ≤ b0 then (if b0 < (h0.length : Int) then (floor_Line.l1 k2 l0 (h0.set (b0 : Int).toNat (wrap64 ((rd l0 a0) + (wrap64 (Int.tdiv (wrap64 ((wrap64 ((rd l0 (f0)) - (rd l0 a0))) * (wrap64 (b0 - e0)))) (wrap64 (g0 - e0))))))) a0 e0 g0 (wrap64 (b0 + 1)) a0) else (none)) else (none))) else (none)) else (none)) = some (r1, r2) := by first | (rw [o0] at H; exact H) | (simp only [o0] at H ⊢; exact H)
 have hji15w : (IntKind.i64.wrap (a0 + 1)) = f0 := (i64_w _).trans o0
 replace H := gd_ H
 obtain ⟨j1, H⟩ := H
 replace H := gd_ H
 obtain ⟨m1, H⟩ := H
 replace H := ii_ H
 rcases H with ⟨O0, H⟩ | ⟨O0, H⟩
 {
 exact absurd H (by simp)}
 {
 have n1 : ((wrap64 (g0 - e0)) == 0) = false := beq_eq_false_iff_ne.mpr O0
 have o1 : ((wrap64 (g0 - e0)) != 0) = true := bne_iff_ne.mpr O0
 replace H := gd_ H
 obtain ⟨p1, H⟩ := H
 replace H := gd_ H
 obtain ⟨q1, H⟩ := H
 obtain ⟨b1, p0⟩ : ∃ y_ : List Int, y_ = (h0.set (b0 : Int).toNat (wrap64 ((rd l0 a0) + (wrap64 (Int.tdiv (wrap64 ((wrap64 ((rd l0 (f0)) - (rd l0 a0))) * (wrap64 (b0 - e0)))) (wrap64 (g0 - e0))))))) := ⟨_, rfl⟩
 first | replace H := by_ H p0 | rw [← p0] at H
 have W0 := a_ p0
 clear p0
 have H' := a_ H
 clear H
 try go_wp2
 replace d0 := a_ (Kd.R_drew d0.out)
 replace HB := a_ (below_drew1 HB.out)
 have v0 : 0 ≤ (a0 : Int) := dm_
 have w0 : a0 < (l0.length : Int) := dm_
 obtain ⟨m0, c1, i0⟩ := Kd.at_int r0.out a0 v0 w0
 have G0 := i0
 cases c1
 replace i0 := hc_ HB i0
 replace v0 := eq_true v0
 replace w0 := eq_true w0
 have y0 : 0 ≤ ((f0) : Int) := dm_
 have z0 : (f0) < (l0.length : Int) := dm_
 obtain ⟨X0, d1, j0⟩ := Kd.at_int r0.out (f0) y0 z0
 have H0 := j0
 obtain rfl : m0 = X0 := (by injection d1)
 replace j0 := hc_ HB j0
 replace y0 := eq_true y0
 replace z0 := eq_true z0
 have B0 : 0 ≤ (a0 : Int) := dm_
 have C0 : a0 < (l0.length : Int) := dm_
 obtain ⟨Y0, e1, k0⟩ := Kd.at_int r0.out a0 B0 C0
 have I0 := k0
 obtain rfl : m0 = Y0 := (by injection e1)
 replace k0 := hc_ HB k0
 replace B0 := eq_true B0
 replace C0 := eq_true C0
 have P0 : 0 ≤ (b0 : Int) := dm_
 have Q0 : (b0 : Int) < ((h0.length : Int) : Int) := dm_
 obtain ⟨go21, t1, R0, S0, gl21, cl21, HG21⟩ := Kd.R_form d0.out (by omega)
 (first | cases R0 | (injection R0 with ea_ en_ ec_; (first | subst ea_ | (injection ea_ with ea_; subst ea_)); subst ec_; clear en_))
 have GB21 := a_ S0
 have GG21 := a_ HG21
 clear S0 gl21 HG21
 obtain ⟨T0, hf21_0⟩ := Kd.R_celln 0 d0.out (b0 : Int) P0 Q0
 replace P0 := eq_true P0
 replace Q0 := eq_true Q0
 have HP23 := Kd.R_putn d0.out (b0 : Int) (wrap64 ((rd l0 a0) + (wrap64 (Int.tdiv (wrap64 ((wrap64 ((rd l0 (f0)) - (rd l0 a0))) * (wrap64 (b0 - e0)))) (wrap64 (g0 - e0))))))
 rw [← W0.out] at HP23
 have HQ23 := a_ HP23
 clear HP23
 refine start_ (n := 27) (S := fun w' => w'.cell? (m0.add (a0).toNat) = some (.int .i64 (rd l0 a0)) ∧ w'.cell? (m0.add ((f0)).toNat) = some (.int .i64 (rd l0 (f0))) ∧ w'.cell? (m0.add (a0).toNat) = some (.int .i64 (rd l0 a0))) (ds := [26]) (B_ 27 0) kf_ rfl rfl ⟨(hc_ HB G0), (hc_ HB H0), (hc_ HB I0)⟩ (fun hHeld => ?_); refine with_tabW floor_Line.tab11 floor_Line.bits11 (fun HT_ HW_ => ?_)
 generalize wr.drew = z1 at d0 HB GG21 HQ23 hf21_0 i0 j0 k0 T0 hHeld ⊢
 refine pu_ 0 (some 27) (B_ 27 1) HT_ ?_
 refine pu_ 1 (some 28) (B_ 27 3) HT_ ?_
 refine pu_ 2 (some 29) (B_ 27 7) HT_ ?_
 refine pu_ 3 (some 30) (B_ 27 15) HT_ ?_
 refine pu_ 4 (some 31) (B_ 27 31) HT_ ?_
 refine pu_ 6 (some 33) (B_ 27 95) HT_ ?_
 refine pu_ 7 (some 34) (B_ 27 223) HT_ ?_
 refine pu_ 8 (some 35) (B_ 27 479) HT_ ?_
 refine pu_ 9 (some 36) (B_ 27 991) HT_ ?_
 refine pu_ 11 (some 38) (B_ 27 3039) HT_ ?_
 refine pu_ 12 (some 39) (B_ 27 7135) HT_ ?_
 refine pu_ 13 (some 40) (B_ 27 15327) HT_ ?_
 refine pu_ 16 (some 43) (B_ 27 80863) HT_ ?_
 refine pu_ 17 (some 44) (B_ 27 211935) HT_ ?_
 refine pu_ 18 (some 45) (B_ 27 474079) HT_ ?_
 refine pu_ 20 (some 47) (B_ 27 1522655) HT_ ?_
 refine pu_ 21 (some 48) (B_ 27 3619807) HT_ ?_
 refine pu_ 22 (some 49) (B_ 27 7814111) HT_ ?_
 refine take_ (i := 5) (N := some 32) (v := ?_) (a' := ?_) (B_ 27 7814143) rfl rfl (take_ofW HT_.out HW_.out kf_) (fun _ _ _ h => h) (Or.inl ⟨by rfl, ?_⟩) hHeld ?_ ?_
 rotate_left
 {
 rintro w' ⟨s0, s1, s2⟩
 go_simp
 with_reducible rfl}
 rotate_left
 {
 exact sp_}
 refine take_ (i := 10) (N := some 37) (v := ?_) (a' := ?_) (B_ 27 7815167) rfl rfl (take_ofW HT_.out HW_.out kf_) (fun _ _ _ h => h) (Or.inl ⟨by rfl, ?_⟩) hHeld ?_ ?_
 rotate_left
 {
 rintro w' ⟨s0, s1, s2⟩
 go_simp
 with_reducible rfl}
 rotate_left
 {
 exact sp_}
 refine take_ (i := 14) (N := some 41) (v := ?_) (a' := ?_) (B_ 27 7831551) rfl rfl (take_ofW HT_.out HW_.out kf_) (fun _ _ _ h => h) (Or.inl ⟨by rfl, ?_⟩) hHeld ?_ ?_
 rotate_left
 {
 rintro w' ⟨s0, s1, s2⟩
 go_simp
 with_reducible rfl}
 rotate_left
 {
 exact sp_}
 refine pu_ 15 (some 42) (B_ 27 7864319) HT_ ?_
 refine pu_ 19 (some 46) (B_ 27 8388607) HT_ ?_
 refine pu_ 23 (some 50) (B_ 27 16777215) HT_ ?_
 refine pu_ 24 (some 51) (B_ 27 33554431) HT_ ?_
 refine pu_ 25 (some 52) (B_ 27 67108863) HT_ ?_
 refine last_ (i := 26) (N := none) (B_ 27 134217727) rfl rfl (one_of HT_.out kf_) (by decide) (fun K hK => ?_)
 refine skip_ (w1 := ?_) (by rfl) rfl ?_ ?_
 rotate_left
 {
 go_simp
 rfl}
 refine hK.out _ _ ?_
 clear hK K
 refine done_ (done_of HT_.out kf_) ?_
 try go_wp2
 first | go_roundg k2 | (subst o0; go_roundg k2)
 case measure => have := E0.out; have := F0.out; omega
 case rel => exact ⟨(b1), (wrap64 (b0 + 1)), rs_, H', ⟨by have := E0.out; have := F0.out; omega⟩, ⟨kR_ HQ23⟩, ⟨by repeat (first | (with_reducible first | exact HB.out | apply below_alloc | apply pw_below_drewN | apply below_drew1 | refine below_set ?_ GB21.out) | exact HB.out)⟩⟩}}
 {
 have H' := a_ H
 clear H
 go_wp2
 go_roundg k2
 case measure => have := E0.out; have := F0.out; omega
 case rel => exact ⟨(h0), (wrap64 (a0 + 1)), rs_, H', ⟨by have := E0.out; have := F0.out; omega⟩, ⟨kR_ d0⟩, ⟨bl_ HB⟩⟩}))}
 {
 simp only [Option.some.injEq, Prod.mk.injEq] at H
 obtain ⟨rfl, rfl⟩ := H
 go_wp2
 go_ret2
 exact ⟨_, er_, kR_ d0, bl_ HB⟩}))}
 {
 simp only [Option.some.injEq, Prod.mk.injEq] at H
 obtain ⟨rfl, rfl⟩ := H
 go_enter Try.func68, Try.ntmps68
 go_wp2_with (first | ((with_reducible refine gate_callee (f := 86) rfl ?_); refine gL_ (some 10) Try.func86 #[.slice A0 l0.length c0] ?_; (with_reducible refine (floor_Right.calls k _ _ l0 false _ ?side1 ?side2 A2.out).mono ?_); (case side1 => repeat (first | exact r0.out | (with_reducible refine Kd.C_alloc ?_ _) | (with_reducible refine Kd.C_drewN ?_ _) | (with_reducible refine Kd.C_drew ?_))); (case side2 => exact Z0.out); rintro e w' ⟨rfl, ⟨nd, rfl⟩⟩; refine ⟨_, rfl, ?_⟩))
 go_ret2
 exact ⟨_, er_, kn_, bl_ HB⟩}
def num_Sqrt.l0 : Nat → Int → Int → Int → Option (Int)
  | 0, _, _, _ => none
  | k + 1, x0, x3, x4 => if x4 > 0 then (if (Go.bits .or .u64 x3 x4) = 0 then (none) else (if (Go.bits .or .u64 x3 x4) ≤ (IntKind.u64.wrap (Int.tdiv x0 (Go.bits .or .u64 x3 x4))) then (num_Sqrt.l0 k x0 (Go.bits .or .u64 x3 x4) (x4 / 2)) else (num_Sqrt.l0 k x0 x3 (x4 / 2)))) else (some x3)
def num_Sqrt.f (k : Nat) (a0 : Int) : Option (Int) := num_Sqrt.l0 k a0 0 2147483648
theorem num_Sqrt.mono_l : ∀ k, (∀ y0 y1 y2, LeO (num_Sqrt.l0 k y0 y1 y2) (num_Sqrt.l0 (k + 1) y0 y1 y2))
  | 0 => fun _ _ _ r h => by simp [num_Sqrt.l0] at h
  | k + 1 => by
    have a0 := num_Sqrt.mono_l k
    · intro y0 y1 y2
      unfold num_Sqrt.l0
      with_reducible repeat' first
   | exact a0 _ _ _
   | exact LeO.refl _
   | exact LeO.none _
   | refine LeO.ite ?_ ?_
   | refine LeO.bind ?_ (fun _ => ?_)
theorem num_Sqrt.mono : ∀ a0 k, LeO (num_Sqrt.f k a0) (num_Sqrt.f (k + 1) a0) := by
  intro a0 k
  have b0 := num_Sqrt.mono_l k
  unfold num_Sqrt.f
  with_reducible repeat' first
   | exact b0 _ _ _
   | exact LeO.refl _
   | exact LeO.none _
   | refine LeO.ite ?_ ?_
   | refine LeO.bind ?_ (fun _ => ?_)
set_option maxHeartbeats 8000000 in
set_option maxRecDepth 100000 in
theorem num_Sqrt.calls (k : Nat) (a0 : Int) (r : Int) (w : World) (h : num_Sqrt.f k a0 = some r) :
    Calls Try.prog 96 #[.int .u64 a0] w fun e w' => e = .returned (.int .u64 r) ∧ Drawn0 w w' := by
 have H : (num_Sqrt.l0 k a0 0 2147483648) = some r := h
 clear h
 have H' := a_ H
 clear H
 go_enter Try.func96, Try.ntmps96
 go_wp2
 go_loopg [3, 4] k (fun kq v3 v4 w' => ∃ (c0 : Int) (b0 : Int), v3 = .int .u64 c0 ∧ v4 = .int .u64 b0 ∧ Aside0 (num_Sqrt.l0 kq a0 c0 b0 = some r) ∧ Aside0 (kq ≤ k) ∧ Drawn0 w w')
 case atStart => exact ⟨(0), (2147483648), rs_, rs_, H', ⟨Nat.le_refl _⟩, dr_⟩
 case round => (
 clear H'
 obtain ⟨c0, b0, rfl, rfl, HA, d0, ⟨m1, rfl⟩⟩ := hrel
 cases gk with
 | zero => exact absurd HA.out (by simp [num_Sqrt.l0])
 | succ k1 => (
 have H := HA.out
 clear HA
 simp only [num_Sqrt.l0] at H
 replace H := ii_ H
 rcases H with ⟨c2, H⟩ | ⟨c2, H⟩
 {
 have e0 : decide (0 < b0) = true := decide_eq_true c2
 clear c2
 replace H := ii_ H
 rcases H with ⟨c3, H⟩ | ⟨c3, H⟩
 {
 exact absurd H (by simp)}
 {
 have g0 : ((Go.bits .or .u64 c0 b0) == 0) = false := beq_eq_false_iff_ne.mpr c3
 have h0 : ((Go.bits .or .u64 c0 b0) != 0) = true := bne_iff_ne.mpr c3
 replace H := id_ H
 rcases H with ⟨f0, H⟩ | ⟨f0, H⟩
 {
 have H' := a_ H
 clear H
 go_wp2
 go_roundg k1
 case measure => have := d0.out; omega
 case rel => exact ⟨(Go.bits .or .u64 c0 b0), (b0 / 2), rs_, rs_, H', ⟨by have := d0.out; omega⟩, dr_⟩}
 {
 have H' := a_ H
 clear H
 go_wp2
 go_roundg k1
 case measure => have := d0.out; omega
 case rel => exact ⟨(c0), (b0 / 2), rs_, rs_, H', ⟨by have := d0.out; omega⟩, dr_⟩}}}
 {
 have e0 : decide (0 < b0) = false := decide_eq_false c2
 clear c2
 obtain rfl := Option.some.inj H
 go_wp2
 go_ret
 exact ⟨es_, dr_⟩}))
def band_Value.f (k : Nat) (a0 : Int) : Option (Int) := if a0 < 1 then (some 0) else (if a0 > 44 then (some 0) else (if 0 ≤ (wrap64 (a0 - 1)) then ((num_Sqrt.f k (shl .u64 1 (wrap64 (a0 - 1)))).bind fun b0 => (some (wrap64 (b0)))) else (none)))
theorem band_Value.mono : ∀ a0 k, LeO (band_Value.f k a0) (band_Value.f (k + 1) a0) := by
  intro a0 k
  unfold band_Value.f
  with_reducible repeat' first
   | exact num_Sqrt.mono _ _
   | exact LeO.refl _
   | exact LeO.none _
   | refine LeO.ite ?_ ?_
   | refine LeO.bind ?_ (fun _ => ?_)
set_option maxHeartbeats 8000000 in
set_option maxRecDepth 100000 in
theorem band_Value.calls (k : Nat) (a0 : Int) (r : Int) (w : World) (h : band_Value.f k a0 = some r) :
    Calls Try.prog 69 #[.int .i64 a0] w fun e w' => e = .returned (.int .i64 r) ∧ Drawn0 w w' := by
 have H : (if a0 < 1 then (some 0) else (if a0 > 44 then (some 0) else (if 0 ≤ (wrap64 (a0 - 1)) then ((num_Sqrt.f k (shl .u64 1 (wrap64 (a0 - 1)))).bind fun c0 => (some (wrap64 (c0)))) else (none)))) = some r := h
 clear h
 replace H := id_ H
 rcases H with ⟨g0, H⟩ | ⟨g0, H⟩
 {
 obtain rfl := Option.some.inj H
 go_enter Try.func69, Try.ntmps69
 go_wp2
 go_ret
 exact ⟨es_, dr_⟩}
 {
 replace H := ii_ H
 rcases H with ⟨c3, H⟩ | ⟨c3, H⟩
 {
 have h0 : decide (44 < a0) = true := decide_eq_true c3
 clear c3
 obtain rfl := Option.some.inj H
 go_enter Try.func69, Try.ntmps69
 go_wp2
 go_ret
 exact ⟨es_, dr_⟩}
 {
 have h0 : decide (44 < a0) = false := decide_eq_false c3
 clear c3
 obtain ⟨b0, f0⟩ : ∃ j_ : Int, (wrap64 (a0 - 1)) = j_ := ⟨_, rfl⟩
 replace H : (if 0 ≤ (b0) then ((num_Sqrt.f k (shl .u64 1 (b0))).bind fun c0 => (some (wrap64 (c0)))) else (none)) = some r := by first | (rw [f0] at H; exact H) | (simp only [f0] at H ⊢; exact H)
 have hji4w : (IntKind.i64.wrap (a0 - 1)) = b0 := (i64_w _).trans f0
 replace H := gt_ H
 obtain ⟨c5, H⟩ := H
 have i0 := eq_true c5
 have j0 : decide (0 ≤ (b0)) = true := decide_eq_true c5
 clear c5
 obtain ⟨e0, d0⟩ : ∃ j_ : Int, (shl .u64 1 (b0)) = j_ := ⟨_, rfl⟩
 replace H : ((num_Sqrt.f k (e0)).bind fun c0 => (some (wrap64 (c0)))) = some r := by first | (rw [d0] at H; exact H) | (simp only [d0] at H ⊢; exact H)
 have hji6_ : (IntKind.u64.wrap (1 * 2 ^ min (b0).toNat 64)) = e0 := d0
 have hji6z : (b0) ≤ 64 → (IntKind.u64.wrap (1 * 2 ^ (b0).toNat)) = e0 := shl_small d0
 have hji6u : (IntKind.u64.wrap (2 ^ min (b0).toNat 64)) = e0 := by have h_ := hji6_; rw [Int.one_mul] at h_; exact h_
 have hji6v : (b0) ≤ 64 → (IntKind.u64.wrap (2 ^ (b0).toNat)) = e0 := fun hle_ => by have h_ := hji6z hle_; rw [Int.one_mul] at h_; exact h_
 obtain ⟨c0, A7, H⟩ := ob_ H
 (try dsimp only at H)
 obtain rfl := Option.some.inj H
 go_enter Try.func69, Try.ntmps69
 go_wp2_with (first | ((with_reducible refine gate_callee (f := 96) rfl ?_); refine goesL_ (some 12) rfl rfl Try.func96 kf_ rfl #[.int .u64 e0] rfl (by (try simp only [List.map_toArray, List.map_cons, List.map_nil]); first | done | (simp only [d0]; rfl) | rfl | (simp only [List.length_drop, List.length_take]; rfl)) ?_; (with_reducible refine (num_Sqrt.calls k e0 c0 _ A7.out).mono ?_); rintro e w' ⟨rfl, ⟨nd, rfl⟩⟩; refine ⟨_, rfl, ?_⟩))
 go_ret
 exact ⟨by first | rfl | (simp; done) | (simp only [← f0, ← d0] <;> (first | rfl | simp)) | (simp [*]; done), dr_⟩}}
def floor_Floor.l0 : Nat → List Int → List Int → Int → Int → Option (List Int × Int)
  | 0, _, _, _, _ => none
  | k + 1, x6, b0, c0, a0 => if a0 < c0 then (if 0 ≤ a0 then (if a0 < (b0.length : Int) then ((band_Value.f k (rd b0 a0)).bind fun d0 => (if x6.length < 17592186044416 then (floor_Floor.l0 k (x6 ++ [mx 1 d0]) b0 c0 (wrap64 (a0 + 1))) else (none))) else (none)) else (none)) else (some (x6, 0))
def floor_Floor.f (k : Nat) (l0 : List Int) : Option (List Int × Int) := (floor_Line.f k l0).bind fun a0 => (if a0.2 = 0 then (floor_Floor.l0 k ([] : List Int) a0.1 (a0.1.length : Int) 0) else (some (([] : List Int), a0.2)))
theorem floor_Floor.mono_l : ∀ k, (∀ y0 y1 y2 y3, LeO (floor_Floor.l0 k y0 y1 y2 y3) (floor_Floor.l0 (k + 1) y0 y1 y2 y3))
  | 0 => fun _ _ _ _ r h => by simp [floor_Floor.l0] at h
  | k + 1 => by
    have a0 := floor_Floor.mono_l k
    · intro y0 y1 y2 y3
      unfold floor_Floor.l0
      with_reducible repeat' first
   | exact a0 _ _ _ _
   | exact band_Value.mono _ _
   | exact floor_Line.mono _ _
   | exact LeO.refl _
   | exact LeO.none _
   | refine LeO.ite ?_ ?_
   | refine LeO.bind ?_ (fun _ => ?_)
theorem floor_Floor.mono : ∀ a0 k, LeO (floor_Floor.f k a0) (floor_Floor.f (k + 1) a0) := by
  intro a0 k
  have b0 := floor_Floor.mono_l k
  unfold floor_Floor.f
  with_reducible repeat' first
   | exact b0 _ _ _ _
   | exact band_Value.mono _ _
   | exact floor_Line.mono _ _
   | exact LeO.refl _
   | exact LeO.none _
   | refine LeO.ite ?_ ?_
   | refine LeO.bind ?_ (fun _ => ?_)
set_option maxHeartbeats 8000000 in
set_option maxRecDepth 100000 in
theorem floor_Floor.calls (k : Nat) (A0 : Option Addr) (c0 : Nat) (l0 : List Int) (r1 : List Int) (r2 : Int) (w : World) (hr0 : Kd.C (Kd.int .i64) w A0 l0.length l0) (hc0 : l0.length ≤ c0) (h : floor_Floor.f k l0 = some (r1, r2)) :
    Calls Try.prog 34 #[.slice A0 l0.length c0] w fun e w' => ∃ v0_ : Value, e = .returned (.tuple #[v0_, .int .i64 r2]) ∧ Kd.R (Kd.int .i64) 2 w' w.heap.size (fun _ => True) v0_ r1 ∧ Below w.heap.size w w' := by
 have z0 := a_ hr0
 have B0 := a_ hc0
 clear hr0 hc0
 have HB := a_ (Below.refl w.heap.size w)
 have H : ((floor_Line.f k l0).bind fun g0 => (if g0.2 = 0 then (floor_Floor.l0 k ([] : List Int) g0.1 (g0.1.length : Int) 0) else (some (([] : List Int), g0.2)))) = some (r1, r2) := h
 clear h
 obtain ⟨⟨b0, q0⟩, A2, H⟩ := ob_ H
 (try dsimp only at H)
 replace H := ie_ H
 rcases H with ⟨r0, s0, H⟩ | ⟨c3, r0, s0, H⟩
 {
 have H' := a_ H
 clear H
 go_enter Try.func34, Try.ntmps34
 go_wp2_with (first | ((with_reducible refine gate_callee (f := 68) rfl ?_); refine gL_ (some 11) Try.func68 #[.slice A0 l0.length c0] ?_; (with_reducible refine (floor_Line.calls k _ _ l0 b0 q0 _ ?side1 ?side2 A2.out).mono ?_); (case side1 => repeat (first | exact z0.out | (with_reducible refine Kd.C_alloc ?_ _) | (with_reducible refine Kd.C_drewN ?_ _) | (with_reducible refine Kd.C_drew ?_))); (case side2 => exact B0.out); rintro e w4 ⟨E0, rfl, n0, hb⟩; refine ⟨_, rfl, ?_⟩; have j0 := a_ (Kd.R_lower n0 (bs_ HB)); replace HB := BS_ HB hb; (try clear hb); (try clear n0); obtain ⟨J0, K0, L0⟩ := Kd.R_slice j0.out; subst L0))
 go_loopg [6, 19] k (fun kq v6 M0 w' => ∃ (d0 : List Int) (a0 : Int), M0 = .int .i64 a0 ∧ Aside0 (floor_Floor.l0 kq d0 b0 (b0.length : Int) a0 = some (r1, r2)) ∧ Aside0 (kq ≤ k) ∧ Aside0 (Kd.R (Kd.int .i64) 2 w' w.heap.size (fun _ => True) v6 d0) ∧ Aside0 (Kd.R (Kd.int .i64) 3 w' w.heap.size (fun _ => True) (.slice J0 b0.length K0) b0) ∧ Aside0 (Below w.heap.size w w'))
 case atStart => exact ⟨(([] : List Int)), (0), rs_, H', ⟨Nat.le_refl _⟩, ⟨kn_⟩, ⟨kR_ j0⟩, ⟨bl_ HB⟩⟩
 case round => (
 clear H'
 try clear c3
 try clear r0
 try clear s0
 obtain ⟨d0, a0, rfl, HA, C0, k0, h0, HB⟩ := hrel
 cases gk with
 | zero => exact absurd HA.out (by simp [floor_Floor.l0])
 | succ k1 => (
 have H := HA.out
 clear HA
 simp only [floor_Floor.l0] at H
 replace H := id_ H
 rcases H with ⟨F0, H⟩ | ⟨F0, H⟩
 {
 replace H := gd_ H
 obtain ⟨O0, H⟩ := H
 replace H := gd_ H
 obtain ⟨P0, H⟩ := H
 obtain ⟨m0, A9, H⟩ := ob_ H
 (try dsimp only at H)
 obtain ⟨e0, f0⟩ : ∃ j_ : Int, (mx 1 m0) = j_ := ⟨_, rfl⟩
 replace H : (if d0.length < 17592186044416 then (floor_Floor.l0 k1 (d0 ++ [e0]) b0 (b0.length : Int) (wrap64 (a0 + 1))) else (none)) = some (r1, r2) := by first | (rw [f0] at H; exact H) | (simp only [f0] at H ⊢; exact H)
 (try rw [f0] at A9)
 (try (have hji10l : 1 ≤ e0 := by (rw [← f0]; unfold mx; (repeat' split) <;> omega)))
 (try (have hji10m : 0 ≤ e0 := by omega))
 have hji10_ : (if 1 < m0 then m0 else 1) = e0 := f0
 replace H := gt_ H
 obtain ⟨D0, H⟩ := H
 have t0 := a_ D0
 clear D0
 obtain ⟨G0, i0⟩ : ∃ y_ : List Int, y_ = (d0 ++ [e0]) := ⟨_, rfl⟩
 first | replace H := by_ H i0 | rw [← i0] at H
 have v0 := a_ i0
 clear i0
 have H' := a_ H
 clear H
 have o0 : 0 ≤ (a0 : Int) := dm_
 have p0 : a0 < (b0.length : Int) := dm_
 obtain ⟨N0, H0, I0⟩ := Kd.at_int (Kd.R_reads' h0.out).2.2 a0 o0 p0
 cases H0
 replace o0 := eq_true o0
 replace p0 := eq_true p0
 go_wp2_with (first | ((with_reducible refine gate_callee (f := 69) rfl ?_); refine gL_ (some 25) Try.func69 #[.int .i64 (rd b0 a0)] ?_; (with_reducible refine (band_Value.calls k1 (rd b0 a0) m0 _ A9.out).mono ?_); rintro e w' ⟨rfl, ⟨nd, rfl⟩⟩; refine ⟨_, rfl, ?_⟩) | ((with_reducible refine gate_builtin (b := .append) (xs := #[.tmp 23, .tmp 27]) rfl ?_); at_builtin; refine Kd.R_append (Kd.int .i64) (w0 := w) w.heap.size rfl (.tmp 23) (.tmp 27) 53 2 (.int .i64 0) 8 rfl Try.underlying53 info2 rfl (by decide) (by omega) u6 d0 e0 [.int .i64 e0] (fun _ => True) (fun _ => False) rfl rfl ?aP (fun _ hk => hk.elim) ?aF ?aO ?aB ?aS ?aL ?_; (case aP => exact rfl); (case aB => exact (bl_ HB)); (case aF => exact (fun _ _ => trivial)); (case aO => exact (kR_ k0)); (case aS => exact (bs_ HB)); (case aL => have := t0.out; omega); intro Q0 R0 ho hb hg hat; rw [← v0.out] at ho; replace h0 := a_ (Kd.R_over' (kR_ h0) (Kd.R_typed (kR_ k0)) (by decide) hg); replace HB := a_ (hb); have y0 := a_ (ho); clear k0; clear ho hb hg hat))
 go_roundg k1
 case measure => have := C0.out; omega
 case rel => exact ⟨(G0), (wrap64 (a0 + 1)), rs_, H', ⟨by have := C0.out; omega⟩, ⟨kR_ y0⟩, ⟨kR_ h0⟩, ⟨bl_ HB⟩⟩}
 {
 simp only [Option.some.injEq, Prod.mk.injEq] at H
 obtain ⟨rfl, rfl⟩ := H
 go_wp2
 go_ret2
 exact ⟨_, er_, kR_ k0, bl_ HB⟩}))}
 {
 simp only [Option.some.injEq, Prod.mk.injEq] at H
 obtain ⟨rfl, rfl⟩ := H
 go_enter Try.func34, Try.ntmps34
 go_wp2_with (first | ((with_reducible refine gate_callee (f := 68) rfl ?_); refine gL_ (some 11) Try.func68 #[.slice A0 l0.length c0] ?_; (with_reducible refine (floor_Line.calls k _ _ l0 b0 q0 _ ?side1 ?side2 A2.out).mono ?_); (case side1 => repeat (first | exact z0.out | (with_reducible refine Kd.C_alloc ?_ _) | (with_reducible refine Kd.C_drewN ?_ _) | (with_reducible refine Kd.C_drew ?_))); (case side2 => exact B0.out); rintro e S0 ⟨E0, rfl, n0, hb⟩; refine ⟨_, rfl, ?_⟩; have j0 := a_ (Kd.R_lower n0 (bs_ HB)); replace HB := BS_ HB hb; (try clear hb); (try clear n0)))
 go_ret2
 exact ⟨_, er_, kn_, bl_ HB⟩}
def remap_row.l0 : Nat → List Int → Int → Int → List Int → Int → Int → Option (Bool)
  | 0, _, _, _, _, _, _ => none
  | k + 1, x0, x1, x2, x9, b0, a0 => if a0 < b0 then (if 0 ≤ a0 then (if a0 < (x9.length : Int) then ((num_Clamp.f (rd x9 a0) x1 x2).bind fun c0 => (if (rd x9 a0) = c0 then (remap_row.l0 k x0 x1 x2 x9 b0 (wrap64 (a0 + 1))) else (some false))) else (none)) else (none)) else (some ((x0.length : Int) == 16))
def remap_row.f (k : Nat) (l0 : List Int) (a1 : Int) (a2 : Int) : Option (Bool) := remap_row.l0 k l0 a1 a2 l0 (l0.length : Int) 0
theorem remap_row.mono_l : ∀ k, (∀ y0 y1 y2 y3 y4 y5, LeO (remap_row.l0 k y0 y1 y2 y3 y4 y5) (remap_row.l0 (k + 1) y0 y1 y2 y3 y4 y5))
  | 0 => fun _ _ _ _ _ _ r h => by simp [remap_row.l0] at h
  | k + 1 => by
    have a0 := remap_row.mono_l k
    · intro y0 y1 y2 y3 y4 y5
      unfold remap_row.l0
      with_reducible repeat' first
   | exact a0 _ _ _ _ _ _
   | exact LeO.refl _
   | exact LeO.none _
   | refine LeO.ite ?_ ?_
   | refine LeO.bind ?_ (fun _ => ?_)
theorem remap_row.mono : ∀ a0 a1 a2 k, LeO (remap_row.f k a0 a1 a2) (remap_row.f (k + 1) a0 a1 a2) := by
  intro a0 a1 a2 k
  have b0 := remap_row.mono_l k
  unfold remap_row.f
  with_reducible repeat' first
   | exact b0 _ _ _ _ _ _
   | exact LeO.refl _
   | exact LeO.none _
   | refine LeO.ite ?_ ?_
   | refine LeO.bind ?_ (fun _ => ?_)
set_option maxHeartbeats 8000000 in
set_option maxRecDepth 100000 in
theorem remap_row.calls (k : Nat) (A0 : Option Addr) (c0 : Nat) (l0 : List Int) (a1 : Int) (a2 : Int) (r : Bool) (w : World) (hr0 : Kd.C (Kd.int .i64) w A0 l0.length l0) (hc0 : l0.length ≤ c0) (h : remap_row.f k l0 a1 a2 = some r) :
    Calls Try.prog 70 #[.slice A0 l0.length c0, .int .i64 a1, .int .i64 a2] w fun e w' => e = .returned (.bool r) ∧ Drawn0 w w' := by
 have i0 := a_ hr0
 have r0 := a_ hc0
 clear hr0 hc0
 have H : (remap_row.l0 k l0 a1 a2 l0 (l0.length : Int) 0) = some r := h
 clear h
 have H' := a_ H
 clear H
 go_enter Try.func70, Try.ntmps70
 go_wp2
 go_loopg [11] k (fun kq o0 w' => ∃ (a0 : Int), o0 = .int .i64 a0 ∧ Aside0 (remap_row.l0 kq l0 a1 a2 l0 (l0.length : Int) a0 = some r) ∧ Aside0 (kq ≤ k) ∧ Drawn0 w w')
 case atStart => exact ⟨(0), rs_, H', ⟨Nat.le_refl _⟩, dr_⟩
 case round => (
 clear H'
 obtain ⟨a0, rfl, HA, j0, ⟨m1, rfl⟩⟩ := hrel
 cases gk with
 | zero => exact absurd HA.out (by simp [remap_row.l0])
 | succ k1 => (
 have H := HA.out
 clear HA
 simp only [remap_row.l0] at H
 replace H := id_ H
 rcases H with ⟨k0, H⟩ | ⟨k0, H⟩
 {
 replace H := gd_ H
 obtain ⟨p0, H⟩ := H
 replace H := gd_ H
 obtain ⟨q0, H⟩ := H
 obtain ⟨g0, A7, H⟩ := ob_ H
 (try dsimp only at H)
 replace H := ie_ H
 rcases H with ⟨m0, n0, H⟩ | ⟨c8, m0, n0, H⟩
 {
 have H' := a_ H
 clear H
 have b0 : 0 ≤ (a0 : Int) := dm_
 have d0 : a0 < (l0.length : Int) := dm_
 obtain ⟨h0, e0, f0⟩ := Kd.at_int i0.out a0 b0 d0
 cases e0
 replace b0 := eq_true b0
 replace d0 := eq_true d0
 go_wp2_with (first | ((with_reducible refine gate_callee (f := 73) rfl ?_); refine gL_ (some 19) Try.func73 #[.int .i64 (rd l0 a0), .int .i64 a1, .int .i64 a2] ?_; (with_reducible refine (num_Clamp.calls (rd l0 a0) a1 a2 g0 _ A7.out).mono ?_); rintro e w' ⟨rfl, ⟨nd, rfl⟩⟩; refine ⟨_, rfl, ?_⟩))
 go_roundg k1
 case measure => have := j0.out; omega
 case rel => exact ⟨(wrap64 (a0 + 1)), rs_, H', ⟨by have := j0.out; omega⟩, dr_⟩}
 {
 obtain rfl := Option.some.inj H
 have b0 : 0 ≤ (a0 : Int) := dm_
 have d0 : a0 < (l0.length : Int) := dm_
 obtain ⟨h0, e0, f0⟩ := Kd.at_int i0.out a0 b0 d0
 cases e0
 replace b0 := eq_true b0
 replace d0 := eq_true d0
 go_wp2_with (first | ((with_reducible refine gate_callee (f := 73) rfl ?_); refine gL_ (some 19) Try.func73 #[.int .i64 (rd l0 a0), .int .i64 a1, .int .i64 a2] ?_; (with_reducible refine (num_Clamp.calls (rd l0 a0) a1 a2 g0 _ A7.out).mono ?_); rintro e w' ⟨rfl, ⟨nd, rfl⟩⟩; refine ⟨_, rfl, ?_⟩))
 go_ret
 exact ⟨es_, dr_⟩}}
 {
 obtain rfl := Option.some.inj H
 go_wp2
 go_ret
 exact ⟨es_, dr_⟩}))
def remap_restored.f (a0 : Int) (a1 : Int) : Option (Int) := (num_Clamp.f (wrap64 (a0 * a1)) (-1048576) 1048576).bind fun b0 => (some b0)
set_option maxHeartbeats 8000000 in
set_option maxRecDepth 100000 in
theorem remap_restored.calls (a0 : Int) (a1 : Int) (r : Int) (w : World) (h : remap_restored.f a0 a1 = some r) :
    Calls Try.prog 72 #[.int .i64 a0, .int .i64 a1] w fun e w' => e = .returned (.int .i64 r) ∧ Drawn0 w w' := by
 have H : ((num_Clamp.f (wrap64 (a0 * a1)) (-1048576) 1048576).bind fun b0 => (some b0)) = some r := h
 clear h
 replace H := Option.bind_eq_some_iff.mp H
 obtain ⟨b0, c0, H⟩ := H
 replace H : (some b0) = some r := H
 have A3 := a_ c0
 clear c0
 obtain rfl := Option.some.inj H
 go_enter Try.func72, Try.ntmps72
 go_wp2_with (first | ((with_reducible refine gate_callee (f := 73) rfl ?_); refine gL_ (some 8) Try.func73 #[.int .i64 (wrap64 (a0 * a1)), .int .i64 (-1048576), .int .i64 1048576] ?_; (with_reducible refine (num_Clamp.calls (wrap64 (a0 * a1)) (-1048576) 1048576 b0 _ A3.out).mono ?_); rintro e w' ⟨rfl, ⟨nd, rfl⟩⟩; refine ⟨_, rfl, ?_⟩))
 go_ret
 exact ⟨es_, dr_⟩
def remap_over_int64_by_remap_restored.l0 : Nat → List Int → List Int → List Int → Int → Int → Option (List Int)
  | 0, _, _, _, _, _ => none
  | k + 1, x1, x7, b0, c0, a0 => if a0 < c0 then (if 0 ≤ a0 then (if a0 < (b0.length : Int) then (if a0 < (x1.length : Int) then ((remap_restored.f (rd b0 a0) (rd x1 a0)).bind fun d0 => (if x7.length < 17592186044416 then (remap_over_int64_by_remap_restored.l0 k x1 (x7 ++ [d0]) b0 c0 (wrap64 (a0 + 1))) else (none))) else (none)) else (none)) else (none)) else (some x7)
def remap_over_int64_by_remap_restored.f (k : Nat) (l0 : List Int) (l1 : List Int)  : Option (List Int) := remap_over_int64_by_remap_restored.l0 k l1 ([] : List Int) l0 (l0.length : Int) 0
theorem remap_over_int64_by_remap_restored.mono_l : ∀ k, (∀ y0 y1 y2 y3 y4, LeO (remap_over_int64_by_remap_restored.l0 k y0 y1 y2 y3 y4) (remap_over_int64_by_remap_restored.l0 (k + 1) y0 y1 y2 y3 y4))
  | 0 => fun _ _ _ _ _ r h => by simp [remap_over_int64_by_remap_restored.l0] at h
  | k + 1 => by
    have a0 := remap_over_int64_by_remap_restored.mono_l k
    · intro y0 y1 y2 y3 y4
      unfold remap_over_int64_by_remap_restored.l0
      with_reducible repeat' first
   | exact a0 _ _ _ _ _
   | exact LeO.refl _
   | exact LeO.none _
   | refine LeO.ite ?_ ?_
   | refine LeO.bind ?_ (fun _ => ?_)
theorem remap_over_int64_by_remap_restored.mono : ∀ a0 a1 k, LeO (remap_over_int64_by_remap_restored.f k a0 a1) (remap_over_int64_by_remap_restored.f (k + 1) a0 a1) := by
  intro a0 a1 k
  have b0 := remap_over_int64_by_remap_restored.mono_l k
  unfold remap_over_int64_by_remap_restored.f
  with_reducible repeat' first
   | exact b0 _ _ _ _ _
   | exact LeO.refl _
   | exact LeO.none _
   | refine LeO.ite ?_ ?_
   | refine LeO.bind ?_ (fun _ => ?_)
set_option maxHeartbeats 8000000 in
set_option maxRecDepth 100000 in
theorem remap_over_int64_by_remap_restored.calls (k : Nat) (A0 : Option Addr) (c0 : Nat) (l0 : List Int) (A1 : Option Addr) (c1 : Nat) (l1 : List Int)  (r : List Int) (w : World) (hr0 : Kd.C (Kd.int .i64) w A0 l0.length l0) (hc0 : l0.length ≤ c0) (hr1 : Kd.C (Kd.int .i64) w A1 l1.length l1) (hc1 : l1.length ≤ c1) (h : remap_over_int64_by_remap_restored.f k l0 l1 = some r) :
    Calls Try.prog 71 #[.slice A0 l0.length c0, .slice A1 l1.length c1, .func (.func 72) #[] #[]] w fun e w' => ∃ v0_ : Value, e = .returned (v0_) ∧ Kd.R (Kd.int .i64) 2 w' w.heap.size (fun _ => True) v0_ r ∧ Below w.heap.size w w' := by
 have y0 := a_ hr0
 have I0 := a_ hc0
 clear hr0 hc0
 have z0 := a_ hr1
 have J0 := a_ hc1
 clear hr1 hc1
 have HB := a_ (Below.refl w.heap.size w)
 have H : (remap_over_int64_by_remap_restored.l0 k l1 ([] : List Int) l0 (l0.length : Int) 0) = some r := h
 clear h
 have H' := a_ H
 clear H
 go_enter Try.func71, Try.ntmps71
 go_wp2
 go_loopg [7, 12] k (fun kq v7 B0 w' => ∃ (d0 : List Int) (a0 : Int), B0 = .int .i64 a0 ∧ Aside0 (remap_over_int64_by_remap_restored.l0 kq l1 d0 l0 (l0.length : Int) a0 = some r) ∧ Aside0 (kq ≤ k) ∧ Aside0 (Kd.R (Kd.int .i64) 2 w' w.heap.size (fun _ => True) v7 d0) ∧ Aside0 (Below w.heap.size w w'))
 case atStart => exact ⟨(([] : List Int)), (0), rs_, H', ⟨Nat.le_refl _⟩, ⟨kn_⟩, ⟨bl_ HB⟩⟩
 case round => (
 clear H'
 obtain ⟨d0, a0, rfl, HA, p0, h0, HB⟩ := hrel
 cases gk with
 | zero => exact absurd HA.out (by simp [remap_over_int64_by_remap_restored.l0])
 | succ k1 => (
 have H := HA.out
 clear HA
 simp only [remap_over_int64_by_remap_restored.l0] at H
 replace H := id_ H
 rcases H with ⟨q0, H⟩ | ⟨q0, H⟩
 {
 replace H := gd_ H
 obtain ⟨E0, H⟩ := H
 replace H := gd_ H
 obtain ⟨F0, H⟩ := H
 replace H := gd_ H
 obtain ⟨G0, H⟩ := H
 obtain ⟨g0, A8, H⟩ := ob_ H
 (try dsimp only at H)
 replace H := gt_ H
 obtain ⟨c9, H⟩ := H
 have r0 := a_ c9
 clear c9
 obtain ⟨s0, b0⟩ : ∃ y_ : List Int, y_ = (d0 ++ [g0]) := ⟨_, rfl⟩
 first | replace H := by_ H b0 | rw [← b0] at H
 have n0 := a_ b0
 clear b0
 have H' := a_ H
 clear H
 have i0 : 0 ≤ (a0 : Int) := dm_
 have j0 : a0 < (l0.length : Int) := dm_
 obtain ⟨C0, t0, e0⟩ := Kd.at_int y0.out a0 i0 j0
 cases t0
 replace e0 := hc_ HB e0
 replace i0 := eq_true i0
 replace j0 := eq_true j0
 have k0 : 0 ≤ (a0 : Int) := dm_
 have m0 : a0 < (l1.length : Int) := dm_
 obtain ⟨D0, v0, f0⟩ := Kd.at_int z0.out a0 k0 m0
 cases v0
 replace f0 := hc_ HB f0
 replace k0 := eq_true k0
 replace m0 := eq_true m0
 go_wp2_with (first | (go_at_call 72; (with_reducible refine (remap_restored.calls (rd l0 a0) (rd l1 a0) g0 _ A8.out).mono ?_); rintro e w' ⟨rfl, ⟨nd, rfl⟩⟩) | ((with_reducible refine gate_builtin (b := .append) (xs := #[.tmp 17, .tmp 25]) rfl ?_); at_builtin; refine Kd.R_append (Kd.int .i64) (w0 := w) w.heap.size rfl (.tmp 17) (.tmp 25) 53 2 (.int .i64 0) 8 rfl Try.underlying53 info2 rfl (by decide) (by omega) u7 d0 g0 [.int .i64 g0] (fun _ => True) (fun _ => False) rfl rfl ?aP (fun _ hk => hk.elim) ?aF ?aO ?aB ?aS ?aL ?_; (case aP => exact rfl); (case aB => exact (bl_ HB)); (case aF => exact (fun _ _ => trivial)); (case aO => exact (kR_ h0)); (case aS => exact (bs_ HB)); (case aL => have := r0.out; omega); intro H0 K0 ho hb hg hat; rw [← n0.out] at ho; replace HB := a_ (hb); have o0 := a_ (ho); clear h0; clear ho hb hg hat))
 go_roundg k1
 case measure => have := p0.out; omega
 case rel => exact ⟨(s0), (wrap64 (a0 + 1)), rs_, H', ⟨by have := p0.out; omega⟩, ⟨kR_ o0⟩, ⟨bl_ HB⟩⟩}
 {
 obtain rfl := Option.some.inj H
 go_wp2
 go_ret
 exact ⟨_, er_, kR_ h0, bl_ HB⟩}))
def remap_Restore.f (k : Nat) (l0 : List Int) (l1 : List Int) : Option (List Int × Int) := (remap_row.f k l0 (-8388608) 8388608).bind fun a0 => (if a0 = true then ((remap_row.f k l1 1 4194304).bind fun b0 => (if b0 = true then ((remap_over_int64_by_remap_restored.f k l0 l1).bind fun c0 => (some (c0, 0))) else (some (([] : List Int), 1)))) else (some (([] : List Int), 1)))
theorem remap_Restore.mono : ∀ a0 a1 k, LeO (remap_Restore.f k a0 a1) (remap_Restore.f (k + 1) a0 a1) := by
  intro a0 a1 k
  unfold remap_Restore.f
  with_reducible repeat' first
   | exact remap_over_int64_by_remap_restored.mono _ _ _
   | exact remap_row.mono _ _ _ _
   | exact LeO.refl _
   | exact LeO.none _
   | refine LeO.ite ?_ ?_
   | refine LeO.bind ?_ (fun _ => ?_)
set_option maxHeartbeats 8000000 in
set_option maxRecDepth 100000 in
theorem remap_Restore.calls (k : Nat) (A0 : Option Addr) (c0 : Nat) (l0 : List Int) (A1 : Option Addr) (c1 : Nat) (l1 : List Int) (r1 : List Int) (r2 : Int) (w : World) (hr0 : Kd.C (Kd.int .i64) w A0 l0.length l0) (hc0 : l0.length ≤ c0) (hr1 : Kd.C (Kd.int .i64) w A1 l1.length l1) (hc1 : l1.length ≤ c1) (h : remap_Restore.f k l0 l1 = some (r1, r2)) :
    Calls Try.prog 35 #[.slice A0 l0.length c0, .slice A1 l1.length c1] w fun e w' => ∃ v0_ : Value, e = .returned (.tuple #[v0_, .int .i64 r2]) ∧ Kd.R (Kd.int .i64) 2 w' w.heap.size (fun _ => True) v0_ r1 ∧ Below w.heap.size w w' := by
 have b0 := a_ hr0
 have d0 := a_ hc0
 clear hr0 hc0
 have e0 := a_ hr1
 have f0 := a_ hc1
 clear hr1 hc1
 have HB := a_ (Below.refl w.heap.size w)
 have H : ((remap_row.f k l0 (-8388608) 8388608).bind fun g0 => (if g0 = true then ((remap_row.f k l1 1 4194304).bind fun h0 => (if h0 = true then ((remap_over_int64_by_remap_restored.f k l0 l1).bind fun a0 => (some (a0, 0))) else (some (([] : List Int), 1)))) else (some (([] : List Int), 1)))) = some (r1, r2) := h
 clear h
 obtain ⟨g0, A3, H⟩ := ob_ H
 (try dsimp only at H)
 replace H := ib_ H
 rcases H with ⟨rfl, H⟩ | ⟨rfl, H⟩
 {
 obtain ⟨h0, A5, H⟩ := ob_ H
 (try dsimp only at H)
 replace H := ib_ H
 rcases H with ⟨rfl, H⟩ | ⟨rfl, H⟩
 {
 obtain ⟨a0, A7, H⟩ := ob_ H
 (try dsimp only at H)
 simp only [Option.some.injEq, Prod.mk.injEq] at H
 obtain ⟨rfl, rfl⟩ := H
 go_enter Try.func35, Try.ntmps35
 go_wp2_with (first | ((with_reducible refine gate_callee (f := 70) rfl ?_); refine gL_ (some 7) Try.func70 #[.slice A0 l0.length c0, .int .i64 (-8388608), .int .i64 8388608] ?_; (with_reducible refine (remap_row.calls k _ _ l0 (-8388608) 8388608 true _ ?side1 ?side2 A3.out).mono ?_); (case side1 => repeat (first | exact b0.out | (with_reducible refine Kd.C_alloc ?_ _) | (with_reducible refine Kd.C_drewN ?_ _) | (with_reducible refine Kd.C_drew ?_))); (case side2 => exact d0.out); rintro e w' ⟨rfl, ⟨nd, rfl⟩⟩; refine ⟨_, rfl, ?_⟩) | (go_at_call 70; (with_reducible refine (remap_row.calls k _ _ l1 1 4194304 true _ ?side1 ?side2 A5.out).mono ?_); (case side1 => repeat (first | exact e0.out | (with_reducible refine Kd.C_alloc ?_ _) | (with_reducible refine Kd.C_drewN ?_ _) | (with_reducible refine Kd.C_drew ?_))); (case side2 => exact f0.out); rintro e w' ⟨rfl, ⟨nd, rfl⟩⟩) | ((with_reducible refine gate_callee (f := 71) rfl ?_); refine gL_ (some 16) Try.func71 #[.slice A0 l0.length c0, .slice A1 l1.length c1, .func (.func 72) #[] #[]] ?_; (with_reducible refine (remap_over_int64_by_remap_restored.calls k _ _ l0 _ _ l1  a0 _ ?side1 ?side2 ?side3 ?side4 A7.out).mono ?_); (case side1 => repeat (first | exact b0.out | (with_reducible refine Kd.C_alloc ?_ _) | (with_reducible refine Kd.C_drewN ?_ _) | (with_reducible refine Kd.C_drew ?_))); (case side2 => exact d0.out); (case side3 => repeat (first | exact e0.out | (with_reducible refine Kd.C_alloc ?_ _) | (with_reducible refine Kd.C_drewN ?_ _) | (with_reducible refine Kd.C_drew ?_))); (case side4 => exact f0.out); rintro e w8 ⟨k0, rfl, j0, hb⟩; refine ⟨_, rfl, ?_⟩; have i0 := a_ (Kd.R_lower j0 (bs_ HB)); replace HB := BS_ HB hb; (try clear hb); (try clear j0)))
 go_ret2
 exact ⟨_, er_, kR_ i0, bl_ HB⟩}
 {
 simp only [Option.some.injEq, Prod.mk.injEq] at H
 obtain ⟨rfl, rfl⟩ := H
 go_enter Try.func35, Try.ntmps35
 go_wp2_with (first | ((with_reducible refine gate_callee (f := 70) rfl ?_); refine gL_ (some 7) Try.func70 #[.slice A0 l0.length c0, .int .i64 (-8388608), .int .i64 8388608] ?_; (with_reducible refine (remap_row.calls k _ _ l0 (-8388608) 8388608 true _ ?side1 ?side2 A3.out).mono ?_); (case side1 => repeat (first | exact b0.out | (with_reducible refine Kd.C_alloc ?_ _) | (with_reducible refine Kd.C_drewN ?_ _) | (with_reducible refine Kd.C_drew ?_))); (case side2 => exact d0.out); rintro e w' ⟨rfl, ⟨nd, rfl⟩⟩; refine ⟨_, rfl, ?_⟩) | (go_at_call 70; (with_reducible refine (remap_row.calls k _ _ l1 1 4194304 false _ ?side1 ?side2 A5.out).mono ?_); (case side1 => repeat (first | exact e0.out | (with_reducible refine Kd.C_alloc ?_ _) | (with_reducible refine Kd.C_drewN ?_ _) | (with_reducible refine Kd.C_drew ?_))); (case side2 => exact f0.out); rintro e w' ⟨rfl, ⟨nd, rfl⟩⟩))
 go_ret2
 exact ⟨_, er_, kn_, bl_ HB⟩}}
 {
 simp only [Option.some.injEq, Prod.mk.injEq] at H
 obtain ⟨rfl, rfl⟩ := H
 go_enter Try.func35, Try.ntmps35
 go_wp2_with (first | ((with_reducible refine gate_callee (f := 70) rfl ?_); refine gL_ (some 7) Try.func70 #[.slice A0 l0.length c0, .int .i64 (-8388608), .int .i64 8388608] ?_; (with_reducible refine (remap_row.calls k _ _ l0 (-8388608) 8388608 false _ ?side1 ?side2 A3.out).mono ?_); (case side1 => repeat (first | exact b0.out | (with_reducible refine Kd.C_alloc ?_ _) | (with_reducible refine Kd.C_drewN ?_ _) | (with_reducible refine Kd.C_drew ?_))); (case side2 => exact d0.out); rintro e w' ⟨rfl, ⟨nd, rfl⟩⟩; refine ⟨_, rfl, ?_⟩))
 go_ret2
 exact ⟨_, er_, kn_, bl_ HB⟩}
def vcodec_near.l0 : Nat → List Int → List Int → Int → Int → Option (List Int)
  | 0, _, _, _, _ => none
  | k + 1, x3, x6, x7, x8 => if x8 < x7 then (if 0 ≤ x8 then (if x8 < (x6.length : Int) then ((num_Clamp.f (rd x6 x8) (-8388608) 8388608).bind fun a0 => (if x3.length < 17592186044416 then (vcodec_near.l0 k (x3 ++ [a0]) x6 x7 (wrap64 (x8 + 1))) else (none))) else (none)) else (none)) else (some x3)
def vcodec_near.f (k : Nat) (l0 : List Int) : Option (List Int) := vcodec_near.l0 k ([] : List Int) l0 (l0.length : Int) 0
theorem vcodec_near.mono_l : ∀ k, (∀ y0 y1 y2 y3, LeO (vcodec_near.l0 k y0 y1 y2 y3) (vcodec_near.l0 (k + 1) y0 y1 y2 y3))
  | 0 => fun _ _ _ _ r h => by simp [vcodec_near.l0] at h
  | k + 1 => by
    have a0 := vcodec_near.mono_l k
    · intro y0 y1 y2 y3
      unfold vcodec_near.l0
      with_reducible repeat' first
   | exact a0 _ _ _ _
   | exact LeO.refl _
   | exact LeO.none _
   | refine LeO.ite ?_ ?_
   | refine LeO.bind ?_ (fun _ => ?_)
theorem vcodec_near.mono : ∀ a0 k, LeO (vcodec_near.f k a0) (vcodec_near.f (k + 1) a0) := by
  intro a0 k
  have b0 := vcodec_near.mono_l k
  unfold vcodec_near.f
  with_reducible repeat' first
   | exact b0 _ _ _ _
   | exact LeO.refl _
   | exact LeO.none _
   | refine LeO.ite ?_ ?_
   | refine LeO.bind ?_ (fun _ => ?_)
set_option maxHeartbeats 8000000 in
set_option maxRecDepth 100000 in
theorem vcodec_near.calls (k : Nat) (A0 : Option Addr) (c0 : Nat) (l0 : List Int) (r : List Int) (w : World) (hr0 : Kd.C (Kd.int .i64) w A0 l0.length l0) (hc0 : l0.length ≤ c0) (h : vcodec_near.f k l0 = some r) :
    Calls Try.prog 36 #[.slice A0 l0.length c0] w fun e w' => ∃ v0_ : Value, e = .returned (v0_) ∧ Kd.R (Kd.int .i64) 2 w' w.heap.size (fun _ => True) v0_ r ∧ Below w.heap.size w w' := by
 have r0 := a_ hr0
 have z0 := a_ hc0
 clear hr0 hc0
 have HB := a_ (Below.refl w.heap.size w)
 have H : (vcodec_near.l0 k ([] : List Int) l0 (l0.length : Int) 0) = some r := h
 clear h
 have H' := a_ H
 clear H
 go_enter Try.func36, Try.ntmps36
 go_wp2
 go_loopg [3, 8] k (fun kq v3 v8 w' => ∃ (d0 : List Int) (a0 : Int), v8 = .int .i64 a0 ∧ Aside0 (vcodec_near.l0 kq d0 l0 (l0.length : Int) a0 = some r) ∧ Aside0 (kq ≤ k) ∧ Aside0 (Kd.R (Kd.int .i64) 2 w' w.heap.size (fun _ => True) v3 d0) ∧ Aside0 (Below w.heap.size w w'))
 case atStart => exact ⟨(([] : List Int)), (0), rs_, H', ⟨Nat.le_refl _⟩, ⟨kn_⟩, ⟨bl_ HB⟩⟩
 case round => (
 clear H'
 obtain ⟨d0, a0, rfl, HA, m0, g0, HB⟩ := hrel
 cases gk with
 | zero => exact absurd HA.out (by simp [vcodec_near.l0])
 | succ k1 => (
 have H := HA.out
 clear HA
 simp only [vcodec_near.l0] at H
 replace H := id_ H
 rcases H with ⟨n0, H⟩ | ⟨n0, H⟩
 {
 replace H := gd_ H
 obtain ⟨t0, H⟩ := H
 replace H := gd_ H
 obtain ⟨v0, H⟩ := H
 obtain ⟨f0, A5, H⟩ := ob_ H
 (try dsimp only at H)
 replace H := gt_ H
 obtain ⟨c6, H⟩ := H
 have o0 := a_ c6
 clear c6
 obtain ⟨p0, b0⟩ : ∃ y_ : List Int, y_ = (d0 ++ [f0]) := ⟨_, rfl⟩
 first | replace H := by_ H b0 | rw [← b0] at H
 have j0 := a_ b0
 clear b0
 have H' := a_ H
 clear H
 have h0 : 0 ≤ (a0 : Int) := dm_
 have i0 : a0 < (l0.length : Int) := dm_
 obtain ⟨s0, q0, e0⟩ := Kd.at_int r0.out a0 h0 i0
 cases q0
 replace e0 := hc_ HB e0
 replace h0 := eq_true h0
 replace i0 := eq_true i0
 go_wp2_with (first | ((with_reducible refine gate_callee (f := 73) rfl ?_); refine gL_ (some 14) Try.func73 #[.int .i64 (rd l0 a0), .int .i64 (-8388608), .int .i64 8388608] ?_; (with_reducible refine (num_Clamp.calls (rd l0 a0) (-8388608) 8388608 f0 _ A5.out).mono ?_); rintro e w' ⟨rfl, ⟨nd, rfl⟩⟩; refine ⟨_, rfl, ?_⟩) | ((with_reducible refine gate_builtin (b := .append) (xs := #[.tmp 12, .tmp 15]) rfl ?_); at_builtin; refine Kd.R_append (Kd.int .i64) (w0 := w) w.heap.size rfl (.tmp 12) (.tmp 15) 53 2 (.int .i64 0) 8 rfl Try.underlying53 info2 rfl (by decide) (by omega) u3 d0 f0 [.int .i64 f0] (fun _ => True) (fun _ => False) rfl rfl ?aP (fun _ hk => hk.elim) ?aF ?aO ?aB ?aS ?aL ?_; (case aP => exact rfl); (case aB => exact (bl_ HB)); (case aF => exact (fun _ _ => trivial)); (case aO => exact (kR_ g0)); (case aS => exact (bs_ HB)); (case aL => have := o0.out; omega); intro y0 w7 ho hb hg hat; rw [← j0.out] at ho; replace HB := a_ (hb); have k0 := a_ (ho); clear g0; clear ho hb hg hat))
 go_roundg k1
 case measure => have := m0.out; omega
 case rel => exact ⟨(p0), (wrap64 (a0 + 1)), rs_, H', ⟨by have := m0.out; omega⟩, ⟨kR_ k0⟩, ⟨bl_ HB⟩⟩}
 {
 obtain rfl := Option.some.inj H
 go_wp2
 go_ret
 exact ⟨_, er_, kR_ g0, bl_ HB⟩}))
mutual
def vcodec_Decode.j0 : Nat → List (List Int) → List (List Int) → List (List Int) → Option ((List (List Int)) × Int)
  | 0, _, _, _ => none
  | k + 1, x7, a0, b0 => vcodec_Decode.l0 k x7 a0 (a0.length : Int) 0 ([] : List (List Int))
def vcodec_Decode.l0 : Nat → List (List Int) → List (List Int) → Int → Int → List (List Int) → Option ((List (List Int)) × Int)
  | 0, _, _, _, _, _ => none
  | k + 1, x7, c0, d0, b0, a0 => if b0 < d0 then (if 0 ≤ b0 then (if b0 < (c0.length : Int) then (if 16 ≤ 35184372088832 then (if ((rd_L1 c0 b0).length : Int) > 0 then ((floor_Floor.f k (rd_L1 c0 b0)).bind fun e0 => (if b0 < (x7.length : Int) then ((vcodec_near.f k (rd_L2 x7 b0)).bind fun g0 => ((remap_Restore.f k g0 e0.1).bind fun f0 => (if a0.length < 5864062014805 then (vcodec_Decode.l0 k x7 c0 d0 (wrap64 (b0 + 1)) (a0 ++ [f0.1])) else (none)))) else (none))) else (if a0.length < 5864062014805 then (vcodec_Decode.l0 k x7 c0 d0 (wrap64 (b0 + 1)) (a0 ++ [(List.replicate 16 0)])) else (none))) else (none)) else (none)) else (none)) else (some (a0, 0))
end
def vcodec_Decode.f (k : Nat) (e0 : Int) (f0 : Int) (g0 : List Int) (h0 : List Int) (c0 : List (List Int)) (b0 : List (List Int)) : Option ((List (List Int)) × Int) := (vpack_Right.f k e0 f0 g0 h0 c0 b0).bind fun k0 => (if k0 = true then ((some (([] : List (List Int)) : List (List Int))).bind fun i0 => (if i0.length + b0.length < 5864062014805 then ((some (i0 ++ b0 : List (List Int))).bind fun a0 => ((vcodec_codec_both.f e0 f0 g0 h0 c0).bind fun l0 => (if l0 = true then (if 0 < (a0.length : Int) then (if 1 < (a0.length : Int) then ((couple_PartAll.f k (rd_L2 a0 0) (rd_L2 a0 1)).bind fun d0 => (vcodec_Decode.j0 k ((a0.set (0 : Int).toNat d0.1).set (1 : Int).toNat d0.2.1) c0 b0)) else (none)) else (none)) else (vcodec_Decode.j0 k a0 c0 b0)))) else (none))) else (some (([] : List (List Int)), 1)))
theorem vcodec_Decode.mono_l : ∀ k, (∀ y0 y1 y2, LeO (vcodec_Decode.j0 k y0 y1 y2) (vcodec_Decode.j0 (k + 1) y0 y1 y2)) ∧ (∀ y0 y1 y2 y3 y4, LeO (vcodec_Decode.l0 k y0 y1 y2 y3 y4) (vcodec_Decode.l0 (k + 1) y0 y1 y2 y3 y4))
  | 0 => ⟨fun _ _ _ r h => by simp [vcodec_Decode.j0] at h, fun _ _ _ _ _ r h => by simp [vcodec_Decode.l0] at h⟩
  | k + 1 => by
    obtain ⟨a0, b0⟩ := vcodec_Decode.mono_l k
    refine ⟨?_, ?_⟩
    all_goals (intros; first | unfold vcodec_Decode.j0 | unfold vcodec_Decode.l0)
    all_goals with_reducible repeat' first
     | exact a0 _ _ _
     | exact b0 _ _ _ _ _
     | exact couple_PartAll.mono _ _ _
     | exact floor_Floor.mono _ _
     | exact remap_Restore.mono _ _ _
     | exact vcodec_near.mono _ _
     | exact vpack_Right.mono _ _ _ _ _ _ _
     | exact LeO.refl _
     | exact LeO.none _
     | refine LeO.ite ?_ ?_
     | refine LeO.bind ?_ (fun _ => ?_)
theorem vcodec_Decode.mono : ∀ a0 a1 a2 a3 a4 a5 k, LeO (vcodec_Decode.f k a0 a1 a2 a3 a4 a5) (vcodec_Decode.f (k + 1) a0 a1 a2 a3 a4 a5) := by
  intro a0 a1 a2 a3 a4 a5 k
  obtain ⟨b0, c0⟩ := vcodec_Decode.mono_l k
  unfold vcodec_Decode.f
  with_reducible repeat' first
   | exact b0 _ _ _
   | exact c0 _ _ _ _ _
   | exact couple_PartAll.mono _ _ _
   | exact floor_Floor.mono _ _
   | exact remap_Restore.mono _ _ _
   | exact vcodec_near.mono _ _
   | exact vpack_Right.mono _ _ _ _ _ _ _
   | exact LeO.refl _
   | exact LeO.none _
   | refine LeO.ite ?_ ?_
   | refine LeO.bind ?_ (fun _ => ?_)
def vcodec_Decode.T6 : Bool × List (List Nat × List Nat) := (true, [([], []), ([], []), ([], []), ([2], [2]), ([3], [3]), ([], []), ([5], [5]), ([6], [6]), ([4, 7], [4, 7]), ([8], [8]), ([9], [9]), ([9], [9]), ([9], [9]), ([0, 0, 2, 3, 4, 5, 6, 7, 8, 9, 10], [0]), ([13, 10, 8, 0, 2, 3, 4, 5, 6, 7, 8, 9, 10], [10, 13]), ([1, 0, 1, 2, 3, 4, 5, 6, 7, 8, 9, 10, 11, 13, 14], [1]), ([15, 11, 14, 0, 1, 2, 3, 4, 5, 6, 7, 8, 9, 10, 11, 13, 14], [11, 15])])
def vcodec_Decode.B6 : List Nat := [0, 0, 0, 4, 12, 0, 32, 96, 252, 508, 1020, 1020, 1020, 2045, 10237, 28671, 61439]
theorem vcodec_Decode.tab6 : rtab .any (opsOf Try.f14 6) = vcodec_Decode.T6 := by kernel_rfl
theorem vcodec_Decode.bits6 : waitsOk vcodec_Decode.T6.2 vcodec_Decode.B6 = true := by kernel_rfl
set_option maxHeartbeats 8000000 in
set_option maxRecDepth 100000 in
theorem vcodec_Decode.calls (k : Nat) (C0 : Int) (D0 : Int) (H0 : Option Addr) (I0 : Nat) (z0 : List Int) (J0 : Option Addr) (K0 : Nat) (A0 : List Int) (Y0 : Option Addr) (Q0 : Nat) (q0 : List (List Int)) (P1_1_ : Nat → Prop) (M0 : Option Addr) (N0 : Nat) (v0 : List (List Int)) (r1 : List (List Int)) (r2 : Int) (w : World) (hr0_2 : Kd.C (Kd.int .i64) w H0 z0.length z0) (hc0_2 : z0.length ≤ I0) (hr0_3 : Kd.C (Kd.int .i64) w J0 A0.length A0) (hc0_3 : A0.length ≤ K0) (hr1_0 : Kd.C (Kd.slice 3 (Kd.int .i64)) w Y0 q0.length q0) (hc1_0 : q0.length ≤ Q0) (hs1_1 : Kd.V (Kd.slice 2 (Kd.int .i64)) 53 w w.heap.size (fun k_ => P1_1_ k_) (.slice M0 v0.length N0) v0) (h : vcodec_Decode.f k C0 D0 z0 A0 q0 v0 = some (r1, r2)) :
    Calls Try.prog 14 #[.agg #[.int .i64 C0, .int .i64 D0, .slice H0 z0.length I0, .slice J0 A0.length K0], .agg #[.slice Y0 q0.length Q0, .slice M0 v0.length N0]] w fun e w' => ∃ v0_ : Value, e = .returned (.tuple #[.agg #[v0_], .int .i64 r2]) ∧ Kd.N (Kd.slice 2 (Kd.int .i64)) 53 w' w.heap.size (fun k_ => (P1_1_ k_ ∨ w.heap.size ≤ k_)) v0_ r1 ∧ Below w.heap.size w w' := by
 have y7 := Try.underlying24
 have z7 := Try.underlying28
 have A7 := Try.underlying37
 have B7 := Try.underlying61
 have s3 := a_ hr0_2
 have t3 := a_ hc0_2
 clear hr0_2 hc0_2
 have v3 := a_ hr0_3
 have w3 := a_ hc0_3
 clear hr0_3 hc0_3
 have J1 := a_ hr1_0
 have y3 := a_ hc1_0
 clear hr1_0 hc1_0
 have m0 := a_ (show Kd.V (Kd.slice 2 (Kd.int .i64)) 53 w w.heap.size (fun k_ => (P1_1_ k_ ∨ w.heap.size ≤ k_)) (.slice M0 v0.length N0) v0 from Kd.V_mono hs1_1 (fun k_ hk => .inl hk))
 have HB := a_ (Below.refl w.heap.size w)
 have H : ((vpack_Right.f k C0 D0 z0 A0 q0 v0).bind fun B4 => (if B4 = true then ((some (([] : List (List Int)) : List (List Int))).bind fun c2 => (if c2.length + v0.length < 5864062014805 then ((some (c2 ++ v0 : List (List Int))).bind fun o0 => ((vcodec_codec_both.f C0 D0 z0 A0 q0).bind fun a4 => (if a4 = true then (if 0 < (o0.length : Int) then (if 1 < (o0.length : Int) then ((couple_PartAll.f k (rd_L2 o0 0) (rd_L2 o0 1)).bind fun h4 => (vcodec_Decode.j0 k ((o0.set (0 : Int).toNat h4.1).set (1 : Int).toNat h4.2.1) q0 v0)) else (none)) else (none)) else (vcodec_Decode.j0 k o0 q0 v0)))) else (none))) else (some (([] : List (List Int)), 1)))) = some (r1, r2) := h
 clear h
 obtain ⟨B4, A3, H⟩ := ob_ H
 (try dsimp only at H)
 replace H := ib_ H
 rcases H with ⟨rfl, H⟩ | ⟨rfl, H⟩
 {
 obtain ⟨c2, S1⟩ : ∃ y_ : List (List Int), y_ = (([] : List (List Int))) := ⟨_, rfl⟩
 first | replace H := by_ H S1 | rw [← S1] at H
 have i4 := a_ S1
 clear S1
 replace H := gt_ H
 obtain ⟨c5, H⟩ := H
 have j5 := a_ c5
 clear c5
 obtain ⟨o0, T1⟩ : ∃ y_ : List (List Int), y_ = (c2 ++ v0) := ⟨_, rfl⟩
 first | replace H := by_ H T1 | rw [← T1] at H
 have P4 := a_ T1
 clear T1
 obtain ⟨a4, A6, H⟩ := ob_ H
 (try dsimp only at H)
 have C4 := a_ H
 clear H
 go_enter Try.func14, Try.ntmps14
 go_upto_if 28 with (first | ((with_reducible refine gate_dst (N := 2) rfl ?_); refine box_ 2 #[.int .i64 C0, .int .i64 D0, .slice H0 z0.length I0, .slice J0 A0.length K0] 24 ?_; intro h0 hg w8 hbox hb; replace m0 := a_ (Kd.V_below (Kd.V_elderB (kV_ m0) h0 (Nat.le_of_eq hg.symm)) hb); have a0 := a_ (hbox); have Q4 := GE_ HB hg; have j4 := GE_ HB hg; replace HB := BS_ HB hb; clear hb hbox hg) | ((with_reducible refine gate_dst (N := 3) rfl ?_); refine box_ 3 #[.slice Y0 q0.length Q0, .slice M0 v0.length N0] 28 ?_; intro i0 hg w9 hbox hb; replace m0 := a_ (Kd.V_below (Kd.V_elderB (kV_ m0) i0 (Nat.le_of_eq hg.symm)) hb); have b0 := a_ (hbox); have R4 := GE_ HB hg; have k4 := GE_ HB hg; replace HB := BS_ HB hb; obtain ⟨Z0, a1⟩ := NN_ a0 hg; replace a0 := FB_ a0 hb; clear hb hbox hg) | ((with_reducible refine gate_dst (N := 4) rfl ?_); refine box_ 4 #[.slice none 0 0] 37 ?_; intro f0 hg M7 hbox hb; replace m0 := a_ (Kd.V_below (Kd.V_elderB (kV_ m0) f0 (Nat.le_of_eq hg.symm)) hb); have c0 := a_ (hbox); have S4 := GE_ HB hg; have l4 := GE_ HB hg; replace HB := BS_ HB hb; obtain ⟨b1, c1⟩ := NN_ a0 hg; replace a0 := FB_ a0 hb; obtain ⟨R0, S0⟩ := NN_ b0 hg; replace b0 := FB_ b0 hb; clear hb hbox hg; have k6 := Z0.out; have l6 := a1.out; have m6 := b1.out; have n6 := c1.out; obtain ⟨n2, p2, q2, s2, t2, v2, w2, y2⟩ := e4_ a0; have o6 := R0.out; have p6 := S0.out; obtain ⟨z2, A2, B2, C2⟩ := e2_ b0) | ((with_reducible refine gate_callee (f := 21) rfl ?_); refine gL_ (some 16) Try.func21 #[.agg #[.int .i64 C0, .int .i64 D0, .slice H0 z0.length I0, .slice J0 A0.length K0], .agg #[.slice Y0 q0.length Q0, .slice M0 v0.length N0]] ?_; (with_reducible refine (vpack_Right.calls k C0 D0 _ _ z0 _ _ A0 _ _ q0 _ _ v0 true _ ?side1 ?side2 ?side3 ?side4 ?side5 ?side6 ?side7 ?side8 A3.out).mono ?_); (case side1 => exact kC_ s3 HB); (case side2 => exact t3.out); (case side3 => exact kC_ v3 HB); (case side4 => exact w3.out); (case side5 => exact kC_ J1 HB); (case side6 => exact y3.out); (case side7 => exact kCt_ (Kd.V_reads' m0.out).2.2); (case side8 => exact (Kd.V_reads' m0.out).2.1); rintro e N7 ⟨rfl, hb⟩; refine ⟨_, rfl, ?_⟩; replace m0 := FV_ m0 hb; replace a0 := FB_ a0 hb; replace b0 := FB_ b0 hb; replace c0 := FB_ c0 hb; replace HB := BS_ HB hb; (try clear hb); (try clear hk); obtain ⟨D2, E2, F2, G2, H2, I2, J2, K2⟩ := e4_ a0) | ((with_reducible refine gate_dst (N := 6) rfl ?_); refine box_ 6 #[.int .i64 0, .int .i64 0, .slice none 0 0, .slice none 0 0] 61 ?_; intro g0 hg O7 hbox hb; replace m0 := a_ (Kd.V_below (Kd.V_elderB (kV_ m0) g0 (Nat.le_of_eq hg.symm)) hb); have e0 := a_ (hbox); have q6 := GE_ HB hg; have T4 := GE_ HB hg; replace HB := BS_ HB hb; obtain ⟨R3, S3⟩ := NN_ a0 hg; replace a0 := FB_ a0 hb; obtain ⟨O1, P1⟩ := NN_ b0 hg; replace b0 := FB_ b0 hb; obtain ⟨Q1, R1⟩ := NN_ c0 hg; replace c0 := FB_ c0 hb; clear hb hbox hg; have r6 := S3.out; have s6 := R3.out; have t6 := P1.out; have v6 := O1.out; have w6 := R1.out; have x6 := Q1.out; obtain ⟨L2, M2, N2, O2, P2, Q2, R2, S2⟩ := e4_ e0) | ((with_reducible refine gate_dst (N := 21) rfl ?_); refine Kd.N_lit (Kd.slice 2 (Kd.int .i64)) _ 53 ?hg (N' := 21) ?hd (xs := ([] : List (List Int))) (inner := []) (ok := (fun k_ => (P1_1_ k_ ∨ w.heap.size ≤ k_) ∧ k_ ≠ h0 ∧ k_ ≠ i0 ∧ k_ ≠ f0 ∧ k_ ≠ g0)) (okp := (fun k_ => (P1_1_ k_ ∨ w.heap.size ≤ k_) ∧ k_ ≠ h0 ∧ k_ ≠ i0 ∧ k_ ≠ f0 ∧ k_ ≠ g0)) ?hr ?hp (fun _ hk => hk) (fr_ (P := (fun k_ => (P1_1_ k_ ∨ w.heap.size ≤ k_) ∧ k_ ≠ h0 ∧ k_ ≠ i0 ∧ k_ ≠ f0 ∧ k_ ≠ g0)) (fun k_ hk => ⟨(.inr (Nat.le_trans (bs_ HB) hk)), Kd.freshB (g := h0) (o := .cells #[.int .i64 C0, .int .i64 D0, .slice H0 z0.length I0, .slice J0 A0.length K0] 24 (0, 0)) (bk_ a0) k_ hk, Kd.freshB (g := i0) (o := .cells #[.slice Y0 q0.length Q0, .slice M0 v0.length N0] 28 (0, 0)) (bk_ b0) k_ hk, Kd.freshB (g := f0) (o := .cells #[.slice none 0 0] 37 (0, 0)) (bk_ c0) k_ hk, Kd.freshB (g := g0) (o := .cells #[.int .i64 C0, .int .i64 D0, .slice H0 z0.length I0, .slice J0 A0.length K0] 61 (0, 0)) (bp_ e0) k_ hk⟩)) (Below.refl _ _) (Nat.le_refl _) (by simp) ?_; (case hd => rfl); (case hg => rfl); (case hr => first | (go_simp; done) | (go_simp; rfl)); (case hp => exact (Reps.none _ _)); intro b4 P7 K1 hb hg_ hnew_; clear hg_ hnew_; (first | rw [← i4.out] at K1 | (simp only [Int.reduceToNat] at K1; rw [← i4.out] at K1)); replace m0 := a_ (Kd.V_elder' (by (with_reducible repeat (first | apply Kd.V_alloc | apply Kd.V_drewN | apply Kd.V_drew)); exact (Kd.V_mono (Kd.V_far (p := ⟨g0, 3, none⟩) (Kd.V_far (p := ⟨g0, 2, none⟩) (Kd.V_far (p := ⟨g0, 1, none⟩) (Kd.V_far (p := ⟨g0, 0, none⟩) (Kd.V_mono m0.out (fun k_ hk => (⟨hk, hk.2⟩ : _ ∧ k_ ≠ g0))) (fun _ hk => hk.2) (.int .i64 C0)) (fun _ hk => hk.2) (.int .i64 D0)) (fun _ hk => hk.2) (.slice H0 z0.length I0)) (fun _ hk => hk.2) (.slice J0 A0.length K0)) (fun _ h_ => h_.1))) (Kd.N_base K1) hb); have E1 := a_ (Kd.N_lower K1 (bs_ HB)); replace a0 := FB_ a0 hb; replace b0 := FB_ b0 hb; replace c0 := FB_ c0 hb; replace e0 := a_ (blk_below (g := g0) (o := .cells #[.int .i64 C0, .int .i64 D0, .slice H0 z0.length I0, .slice J0 A0.length K0] 61 (0, 0)) (bp_ e0) hb); replace HB := BS_ HB hb; clear hb K1; obtain ⟨T2, U2, V2, W2⟩ := e2_ b0) | ((with_reducible refine gate_builtin (b := .append) (xs := #[.tmp 21, .tmp 23]) rfl ?_); at_builtin; refine Kd.N_append_rows (Kd.slice 2 (Kd.int .i64)) (w0 := w) w.heap.size rfl (.tmp 21) (.tmp 23) 26 53 (.slice none 0 0) 24 rfl Try.underlying26 info53 rfl (by decide) (by omega) b4 c2 v0 _ _ _ (fun k_ => (P1_1_ k_ ∨ w.heap.size ≤ k_) ∧ k_ ≠ h0 ∧ k_ ≠ i0 ∧ k_ ≠ f0 ∧ k_ ≠ g0) (fun k_ => ((fun k_ => (P1_1_ k_ ∨ w.heap.size ≤ k_) ∧ k_ ≠ h0 ∧ k_ ≠ i0 ∧ k_ ≠ f0 ∧ k_ ≠ g0)) k_ ∧ some k_ ≠ (b4 : Value).ownBlock) rfl rfl ?aO ?aR (fun _ hk => hk) ?aF ?aB ?aS ?aL ?_; (case aR => exact (by skip; exact Kd.V_F (Kd.V_mono (ok' := (fun k_ => ((fun k_ => (P1_1_ k_ ∨ w.heap.size ≤ k_) ∧ k_ ≠ h0 ∧ k_ ≠ i0 ∧ k_ ≠ f0 ∧ k_ ≠ g0)) k_ ∧ some k_ ≠ (b4 : Value).ownBlock)) (m0.out) cj_))); (case aB => exact (bl_ HB)); (case aF => exact (fun k_ hk => ⟨(.inr (Nat.le_trans (bs_ HB) hk)), Kd.freshB (g := h0) (o := .cells #[.int .i64 C0, .int .i64 D0, .slice H0 z0.length I0, .slice J0 A0.length K0] 24 (0, 0)) (bk_ a0) k_ hk, Kd.freshB (g := i0) (o := .cells #[.slice Y0 q0.length Q0, .slice M0 v0.length N0] 28 (0, 0)) (bk_ b0) k_ hk, Kd.freshB (g := f0) (o := .cells #[.slice none 0 0] 37 (0, 0)) (bk_ c0) k_ hk, Kd.freshB (g := g0) (o := .cells #[.int .i64 C0, .int .i64 D0, .slice H0 z0.length I0, .slice J0 A0.length K0] 61 (0, 0)) (bk_ e0) k_ hk⟩)); (case aO => exact (kN_ E1)); (case aS => exact (bs_ HB)); (case aL => have := j5.out; omega); intro f1 Q7 ho hb hg hat; rw [← P4.out] at ho; replace m0 := a_ (Kd.V_afterv (ok := (fun k_ => (P1_1_ k_ ∨ w.heap.size ≤ k_) ∧ k_ ≠ h0 ∧ k_ ≠ i0 ∧ k_ ≠ f0 ∧ k_ ≠ g0)) (by (with_reducible repeat (first | apply Kd.V_alloc | apply Kd.V_drewN | apply Kd.V_drew)); exact Kd.V_mono m0.out cj_) hg hat); replace a0 := (FG_ a0 hg (Kd.N_ne E1.out a0.out (by decide))); replace b0 := (FG_ b0 hg (Kd.N_ne E1.out b0.out (by decide))); replace c0 := (FG_ c0 hg (Kd.N_ne E1.out c0.out (by decide))); replace e0 := (FG_ e0 hg (Kd.N_ne E1.out e0.out (by decide))); replace HB := a_ (hb); have r0 := a_ (ho); clear E1; clear ho hb hg hat; obtain ⟨X2, Y2, Z2, a3, b3, c3, d3, e3⟩ := e4_ e0; obtain ⟨f3, g3, h3, i3⟩ := e2_ b0) | ((with_reducible refine gate_callee (f := 32) rfl ?_); refine gL_ (some 28) Try.func32 #[.agg #[.int .i64 C0, .int .i64 D0, .slice H0 z0.length I0, .slice J0 A0.length K0], .slice Y0 q0.length Q0] ?_; (with_reducible refine (vcodec_codec_both.calls C0 D0 _ _ z0 _ _ A0 _ _ q0 a4 _ ?side1 ?side2 ?side3 ?side4 ?side5 ?side6 A6.out).mono ?_); (case side1 => exact kC_ s3 HB); (case side2 => exact t3.out); (case side3 => exact kC_ v3 HB); (case side4 => exact w3.out); (case side5 => exact kC_ J1 HB); (case side6 => exact y3.out); rintro e a6 ⟨rfl, hb⟩; refine ⟨_, rfl, ?_⟩; replace m0 := FV_ m0 hb; replace r0 := FN_ r0 hb; replace a0 := FB_ a0 hb; replace b0 := FB_ b0 hb; replace c0 := FB_ c0 hb; replace e0 := FB_ e0 hb; replace HB := BS_ HB hb; (try clear hb); (try clear hk)))
 (try simp only [Act.put, List.setIfInBounds_toArray, List.set_cons_zero, List.set_cons_succ])
 go_cut [] (fun wc => ∃ (kq : Nat) (O0 : List (List Int)), Aside0 (vcodec_Decode.j0 kq O0 q0 v0 = some (r1, r2)) ∧ Aside0 (kq ≤ k) ∧ Aside0 (Kd.N (Kd.slice 2 (Kd.int .i64)) 53 wc w.heap.size (fun k_ => (P1_1_ k_ ∨ w.heap.size ≤ k_) ∧ k_ ≠ h0 ∧ k_ ≠ i0 ∧ k_ ≠ f0 ∧ k_ ≠ g0) f1 O0) ∧ Aside0 (Kd.V (Kd.slice 2 (Kd.int .i64)) 53 wc w.heap.size (fun k_ => (P1_1_ k_ ∨ w.heap.size ≤ k_) ∧ some k_ ≠ (f1 : Value).ownBlock ∧ k_ ≠ h0 ∧ k_ ≠ i0 ∧ k_ ≠ f0 ∧ k_ ≠ g0) (.slice M0 v0.length N0) v0) ∧ Aside0 (wc.heap[h0]? = some (.cells #[.int .i64 C0, .int .i64 D0, (.slice H0 z0.length I0), (.slice J0 A0.length K0)] 24 (0, 0))) ∧ Aside0 (wc.heap[i0]? = some (.cells #[(.slice Y0 q0.length Q0), (.slice M0 v0.length N0)] 28 (0, 0))) ∧ Aside0 (wc.heap[f0]? = some (.cells #[(.slice none 0 0)] 37 (0, 0))) ∧ Aside0 (wc.heap[g0]? = some (.cells #[.int .i64 C0, .int .i64 D0, (.slice H0 z0.length I0), (.slice J0 A0.length K0)] 61 (0, 0))) ∧ Aside0 (Below w.heap.size w wc))
 case first => (
 have H := C4.out
 clear C4
 replace H := ib_ H
 rcases H with ⟨rfl, H⟩ | ⟨rfl, H⟩
 {
 replace H := gt_ H
 obtain ⟨f5, H⟩ := H
 have m4 : decide (0 < (o0.length : Int)) = true := decide_eq_true f5
 have y6 : decide (0 < o0.length) = true := decide_eq_true (by omega)
 clear f5
 (first | rw [m4] | (simp only [i64_w, i32_w]; rw [m4]) | skip)
 replace H := gt_ H
 obtain ⟨g5, H⟩ := H
 have z6 : decide (1 < (o0.length : Int)) = true := decide_eq_true g5
 have B6 : decide (1 < o0.length) = true := decide_eq_true (by omega)
 clear g5
 obtain ⟨⟨L1, M1, k5⟩, b6, H⟩ := ob_ H
 (try dsimp only at H)
 obtain ⟨d4, U1⟩ : ∃ y_ : List (List Int), y_ = (o0.set (0 : Int).toNat L1) := ⟨_, rfl⟩
 first | replace H := by_ H U1 | rw [← U1] at H
 have U4 := a_ U1
 clear U1
 obtain ⟨l5, V1⟩ : ∃ y_ : List (List Int), y_ = (d4.set (1 : Int).toNat M1) := ⟨_, rfl⟩
 first | replace H := by_ H V1 | rw [← V1] at H
 have V4 := a_ V1
 clear V1
 have H' := a_ H
 clear H
 try go_wp2
 replace m0 := a_ (Kd.V_drew m0.out)
 replace r0 := a_ (Kd.N_drew r0.out)
 replace a0 := a_ (blk_drew a0.out)
 replace b0 := a_ (blk_drew b0.out)
 replace c0 := a_ (blk_drew c0.out)
 replace e0 := a_ (blk_drew e0.out)
 replace HB := a_ (below_drew1 HB.out)
 obtain ⟨C7, z3, D4⟩ := Kd.N_slice r0.out
 (first | subst D4 | (injection D4 with f1_ f2_ f3_; have f4_ := f1_.symm; have f5_ := f3_.symm; clear f1_ f2_ f3_; subst f4_; subst f5_))
 have B3 : 0 ≤ (0 : Int) := (by omega)
 have C3 : 0 < (o0.length : Int) := dm_
 obtain ⟨W1, T3, U3, m5, U0, j3, k3⟩ := at_L2 (Kd.N_reads' r0.out).2.2 0 B3 C3
 cases m5
 obtain ⟨ce240, hce240, hMe240, hcc240⟩ := Kd.N_get r0.out [] 0 B3 (by first | exact C3 | exact dm_ | (have e_ := (Kd.N_reads' r0.out).1; omega))
 obtain ⟨ua240_0, uc240_0, rfl, ul240_0, ge240_0⟩ := Kd.FK_slice_open hMe240
 have hv240_0 := hcc240 0 _ rfl
 rw [Nat.add_zero, show ((Kd.slice 2 (Kd.int .i64))).sz = 1 from rfl, Nat.mul_one] at hv240_0
 replace hv240_0 := Option.some.inj (hv240_0.symm.trans U0)
 injection hv240_0 with hva_ hvn_ hvc_
 rw [hva_] at ge240_0
 rw [hvc_] at ul240_0
 have HL240_0 := a_ (show Kd.V (Kd.int .i64) 2 _ w.heap.size _ _ (rd_L2 o0 0) from Kd.V_mk ul240_0 ge240_0)
 clear hva_ hvn_ hvc_ ge240_0 ul240_0
 clear hcc240 hce240
 have qi240 : (0 < o0.length) = True := eq_true (by omega)
 (try rw [show ((0 : Int)).toNat = 0 from rfl] at U0)
 (try rw [Addr.add_zero'] at U0)
 have V0 := a_ k3
 have s4 := a_ j3
 clear k3 j3
 replace B3 := eq_true B3
 replace C3 := eq_true C3
 have D3 : 0 ≤ (1 : Int) := (by omega)
 have E3 : 1 < (o0.length : Int) := dm_
 obtain ⟨W4, V3, W3, n5, W0, l3, m3⟩ := at_L2 (Kd.N_reads' r0.out).2.2 1 D3 E3
 obtain rfl : W1 = W4 := (by injection n5)
 obtain ⟨ce241, hce241, hMe241, hcc241⟩ := Kd.N_get r0.out [] 1 D3 (by first | exact E3 | exact dm_ | (have e_ := (Kd.N_reads' r0.out).1; omega))
 obtain ⟨ua241_0, uc241_0, rfl, ul241_0, ge241_0⟩ := Kd.FK_slice_open hMe241
 have hv241_0 := hcc241 0 _ rfl
 rw [Nat.add_zero, show ((Kd.slice 2 (Kd.int .i64))).sz = 1 from rfl, Nat.mul_one] at hv241_0
 replace hv241_0 := Option.some.inj (hv241_0.symm.trans W0)
 injection hv241_0 with hva_ hvn_ hvc_
 rw [hva_] at ge241_0
 rw [hvc_] at ul241_0
 have HL241_0 := a_ (show Kd.V (Kd.int .i64) 2 _ w.heap.size _ _ (rd_L2 o0 1) from Kd.V_mk ul241_0 ge241_0)
 clear hva_ hvn_ hvc_ ge241_0 ul241_0
 clear hcc241 hce241
 (try simp only [show (1 : Int).toNat = 1 from rfl, Nat.reduceMul, Nat.reduceEqDiff, Go.Addr.add, ↓reduceIte] at W0)
 have qi241 : (1 < o0.length) = True := eq_true (by omega)
 (try rw [show ((1 : Int)).toNat = 1 from rfl] at W0)
 have X0 := a_ m3
 have t4 := a_ l3
 clear m3 l3
 replace D3 := eq_true D3
 replace E3 := eq_true E3
 refine start_ (n := 17) (S := fun w' => w'.cell? W1 = some (.slice T3 (rd_L2 o0 0).length U3) ∧ w'.cell? ⟨W1.block, W1.off + 1, none⟩ = some (.slice V3 (rd_L2 o0 1).length W3)) (ds := [14, 16]) (B_ 17 0) kf_ rfl rfl ⟨U0, W0⟩ (fun hHeld => ?_); refine with_tabW vcodec_Decode.tab6 vcodec_Decode.bits6 (fun HT_ HW_ => ?_)
 generalize a6.drew = R7 at m0 r0 a0 b0 c0 e0 HB HL240_0 HL241_0 V0 X0 U0 W0 hHeld ⊢
 refine pu_ 0 (some 30) (B_ 17 1) HT_ ?_
 refine pu_ 1 (some 31) (B_ 17 3) HT_ ?_
 refine pu_ 2 (some 32) (B_ 17 7) HT_ ?_
 refine pu_ 3 (some 33) (B_ 17 15) HT_ ?_
 refine pu_ 5 (some 35) (B_ 17 47) HT_ ?_
 refine pu_ 6 (some 36) (B_ 17 111) HT_ ?_
 refine take_ (i := 4) (N := some 34) (v := ?_) (a' := ?_) (B_ 17 127) rfl rfl (take_ofW HT_.out HW_.out kf_) (fun _ _ _ h => h) (Or.inl ⟨by rfl, ?_⟩) hHeld ?_ ?_
 rotate_left
 {
 rintro w' ⟨s0, s1⟩
 go_simp
 with_reducible rfl}
 rotate_left
 {
 exact sp_}
 refine take_ (i := 7) (N := some 37) (v := ?_) (a' := ?_) (B_ 17 255) rfl rfl (take_ofW HT_.out HW_.out kf_) (fun _ _ _ h => h) (Or.inl ⟨by rfl, ?_⟩) hHeld ?_ ?_
 rotate_left
 {
 rintro w' ⟨s0, s1⟩
 go_simp
 with_reducible rfl}
 rotate_left
 {
 exact sp_}
 refine one_ (i := 8) (N := some 38) (B_ 17 511) rfl rfl (one_of HT_.out kf_) (by decide) (fun K hK => ?_)
 refine goes_ Try.func33 kf_ rfl #[.slice T3 (rd_L2 o0 0).length U3, .slice V3 (rd_L2 o0 1).length W3] (by rfl) rfl rfl ar_ ?_
 with_reducible refine (couple_PartAll.calls k _ _ (rd_L2 o0 0) _ _ (rd_L2 o0 1) L1 M1 k5 _ ?side1 ?side2 ?side3 ?side4 b6.out).mono ?_
 (case side1 => repeat (first | exact (by repeat (first | (with_reducible exact V0.out) | (with_reducible refine Kd.C_alloc ?_ _) | (with_reducible refine Kd.C_drewN ?_ _) | (with_reducible refine Kd.C_drew ?_) | exact V0.out)) | (with_reducible refine Kd.C_alloc ?_ _) | (with_reducible refine Kd.C_drewN ?_ _) | (with_reducible refine Kd.C_drew ?_)))
 (case side2 => exact s4.out)
 (case side3 => repeat (first | exact (by repeat (first | (with_reducible exact X0.out) | (with_reducible refine Kd.C_alloc ?_ _) | (with_reducible refine Kd.C_drewN ?_ _) | (with_reducible refine Kd.C_drew ?_) | exact X0.out)) | (with_reducible refine Kd.C_alloc ?_ _) | (with_reducible refine Kd.C_drewN ?_ _) | (with_reducible refine Kd.C_drew ?_)))
 (case side4 => exact t4.out)
 rintro e S7 ⟨D7, F3, rfl, E0, n3, hb⟩
 have HS0_ := (hb.cell (World.block_lt_of_cell? _ _ (hHeld.1))).trans (hHeld.1)
 have HS1_ := (hb.cell (World.block_lt_of_cell? _ _ (hHeld.2))).trans (hHeld.2)
 refine ⟨_, rfl, ?_⟩
 replace m0 := a_ (Kd.V_mono (Kd.V_told (Kd.V_told (Kd.V_old (kV_ m0) hb) (Kd.R_base E0)) (Kd.R_base n3)) (fun _ h_ => h_.1))
 replace r0 := a_ (Kd.N_mono (Kd.N_told (Kd.N_told (Kd.N_old (kN_ r0) hb) (Kd.R_base E0)) (Kd.R_base n3)) (fun _ h_ => h_.1))
 replace HL240_0 := a_ (Kd.V_mono (Kd.V_told (Kd.V_told (Kd.V_old (kV_ HL240_0) hb) (Kd.R_base E0)) (Kd.R_base n3)) (fun _ h_ => h_.1))
 replace HL241_0 := a_ (Kd.V_mono (Kd.V_told (Kd.V_told (Kd.V_old (kV_ HL241_0) hb) (Kd.R_base E0)) (Kd.R_base n3)) (fun _ h_ => h_.1))
 have G3 := a_ (Kd.R_lower (Kd.R_newM (M := fun k_ => (w.heap.size ≤ k_)) E0 (bs_ HB) (fun k_ h_ => h_)) (bs_ HB))
 have H3 := a_ (Kd.R_lower (Kd.R_newM (M := fun k_ => (w.heap.size ≤ k_)) n3 (bs_ HB) (fun k_ h_ => h_)) (bs_ HB))
 replace a0 := FB_ a0 hb
 replace b0 := FB_ b0 hb
 replace c0 := FB_ c0 hb
 replace e0 := FB_ e0 hb
 replace V0 := a_ (Kd.C_below (by repeat (first | (with_reducible exact V0.out) | (with_reducible refine Kd.C_alloc ?_ _) | (with_reducible refine Kd.C_drewN ?_ _) | (with_reducible refine Kd.C_drew ?_) | exact V0.out)) hb)
 replace X0 := a_ (Kd.C_below (by repeat (first | (with_reducible exact X0.out) | (with_reducible refine Kd.C_alloc ?_ _) | (with_reducible refine Kd.C_drewN ?_ _) | (with_reducible refine Kd.C_drew ?_) | exact X0.out)) hb)
 replace HB := BS_ HB hb
 (try clear hb)
 (try clear hk)
 (try clear E0)
 (try clear n3)
 have E4 : 0 ≤ (0 : Int) := (by omega)
 have F4 : (0 : Int) < ((o0.length : Int) : Int) := dm_
 have qi34 : (0 < o0.length) = True := eq_true (by omega)
 obtain ⟨go34, E7, G4, H4, gl34, cl34, HG34⟩ := Kd.N_form r0.out (by omega)
 (first | cases G4 | (injection G4 with ea_ en_ ec_; (first | subst ea_ | (injection ea_ with ea_; subst ea_)); subst ec_; clear en_))
 have GB34 := a_ H4
 have GG34 := a_ HG34
 clear H4 gl34 HG34
 (first | simp only [add_plain] at U0 | skip)
 (first | simp only [add_plain] at W0 | skip)
 obtain ⟨ce34, hcl34, hM34, hcc34, hfr34⟩ := Kd.N_elem r0.out [] (0 : Int) E4 F4
 obtain ⟨ua34_0, uc34_0, rfl, ul34_0, ge34_0⟩ := Kd.FK_slice_open hM34
 have d2 := hcc34 0 _ rfl
 have hf34_0 := hfr34 0
 (try simp only [show ((Kd.slice 2 (Kd.int .i64))).sz = 1 from rfl, Nat.mul_one, Nat.add_zero] at d2)
 (try simp only [show ((Kd.slice 2 (Kd.int .i64))).sz = 1 from rfl, Nat.mul_one, Nat.add_zero] at hf34_0)
 clear hcl34 hcc34 hfr34 hM34
 (try rw [show ((0 : Int)).toNat = 0 from rfl] at d2)
 (try simp only [Nat.reduceMul, Nat.zero_mul, Nat.zero_add, Nat.reduceAdd] at d2)
 (try rw [show ((0 : Int)).toNat = 0 from rfl] at hf34_0)
 (try simp only [Nat.reduceMul, Nat.zero_mul, Nat.zero_add, Nat.reduceAdd] at hf34_0)
 replace E4 := eq_true E4
 replace F4 := eq_true F4
 obtain ⟨e2, f2, I4⟩ := Kd.R_slice G3.out
 subst I4
 have HX39 := a_ (show Kd.N (Kd.slice 2 (Kd.int .i64)) 53 _ w.heap.size (fun k_ => (P1_1_ k_ ∨ w.heap.size ≤ k_) ∧ some k_ ≠ ((.slice e2 L1.length f2) : Value).ownBlock ∧ some k_ ≠ (F3 : Value).ownBlock ∧ k_ ≠ h0 ∧ k_ ≠ i0 ∧ k_ ≠ f0 ∧ k_ ≠ g0) (.slice (some ⟨go34, 0, none⟩) o0.length z3) o0 from (Kd.N_mono (r0.out) cj_))
 replace HX39 := a_ (show Kd.N (Kd.slice 2 (Kd.int .i64)) 53 _ w.heap.size (fun k_ => (P1_1_ k_ ∨ w.heap.size ≤ k_) ∧ some k_ ≠ (F3 : Value).ownBlock ∧ k_ ≠ h0 ∧ k_ ≠ i0 ∧ k_ ≠ f0 ∧ k_ ≠ g0) (.slice (some ⟨go34, 0, none⟩) o0.length z3) o0 from Kd.N_mono HX39.out cj_)
 obtain ⟨ce39, hcl39, hM39, hcc39, hfr39⟩ := Kd.N_elem HX39.out [] (0 : Int) (by omega) (by have h_ : (0 : Int) < ((o0.length : Int) : Int) := dm_; first | exact h_ | (have e_ := (Kd.N_reads' r0.out).1; omega) | simpa using h_)
 obtain ⟨ua39_0, uc39_0, rfl, ul39_0, ge39_0⟩ := Kd.FK_slice_open hM39
 have HZ39 := (Kd.N_seg HX39.out (0 : Int) (by omega) (by have h_ : (0 : Int) < ((o0.length : Int) : Int) := dm_; first | exact h_ | (have e_ := (Kd.N_reads' r0.out).1; omega) | simpa using h_) (seg := [(.slice e2 L1.length f2)]) (j := 0) hcl39 hcc39 (show 1 ≤ 1 from by decide) (x' := L1) (Kd.FK_slice_mk (Kd.R_reads' (Kd.R_mono (ok' := (fun k_ => ((fun k_ => (P1_1_ k_ ∨ w.heap.size ≤ k_) ∧ some k_ ≠ (F3 : Value).ownBlock ∧ k_ ≠ h0 ∧ k_ ≠ i0 ∧ k_ ≠ f0 ∧ k_ ≠ g0)) k_ ∧ k_ ≠ go34)) (Kd.R_types (Kd.R_types (Kd.R_types (Kd.R_types (Kd.R_apart' (G3.out) (Kd.N_typed r0.out) (by decide)) a0.out (by decide)) b0.out (by decide)) c0.out (by decide)) e0.out (by decide)) (fun k_ hk => ⟨⟨(.inr (hk.1.1.1.1.1.1)), ⟨hk.1.1.1.1.1.2, ⟨hk.1.1.1.2, ⟨hk.1.1.2, ⟨hk.1.2, hk.2⟩⟩⟩⟩⟩, fun e_ => (hk.1.1.1.1.2) (by rw [e_]; rfl)⟩))).2.1 (Kd.R_F (Kd.R_mono (ok' := (fun k_ => ((fun k_ => (P1_1_ k_ ∨ w.heap.size ≤ k_) ∧ some k_ ≠ (F3 : Value).ownBlock ∧ k_ ≠ h0 ∧ k_ ≠ i0 ∧ k_ ≠ f0 ∧ k_ ≠ g0)) k_ ∧ k_ ≠ go34)) (Kd.R_types (Kd.R_types (Kd.R_types (Kd.R_types (Kd.R_apart' (G3.out) (Kd.N_typed r0.out) (by decide)) a0.out (by decide)) b0.out (by decide)) c0.out (by decide)) e0.out (by decide)) (fun k_ hk => ⟨⟨(.inr (hk.1.1.1.1.1.1)), ⟨hk.1.1.1.1.1.2, ⟨hk.1.1.1.2, ⟨hk.1.1.2, ⟨hk.1.2, hk.2⟩⟩⟩⟩⟩, fun e_ => (hk.1.1.1.1.2) (by rw [e_]; rfl)⟩)))) (fun _ hk => hk))
 have HG39 := HZ39.2
 replace HZ39 := HZ39.1
 have HP39 := HZ39
 clear HZ39
 (try simp only [show ((Kd.slice 2 (Kd.int .i64))).sz = 1 from rfl, Nat.mul_one, Nat.add_zero] at HP39 HG39)
 rw [← U4.out] at HP39
 have HQ39 := a_ HP39
 clear hcl39 hcc39 hfr39 hM39 HP39
 have n4 : 0 ≤ (1 : Int) := (by omega)
 have o4 : (1 : Int) < ((o0.length : Int) : Int) := dm_
 have qi35 : (1 < o0.length) = True := eq_true (by omega)
 obtain ⟨ce35, hcl35, hM35, hcc35, hfr35⟩ := Kd.N_elem HQ39.out [] (1 : Int) n4 o4
 obtain ⟨ua35_0, uc35_0, rfl, ul35_0, ge35_0⟩ := Kd.FK_slice_open hM35
 have g2 := hcc35 0 _ rfl
 have hf35_0 := hfr35 0
 (try simp only [show ((Kd.slice 2 (Kd.int .i64))).sz = 1 from rfl, Nat.mul_one, Nat.add_zero] at g2)
 (try simp only [show ((Kd.slice 2 (Kd.int .i64))).sz = 1 from rfl, Nat.mul_one, Nat.add_zero] at hf35_0)
 clear hcl35 hcc35 hfr35 hM35
 (try rw [show ((1 : Int)).toNat = 1 from rfl] at g2)
 (try simp only [Nat.reduceMul, Nat.zero_mul, Nat.zero_add, Nat.reduceAdd] at g2)
 (try rw [show ((1 : Int)).toNat = 1 from rfl] at hf35_0)
 (try simp only [Nat.reduceMul, Nat.zero_mul, Nat.zero_add, Nat.reduceAdd] at hf35_0)
 obtain ⟨ce35b, hcl35b, hM35b, hcc35b, hfr35b⟩ := Kd.N_elem HX39.out [] (1 : Int) n4 o4
 obtain ⟨ua35b_0, uc35b_0, rfl, ul35b_0, ge35b_0⟩ := Kd.FK_slice_open hM35b
 have hx35b_0 := hcc35b 0 _ rfl
 have hf35b_0 := hfr35b 0
 (try simp only [show ((Kd.slice 2 (Kd.int .i64))).sz = 1 from rfl, Nat.mul_one, Nat.add_zero] at hx35b_0)
 (try simp only [show ((Kd.slice 2 (Kd.int .i64))).sz = 1 from rfl, Nat.mul_one, Nat.add_zero] at hf35b_0)
 (try rw [show ((1 : Int)).toNat = 1 from rfl] at hx35b_0)
 (try simp only [Nat.reduceMul, Nat.zero_mul, Nat.zero_add, Nat.reduceAdd] at hx35b_0)
 (try rw [show ((1 : Int)).toNat = 1 from rfl] at hf35b_0)
 (try simp only [Nat.reduceMul, Nat.zero_mul, Nat.zero_add, Nat.reduceAdd] at hf35b_0)
 clear hcl35b hM35b hcc35b hfr35b
 replace n4 := eq_true n4
 replace o4 := eq_true o4
 obtain ⟨h2, i2, J4⟩ := Kd.R_slice H3.out
 subst J4
 have HX40 := a_ (show Kd.N (Kd.slice 2 (Kd.int .i64)) 53 _ w.heap.size (fun k_ => (P1_1_ k_ ∨ w.heap.size ≤ k_) ∧ some k_ ≠ ((.slice h2 M1.length i2) : Value).ownBlock ∧ k_ ≠ h0 ∧ k_ ≠ i0 ∧ k_ ≠ f0 ∧ k_ ≠ g0) (.slice (some ⟨go34, 0, none⟩) o0.length z3) d4 from (Kd.N_mono (HQ39.out) cj_))
 replace HX40 := a_ (show Kd.N (Kd.slice 2 (Kd.int .i64)) 53 _ w.heap.size (fun k_ => (P1_1_ k_ ∨ w.heap.size ≤ k_) ∧ k_ ≠ h0 ∧ k_ ≠ i0 ∧ k_ ≠ f0 ∧ k_ ≠ g0) (.slice (some ⟨go34, 0, none⟩) o0.length z3) d4 from Kd.N_mono HX40.out cj_)
 obtain ⟨ce40, hcl40, hM40, hcc40, hfr40⟩ := Kd.N_elem HX40.out [] (1 : Int) (by omega) (by have h_ : (1 : Int) < ((o0.length : Int) : Int) := dm_; first | exact h_ | (have e_ := (Kd.N_reads' r0.out).1; omega) | simpa using h_)
 obtain ⟨ua40_0, uc40_0, rfl, ul40_0, ge40_0⟩ := Kd.FK_slice_open hM40
 have HP40 := (Kd.N_seg HX40.out (1 : Int) (by omega) (by have h_ : (1 : Int) < ((o0.length : Int) : Int) := dm_; first | exact h_ | (have e_ := (Kd.N_reads' r0.out).1; omega) | simpa using h_) (seg := [(.slice h2 M1.length i2)]) (j := 0) hcl40 hcc40 (show 1 ≤ 1 from by decide) (x' := M1) (Kd.FK_slice_mk (Kd.R_reads' (Kd.R_mono (ok' := (fun k_ => ((fun k_ => (P1_1_ k_ ∨ w.heap.size ≤ k_) ∧ k_ ≠ h0 ∧ k_ ≠ i0 ∧ k_ ≠ f0 ∧ k_ ≠ g0)) k_ ∧ k_ ≠ go34)) (Kd.R_grown (Kd.R_types (Kd.R_types (Kd.R_types (Kd.R_types (Kd.R_apart' (H3.out) (Kd.N_typed r0.out) (by decide)) a0.out (by decide)) b0.out (by decide)) c0.out (by decide)) e0.out (by decide)) HG39 (fun k_ hk e_ => hk.1.1.1.1.2 (e_.trans rfl))) (fun k_ hk => ⟨⟨(.inr (hk.1.1.1.1.1.1)), ⟨hk.1.1.1.2, ⟨hk.1.1.2, ⟨hk.1.2, hk.2⟩⟩⟩⟩, fun e_ => (hk.1.1.1.1.2) (by rw [e_]; rfl)⟩))).2.1 (Kd.R_F (Kd.R_mono (ok' := (fun k_ => ((fun k_ => (P1_1_ k_ ∨ w.heap.size ≤ k_) ∧ k_ ≠ h0 ∧ k_ ≠ i0 ∧ k_ ≠ f0 ∧ k_ ≠ g0)) k_ ∧ k_ ≠ go34)) (Kd.R_grown (Kd.R_types (Kd.R_types (Kd.R_types (Kd.R_types (Kd.R_apart' (H3.out) (Kd.N_typed r0.out) (by decide)) a0.out (by decide)) b0.out (by decide)) c0.out (by decide)) e0.out (by decide)) HG39 (fun k_ hk e_ => hk.1.1.1.1.2 (e_.trans rfl))) (fun k_ hk => ⟨⟨(.inr (hk.1.1.1.1.1.1)), ⟨hk.1.1.1.2, ⟨hk.1.1.2, ⟨hk.1.2, hk.2⟩⟩⟩⟩, fun e_ => (hk.1.1.1.1.2) (by rw [e_]; rfl)⟩)))) (fun _ hk => hk)).1
 (try simp only [show ((Kd.slice 2 (Kd.int .i64))).sz = 1 from rfl, Nat.mul_one, Nat.add_zero] at HP40)
 rw [← V4.out] at HP40
 have HQ40 := a_ HP40
 clear hcl40 hcc40 hfr40 hM40 HP40
 refine hK.out _ _ ⟨HS0_, HS1_⟩ (fun hHeld => ?_)
 clear hK K
 refine norm_ (a' := ?_) ?_ ?_
 rotate_left
 {
 show Act.put _ (some 38) _ = _
 exact sp_}
 refine pu_ 9 (some 29) (B_ 17 1023) HT_ ?_
 refine pu_ 10 (some 39) (B_ 17 2047) HT_ ?_
 refine pu_ 11 (some 40) (B_ 17 4095) HT_ ?_
 refine pu_ 12 (some 41) (B_ 17 8191) HT_ ?_
 refine pu_ 13 (some 42) (B_ 17 16383) HT_ ?_
 refine last_ (i := 14) (N := none) (B_ 17 32767) rfl rfl (one_of HT_.out kf_) (by decide) (fun K hK => ?_)
 refine skip_ (w1 := ?_) (by rfl) rfl ?_ ?_
 rotate_left
 {
 go_simp
 rfl}
 refine hK.out _ _ ?_
 clear hK K
 refine pu_ 15 (some 43) (B_ 17 65535) HT_ ?_
 refine last_ (i := 16) (N := none) (B_ 17 131071) rfl rfl (one_of HT_.out kf_) (by decide) (fun K hK => ?_)
 refine skip_ (w1 := ?_) (by rfl) rfl ?_ ?_
 rotate_left
 {
 go_simp
 rfl}
 refine hK.out _ _ ?_
 clear hK K
 refine done_ (done_of HT_.out kf_) ?_
 try go_wp2
 go_meet
 case rel => exact ⟨_, (l5), H', ⟨ol_⟩, ⟨kN_ HQ40⟩, ⟨by (with_reducible repeat (first | apply Kd.V_alloc | apply Kd.V_drewN | apply Kd.V_drew)); exact Kd.V_mono (Kd.V_far (p := ⟨go34, 1, none⟩) (Kd.V_far (p := ⟨go34, 0, none⟩) (Kd.V_mono m0.out (fun k_ hk => (⟨hk, fun e_ => hk.1.1.2 (by rw [e_]; rfl)⟩ : _ ∧ k_ ≠ go34))) (fun _ hk => hk.2) ((.slice e2 L1.length f2))) (fun _ hk => hk.2) ((.slice h2 M1.length i2))) cj_⟩, ⟨by (with_reducible repeat (first | refine blk_drewN ?_ _ | refine blk_drew ?_ | refine blk_alloc ?_ _)); refine blk_far ?_ (by have h_ := Kd.N_away HX40.out (fun _ hk => hk.2.1); intro e_; exact h_ (by rw [e_]; rfl)) _; (with_reducible repeat (first | refine blk_drewN ?_ _ | refine blk_drew ?_ | refine blk_alloc ?_ _)); refine blk_far ?_ (by have h_ := Kd.N_away HX40.out (fun _ hk => hk.2.1); intro e_; exact h_ (by rw [e_]; rfl)) _; (with_reducible repeat (first | refine blk_drewN ?_ _ | refine blk_drew ?_ | refine blk_alloc ?_ _)); exact a0.out⟩, ⟨by (with_reducible repeat (first | refine blk_drewN ?_ _ | refine blk_drew ?_ | refine blk_alloc ?_ _)); refine blk_far ?_ (by have h_ := Kd.N_away HX40.out (fun _ hk => hk.2.2.1); intro e_; exact h_ (by rw [e_]; rfl)) _; (with_reducible repeat (first | refine blk_drewN ?_ _ | refine blk_drew ?_ | refine blk_alloc ?_ _)); refine blk_far ?_ (by have h_ := Kd.N_away HX40.out (fun _ hk => hk.2.2.1); intro e_; exact h_ (by rw [e_]; rfl)) _; (with_reducible repeat (first | refine blk_drewN ?_ _ | refine blk_drew ?_ | refine blk_alloc ?_ _)); exact b0.out⟩, ⟨by (with_reducible repeat (first | refine blk_drewN ?_ _ | refine blk_drew ?_ | refine blk_alloc ?_ _)); refine blk_far ?_ (by have h_ := Kd.N_away HX40.out (fun _ hk => hk.2.2.2.1); intro e_; exact h_ (by rw [e_]; rfl)) _; (with_reducible repeat (first | refine blk_drewN ?_ _ | refine blk_drew ?_ | refine blk_alloc ?_ _)); refine blk_far ?_ (by have h_ := Kd.N_away HX40.out (fun _ hk => hk.2.2.2.1); intro e_; exact h_ (by rw [e_]; rfl)) _; (with_reducible repeat (first | refine blk_drewN ?_ _ | refine blk_drew ?_ | refine blk_alloc ?_ _)); exact c0.out⟩, ⟨by (with_reducible repeat (first | refine blk_drewN ?_ _ | refine blk_drew ?_ | refine blk_alloc ?_ _)); refine blk_far ?_ (by have h_ := Kd.N_away HX40.out (fun _ hk => hk.2.2.2.2); intro e_; exact h_ (by rw [e_]; rfl)) _; (with_reducible repeat (first | refine blk_drewN ?_ _ | refine blk_drew ?_ | refine blk_alloc ?_ _)); refine blk_far ?_ (by have h_ := Kd.N_away HX40.out (fun _ hk => hk.2.2.2.2); intro e_; exact h_ (by rw [e_]; rfl)) _; (with_reducible repeat (first | refine blk_drewN ?_ _ | refine blk_drew ?_ | refine blk_alloc ?_ _)); exact e0.out⟩, ⟨by repeat (first | (with_reducible first | exact HB.out | apply below_alloc | apply pw_below_drewN | apply below_drew1 | refine below_set ?_ GB34.out | refine below_set ?_ GB34.out | refine below_set ?_ j4.out | refine below_set ?_ k4.out | refine below_set ?_ l4.out | refine below_set ?_ T4.out) | exact HB.out)⟩⟩}
 {
 have H' := a_ H
 clear H
 go_wp2
 go_meet
 case rel => exact ⟨_, (o0), H', ⟨ol_⟩, ⟨kN_ r0⟩, ⟨by (with_reducible repeat (first | apply Kd.V_alloc | apply Kd.V_drewN | apply Kd.V_drew)); exact Kd.V_mono m0.out cj_⟩, ⟨bk_ a0⟩, ⟨bk_ b0⟩, ⟨bk_ c0⟩, ⟨bk_ e0⟩, ⟨bl_ HB⟩⟩})
 case rest => (
 clear C4
 try clear c4
 try clear c5
 try clear n2 p2 q2 s2 t2 v2 w2 y2
 try clear z2 A2 B2 C2
 try clear D2 E2 F2 G2 H2 I2 J2 K2
 try clear L2 M2 N2 O2 P2 Q2 R2 S2
 try clear T2 U2 V2 W2
 try clear X2 Y2 Z2 a3 b3 c3 d3 e3
 try clear f3 g3 h3 i3
 obtain ⟨kq, O0, HA, HJ6, y0, k0, a0, b0, c0, e0, HB⟩ := hcut
 cases kq with
 | zero => exact absurd HA.out (by simp [vcodec_Decode.j0])
 | succ kj6 => (
 have H := HA.out
 clear HA
 simp only [vcodec_Decode.j0] at H
 have H' := a_ H
 clear H
 go_wp2_with (first | ((with_reducible refine gate_dst (N := 8) rfl ?_); refine box_ 8 #[.slice none 0 0] 37 ?_; intro n0 hg T7 hbox hb; replace y0 := a_ (Kd.N_below (Kd.N_elderB (kN_ y0) n0 (Nat.le_of_eq hg.symm)) hb); replace k0 := a_ (Kd.V_below (Kd.V_elderB (kV_ k0) n0 (Nat.le_of_eq hg.symm)) hb); have p0 := a_ (hbox); have C6 := GE_ HB hg; have D6 := GE_ HB hg; replace HB := BS_ HB hb; obtain ⟨m1, n1⟩ := NN_ a0 hg; replace a0 := FB_ a0 hb; obtain ⟨d1, e1⟩ := NN_ b0 hg; replace b0 := FB_ b0 hb; obtain ⟨o1, p1⟩ := NN_ c0 hg; replace c0 := FB_ c0 hb; obtain ⟨q1, t1⟩ := NN_ e0 hg; replace e0 := FB_ e0 hb; clear hb hbox hg; have E6 := a1.out; have F6 := Z0.out; have G6 := R0.out; have H6 := S0.out; have I6 := O1.out; have J6 := P1.out; have K6 := d1.out; have L6 := e1.out; obtain ⟨v4, w4, x4, y4⟩ := e2_ b0))
 go_loopg [47] kj6 (fun kq c6 w' => ∃ (t0 : Int) (F0 : List (List Int)) (B0 : Value), c6 = .int .i64 t0 ∧ Aside0 (vcodec_Decode.l0 kq O0 q0 (q0.length : Int) t0 F0 = some (r1, r2)) ∧ Aside0 (kq ≤ kj6) ∧ Aside0 (Kd.N (Kd.slice 2 (Kd.int .i64)) 53 w' w.heap.size (fun k_ => (P1_1_ k_ ∨ w.heap.size ≤ k_) ∧ some k_ ≠ (B0 : Value).ownBlock ∧ k_ ≠ h0 ∧ k_ ≠ i0 ∧ k_ ≠ f0 ∧ k_ ≠ g0 ∧ k_ ≠ n0) f1 O0) ∧ Aside0 (Kd.V (Kd.slice 2 (Kd.int .i64)) 53 w' w.heap.size (fun k_ => (P1_1_ k_ ∨ w.heap.size ≤ k_) ∧ some k_ ≠ (f1 : Value).ownBlock ∧ some k_ ≠ (B0 : Value).ownBlock ∧ k_ ≠ h0 ∧ k_ ≠ i0 ∧ k_ ≠ f0 ∧ k_ ≠ g0 ∧ k_ ≠ n0) (.slice M0 v0.length N0) v0) ∧ Aside0 (Kd.N (Kd.slice 2 (Kd.int .i64)) 53 w' w.heap.size (fun k_ => (P1_1_ k_ ∨ w.heap.size ≤ k_) ∧ some k_ ≠ (f1 : Value).ownBlock ∧ k_ ≠ h0 ∧ k_ ≠ i0 ∧ k_ ≠ f0 ∧ k_ ≠ g0 ∧ k_ ≠ n0) B0 F0) ∧ Aside0 (w'.heap[h0]? = some (.cells #[.int .i64 C0, .int .i64 D0, (.slice H0 z0.length I0), (.slice J0 A0.length K0)] 24 (0, 0))) ∧ Aside0 (w'.heap[i0]? = some (.cells #[(.slice Y0 q0.length Q0), (.slice M0 v0.length N0)] 28 (0, 0))) ∧ Aside0 (w'.heap[f0]? = some (.cells #[(.slice none 0 0)] 37 (0, 0))) ∧ Aside0 (w'.heap[g0]? = some (.cells #[.int .i64 C0, .int .i64 D0, (.slice H0 z0.length I0), (.slice J0 A0.length K0)] 61 (0, 0))) ∧ Aside0 (w'.heap[n0]? = some (.cells #[B0] 37 (0, 0))) ∧ Aside0 (Below w.heap.size w w'))
 case atStart => exact ⟨(0), (([] : List (List Int))), (.slice none 0 0), rs_, H', ⟨Nat.le_refl _⟩, ⟨by (with_reducible repeat (first | apply Kd.N_alloc | apply Kd.N_drewN | apply Kd.N_drew)); exact Kd.N_mono y0.out (fun _ hk => ⟨hk.1.1, ⟨(by simp [Value.ownBlock]), ⟨hk.1.2.1, ⟨hk.1.2.2.1, ⟨hk.1.2.2.2.1, ⟨hk.1.2.2.2.2, hk.2⟩⟩⟩⟩⟩⟩)⟩, ⟨by (with_reducible repeat (first | apply Kd.V_alloc | apply Kd.V_drewN | apply Kd.V_drew)); exact Kd.V_mono k0.out (fun _ hk => ⟨hk.1.1, ⟨hk.1.2.1, ⟨(by simp [Value.ownBlock]), ⟨hk.1.2.2.1, ⟨hk.1.2.2.2.1, ⟨hk.1.2.2.2.2.1, ⟨hk.1.2.2.2.2.2, hk.2⟩⟩⟩⟩⟩⟩⟩)⟩, ⟨kn_⟩, ⟨bk_ a0⟩, ⟨bk_ b0⟩, ⟨bk_ c0⟩, ⟨bk_ e0⟩, ⟨bk_ p0⟩, ⟨bl_ HB⟩⟩
 case round => (
 clear H'
 try clear c4
 try clear c5
 try clear n2 p2 q2 s2 t2 v2 w2 y2
 try clear z2 A2 B2 C2
 try clear D2 E2 F2 G2 H2 I2 J2 K2
 try clear L2 M2 N2 O2 P2 Q2 R2 S2
 try clear T2 U2 V2 W2
 try clear X2 Y2 Z2 a3 b3 c3 d3 e3
 try clear f3 g3 h3 i3
 try clear v4 w4 x4 y4
 obtain ⟨t0, F0, B0, rfl, HA, p4, y0, k0, d0, a0, b0, c0, e0, p0, HB⟩ := hrel
 cases gk with
 | zero => exact absurd HA.out (by simp [vcodec_Decode.l0])
 | succ k2 => (
 have H := HA.out
 clear HA
 simp only [vcodec_Decode.l0] at H
 replace H := id_ H
 rcases H with ⟨X4, H⟩ | ⟨X4, H⟩
 {
 replace H := gd_ H
 obtain ⟨M6, H⟩ := H
 replace H := gd_ H
 obtain ⟨N6, H⟩ := H
 replace H := gt_ H
 obtain ⟨K4, H⟩ := H
 have O6 := eq_true K4
 have P6 : decide (16 ≤ 35184372088832) = true := decide_eq_true K4
 clear K4
 obtain ⟨j2, X1⟩ : ∃ y_ : List Int, y_ = (List.replicate 16 0) := ⟨_, rfl⟩
 first | replace H := by_ H X1 | rw [← X1] at H
 have Y1 := a_ X1
 clear X1
 replace H := ii_ H
 rcases H with ⟨X3, H⟩ | ⟨X3, H⟩
 {
 have Y4 : decide (0 < ((rd_L1 q0 t0).length : Int)) = true := decide_eq_true X3
 have Z4 : decide (0 < (rd_L1 q0 t0).length) = true := decide_eq_true (by omega)
 clear X3
 obtain ⟨⟨h1, o5⟩, d6, H⟩ := ob_ H
 (try dsimp only at H)
 replace H := gd_ H
 obtain ⟨Q6, H⟩ := H
 obtain ⟨i1, e6, H⟩ := ob_ H
 (try dsimp only at H)
 obtain ⟨⟨G1, p5⟩, f6, H⟩ := ob_ H
 (try dsimp only at H)
 replace H := gt_ H
 obtain ⟨h5, H⟩ := H
 have a5 := a_ h5
 clear h5
 obtain ⟨l2, Z1⟩ : ∃ y_ : List (List Int), y_ = (F0 ++ [G1]) := ⟨_, rfl⟩
 first | replace H := by_ H Z1 | rw [← Z1] at H
 have b5 := a_ Z1
 clear Z1
 have H' := a_ H
 clear H
 have H1 : 0 ≤ (t0 : Int) := dm_
 have I1 : t0 < (q0.length : Int) := dm_
 obtain ⟨I3, Y3, Z3, e4, j1, k1, l1⟩ := at_L1 J1.out t0 H1 I1
 cases e4
 replace j1 := hc_ HB j1
 have o3 := a_ l1
 have p3 := a_ k1
 clear l1 k1
 replace H1 := eq_true H1
 replace I1 := eq_true I1
 go_wp2_with (first | ((with_reducible refine gate_dst (N := 52) rfl ?_); refine Kd.R_make (Kd.int .i64) _ 2 rfl (N := 52) rfl 53 _ _ rfl 16 rfl rfl Try.underlying53 (.int .i64 0) 8 info2 rfl (by decide) (by omega) 0 (ok := fun _ => True) (okp := fun _ => True) rfl (fun _ hk => hk) trivial (by omega) (by omega) (Below.refl _ _) (Nat.le_refl _) ?_; intro v1 U7 y1 hb hg_ hnew_; clear hg_ hnew_; (first | rw [← Y1.out] at y1 | (simp only [Int.reduceToNat] at y1; rw [← Y1.out] at y1)); replace y0 := a_ (Kd.N_elder' (kN_ y0) (Kd.R_base y1) hb); replace k0 := a_ (Kd.V_elder' (kV_ k0) (Kd.R_base y1) hb); replace d0 := a_ (Kd.N_elder' (kN_ d0) (Kd.R_base y1) hb); have G0 := a_ (Kd.R_lower (Kd.R_newM (M := fun k_ => (w.heap.size ≤ k_)) y1 (bs_ HB) (fun k_ h_ => h_)) (bs_ HB)); replace a0 := FB_ a0 hb; replace b0 := FB_ b0 hb; replace c0 := FB_ c0 hb; replace e0 := FB_ e0 hb; replace p0 := FB_ p0 hb; replace HB := BS_ HB hb; clear hb y1) | ((with_reducible refine gate_callee (f := 34) rfl ?_); refine gL_ (some 58) Try.func34 #[.slice Y3 (rd_L1 q0 t0).length Z3] ?_; (with_reducible refine (floor_Floor.calls k2 _ _ (rd_L1 q0 t0) h1 o5 _ ?side1 ?side2 d6.out).mono ?_); (case side1 => exact kC_ o3 HB); (case side2 => exact p3.out); rintro e V7 ⟨F7, rfl, E0, hb⟩; refine ⟨_, rfl, ?_⟩; replace y0 := a_ (Kd.N_elder' (kN_ y0) (Kd.R_base E0) hb); replace k0 := a_ (Kd.V_elder' (kV_ k0) (Kd.R_base E0) hb); replace d0 := a_ (Kd.N_elder' (kN_ d0) (Kd.R_base E0) hb); have L0 := a_ (Kd.R_lower (Kd.R_new' (Kd.R_newM (M := fun k_ => (w.heap.size ≤ k_)) E0 (bs_ HB) (fun k_ h_ => h_)) (Kd.R_lt (kR_ G0))) (bs_ HB)); replace G0 := a_ (Kd.R_elder' (kR_ G0) (Kd.R_base E0) hb); replace a0 := FB_ a0 hb; replace b0 := FB_ b0 hb; replace c0 := FB_ c0 hb; replace e0 := FB_ e0 hb; replace p0 := FB_ p0 hb; replace HB := BS_ HB hb; (try clear hb); (try clear hk); (try clear E0); obtain ⟨G7, N1, q5⟩ := Kd.N_slice y0.out; subst q5; have J3 : 0 ≤ (t0 : Int) := dm_; have K3 : t0 < (O0.length : Int) := dm_; obtain ⟨F1, L4, M4, r5, z4, q3, r3⟩ := at_L2 (Kd.N_reads' y0.out).2.2 t0 J3 K3; cases r5; obtain ⟨ce260, hce260, hMe260, hcc260⟩ := Kd.N_get y0.out [] t0 J3 (by first | exact K3 | exact dm_ | (have e_ := (Kd.N_reads' y0.out).1; omega)); obtain ⟨ua260_0, uc260_0, rfl, ul260_0, ge260_0⟩ := Kd.FK_slice_open hMe260; have hv260_0 := hcc260 0 _ rfl; rw [Nat.add_zero, show ((Kd.slice 2 (Kd.int .i64))).sz = 1 from rfl, Nat.mul_one] at hv260_0; replace hv260_0 := Option.some.inj (hv260_0.symm.trans z4); injection hv260_0 with hva_ hvn_ hvc_; rw [hva_] at ge260_0; rw [hvc_] at ul260_0; have HL260_0 := a_ (show Kd.V (Kd.int .i64) 2 _ w.heap.size _ _ (rd_L2 O0 t0) from Kd.V_mk ul260_0 ge260_0); clear hva_ hvn_ hvc_ ge260_0 ul260_0; clear hcc260 hce260; have P0 := a_ r3; have A4 := a_ q3; clear r3 q3; replace J3 := eq_true J3; replace K3 := eq_true K3) | ((with_reducible refine gate_callee (f := 36) rfl ?_); refine gL_ (some 66) Try.func36 #[.slice L4 (rd_L2 O0 t0).length M4] ?_; (with_reducible refine (vcodec_near.calls k2 _ _ (rd_L2 O0 t0) i1 _ ?side1 ?side2 e6.out).mono ?_); (case side1 => repeat (first | exact (by repeat (first | (with_reducible exact P0.out) | (with_reducible refine Kd.C_alloc ?_ _) | (with_reducible refine Kd.C_drewN ?_ _) | (with_reducible refine Kd.C_drew ?_) | exact P0.out)) | (with_reducible refine Kd.C_alloc ?_ _) | (with_reducible refine Kd.C_drewN ?_ _) | (with_reducible refine Kd.C_drew ?_))); (case side2 => exact A4.out); rintro e W7 ⟨H7, rfl, E0, hb⟩; refine ⟨_, rfl, ?_⟩; replace y0 := a_ (Kd.N_elder' (kN_ y0) (Kd.R_base E0) hb); replace k0 := a_ (Kd.V_elder' (kV_ k0) (Kd.R_base E0) hb); replace d0 := a_ (Kd.N_elder' (kN_ d0) (Kd.R_base E0) hb); replace HL260_0 := a_ (Kd.V_elder' (kV_ HL260_0) (Kd.R_base E0) hb); have T0 := a_ (Kd.R_lower (Kd.R_new' (Kd.R_new' (Kd.R_newM (M := fun k_ => (w.heap.size ≤ k_)) E0 (bs_ HB) (fun k_ h_ => h_)) (Kd.R_lt (kR_ G0))) (Kd.R_lt (kR_ L0))) (bs_ HB)); replace G0 := a_ (Kd.R_elder' (kR_ G0) (Kd.R_base E0) hb); replace L0 := a_ (Kd.R_elder' (kR_ L0) (Kd.R_base E0) hb); replace a0 := FB_ a0 hb; replace b0 := FB_ b0 hb; replace c0 := FB_ c0 hb; replace e0 := FB_ e0 hb; replace p0 := FB_ p0 hb; replace P0 := a_ (Kd.C_below (by repeat (first | (with_reducible exact P0.out) | (with_reducible refine Kd.C_alloc ?_ _) | (with_reducible refine Kd.C_drewN ?_ _) | (with_reducible refine Kd.C_drew ?_) | exact P0.out)) hb); replace HB := BS_ HB hb; (try clear hb); (try clear hk); (try clear E0); obtain ⟨z1, A1, s5⟩ := Kd.R_slice T0.out; subst s5; obtain ⟨B1, C1, t5⟩ := Kd.R_slice L0.out; subst t5) | ((with_reducible refine gate_callee (f := 35) rfl ?_); refine gL_ (some 68) Try.func35 #[.slice z1 i1.length A1, .slice B1 h1.length C1] ?_; (with_reducible refine (remap_Restore.calls k2 _ _ i1 _ _ h1 G1 p5 _ ?side1 ?side2 ?side3 ?side4 f6.out).mono ?_); (case side1 => exact kCt_ (Kd.R_reads' T0.out).2.2); (case side2 => exact (Kd.R_reads' T0.out).2.1); (case side3 => exact kCt_ (Kd.R_reads' L0.out).2.2); (case side4 => exact (Kd.R_reads' L0.out).2.1); rintro e X7 ⟨I7, rfl, E0, hb⟩; refine ⟨_, rfl, ?_⟩; replace y0 := a_ (Kd.N_elder' (kN_ y0) (Kd.R_base E0) hb); replace k0 := a_ (Kd.V_elder' (kV_ k0) (Kd.R_base E0) hb); replace d0 := a_ (Kd.N_elder' (kN_ d0) (Kd.R_base E0) hb); replace HL260_0 := a_ (Kd.V_elder' (kV_ HL260_0) (Kd.R_base E0) hb); have a2 := a_ (Kd.R_lower (Kd.R_new' (Kd.R_new' (Kd.R_new' (Kd.R_newM (M := fun k_ => (w.heap.size ≤ k_)) E0 (bs_ HB) (fun k_ h_ => h_)) (Kd.R_lt (kR_ G0))) (Kd.R_lt (kR_ L0))) (Kd.R_lt (kR_ T0))) (bs_ HB)); replace G0 := a_ (Kd.R_elder' (kR_ G0) (Kd.R_base E0) hb); replace L0 := a_ (Kd.R_elder' (kR_ L0) (Kd.R_base E0) hb); replace T0 := a_ (Kd.R_elder' (kR_ T0) (Kd.R_base E0) hb); replace a0 := FB_ a0 hb; replace b0 := FB_ b0 hb; replace c0 := FB_ c0 hb; replace e0 := FB_ e0 hb; replace p0 := FB_ p0 hb; replace P0 := a_ (Kd.C_below (by repeat (first | (with_reducible exact P0.out) | (with_reducible refine Kd.C_alloc ?_ _) | (with_reducible refine Kd.C_drewN ?_ _) | (with_reducible refine Kd.C_drew ?_) | exact P0.out)) hb); replace HB := BS_ HB hb; (try clear hb); (try clear hk); (try clear E0); have R6 := n1.out; have S6 := m1.out; have T6 := e1.out; have U6 := d1.out; have V6 := p1.out; have W6 := o1.out; have X6 := t1.out; have Y6 := q1.out; obtain ⟨O5, P5⟩ := e1_ p0; obtain ⟨L3, M3, v5⟩ := Kd.R_slice a2.out; subst v5) | ((with_reducible refine gate_builtin (b := .append) (xs := #[.tmp 72, .tmp 74]) rfl ?_); at_builtin; refine Kd.N_append (Kd.slice 2 (Kd.int .i64)) (w0 := w) w.heap.size rfl (.tmp 72) (.tmp 74) 26 53 (.slice none 0 0) 24 rfl Try.underlying26 info53 rfl (by decide) (by omega) B0 F0 G1 [.slice L3 G1.length M3] (fun k_ => (P1_1_ k_ ∨ w.heap.size ≤ k_) ∧ some k_ ≠ (.slice (some F1) O0.length N1 : Value).ownBlock ∧ some k_ ≠ (v1 : Value).ownBlock ∧ some k_ ≠ (.slice B1 h1.length C1 : Value).ownBlock ∧ some k_ ≠ (.slice z1 i1.length A1 : Value).ownBlock ∧ k_ ≠ h0 ∧ k_ ≠ i0 ∧ k_ ≠ f0 ∧ k_ ≠ g0 ∧ k_ ≠ n0) (fun k_ => ((fun k_ => (P1_1_ k_ ∨ w.heap.size ≤ k_) ∧ some k_ ≠ (.slice (some F1) O0.length N1 : Value).ownBlock ∧ some k_ ≠ (v1 : Value).ownBlock ∧ some k_ ≠ (.slice B1 h1.length C1 : Value).ownBlock ∧ some k_ ≠ (.slice z1 i1.length A1 : Value).ownBlock ∧ k_ ≠ h0 ∧ k_ ≠ i0 ∧ k_ ≠ f0 ∧ k_ ≠ g0 ∧ k_ ≠ n0)) k_ ∧ some k_ ≠ (B0 : Value).ownBlock) rfl rfl ?aP (fun _ hk => hk) ?aF ?aO ?aB ?aS ?aL ?_; (case aP => exact (Kd.FK_slice_mk (Kd.R_reads' (Kd.R_mono (ok' := (fun k_ => ((fun k_ => (P1_1_ k_ ∨ w.heap.size ≤ k_) ∧ some k_ ≠ (.slice (some F1) O0.length N1 : Value).ownBlock ∧ some k_ ≠ (v1 : Value).ownBlock ∧ some k_ ≠ (.slice B1 h1.length C1 : Value).ownBlock ∧ some k_ ≠ (.slice z1 i1.length A1 : Value).ownBlock ∧ k_ ≠ h0 ∧ k_ ≠ i0 ∧ k_ ≠ f0 ∧ k_ ≠ g0 ∧ k_ ≠ n0)) k_ ∧ some k_ ≠ (B0 : Value).ownBlock)) (Kd.R_types (Kd.R_types (Kd.R_types (Kd.R_types (Kd.R_types (Kd.R_apart' (Kd.R_apart' (a2.out) (Kd.N_typed y0.out) (by decide)) (Kd.N_typed d0.out) (by decide)) a0.out (by decide)) b0.out (by decide)) c0.out (by decide)) e0.out (by decide)) p0.out (by decide)) (fun k_ hk => ⟨⟨(.inr (hk.1.1.1.1.1.1.1.1.1.1.1)), ⟨hk.1.1.1.1.1.1.2, ⟨hk.1.1.1.1.1.1.1.1.1.2, ⟨hk.1.1.1.1.1.1.1.1.2, ⟨hk.1.1.1.1.1.1.1.2, ⟨hk.1.1.1.1.2, ⟨hk.1.1.1.2, ⟨hk.1.1.2, ⟨hk.1.2, hk.2⟩⟩⟩⟩⟩⟩⟩⟩⟩, hk.1.1.1.1.1.2⟩))).2.1 (Kd.R_F (Kd.R_mono (ok' := (fun k_ => ((fun k_ => (P1_1_ k_ ∨ w.heap.size ≤ k_) ∧ some k_ ≠ (.slice (some F1) O0.length N1 : Value).ownBlock ∧ some k_ ≠ (v1 : Value).ownBlock ∧ some k_ ≠ (.slice B1 h1.length C1 : Value).ownBlock ∧ some k_ ≠ (.slice z1 i1.length A1 : Value).ownBlock ∧ k_ ≠ h0 ∧ k_ ≠ i0 ∧ k_ ≠ f0 ∧ k_ ≠ g0 ∧ k_ ≠ n0)) k_ ∧ some k_ ≠ (B0 : Value).ownBlock)) (Kd.R_types (Kd.R_types (Kd.R_types (Kd.R_types (Kd.R_types (Kd.R_apart' (Kd.R_apart' (a2.out) (Kd.N_typed y0.out) (by decide)) (Kd.N_typed d0.out) (by decide)) a0.out (by decide)) b0.out (by decide)) c0.out (by decide)) e0.out (by decide)) p0.out (by decide)) (fun k_ hk => ⟨⟨(.inr (hk.1.1.1.1.1.1.1.1.1.1.1)), ⟨hk.1.1.1.1.1.1.2, ⟨hk.1.1.1.1.1.1.1.1.1.2, ⟨hk.1.1.1.1.1.1.1.1.2, ⟨hk.1.1.1.1.1.1.1.2, ⟨hk.1.1.1.1.2, ⟨hk.1.1.1.2, ⟨hk.1.1.2, ⟨hk.1.2, hk.2⟩⟩⟩⟩⟩⟩⟩⟩⟩, hk.1.1.1.1.1.2⟩))))); (case aB => exact (bl_ HB)); (case aF => exact (fun k_ hk => ⟨(.inr (Nat.le_trans (bs_ HB) hk)), Kd.fresh' (Kd.N_lt (kN_ y0)) k_ hk, Kd.fresh' (Kd.R_lt (kR_ G0)) k_ hk, Kd.fresh' (Kd.R_lt (kR_ L0)) k_ hk, Kd.fresh' (Kd.R_lt (kR_ T0)) k_ hk, Kd.freshB (g := h0) (o := .cells #[.int .i64 C0, .int .i64 D0, .slice H0 z0.length I0, .slice J0 A0.length K0] 24 (0, 0)) (bk_ a0) k_ hk, Kd.freshB (g := i0) (o := .cells #[.slice (some I3) q0.length Q0, .slice M0 v0.length N0] 28 (0, 0)) (bk_ b0) k_ hk, Kd.freshB (g := f0) (o := .cells #[.slice none 0 0] 37 (0, 0)) (bk_ c0) k_ hk, Kd.freshB (g := g0) (o := .cells #[.int .i64 C0, .int .i64 D0, .slice H0 z0.length I0, .slice J0 A0.length K0] 61 (0, 0)) (bk_ e0) k_ hk, Kd.freshB (g := n0) (o := .cells #[B0] 37 (0, 0)) (bk_ p0) k_ hk⟩)); (case aO => exact (by (with_reducible repeat (first | apply Kd.N_alloc | apply Kd.N_drewN | apply Kd.N_drew)); exact Kd.N_mono d0.out cj_)); (case aS => exact (bs_ HB)); (case aL => have := a5.out; omega); intro J7 Y7 ho hb hg hat; rw [← b5.out] at ho; replace y0 := a_ (Kd.N_afterv (ok := (fun k_ => (P1_1_ k_ ∨ w.heap.size ≤ k_) ∧ some k_ ≠ (v1 : Value).ownBlock ∧ some k_ ≠ (.slice B1 h1.length C1 : Value).ownBlock ∧ some k_ ≠ (.slice z1 i1.length A1 : Value).ownBlock ∧ some k_ ≠ (.slice L3 G1.length M3 : Value).ownBlock ∧ k_ ≠ h0 ∧ k_ ≠ i0 ∧ k_ ≠ f0 ∧ k_ ≠ g0 ∧ k_ ≠ n0)) (by (with_reducible repeat (first | apply Kd.N_alloc | apply Kd.N_drewN | apply Kd.N_drew)); exact Kd.N_mono y0.out cj_) hg hat); replace k0 := a_ (Kd.V_afterv (ok := (fun k_ => (P1_1_ k_ ∨ w.heap.size ≤ k_) ∧ some k_ ≠ (.slice (some F1) O0.length N1 : Value).ownBlock ∧ some k_ ≠ (v1 : Value).ownBlock ∧ some k_ ≠ (.slice B1 h1.length C1 : Value).ownBlock ∧ some k_ ≠ (.slice z1 i1.length A1 : Value).ownBlock ∧ some k_ ≠ (.slice L3 G1.length M3 : Value).ownBlock ∧ k_ ≠ h0 ∧ k_ ≠ i0 ∧ k_ ≠ f0 ∧ k_ ≠ g0 ∧ k_ ≠ n0)) (by (with_reducible repeat (first | apply Kd.V_alloc | apply Kd.V_drewN | apply Kd.V_drew)); exact Kd.V_mono k0.out cj_) hg hat); replace a0 := (FG_ a0 hg (Kd.N_ne d0.out a0.out (by decide))); replace b0 := (FG_ b0 hg (Kd.N_ne d0.out b0.out (by decide))); replace c0 := (FG_ c0 hg (Kd.N_ne d0.out c0.out (by decide))); replace e0 := (FG_ e0 hg (Kd.N_ne d0.out e0.out (by decide))); replace p0 := (FG_ p0 hg (Kd.N_ne d0.out p0.out (by decide))); replace G0 := a_ (Kd.R_over' (kR_ G0) (Kd.N_typed (kN_ d0)) (by decide) hg); replace L0 := a_ (Kd.R_over' (kR_ L0) (Kd.N_typed (kN_ d0)) (by decide) hg); replace HL260_0 := a_ (Kd.V_afterv (ok := (fun k_ => (P1_1_ k_ ∨ w.heap.size ≤ k_) ∧ some k_ ≠ (.slice (some F1) O0.length N1 : Value).ownBlock ∧ some k_ ≠ (v1 : Value).ownBlock ∧ some k_ ≠ (.slice B1 h1.length C1 : Value).ownBlock ∧ some k_ ≠ (.slice z1 i1.length A1 : Value).ownBlock ∧ some k_ ≠ (.slice L3 G1.length M3 : Value).ownBlock ∧ k_ ≠ h0 ∧ k_ ≠ i0 ∧ k_ ≠ f0 ∧ k_ ≠ g0 ∧ k_ ≠ n0)) (by (with_reducible repeat (first | apply Kd.V_alloc | apply Kd.V_drewN | apply Kd.V_drew)); exact Kd.V_mono HL260_0.out cj_) hg hat); replace T0 := a_ (Kd.R_over' (kR_ T0) (Kd.N_typed (kN_ d0)) (by decide) hg); replace HB := a_ (hb); have q4 := a_ (ho); clear d0 a2; clear ho hb hg hat; obtain ⟨N3, O3, w5⟩ := Kd.N_slice q4.out; subst w5; obtain ⟨Q5, R5⟩ := e1_ p0))
 go_roundg k2
 case measure => have := HJ6.out; have := p4.out; omega
 case rel => exact ⟨(wrap64 (t0 + 1)), (l2), (.slice N3 l2.length O3), rs_, H', ⟨by have := HJ6.out; have := p4.out; omega⟩, ⟨by (with_reducible repeat (first | apply Kd.N_alloc | apply Kd.N_drewN | apply Kd.N_drew)); exact Kd.N_mono (Kd.N_far (p := ⟨n0, 0, none⟩) (Kd.N_mono y0.out (fun k_ hk => (⟨hk, hk.1.2.2.2.2.2.2.2.2.2⟩ : _ ∧ k_ ≠ n0))) (fun _ hk => hk.2) (.slice N3 l2.length O3)) cj_⟩, ⟨by (with_reducible repeat (first | apply Kd.V_alloc | apply Kd.V_drewN | apply Kd.V_drew)); exact Kd.V_mono (Kd.V_far (p := ⟨n0, 0, none⟩) (Kd.V_mono k0.out (fun k_ hk => (⟨hk, hk.1.2.2.2.2.2.2.2.2.2.2⟩ : _ ∧ k_ ≠ n0))) (fun _ hk => hk.2) (.slice N3 l2.length O3)) cj_⟩, ⟨by (with_reducible repeat (first | apply Kd.N_alloc | apply Kd.N_drewN | apply Kd.N_drew)); exact Kd.N_mono (Kd.N_far (p := ⟨n0, 0, none⟩) (Kd.N_mono q4.out (fun k_ hk => (⟨hk, hk.2.2.2.2.2.2.2.2.2⟩ : _ ∧ k_ ≠ n0))) (fun _ hk => hk.2) (.slice N3 l2.length O3)) cj_⟩, ⟨bk_ a0⟩, ⟨bk_ b0⟩, ⟨bk_ c0⟩, ⟨bk_ e0⟩, ⟨bp_ p0⟩, ⟨bl_ HB⟩⟩}
 {
 have Y4 : decide (0 < ((rd_L1 q0 t0).length : Int)) = false := decide_eq_false X3
 have Z4 : decide (0 < (rd_L1 q0 t0).length) = false := decide_eq_false (by omega)
 clear X3
 replace H := gt_ H
 obtain ⟨i5, H⟩ := H
 have d5 := a_ i5
 clear i5
 obtain ⟨m2, b2⟩ : ∃ y_ : List (List Int), y_ = (F0 ++ [j2]) := ⟨_, rfl⟩
 first | replace H := by_ H b2 | rw [← b2] at H
 have e5 := a_ b2
 clear b2
 have H' := a_ H
 clear H
 have H1 : 0 ≤ (t0 : Int) := dm_
 have I1 : t0 < (q0.length : Int) := dm_
 obtain ⟨I3, Y3, Z3, e4, j1, k1, l1⟩ := at_L1 J1.out t0 H1 I1
 cases e4
 replace j1 := hc_ HB j1
 have o3 := a_ l1
 have p3 := a_ k1
 clear l1 k1
 replace H1 := eq_true H1
 replace I1 := eq_true I1
 go_wp2_with (first | ((with_reducible refine gate_dst (N := 52) rfl ?_); refine Kd.R_make (Kd.int .i64) _ 2 rfl (N := 52) rfl 53 _ _ rfl 16 rfl rfl Try.underlying53 (.int .i64 0) 8 info2 rfl (by decide) (by omega) 0 (ok := fun _ => True) (okp := fun _ => True) rfl (fun _ hk => hk) trivial (by omega) (by omega) (Below.refl _ _) (Nat.le_refl _) ?_; intro v1 Z7 D1 hb hg_ hnew_; clear hg_ hnew_; (first | rw [← Y1.out] at D1 | (simp only [Int.reduceToNat] at D1; rw [← Y1.out] at D1)); replace y0 := a_ (Kd.N_elder' (kN_ y0) (Kd.R_base D1) hb); replace k0 := a_ (Kd.V_elder' (kV_ k0) (Kd.R_base D1) hb); replace d0 := a_ (Kd.N_elder' (kN_ d0) (Kd.R_base D1) hb); have G0 := a_ (Kd.R_lower (Kd.R_newM (M := fun k_ => (w.heap.size ≤ k_)) D1 (bs_ HB) (fun k_ h_ => h_)) (bs_ HB)); replace a0 := FB_ a0 hb; replace b0 := FB_ b0 hb; replace c0 := FB_ c0 hb; replace e0 := FB_ e0 hb; replace p0 := FB_ p0 hb; replace HB := BS_ HB hb; clear hb D1; have Z6 := n1.out; have a7 := m1.out; have b7 := e1.out; have c7 := d1.out; have d7 := p1.out; have e7 := o1.out; have f7 := t1.out; have g7 := q1.out; obtain ⟨S5, T5⟩ := e1_ p0; obtain ⟨f4, g4, x5⟩ := Kd.R_slice G0.out; subst x5) | ((with_reducible refine gate_builtin (b := .append) (xs := #[.tmp 72, .tmp 74]) rfl ?_); at_builtin; refine Kd.N_append (Kd.slice 2 (Kd.int .i64)) (w0 := w) w.heap.size rfl (.tmp 72) (.tmp 74) 26 53 (.slice none 0 0) 24 rfl Try.underlying26 info53 rfl (by decide) (by omega) B0 F0 j2 [.slice f4 j2.length g4] (fun k_ => (P1_1_ k_ ∨ w.heap.size ≤ k_) ∧ some k_ ≠ (f1 : Value).ownBlock ∧ k_ ≠ h0 ∧ k_ ≠ i0 ∧ k_ ≠ f0 ∧ k_ ≠ g0 ∧ k_ ≠ n0) (fun k_ => ((fun k_ => (P1_1_ k_ ∨ w.heap.size ≤ k_) ∧ some k_ ≠ (f1 : Value).ownBlock ∧ k_ ≠ h0 ∧ k_ ≠ i0 ∧ k_ ≠ f0 ∧ k_ ≠ g0 ∧ k_ ≠ n0)) k_ ∧ some k_ ≠ (B0 : Value).ownBlock) rfl rfl ?aP (fun _ hk => hk) ?aF ?aO ?aB ?aS ?aL ?_; (case aP => exact (Kd.FK_slice_mk (Kd.R_reads' (Kd.R_mono (ok' := (fun k_ => ((fun k_ => (P1_1_ k_ ∨ w.heap.size ≤ k_) ∧ some k_ ≠ (f1 : Value).ownBlock ∧ k_ ≠ h0 ∧ k_ ≠ i0 ∧ k_ ≠ f0 ∧ k_ ≠ g0 ∧ k_ ≠ n0)) k_ ∧ some k_ ≠ (B0 : Value).ownBlock)) (Kd.R_types (Kd.R_types (Kd.R_types (Kd.R_types (Kd.R_types (Kd.R_apart' (Kd.R_apart' (G0.out) (Kd.N_typed y0.out) (by decide)) (Kd.N_typed d0.out) (by decide)) a0.out (by decide)) b0.out (by decide)) c0.out (by decide)) e0.out (by decide)) p0.out (by decide)) (fun k_ hk => ⟨⟨(.inr (hk.1.1.1.1.1.1.1.1)), ⟨hk.1.1.1.1.1.1.2, ⟨hk.1.1.1.1.2, ⟨hk.1.1.1.2, ⟨hk.1.1.2, ⟨hk.1.2, hk.2⟩⟩⟩⟩⟩⟩, hk.1.1.1.1.1.2⟩))).2.1 (Kd.R_F (Kd.R_mono (ok' := (fun k_ => ((fun k_ => (P1_1_ k_ ∨ w.heap.size ≤ k_) ∧ some k_ ≠ (f1 : Value).ownBlock ∧ k_ ≠ h0 ∧ k_ ≠ i0 ∧ k_ ≠ f0 ∧ k_ ≠ g0 ∧ k_ ≠ n0)) k_ ∧ some k_ ≠ (B0 : Value).ownBlock)) (Kd.R_types (Kd.R_types (Kd.R_types (Kd.R_types (Kd.R_types (Kd.R_apart' (Kd.R_apart' (G0.out) (Kd.N_typed y0.out) (by decide)) (Kd.N_typed d0.out) (by decide)) a0.out (by decide)) b0.out (by decide)) c0.out (by decide)) e0.out (by decide)) p0.out (by decide)) (fun k_ hk => ⟨⟨(.inr (hk.1.1.1.1.1.1.1.1)), ⟨hk.1.1.1.1.1.1.2, ⟨hk.1.1.1.1.2, ⟨hk.1.1.1.2, ⟨hk.1.1.2, ⟨hk.1.2, hk.2⟩⟩⟩⟩⟩⟩, hk.1.1.1.1.1.2⟩))))); (case aB => exact (bl_ HB)); (case aF => exact (fun k_ hk => ⟨(.inr (Nat.le_trans (bs_ HB) hk)), Kd.fresh' (Kd.N_lt (kN_ y0)) k_ hk, Kd.freshB (g := h0) (o := .cells #[.int .i64 C0, .int .i64 D0, .slice H0 z0.length I0, .slice J0 A0.length K0] 24 (0, 0)) (bk_ a0) k_ hk, Kd.freshB (g := i0) (o := .cells #[.slice (some I3) q0.length Q0, .slice M0 v0.length N0] 28 (0, 0)) (bk_ b0) k_ hk, Kd.freshB (g := f0) (o := .cells #[.slice none 0 0] 37 (0, 0)) (bk_ c0) k_ hk, Kd.freshB (g := g0) (o := .cells #[.int .i64 C0, .int .i64 D0, .slice H0 z0.length I0, .slice J0 A0.length K0] 61 (0, 0)) (bk_ e0) k_ hk, Kd.freshB (g := n0) (o := .cells #[B0] 37 (0, 0)) (bk_ p0) k_ hk⟩)); (case aO => exact (by (with_reducible repeat (first | apply Kd.N_alloc | apply Kd.N_drewN | apply Kd.N_drew)); exact Kd.N_mono d0.out cj_)); (case aS => exact (bs_ HB)); (case aL => have := d5.out; omega); intro K7 a8 ho hb hg hat; rw [← e5.out] at ho; replace y0 := a_ (Kd.N_afterv (ok := (fun k_ => (P1_1_ k_ ∨ w.heap.size ≤ k_) ∧ some k_ ≠ (.slice f4 j2.length g4 : Value).ownBlock ∧ k_ ≠ h0 ∧ k_ ≠ i0 ∧ k_ ≠ f0 ∧ k_ ≠ g0 ∧ k_ ≠ n0)) (by (with_reducible repeat (first | apply Kd.N_alloc | apply Kd.N_drewN | apply Kd.N_drew)); exact Kd.N_mono y0.out cj_) hg hat); replace k0 := a_ (Kd.V_afterv (ok := (fun k_ => (P1_1_ k_ ∨ w.heap.size ≤ k_) ∧ some k_ ≠ (f1 : Value).ownBlock ∧ some k_ ≠ (.slice f4 j2.length g4 : Value).ownBlock ∧ k_ ≠ h0 ∧ k_ ≠ i0 ∧ k_ ≠ f0 ∧ k_ ≠ g0 ∧ k_ ≠ n0)) (by (with_reducible repeat (first | apply Kd.V_alloc | apply Kd.V_drewN | apply Kd.V_drew)); exact Kd.V_mono k0.out cj_) hg hat); replace a0 := (FG_ a0 hg (Kd.N_ne d0.out a0.out (by decide))); replace b0 := (FG_ b0 hg (Kd.N_ne d0.out b0.out (by decide))); replace c0 := (FG_ c0 hg (Kd.N_ne d0.out c0.out (by decide))); replace e0 := (FG_ e0 hg (Kd.N_ne d0.out e0.out (by decide))); replace p0 := (FG_ p0 hg (Kd.N_ne d0.out p0.out (by decide))); replace HB := a_ (hb); have r4 := a_ (ho); clear d0 G0; clear ho hb hg hat; obtain ⟨P3, Q3, y5⟩ := Kd.N_slice r4.out; subst y5; obtain ⟨U5, V5⟩ := e1_ p0))
 go_roundg k2
 case measure => have := HJ6.out; have := p4.out; omega
 case rel => exact ⟨(wrap64 (t0 + 1)), (m2), (.slice P3 m2.length Q3), rs_, H', ⟨by have := HJ6.out; have := p4.out; omega⟩, ⟨by (with_reducible repeat (first | apply Kd.N_alloc | apply Kd.N_drewN | apply Kd.N_drew)); exact Kd.N_mono (Kd.N_far (p := ⟨n0, 0, none⟩) (Kd.N_mono y0.out (fun k_ hk => (⟨hk, hk.1.2.2.2.2.2.2⟩ : _ ∧ k_ ≠ n0))) (fun _ hk => hk.2) (.slice P3 m2.length Q3)) cj_⟩, ⟨by (with_reducible repeat (first | apply Kd.V_alloc | apply Kd.V_drewN | apply Kd.V_drew)); exact Kd.V_mono (Kd.V_far (p := ⟨n0, 0, none⟩) (Kd.V_mono k0.out (fun k_ hk => (⟨hk, hk.1.2.2.2.2.2.2.2⟩ : _ ∧ k_ ≠ n0))) (fun _ hk => hk.2) (.slice P3 m2.length Q3)) cj_⟩, ⟨by (with_reducible repeat (first | apply Kd.N_alloc | apply Kd.N_drewN | apply Kd.N_drew)); exact Kd.N_mono (Kd.N_far (p := ⟨n0, 0, none⟩) (Kd.N_mono r4.out (fun k_ hk => (⟨hk, hk.2.2.2.2.2.2⟩ : _ ∧ k_ ≠ n0))) (fun _ hk => hk.2) (.slice P3 m2.length Q3)) cj_⟩, ⟨bk_ a0⟩, ⟨bk_ b0⟩, ⟨bk_ c0⟩, ⟨bk_ e0⟩, ⟨bp_ p0⟩, ⟨bl_ HB⟩⟩}}
 {
 simp only [Option.some.injEq, Prod.mk.injEq] at H
 obtain ⟨rfl, rfl⟩ := H
 have h7 := n1.out
 have i7 := m1.out
 have j7 := e1.out
 have k7 := d1.out
 have l7 := p1.out
 have m7 := o1.out
 have n7 := t1.out
 have o7 := q1.out
 obtain ⟨W5, X5⟩ := e1_ p0
 obtain ⟨N4, O4, z5⟩ := Kd.N_slice d0.out
 subst z5
 have p7 := c1.out
 have q7 := b1.out
 have r7 := S0.out
 have s7 := R0.out
 have t7 := Q1.out
 have v7 := R1.out
 obtain ⟨Y5, Z5⟩ := e1_ c0
 go_wp2
 refine bodyPost_ret (results_ct rfl _ _ f0 37 #[.slice N4 F0.length O4] (0, 0) _ rfl (bp_ c0) Try.underlying37 rfl kf_) rfl ?_
 exact ⟨_, er_, by (with_reducible repeat (first | apply Kd.N_alloc | apply Kd.N_drewN | apply Kd.N_drew)); exact Kd.N_mono (Kd.N_far (p := ⟨f0, 0, none⟩) (Kd.N_mono d0.out (fun k_ hk => (⟨hk, hk.2.2.2.2.1⟩ : _ ∧ k_ ≠ f0))) (fun _ hk => hk.2) (.slice N4 F0.length O4)) (fun _ hk => hk.1.1), bl_ HB⟩}))))}
 {
 simp only [Option.some.injEq, Prod.mk.injEq] at H
 obtain ⟨rfl, rfl⟩ := H
 go_enter Try.func14, Try.ntmps14
 go_wp2_with (first | ((with_reducible refine gate_dst (N := 2) rfl ?_); refine box_ 2 #[.int .i64 C0, .int .i64 D0, .slice H0 z0.length I0, .slice J0 A0.length K0] 24 ?_; intro h0 hg b8 hbox hb; replace m0 := a_ (Kd.V_below (Kd.V_elderB (kV_ m0) h0 (Nat.le_of_eq hg.symm)) hb); have a0 := a_ (hbox); have Q4 := GE_ HB hg; have j4 := GE_ HB hg; replace HB := BS_ HB hb; clear hb hbox hg) | ((with_reducible refine gate_dst (N := 3) rfl ?_); refine box_ 3 #[.slice Y0 q0.length Q0, .slice M0 v0.length N0] 28 ?_; intro i0 hg c8 hbox hb; replace m0 := a_ (Kd.V_below (Kd.V_elderB (kV_ m0) i0 (Nat.le_of_eq hg.symm)) hb); have b0 := a_ (hbox); have R4 := GE_ HB hg; have k4 := GE_ HB hg; replace HB := BS_ HB hb; obtain ⟨Z0, a1⟩ := NN_ a0 hg; replace a0 := FB_ a0 hb; clear hb hbox hg) | ((with_reducible refine gate_dst (N := 4) rfl ?_); refine box_ 4 #[.slice none 0 0] 37 ?_; intro f0 hg d8 hbox hb; replace m0 := a_ (Kd.V_below (Kd.V_elderB (kV_ m0) f0 (Nat.le_of_eq hg.symm)) hb); have c0 := a_ (hbox); have S4 := GE_ HB hg; have l4 := GE_ HB hg; replace HB := BS_ HB hb; obtain ⟨b1, c1⟩ := NN_ a0 hg; replace a0 := FB_ a0 hb; obtain ⟨R0, S0⟩ := NN_ b0 hg; replace b0 := FB_ b0 hb; clear hb hbox hg; have w7 := Z0.out; have x7 := a1.out; have g6 := b1.out; have h6 := c1.out; obtain ⟨A5, B5, C5, D5, E5, F5, G5, H5⟩ := e4_ a0; have i6 := R0.out; have j6 := S0.out; obtain ⟨I5, J5, K5, L5⟩ := e2_ b0) | ((with_reducible refine gate_callee (f := 21) rfl ?_); refine gL_ (some 16) Try.func21 #[.agg #[.int .i64 C0, .int .i64 D0, .slice H0 z0.length I0, .slice J0 A0.length K0], .agg #[.slice Y0 q0.length Q0, .slice M0 v0.length N0]] ?_; (with_reducible refine (vpack_Right.calls k C0 D0 _ _ z0 _ _ A0 _ _ q0 _ _ v0 false _ ?side1 ?side2 ?side3 ?side4 ?side5 ?side6 ?side7 ?side8 A3.out).mono ?_); (case side1 => exact kC_ s3 HB); (case side2 => exact t3.out); (case side3 => exact kC_ v3 HB); (case side4 => exact w3.out); (case side5 => exact kC_ J1 HB); (case side6 => exact y3.out); (case side7 => exact kCt_ (Kd.V_reads' m0.out).2.2); (case side8 => exact (Kd.V_reads' m0.out).2.1); rintro e L7 ⟨rfl, hb⟩; refine ⟨_, rfl, ?_⟩; replace m0 := FV_ m0 hb; replace a0 := FB_ a0 hb; replace b0 := FB_ b0 hb; replace c0 := FB_ c0 hb; replace HB := BS_ HB hb; (try clear hb); obtain ⟨M5, N5⟩ := e1_ c0))
 refine bodyPost_ret (results_ct rfl _ _ f0 37 #[.slice none 0 0] (0, 0) _ rfl (bp_ c0) Try.underlying37 rfl kf_) rfl ?_
 exact ⟨_, er_, by first | exact Kd.S_nil _ _ _ _ _ | exact Kd.N_nil _ _ _ _ _ | exact Kd.V_nil _ _ _ _ _ | exact Kd.Q_nil _ _ _ _ _ | exact Kd.R_nil _ _ _ _ _, bl_ HB⟩}
def pvq_fair.l0 : Nat → List Int → List Int → Int → Int → Option (Bool)
  | 0, _, _, _, _ => none
  | k + 1, x0, x5, x6, x7 => if x7 < x6 then (if 0 ≤ x7 then (if x7 < (x5.length : Int) then ((num_Clamp.f (rd x5 x7) (-1048576) 1048576).bind fun a0 => (if (rd x5 x7) = a0 then (pvq_fair.l0 k x0 x5 x6 (wrap64 (x7 + 1))) else (some false))) else (none)) else (none)) else (if (x0.length : Int) ≥ 1 then (some (decide ((x0.length : Int) ≤ 16))) else (some false))
def pvq_fair.f (k : Nat) (l0 : List Int) : Option (Bool) := pvq_fair.l0 k l0 l0 (l0.length : Int) 0
theorem pvq_fair.mono_l : ∀ k, (∀ y0 y1 y2 y3, LeO (pvq_fair.l0 k y0 y1 y2 y3) (pvq_fair.l0 (k + 1) y0 y1 y2 y3))
  | 0 => fun _ _ _ _ r h => by simp [pvq_fair.l0] at h
  | k + 1 => by
    have a0 := pvq_fair.mono_l k
    · intro y0 y1 y2 y3
      unfold pvq_fair.l0
      with_reducible repeat' first
   | exact a0 _ _ _ _
   | exact LeO.refl _
   | exact LeO.none _
   | refine LeO.ite ?_ ?_
   | refine LeO.bind ?_ (fun _ => ?_)
theorem pvq_fair.mono : ∀ a0 k, LeO (pvq_fair.f k a0) (pvq_fair.f (k + 1) a0) := by
  intro a0 k
  have b0 := pvq_fair.mono_l k
  unfold pvq_fair.f
  with_reducible repeat' first
   | exact b0 _ _ _ _
   | exact LeO.refl _
   | exact LeO.none _
   | refine LeO.ite ?_ ?_
   | refine LeO.bind ?_ (fun _ => ?_)
set_option maxHeartbeats 8000000 in
set_option maxRecDepth 100000 in
theorem pvq_fair.calls (k : Nat) (A0 : Option Addr) (c0 : Nat) (l0 : List Int) (r : Bool) (w : World) (hr0 : Kd.C (Kd.int .i64) w A0 l0.length l0) (hc0 : l0.length ≤ c0) (h : pvq_fair.f k l0 = some r) :
    Calls Try.prog 102 #[.slice A0 l0.length c0] w fun e w' => e = .returned (.bool r) ∧ Drawn0 w w' := by
 have i0 := a_ hr0
 have s0 := a_ hc0
 clear hr0 hc0
 have H : (pvq_fair.l0 k l0 l0 (l0.length : Int) 0) = some r := h
 clear h
 have H' := a_ H
 clear H
 go_enter Try.func102, Try.ntmps102
 go_wp2
 go_loopg [7] k (fun kq v7 w' => ∃ (a0 : Int), v7 = .int .i64 a0 ∧ Aside0 (pvq_fair.l0 kq l0 l0 (l0.length : Int) a0 = some r) ∧ Aside0 (kq ≤ k) ∧ Drawn0 w w')
 case atStart => exact ⟨(0), rs_, H', ⟨Nat.le_refl _⟩, dr_⟩
 case round => (
 clear H'
 obtain ⟨a0, rfl, HA, j0, ⟨m1, rfl⟩⟩ := hrel
 cases gk with
 | zero => exact absurd HA.out (by simp [pvq_fair.l0])
 | succ k1 => (
 have H := HA.out
 clear HA
 simp only [pvq_fair.l0] at H
 replace H := id_ H
 rcases H with ⟨k0, H⟩ | ⟨k0, H⟩
 {
 replace H := gd_ H
 obtain ⟨q0, H⟩ := H
 replace H := gd_ H
 obtain ⟨r0, H⟩ := H
 obtain ⟨g0, A5, H⟩ := ob_ H
 (try dsimp only at H)
 replace H := ie_ H
 rcases H with ⟨m0, n0, H⟩ | ⟨c6, m0, n0, H⟩
 {
 have H' := a_ H
 clear H
 have b0 : 0 ≤ (a0 : Int) := dm_
 have d0 : a0 < (l0.length : Int) := dm_
 obtain ⟨h0, e0, f0⟩ := Kd.at_int i0.out a0 b0 d0
 cases e0
 replace b0 := eq_true b0
 replace d0 := eq_true d0
 go_wp2_with (first | ((with_reducible refine gate_callee (f := 73) rfl ?_); refine gL_ (some 13) Try.func73 #[.int .i64 (rd l0 a0), .int .i64 (-1048576), .int .i64 1048576] ?_; (with_reducible refine (num_Clamp.calls (rd l0 a0) (-1048576) 1048576 g0 _ A5.out).mono ?_); rintro e w' ⟨rfl, ⟨nd, rfl⟩⟩; refine ⟨_, rfl, ?_⟩))
 go_roundg k1
 case measure => have := j0.out; omega
 case rel => exact ⟨(wrap64 (a0 + 1)), rs_, H', ⟨by have := j0.out; omega⟩, dr_⟩}
 {
 obtain rfl := Option.some.inj H
 have b0 : 0 ≤ (a0 : Int) := dm_
 have d0 : a0 < (l0.length : Int) := dm_
 obtain ⟨h0, e0, f0⟩ := Kd.at_int i0.out a0 b0 d0
 cases e0
 replace b0 := eq_true b0
 replace d0 := eq_true d0
 go_wp2_with (first | ((with_reducible refine gate_callee (f := 73) rfl ?_); refine gL_ (some 13) Try.func73 #[.int .i64 (rd l0 a0), .int .i64 (-1048576), .int .i64 1048576] ?_; (with_reducible refine (num_Clamp.calls (rd l0 a0) (-1048576) 1048576 g0 _ A5.out).mono ?_); rintro e w' ⟨rfl, ⟨nd, rfl⟩⟩; refine ⟨_, rfl, ?_⟩))
 go_ret
 exact ⟨es_, dr_⟩}}
 {
 replace H := ii_ H
 rcases H with ⟨c7, H⟩ | ⟨c7, H⟩
 {
 have o0 : decide (1 ≤ (l0.length : Int)) = true := decide_eq_true c7
 have p0 : decide (1 ≤ l0.length) = true := decide_eq_true (by omega)
 clear c7
 obtain rfl := Option.some.inj H
 go_wp2
 go_ret
 exact ⟨es_, dr_⟩}
 {
 have o0 : decide (1 ≤ (l0.length : Int)) = false := decide_eq_false c7
 have p0 : decide (1 ≤ l0.length) = false := decide_eq_false (by omega)
 clear c7
 obtain rfl := Option.some.inj H
 go_wp2
 go_ret
 exact ⟨es_, dr_⟩}}))
def pvq_Square.l0 : Nat → Int → List Int → Int → Int → Option (Int × Int)
  | 0, _, _, _, _ => none
  | k + 1, x4, b0, c0, a0 => if a0 < c0 then (if 0 ≤ a0 then (if a0 < (b0.length : Int) then (pvq_Square.l0 k (IntKind.u64.wrap (x4 + (IntKind.u64.wrap (wrap64 ((rd b0 a0) * (rd b0 a0)))))) b0 c0 (wrap64 (a0 + 1))) else (none)) else (none)) else (some (x4, 0))
def pvq_Square.f (k : Nat) (l0 : List Int) : Option (Int × Int) := (pvq_fair.f k l0).bind fun a0 => (if a0 = true then (pvq_Square.l0 k 0 l0 (l0.length : Int) 0) else (some (0, 1)))
theorem pvq_Square.mono_l : ∀ k, (∀ y0 y1 y2 y3, LeO (pvq_Square.l0 k y0 y1 y2 y3) (pvq_Square.l0 (k + 1) y0 y1 y2 y3))
  | 0 => fun _ _ _ _ r h => by simp [pvq_Square.l0] at h
  | k + 1 => by
    have a0 := pvq_Square.mono_l k
    · intro y0 y1 y2 y3
      unfold pvq_Square.l0
      with_reducible repeat' first
   | exact a0 _ _ _ _
   | exact pvq_fair.mono _ _
   | exact LeO.refl _
   | exact LeO.none _
   | refine LeO.ite ?_ ?_
   | refine LeO.bind ?_ (fun _ => ?_)
theorem pvq_Square.mono : ∀ a0 k, LeO (pvq_Square.f k a0) (pvq_Square.f (k + 1) a0) := by
  intro a0 k
  have b0 := pvq_Square.mono_l k
  unfold pvq_Square.f
  with_reducible repeat' first
   | exact b0 _ _ _ _
   | exact pvq_fair.mono _ _
   | exact LeO.refl _
   | exact LeO.none _
   | refine LeO.ite ?_ ?_
   | refine LeO.bind ?_ (fun _ => ?_)
set_option maxHeartbeats 8000000 in
set_option maxRecDepth 100000 in
theorem pvq_Square.calls (k : Nat) (A0 : Option Addr) (c0 : Nat) (l0 : List Int) (r1 : Int) (r2 : Int) (w : World) (hr0 : Kd.C (Kd.int .i64) w A0 l0.length l0) (hc0 : l0.length ≤ c0) (h : pvq_Square.f k l0 = some (r1, r2)) :
    Calls Try.prog 80 #[.slice A0 l0.length c0] w fun e w' => e = .returned (.tuple #[.int .u64 r1, .int .i64 r2]) ∧ Drawn0 w w' := by
 have f0 := a_ hr0
 have h0 := a_ hc0
 clear hr0 hc0
 have H : ((pvq_fair.f k l0).bind fun g0 => (if g0 = true then (pvq_Square.l0 k 0 l0 (l0.length : Int) 0) else (some (0, 1)))) = some (r1, r2) := h
 clear h
 obtain ⟨g0, A2, H⟩ := ob_ H
 (try dsimp only at H)
 replace H := ib_ H
 rcases H with ⟨rfl, H⟩ | ⟨rfl, H⟩
 {
 have H' := a_ H
 clear H
 go_enter Try.func80, Try.ntmps80
 go_wp2_with (first | ((with_reducible refine gate_callee (f := 102) rfl ?_); refine gL_ (some 8) Try.func102 #[.slice A0 l0.length c0] ?_; (with_reducible refine (pvq_fair.calls k _ _ l0 true _ ?side1 ?side2 A2.out).mono ?_); (case side1 => repeat (first | exact f0.out | (with_reducible refine Kd.C_alloc ?_ _) | (with_reducible refine Kd.C_drewN ?_ _) | (with_reducible refine Kd.C_drew ?_))); (case side2 => exact h0.out); rintro e w' ⟨rfl, ⟨nd, rfl⟩⟩; refine ⟨_, rfl, ?_⟩))
 go_loopg [4, 12] k (fun kq v4 n0 w' => ∃ (b0 : Int) (a0 : Int), v4 = .int .u64 b0 ∧ n0 = .int .i64 a0 ∧ Aside0 (pvq_Square.l0 kq b0 l0 (l0.length : Int) a0 = some (r1, r2)) ∧ Aside0 (kq ≤ k) ∧ Drawn0 w w')
 case atStart => exact ⟨(0), (0), rs_, rs_, H', ⟨Nat.le_refl _⟩, dr_⟩
 case round => (
 clear H'
 try clear c3
 obtain ⟨b0, a0, rfl, rfl, HA, i0, ⟨m1, rfl⟩⟩ := hrel
 cases gk with
 | zero => exact absurd HA.out (by simp [pvq_Square.l0])
 | succ k1 => (
 have H := HA.out
 clear HA
 simp only [pvq_Square.l0] at H
 replace H := id_ H
 rcases H with ⟨j0, H⟩ | ⟨j0, H⟩
 {
 replace H := gd_ H
 obtain ⟨p0, H⟩ := H
 replace H := gd_ H
 obtain ⟨q0, H⟩ := H
 have H' := a_ H
 clear H
 have d0 : 0 ≤ (a0 : Int) := dm_
 have e0 : a0 < (l0.length : Int) := dm_
 obtain ⟨o0, k0, m0⟩ := Kd.at_int f0.out a0 d0 e0
 cases k0
 replace d0 := eq_true d0
 replace e0 := eq_true e0
 go_wp2
 go_roundg k1
 case measure => have := i0.out; omega
 case rel => exact ⟨(IntKind.u64.wrap (b0 + (IntKind.u64.wrap (wrap64 ((rd l0 a0) * (rd l0 a0)))))), (wrap64 (a0 + 1)), rs_, rs_, H', ⟨by have := i0.out; omega⟩, dr_⟩}
 {
 simp only [Option.some.injEq, Prod.mk.injEq] at H
 obtain ⟨rfl, rfl⟩ := H
 go_wp2
 go_ret2
 exact ⟨es_, dr_⟩}))}
 {
 simp only [Option.some.injEq, Prod.mk.injEq] at H
 obtain ⟨rfl, rfl⟩ := H
 go_enter Try.func80, Try.ntmps80
 go_wp2_with (first | ((with_reducible refine gate_callee (f := 102) rfl ?_); refine gL_ (some 8) Try.func102 #[.slice A0 l0.length c0] ?_; (with_reducible refine (pvq_fair.calls k _ _ l0 false _ ?side1 ?side2 A2.out).mono ?_); (case side1 => repeat (first | exact f0.out | (with_reducible refine Kd.C_alloc ?_ _) | (with_reducible refine Kd.C_drewN ?_ _) | (with_reducible refine Kd.C_drew ?_))); (case side2 => exact h0.out); rintro e w' ⟨rfl, ⟨nd, rfl⟩⟩; refine ⟨_, rfl, ?_⟩))
 go_ret2
 exact ⟨es_, dr_⟩}
def band_there.f (a0 : Int) : Option (Bool) := if a0 ≥ 0 then (some (decide (a0 < 5))) else (some false)
set_option maxHeartbeats 8000000 in
set_option maxRecDepth 100000 in
theorem band_there.calls (a0 : Int) (r : Bool) (w : World) (h : band_there.f a0 = some r) :
    Calls Try.prog 103 #[.int .i64 a0] w fun e w' => e = .returned (.bool r) ∧ Drawn0 w w' := by
 have H : (if a0 ≥ 0 then (some (decide (a0 < 5))) else (some false)) = some r := h
 clear h
 replace H := ii_ H
 rcases H with ⟨c2, H⟩ | ⟨c2, H⟩
 {
 have b0 : decide (0 ≤ a0) = true := decide_eq_true c2
 clear c2
 obtain rfl := Option.some.inj H
 go_enter Try.func103, Try.ntmps103
 go_wp2
 go_ret
 exact ⟨es_, dr_⟩}
 {
 have b0 : decide (0 ≤ a0) = false := decide_eq_false c2
 clear c2
 obtain rfl := Option.some.inj H
 go_enter Try.func103, Try.ntmps103
 go_wp2
 go_ret
 exact ⟨es_, dr_⟩}
def band_From.f (a0 : Int) : Option (Int) := (band_there.f a0).bind fun b0 => (if b0 = true then (if a0 = 0 then (some 0) else (if 0 ≤ (wrap64 (a0 - 1)) then (some (shl .i64 1 (wrap64 (a0 - 1)))) else (none))) else (some 0))
set_option maxHeartbeats 8000000 in
set_option maxRecDepth 100000 in
theorem band_From.calls (a0 : Int) (r : Int) (w : World) (h : band_From.f a0 = some r) :
    Calls Try.prog 81 #[.int .i64 a0] w fun e w' => e = .returned (.int .i64 r) ∧ Drawn0 w w' := by
 have H : ((band_there.f a0).bind fun f0 => (if f0 = true then (if a0 = 0 then (some 0) else (if 0 ≤ (wrap64 (a0 - 1)) then (some (shl .i64 1 (wrap64 (a0 - 1)))) else (none))) else (some 0))) = some r := h
 clear h
 obtain ⟨f0, A2, H⟩ := ob_ H
 (try dsimp only at H)
 replace H := ib_ H
 rcases H with ⟨rfl, H⟩ | ⟨rfl, H⟩
 {
 replace H := ie_ H
 rcases H with ⟨g0, h0, H⟩ | ⟨c4, g0, h0, H⟩
 {
 obtain rfl := Option.some.inj H
 go_enter Try.func81, Try.ntmps81
 go_wp2_with (first | ((with_reducible refine gate_callee (f := 103) rfl ?_); refine gL_ (some 4) Try.func103 #[.int .i64 a0] ?_; (with_reducible refine (band_there.calls a0 true _ A2.out).mono ?_); rintro e w' ⟨rfl, ⟨nd, rfl⟩⟩; refine ⟨_, rfl, ?_⟩))
 go_ret
 exact ⟨es_, dr_⟩}
 {
 obtain ⟨b0, d0⟩ : ∃ j_ : Int, (wrap64 (a0 - 1)) = j_ := ⟨_, rfl⟩
 replace H : (if 0 ≤ (b0) then (some (shl .i64 1 (b0))) else (none)) = some r := by first | (rw [d0] at H; exact H) | (simp only [d0] at H ⊢; exact H)
 (try rw [d0] at A2)
 have hji5w : (IntKind.i64.wrap (a0 - 1)) = b0 := (i64_w _).trans d0
 replace H := gt_ H
 obtain ⟨c6, H⟩ := H
 have i0 := eq_true c6
 have j0 : decide (0 ≤ (b0)) = true := decide_eq_true c6
 clear c6
 obtain ⟨e0, c0⟩ : ∃ j_ : Int, (shl .i64 1 (b0)) = j_ := ⟨_, rfl⟩
 replace H : (some e0) = some r := by first | (rw [c0] at H; exact H) | (simp only [c0] at H ⊢; exact H)
 (try rw [c0] at A2)
 have hji7_ : (IntKind.i64.wrap (1 * 2 ^ min (b0).toNat 64)) = e0 := c0
 have hji7z : (b0) ≤ 64 → (IntKind.i64.wrap (1 * 2 ^ (b0).toNat)) = e0 := shl_small c0
 have hji7u : (IntKind.i64.wrap (2 ^ min (b0).toNat 64)) = e0 := by have h_ := hji7_; rw [Int.one_mul] at h_; exact h_
 have hji7v : (b0) ≤ 64 → (IntKind.i64.wrap (2 ^ (b0).toNat)) = e0 := fun hle_ => by have h_ := hji7z hle_; rw [Int.one_mul] at h_; exact h_
 have hji7y : (wrap64 (1 * 2 ^ min (b0).toNat 64)) = e0 := (i64_w _).symm.trans hji7_
 have hji7x : (b0) ≤ 64 → (wrap64 (1 * 2 ^ (b0).toNat)) = e0 := fun h_ => (i64_w _).symm.trans (hji7z h_)
 obtain rfl := Option.some.inj H
 go_enter Try.func81, Try.ntmps81
 go_wp2_with (first | ((with_reducible refine gate_callee (f := 103) rfl ?_); refine gL_ (some 4) Try.func103 #[.int .i64 a0] ?_; (with_reducible refine (band_there.calls a0 true _ A2.out).mono ?_); rintro e w' ⟨rfl, ⟨nd, rfl⟩⟩; refine ⟨_, rfl, ?_⟩))
 go_ret
 exact ⟨by first | rfl | (simp; done) | (simp only [← d0, ← c0] <;> (first | rfl | simp)) | (simp [*]; done), dr_⟩}}
 {
 obtain rfl := Option.some.inj H
 go_enter Try.func81, Try.ntmps81
 go_wp2_with (first | ((with_reducible refine gate_callee (f := 103) rfl ?_); refine gL_ (some 4) Try.func103 #[.int .i64 a0] ?_; (with_reducible refine (band_there.calls a0 false _ A2.out).mono ?_); rintro e w' ⟨rfl, ⟨nd, rfl⟩⟩; refine ⟨_, rfl, ?_⟩))
 go_ret
 exact ⟨es_, dr_⟩}
def band_Width.f (a0 : Int) : Option (Int) := (band_there.f a0).bind fun b0 => (if b0 = true then ((band_From.f a0).bind fun c0 => (some (mx 1 c0))) else (some 0))
set_option maxHeartbeats 8000000 in
set_option maxRecDepth 100000 in
theorem band_Width.calls (a0 : Int) (r : Int) (w : World) (h : band_Width.f a0 = some r) :
    Calls Try.prog 82 #[.int .i64 a0] w fun e w' => e = .returned (.int .i64 r) ∧ Below w.heap.size w w' := by
 have HB := a_ (Below.refl w.heap.size w)
 have H : ((band_there.f a0).bind fun e0 => (if e0 = true then ((band_From.f a0).bind fun b0 => (some (mx 1 b0))) else (some 0))) = some r := h
 clear h
 obtain ⟨e0, A2, H⟩ := ob_ H
 (try dsimp only at H)
 replace H := ib_ H
 rcases H with ⟨rfl, H⟩ | ⟨rfl, H⟩
 {
 replace H := Option.bind_eq_some_iff.mp H
 obtain ⟨b0, f0, H⟩ := H
 replace H : (some (mx 1 b0)) = some r := H
 have A4 := a_ f0
 clear f0
 obtain ⟨d0, c0⟩ : ∃ j_ : Int, (mx 1 b0) = j_ := ⟨_, rfl⟩
 replace H : (some d0) = some r := by first | (rw [c0] at H; exact H) | (simp only [c0] at H ⊢; exact H)
 (try rw [c0] at A2)
 (try rw [c0] at A4)
 (try (have hji5l : 1 ≤ d0 := by (rw [← c0]; unfold mx; (repeat' split) <;> omega)))
 (try (have hji5m : 0 ≤ d0 := by omega))
 have hji5_ : (if 1 < b0 then b0 else 1) = d0 := c0
 obtain rfl := Option.some.inj H
 go_enter Try.func82, Try.ntmps82
 go_wp2_with (first | ((with_reducible refine gate_callee (f := 103) rfl ?_); refine gL_ (some 4) Try.func103 #[.int .i64 a0] ?_; (with_reducible refine (band_there.calls a0 true _ A2.out).mono ?_); rintro e w' ⟨rfl, ⟨nd, rfl⟩⟩; refine ⟨_, rfl, ?_⟩) | ((with_reducible refine gate_callee (f := 81) rfl ?_); refine gL_ (some 7) Try.func81 #[.int .i64 a0] ?_; (with_reducible refine (band_From.calls a0 b0 _ A4.out).mono ?_); rintro e w' ⟨rfl, ⟨nd, rfl⟩⟩; refine ⟨_, rfl, ?_⟩))
 go_ret
 exact ⟨by first | rfl | (simp [errW_none, errW_some] <;> rfl) | (simp only [← c0]; first | rfl | (simp [errW_none, errW_some] <;> rfl)) | (simp [*, errW_none, errW_some] <;> rfl), bl_ HB⟩}
 {
 obtain rfl := Option.some.inj H
 go_enter Try.func82, Try.ntmps82
 go_wp2_with (first | ((with_reducible refine gate_callee (f := 103) rfl ?_); refine gL_ (some 4) Try.func103 #[.int .i64 a0] ?_; (with_reducible refine (band_there.calls a0 false _ A2.out).mono ?_); rintro e w' ⟨rfl, ⟨nd, rfl⟩⟩; refine ⟨_, rfl, ?_⟩))
 go_ret
 exact ⟨er_, bl_ HB⟩}
mutual
def band_Split.j0 : Nat → List Int → Bool → Option ((List (List Int)) × Int)
  | 0, _, _ => none
  | k + 1, x0, b0 => if b0 = true then (some (([] : List (List Int)), 1)) else ((some (([] : List Int) : List Int)).bind fun a0 => (if a0.length + x0.length < 17592186044416 then (band_Split.l0 k (a0 ++ x0) ([] : List (List Int)) 0) else (none)))
def band_Split.l0 : Nat → List Int → List (List Int) → Int → Option ((List (List Int)) × Int)
  | 0, _, _, _ => none
  | k + 1, x6, x7, c0 => if c0 < 5 then ((band_From.f c0).bind fun a0 => ((band_Width.f c0).bind fun b0 => (if 0 ≤ a0 then (if a0 ≤ (wrap64 (a0 + b0)) then (if (wrap64 (a0 + b0)) ≤ (x6.length : Int) then (if x7.length < 5864062014805 then (band_Split.l0 k x6 (x7 ++ [((x6.take ((wrap64 (a0 + b0)) : Int).toNat).drop (a0 : Int).toNat)]) (wrap64 (c0 + 1))) else (none)) else (none)) else (none)) else (none)))) else (some (x7, 0))
end
def band_Split.f (k : Nat) (l0 : List Int) : Option ((List (List Int)) × Int) := (pvq_Square.f k l0).bind fun a0 => (if a0.2 = 0 then (band_Split.j0 k l0 ((l0.length : Int) != 16)) else (band_Split.j0 k l0 true))
theorem band_Split.mono_l : ∀ k, (∀ y0 y1, LeO (band_Split.j0 k y0 y1) (band_Split.j0 (k + 1) y0 y1)) ∧ (∀ y0 y1 y2, LeO (band_Split.l0 k y0 y1 y2) (band_Split.l0 (k + 1) y0 y1 y2))
  | 0 => ⟨fun _ _ r h => by simp [band_Split.j0] at h, fun _ _ _ r h => by simp [band_Split.l0] at h⟩
  | k + 1 => by
    obtain ⟨a0, b0⟩ := band_Split.mono_l k
    refine ⟨?_, ?_⟩
    all_goals (intros; first | unfold band_Split.j0 | unfold band_Split.l0)
    all_goals with_reducible repeat' first
     | exact a0 _ _
     | exact b0 _ _ _
     | exact pvq_Square.mono _ _
     | exact LeO.refl _
     | exact LeO.none _
     | refine LeO.ite ?_ ?_
     | refine LeO.bind ?_ (fun _ => ?_)
theorem band_Split.mono : ∀ a0 k, LeO (band_Split.f k a0) (band_Split.f (k + 1) a0) := by
  intro a0 k
  obtain ⟨b0, c0⟩ := band_Split.mono_l k
  unfold band_Split.f
  with_reducible repeat' first
   | exact b0 _ _
   | exact c0 _ _ _
   | exact pvq_Square.mono _ _
   | exact LeO.refl _
   | exact LeO.none _
   | refine LeO.ite ?_ ?_
   | refine LeO.bind ?_ (fun _ => ?_)
set_option maxHeartbeats 8000000 in
set_option maxRecDepth 100000 in
theorem band_Split.calls (k : Nat) (A0 : Option Addr) (c0 : Nat) (l0 : List Int) (r1 : List (List Int)) (r2 : Int) (w : World) (hr0 : Kd.C (Kd.int .i64) w A0 l0.length l0) (hc0 : l0.length ≤ c0) (h : band_Split.f k l0 = some (r1, r2)) :
    Calls Try.prog 42 #[.slice A0 l0.length c0] w fun e w' => ∃ v0_ : Value, e = .returned (.tuple #[v0_, .int .i64 r2]) ∧ Kd.N (Kd.slice 2 (Kd.int .i64)) 53 w' w.heap.size (fun k_ => (w.heap.size ≤ k_)) v0_ r1 ∧ Below w.heap.size w w' := by
 have Q0 := a_ hr0
 have h1 := a_ hc0
 clear hr0 hc0
 have HB := a_ (Below.refl w.heap.size w)
 have H : ((pvq_Square.f k l0).bind fun J0 => (if J0.2 = 0 then (band_Split.j0 k l0 ((l0.length : Int) != 16)) else (band_Split.j0 k l0 true))) = some (r1, r2) := h
 clear h
 obtain ⟨⟨W0, X0⟩, A2, H⟩ := ob_ H
 (try dsimp only at H)
 have F0 := a_ H
 clear H
 go_enter Try.func42, Try.ntmps42
 go_upto_region 2 with (first | ((with_reducible refine gate_callee (f := 80) rfl ?_); refine gL_ (some 13) Try.func80 #[.slice A0 l0.length c0] ?_; (with_reducible refine (pvq_Square.calls k _ _ l0 W0 X0 _ ?side1 ?side2 A2.out).mono ?_); (case side1 => repeat (first | exact Q0.out | (with_reducible refine Kd.C_alloc ?_ _) | (with_reducible refine Kd.C_drewN ?_ _) | (with_reducible refine Kd.C_drew ?_))); (case side2 => exact h1.out); rintro e w' ⟨rfl, ⟨nd, rfl⟩⟩; refine ⟨_, rfl, ?_⟩))
 (try simp only [Act.put, List.setIfInBounds_toArray, List.set_cons_zero, List.set_cons_succ])
 go_cut [22] (fun i1 wc => ∃ (kq : Nat) (t0 : Bool), i1 = .bool t0 ∧ Aside0 (band_Split.j0 kq l0 t0 = some (r1, r2)) ∧ Aside0 (kq ≤ k) ∧ Aside0 (Below w.heap.size w wc))
 case first => (
 have H := F0.out
 clear F0
 replace H := ie_ H
 rcases H with ⟨q0, Y0, H⟩ | ⟨c4, q0, Y0, H⟩
 {
 (first | rw [q0] | (simp only [i64_w, i32_w]; rw [q0]) | skip)
 have H' := a_ H
 clear H
 go_wp2
 go_meet
 case rel => exact ⟨_, (((l0.length : Int) != 16)), rs_, H', ⟨ol_⟩, ⟨bl_ HB⟩⟩}
 {
 (first | rw [q0] | (simp only [i64_w, i32_w]; rw [q0]) | skip)
 have H' := a_ H
 clear H
 go_wp2
 go_meet
 case rel => exact ⟨_, (true), rs_, H', ⟨ol_⟩, ⟨bl_ HB⟩⟩})
 case rest => (
 clear F0
 obtain ⟨kq, t0, rfl, HA, HJ2, HB⟩ := hcut
 cases kq with
 | zero => exact absurd HA.out (by simp [band_Split.j0])
 | succ kj2 => (
 have H := HA.out
 clear HA
 simp only [band_Split.j0] at H
 replace H := ib_ H
 rcases H with ⟨rfl, H⟩ | ⟨rfl, H⟩
 {
 simp only [Option.some.injEq, Prod.mk.injEq] at H
 obtain ⟨rfl, rfl⟩ := H
 go_wp2
 go_ret2
 exact ⟨_, er_, by first | exact Kd.S_nil _ _ _ _ _ | exact Kd.N_nil _ _ _ _ _ | exact Kd.V_nil _ _ _ _ _ | exact Kd.Q_nil _ _ _ _ _ | exact Kd.R_nil _ _ _ _ _, bl_ HB⟩}
 {
 obtain ⟨G0, k0⟩ : ∃ y_ : List Int, y_ = (([] : List Int)) := ⟨_, rfl⟩
 first | replace H := by_ H k0 | rw [← k0] at H
 have z0 := a_ k0
 clear k0
 replace H := gt_ H
 obtain ⟨c6, H⟩ := H
 have Z0 := a_ c6
 clear c6
 obtain ⟨d0, m0⟩ : ∃ y_ : List Int, y_ = (G0 ++ l0) := ⟨_, rfl⟩
 first | replace H := by_ H m0 | rw [← m0] at H
 have K0 := a_ m0
 clear m0
 have H' := a_ H
 clear H
 go_wp2_with (first | ((with_reducible refine gate_dst (N := 23) rfl ?_); (try (refine gate_guard (by rfl) ?_; dsimp only)); refine Kd.R_lit (Kd.int .i64) _ 2 ?hg (N := 23) ?hd (xs := ([] : List Int)) (inner := []) (ok := fun _ => True) (okp := fun _ => True) ?hr ?hp (fun _ hk => hk) trivial (Below.refl _ _) (Nat.le_refl _) (by simp) ?_; (case hd => rfl); (case hg => rfl); (case hr => first | (go_simp; done) | (go_simp; rfl)); (case hp => exact (Reps.none _ _)); intro a1 w7 v0 hb hg_ hnew_; clear hg_ hnew_; (first | rw [← z0.out] at v0 | (simp only [Int.reduceToNat] at v0; rw [← z0.out] at v0)); have B0 := a_ (Kd.R_lower (Kd.R_newM (M := fun k_ => (w.heap.size ≤ k_)) v0 (bs_ HB) (fun k_ h_ => h_)) (bs_ HB)); replace HB := BS_ HB hb; clear hb v0) | ((with_reducible refine gate_builtin (b := .append) (xs := #[.tmp 23, .tmp 24]) rfl ?_); (try (refine gate_guard (by rfl) ?_; dsimp only)); at_builtin; refine Kd.R_append_rows (Kd.int .i64) (w0 := w) w.heap.size rfl (.tmp 23) (.tmp 24) 53 2 (.int .i64 0) 8 rfl Try.underlying53 info2 rfl (by decide) (by omega) a1 G0 l0 _ _ _ (fun k_ => (w.heap.size ≤ k_)) (fun _ => False) rfl rfl ?aO ?aR (fun _ _ h => h) (fun _ h => h.elim) ?aF ?aB ?aS ?aL ?_; (case aR => exact kC_ Q0 HB); (case aB => exact (bl_ HB)); (case aF => exact (fun k_ hk => (Nat.le_trans (bs_ HB) hk))); (case aO => exact (by (with_reducible repeat (first | apply Kd.R_alloc | apply Kd.R_drewN | apply Kd.R_drew)); exact Kd.R_mono B0.out (fun _ hk => hk.1))); (case aS => exact (bs_ HB)); (case aL => have := Z0.out; omega); intro b1 w9 ho hb hg hat; rw [← K0.out] at ho; replace HB := a_ (hb); have L0 := a_ (ho); clear B0; clear ho hb hg hat))
 go_loopg [7, 26] kj2 (fun kq v7 j1 w' => ∃ (r0 : List (List Int)) (e0 : Int), j1 = .int .i64 e0 ∧ Aside0 (band_Split.l0 kq d0 r0 e0 = some (r1, r2)) ∧ Aside0 (kq ≤ kj2) ∧ Aside0 (Kd.R (Kd.int .i64) 2 w' w.heap.size (fun k_ => (w.heap.size ≤ k_)) b1 d0) ∧ Aside0 (Kd.N (Kd.slice 2 (Kd.int .i64)) 53 w' w.heap.size (fun k_ => (w.heap.size ≤ k_)) v7 r0) ∧ Aside0 (Below w.heap.size w w'))
 case atStart => exact ⟨(([] : List (List Int))), (0), rs_, H', ⟨Nat.le_refl _⟩, ⟨kR_ L0⟩, ⟨kn_⟩, ⟨bl_ HB⟩⟩
 case round => (
 clear H'
 try clear c5
 try clear c6
 obtain ⟨r0, e0, rfl, HA, R0, g0, h0, HB⟩ := hrel
 cases gk with
 | zero => exact absurd HA.out (by simp [band_Split.l0])
 | succ k2 => (
 have H := HA.out
 clear HA
 simp only [band_Split.l0] at H
 replace H := id_ H
 rcases H with ⟨M0, H⟩ | ⟨M0, H⟩
 {
 obtain ⟨a0, k1, H⟩ := ob_ H
 (try dsimp only at H)
 obtain ⟨b0, l1, H⟩ := ob_ H
 (try dsimp only at H)
 replace H := gt_ H
 obtain ⟨H0, H⟩ := H
 have m1 := eq_true H0
 have n1 : decide (0 ≤ a0) = true := decide_eq_true H0
 clear H0
 replace H := gt_ H
 obtain ⟨S0, H⟩ := H
 have o1 := eq_true S0
 have p1 : decide (a0 ≤ (wrap64 (a0 + b0))) = true := decide_eq_true S0
 replace H := gt_ H
 obtain ⟨T0, H⟩ := H
 have q1 := eq_true T0
 have s1 : decide ((wrap64 (a0 + b0)) ≤ (d0.length : Int)) = true := decide_eq_true T0
 obtain ⟨f0, n0⟩ : ∃ y_ : List Int, y_ = ((d0.take ((wrap64 (a0 + b0)) : Int).toNat).drop (a0 : Int).toNat) := ⟨_, rfl⟩
 first | replace H := by_ H n0 | rw [← n0] at H
 have C0 := a_ n0
 clear n0
 replace H := gt_ H
 obtain ⟨U0, H⟩ := H
 have N0 := a_ U0
 clear U0
 obtain ⟨d1, o0⟩ : ∃ y_ : List (List Int), y_ = (r0 ++ [f0]) := ⟨_, rfl⟩
 first | replace H := by_ H o0 | rw [← o0] at H
 have O0 := a_ o0
 clear o0
 have H' := a_ H
 clear H
 go_wp2_with (first | ((with_reducible refine gate_callee (f := 81) rfl ?_); refine gL_ (some 30) Try.func81 #[.int .i64 e0] ?_; (with_reducible refine (band_From.calls e0 a0 _ k1.out).mono ?_); rintro e w' ⟨rfl, ⟨nd, rfl⟩⟩; refine ⟨_, rfl, ?_⟩) | ((with_reducible refine gate_callee (f := 82) rfl ?_); refine gL_ (some 32) Try.func82 #[.int .i64 e0] ?_; (with_reducible refine (band_Width.calls e0 b0 _ l1.out).mono ?_); rintro e y1 ⟨rfl, hb⟩; refine ⟨_, rfl, ?_⟩; replace g0 := FR_ g0 hb; replace h0 := FN_ h0 hb; replace HB := BS_ HB hb; (try clear hb); (try clear hk); obtain ⟨i0, y0, e1⟩ := Kd.R_slice g0.out; subst e1; have V0 : ((wrap64 (a0 + b0)) : Int) ≤ ((d0.length : Int) : Int) := dm_; obtain ⟨i018, D0, _, hsz18, _⟩ := info_parts info2; have hroom18 : d0.length ≤ y0 := (Kd.R_reads' g0.out).2.1; have hC18 : Kd.F (Kd.int .i64) _ _ i0 d0.length d0 := (Kd.V_at (base := w.heap.size) (Kd.R_V (Kd.R_apart' (g0.out) (Kd.N_typed h0.out) (by decide)))).2.2; have ql18 : (a0 : Int) ≤ ((wrap64 (a0 + b0)) : Int) := dm_; have f1 : (0 : Int) ≤ (a0 : Int) := dm_; obtain ⟨E0, hc18⟩ : ∃ c1, c1 = ((wrap64 (a0 + b0)) : Int).toNat - (a0 : Int).toNat := ⟨_, rfl⟩; have hcut18 : ∀ W_ : World, (Instr.slice 53 (.slice i0 d0.length y0) (some (.int .i64 a0)) (some (.int .i64 (wrap64 (a0 + b0)))) (some (.int .i64 (wrap64 (a0 + b0))))).run Try.prog W_ = .ok (.slice (if ((wrap64 (a0 + b0)) : Int).toNat = (a0 : Int).toNat then i0 else (i0 : Option Addr).map (·.add ((a0 : Int).toNat * 1))) (((wrap64 (a0 + b0)) : Int).toNat - (a0 : Int).toNat) E0) W_ := (fun W_ => by have hel_ : Program.elem Try.prog 53 = 2 := (by simp [Program.elem, Try.underlying53]); rw [hc18, run_slice_lhm W_ 53 i0 d0.length y0 (by rw [hel_]; exact Try.underlying53) .i64 .i64 .i64 a0 (wrap64 (a0 + b0)) (wrap64 (a0 + b0)) f1 ql18 (Int.le_refl _) (by omega), hel_]; simp [sizeOf, typeInfo, D0, hsz18, sliced, Result.andThen]); have hr18 := Kd.F_cut (m := (a0 : Int).toNat) (c := ((wrap64 (a0 + b0)) : Int).toNat) (Kd.F_take (m := ((wrap64 (a0 + b0)) : Int).toNat) hC18 (by omega)) (by rw [List.length_take]; omega) (by rw [List.length_take]; omega); obtain ⟨I0, hA18⟩ : ∃ A1, A1 = (if ((wrap64 (a0 + b0)) : Int).toNat = (a0 : Int).toNat then i0 else (i0 : Option Addr).map (·.add ((a0 : Int).toNat * 1))) := ⟨_, rfl⟩; have s0 : f0.length = ((wrap64 (a0 + b0)) : Int).toNat - (a0 : Int).toNat := (by rw [C0.out, List.length_drop, List.length_take] <;> omega); rw [show ((d0).take ((wrap64 (a0 + b0)) : Int).toNat).drop (a0 : Int).toNat = f0 from C0.out.symm] at hr18; replace hr18 : Kd.F (Kd.int .i64) _ _ I0 f0.length f0 := (by rw [hA18]; exact hr18); rw [← s0, ← hA18] at hcut18; have p0 := a_ (show Kd.V (Kd.int .i64) 2 _ w.heap.size _ (.slice I0 f0.length E0) f0 from Kd.V_mk (by rw [s0, hc18]; exact Nat.le_refl _) hr18); have t1 := a_ (show f0.length ≤ E0 from by rw [s0, hc18]; exact Nat.le_refl _); clear hr18 hC18 hroom18 D0 hsz18 hc18; have KY18 := a_ s0; have KA18 := a_ hA18; clear s0 hA18; replace V0 := eq_true V0) | ((with_reducible refine gate_builtin (b := .append) (xs := #[.tmp 33, .tmp 43]) rfl ?_); (try (refine gate_guard (by rfl) ?_; dsimp only)); at_builtin; refine Kd.N_append (Kd.slice 2 (Kd.int .i64)) (w0 := w) w.heap.size rfl (.tmp 33) (.tmp 43) 26 53 (.slice none 0 0) 24 rfl Try.underlying26 info53 rfl (by decide) (by omega) u7 r0 f0 [.slice I0 f0.length E0] (fun k_ => (w.heap.size ≤ k_)) (fun k_ => ((fun k_ => (w.heap.size ≤ k_))) k_ ∧ some k_ ≠ (u7 : Value).ownBlock) rfl rfl ?aP (fun _ hk => hk) ?aF ?aO ?aB ?aS ?aL ?_; (case aP => exact (Kd.FK_slice_mk (Kd.V_reads' (Kd.V_mono (ok' := (fun k_ => ((fun k_ => (w.heap.size ≤ k_))) k_ ∧ some k_ ≠ (u7 : Value).ownBlock)) (p0.out) (fun k_ hk => ⟨hk.1, hk.2⟩))).2.1 (Kd.V_F (Kd.V_mono (ok' := (fun k_ => ((fun k_ => (w.heap.size ≤ k_))) k_ ∧ some k_ ≠ (u7 : Value).ownBlock)) (p0.out) (fun k_ hk => ⟨hk.1, hk.2⟩))))); (case aB => exact (bl_ HB)); (case aF => exact (fun k_ hk => (Nat.le_trans (bs_ HB) hk))); (case aO => exact (kN_ h0)); (case aS => exact (bs_ HB)); (case aL => have := N0.out; omega); intro v1 z1 ho hb hg hat; rw [← O0.out] at ho; replace g0 := a_ (Kd.R_over' (kR_ g0) (Kd.N_typed (kN_ h0)) (by decide) hg); replace p0 := a_ (Kd.V_afterv (ok := (fun k_ => (w.heap.size ≤ k_))) (kV_ p0) hg hat); replace HB := a_ (hb); have P0 := a_ (ho); clear h0; clear ho hb hg hat))
 go_roundg k2
 case measure => have := HJ2.out; have := R0.out; omega
 case rel => exact ⟨(d1), (wrap64 (e0 + 1)), rs_, H', ⟨by have := HJ2.out; have := R0.out; omega⟩, ⟨kR_ g0⟩, ⟨kN_ P0⟩, ⟨bl_ HB⟩⟩}
 {
 simp only [Option.some.injEq, Prod.mk.injEq] at H
 obtain ⟨rfl, rfl⟩ := H
 go_wp2
 go_ret2
 exact ⟨_, er_, kN_ h0, bl_ HB⟩}))}))
mutual
def vcodec_Right.j0 : Nat → Bool → List (List Int) → Option (Bool)
  | 0, _, _ => none
  | k + 1, b0, a0 => if b0 = true then (some false) else (vcodec_Right.l0 k a0 (a0.length : Int) 0)
def vcodec_Right.l0 : Nat → List (List Int) → Int → Int → Option (Bool)
  | 0, _, _, _ => none
  | k + 1, b0, d0, a0 => if a0 < d0 then (if 0 ≤ a0 then (if a0 < (b0.length : Int) then ((band_Split.f k (rd_L2 b0 a0)).bind fun c0 => (if c0.2 = 0 then (vcodec_Right.l0 k b0 d0 (wrap64 (a0 + 1))) else (some false))) else (none)) else (none)) else (some true)
end
def vcodec_Right.f (k : Nat) (b0 : Int) (c0 : Int) (d0 : List Int) (e0 : List Int) (a0 : List (List Int)) : Option (Bool) := (vhead_Right.f k b0 c0 d0 e0).bind fun f0 => (if f0 = true then (vcodec_Right.j0 k ((a0.length : Int) != b0) a0) else (vcodec_Right.j0 k true a0))
theorem vcodec_Right.mono_l : ∀ k, (∀ y0 y1, LeO (vcodec_Right.j0 k y0 y1) (vcodec_Right.j0 (k + 1) y0 y1)) ∧ (∀ y0 y1 y2, LeO (vcodec_Right.l0 k y0 y1 y2) (vcodec_Right.l0 (k + 1) y0 y1 y2))
  | 0 => ⟨fun _ _ r h => by simp [vcodec_Right.j0] at h, fun _ _ _ r h => by simp [vcodec_Right.l0] at h⟩
  | k + 1 => by
    obtain ⟨a0, b0⟩ := vcodec_Right.mono_l k
    refine ⟨?_, ?_⟩
    all_goals (intros; first | unfold vcodec_Right.j0 | unfold vcodec_Right.l0)
    all_goals with_reducible repeat' first
     | exact a0 _ _
     | exact b0 _ _ _
     | exact band_Split.mono _ _
     | exact vhead_Right.mono _ _ _ _ _
     | exact LeO.refl _
     | exact LeO.none _
     | refine LeO.ite ?_ ?_
     | refine LeO.bind ?_ (fun _ => ?_)
theorem vcodec_Right.mono : ∀ a0 a1 a2 a3 a4 k, LeO (vcodec_Right.f k a0 a1 a2 a3 a4) (vcodec_Right.f (k + 1) a0 a1 a2 a3 a4) := by
  intro a0 a1 a2 a3 a4 k
  obtain ⟨b0, c0⟩ := vcodec_Right.mono_l k
  unfold vcodec_Right.f
  with_reducible repeat' first
   | exact b0 _ _
   | exact c0 _ _ _
   | exact band_Split.mono _ _
   | exact vhead_Right.mono _ _ _ _ _
   | exact LeO.refl _
   | exact LeO.none _
   | refine LeO.ite ?_ ?_
   | refine LeO.bind ?_ (fun _ => ?_)
set_option maxHeartbeats 8000000 in
set_option maxRecDepth 100000 in
theorem vcodec_Right.calls (k : Nat) (g0 : Int) (h0 : Int) (n0 : Option Addr) (o0 : Nat) (e0 : List Int) (p0 : Option Addr) (q0 : Nat) (f0 : List Int) (C0 : Option Addr) (w0 : Nat) (b0 : List (List Int)) (r : Bool) (w : World) (hr0_2 : Kd.C (Kd.int .i64) w n0 e0.length e0) (hc0_2 : e0.length ≤ o0) (hr0_3 : Kd.C (Kd.int .i64) w p0 f0.length f0) (hc0_3 : f0.length ≤ q0) (hr1_0 : Kd.C (Kd.slice 2 (Kd.int .i64)) w C0 b0.length b0) (hc1_0 : b0.length ≤ w0) (h : vcodec_Right.f k g0 h0 e0 f0 b0 = some r) :
    Calls Try.prog 16 #[.agg #[.int .i64 g0, .int .i64 h0, .slice n0 e0.length o0, .slice p0 f0.length q0], .agg #[.slice C0 b0.length w0]] w fun e w' => e = .returned (.bool r) ∧ Below w.heap.size w w' := by
 have S1 := Try.underlying24
 have T1 := Try.underlying37
 have J0 := a_ hr0_2
 have K0 := a_ hc0_2
 clear hr0_2 hc0_2
 have L0 := a_ hr0_3
 have M0 := a_ hc0_3
 clear hr0_3 hc0_3
 have N0 := a_ hr1_0
 have J1 := a_ hc1_0
 clear hr1_0 hc1_0
 have HB := a_ (Below.refl w.heap.size w)
 have H : ((vhead_Right.f k g0 h0 e0 f0).bind fun Q0 => (if Q0 = true then (vcodec_Right.j0 k ((b0.length : Int) != g0) b0) else (vcodec_Right.j0 k true b0))) = some r := h
 clear h
 have R0 := a_ H
 clear H
 go_enter Try.func16, Try.ntmps16
 go_upto_region 1 with (first | ((with_reducible refine gate_dst (N := 2) rfl ?_); (try (refine gate_guard (by rfl) ?_; dsimp only)); refine bx_ HB 2 #[.int .i64 g0, .int .i64 h0, .slice n0 e0.length o0, .slice p0 f0.length q0] 24 ?_; clear HB; intro t0 hg w4 hb a0 U0 HB; have K1 := U0; clear hb hg) | ((with_reducible refine gate_dst (N := 3) rfl ?_); (try (refine gate_guard (by rfl) ?_; dsimp only)); refine bx_ HB 3 #[.slice C0 b0.length w0] 37 ?_; clear HB; intro v0 hg w5 hb c0 V0 HB; have L1 := V0; obtain ⟨r0, s0⟩ := NN_ a0 hg; replace a0 := FB_ a0 hb; clear hb hg))
 (try simp only [Act.put, List.setIfInBounds_toArray, List.set_cons_zero, List.set_cons_succ])
 go_cut [19] (fun z1 wc => ∃ (kq : Nat) (F0 : Bool), z1 = .bool F0 ∧ Aside0 (vcodec_Right.j0 kq F0 b0 = some r) ∧ Aside0 (kq ≤ k) ∧ Aside0 (wc.heap[t0]? = some (.cells #[.int .i64 g0, .int .i64 h0, (.slice n0 e0.length o0), (.slice p0 f0.length q0)] 24 (0, 0))) ∧ Aside0 (wc.heap[v0]? = some (.cells #[(.slice C0 b0.length w0)] 37 (0, 0))) ∧ Aside0 (Below w.heap.size w wc))
 case first => (
 have H := R0.out
 clear R0
 obtain ⟨Q0, A6, H⟩ := ob_ H
 (try dsimp only at H)
 replace H := ib_ H
 rcases H with ⟨rfl, H⟩ | ⟨rfl, H⟩
 {
 have H' := a_ H
 clear H
 have U1 := r0.out
 have V1 := s0.out
 obtain ⟨A1, B1, C1, D1, E1, F1, G1, H1⟩ := e4_ a0
 go_wp2_with (first | ((with_reducible refine gate_callee (f := 41) rfl ?_); refine gL_ (some 10) Try.func41 #[.agg #[.int .i64 g0, .int .i64 h0, .slice n0 e0.length o0, .slice p0 f0.length q0]] ?_; (with_reducible refine (vhead_Right.calls k g0 h0 _ _ e0 _ _ f0 true _ ?side1 ?side2 ?side3 ?side4 A6.out).mono ?_); (case side1 => exact kC_ J0 HB); (case side2 => exact K0.out); (case side3 => exact kC_ L0 HB); (case side4 => exact M0.out); rintro e W1 ⟨rfl, hb⟩; refine ⟨_, rfl, ?_⟩; replace a0 := FB_ a0 hb; replace c0 := FB_ c0 hb; replace HB := BS_ HB hb; (try clear hb); obtain ⟨d1, e1⟩ := e1_ c0; obtain ⟨f1, h1, i1, j1, k1, l1, m1, n1⟩ := e4_ a0))
 go_meet
 case rel => exact ⟨_, (((b0.length : Int) != g0)), rs_, H', ⟨ol_⟩, ⟨bk_ a0⟩, ⟨bk_ c0⟩, ⟨bl_ HB⟩⟩}
 {
 have H' := a_ H
 clear H
 have M1 := r0.out
 have N1 := s0.out
 obtain ⟨o1, p1, q1, r1, s1, t1, v1, y1⟩ := e4_ a0
 go_wp2_with (first | ((with_reducible refine gate_callee (f := 41) rfl ?_); refine gL_ (some 10) Try.func41 #[.agg #[.int .i64 g0, .int .i64 h0, .slice n0 e0.length o0, .slice p0 f0.length q0]] ?_; (with_reducible refine (vhead_Right.calls k g0 h0 _ _ e0 _ _ f0 false _ ?side1 ?side2 ?side3 ?side4 A6.out).mono ?_); (case side1 => exact kC_ J0 HB); (case side2 => exact K0.out); (case side3 => exact kC_ L0 HB); (case side4 => exact M0.out); rintro e X1 ⟨rfl, hb⟩; refine ⟨_, rfl, ?_⟩; replace a0 := FB_ a0 hb; replace c0 := FB_ c0 hb; replace HB := BS_ HB hb; (try clear hb)))
 go_meet
 case rel => exact ⟨_, (true), rs_, H', ⟨ol_⟩, ⟨bk_ a0⟩, ⟨bk_ c0⟩, ⟨bl_ HB⟩⟩})
 case rest => (
 clear R0
 obtain ⟨kq, F0, rfl, HA, HJ2, a0, c0, HB⟩ := hcut
 cases kq with
 | zero => exact absurd HA.out (by simp [vcodec_Right.j0])
 | succ kj2 => (
 have H := HA.out
 clear HA
 simp only [vcodec_Right.j0] at H
 replace H := ib_ H
 rcases H with ⟨rfl, H⟩ | ⟨rfl, H⟩
 {
 obtain rfl := Option.some.inj H
 go_wp2
 go_ret
 exact ⟨er_, bl_ HB⟩}
 {
 have H' := a_ H
 clear H
 have O1 := s0.out
 have P1 := r0.out
 obtain ⟨O0, P0⟩ := e1_ c0
 go_wp2
 go_loopg [23] kj2 (fun kq I1 w' => ∃ (d0 : Int), I1 = .int .i64 d0 ∧ Aside0 (vcodec_Right.l0 kq b0 (b0.length : Int) d0 = some r) ∧ Aside0 (kq ≤ kj2) ∧ Aside0 (w'.heap[t0]? = some (.cells #[.int .i64 g0, .int .i64 h0, (.slice n0 e0.length o0), (.slice p0 f0.length q0)] 24 (0, 0))) ∧ Aside0 (w'.heap[v0]? = some (.cells #[(.slice C0 b0.length w0)] 37 (0, 0))) ∧ Aside0 (Below w.heap.size w w'))
 case atStart => exact ⟨(0), rs_, H', ⟨Nat.le_refl _⟩, ⟨bk_ a0⟩, ⟨bk_ c0⟩, ⟨bl_ HB⟩⟩
 case round => (
 clear H'
 try clear Y1
 try clear O0 P0
 obtain ⟨d0, rfl, HA, a1, a0, c0, HB⟩ := hrel
 cases gk with
 | zero => exact absurd HA.out (by simp [vcodec_Right.l0])
 | succ k2 => (
 have H := HA.out
 clear HA
 simp only [vcodec_Right.l0] at H
 replace H := id_ H
 rcases H with ⟨W0, H⟩ | ⟨W0, H⟩
 {
 replace H := gd_ H
 obtain ⟨Q1, H⟩ := H
 replace H := gd_ H
 obtain ⟨R1, H⟩ := H
 obtain ⟨⟨S0, T0⟩, b1, H⟩ := ob_ H
 (try dsimp only at H)
 replace H := ie_ H
 rcases H with ⟨X0, Y0, H⟩ | ⟨Z1, X0, Y0, H⟩
 {
 have H' := a_ H
 clear H
 have y0 : 0 ≤ (d0 : Int) := dm_
 have z0 : d0 < (b0.length : Int) := dm_
 obtain ⟨G0, D0, E0, I0, i0, k0, m0⟩ := at_L2 N0.out d0 y0 z0
 cases I0
 replace i0 := hc_ HB i0
 have A0 := a_ m0
 have B0 := a_ k0
 clear m0 k0
 replace y0 := eq_true y0
 replace z0 := eq_true z0
 go_wp2_with (first | ((with_reducible refine gate_callee (f := 42) rfl ?_); refine gL_ (some 29) Try.func42 #[.slice D0 (rd_L2 b0 d0).length E0] ?_; (with_reducible refine (band_Split.calls k2 _ _ (rd_L2 b0 d0) S0 T0 _ ?side1 ?side2 b1.out).mono ?_); (case side1 => exact kC_ A0 HB); (case side2 => exact B0.out); rintro e a2 ⟨c1, rfl, H0, hb⟩; refine ⟨_, rfl, ?_⟩; have Z0 := a_ (Kd.N_lower (Kd.N_mono (ok' := fun k_ => k_ ≠ t0 ∧ k_ ≠ v0) H0 (fun k_ hk_ => ⟨(Kd.freshB (g := t0) (o := .cells #[.int .i64 g0, .int .i64 h0, .slice n0 e0.length o0, .slice p0 f0.length q0] 24 (0, 0)) (bk_ a0) k_ hk_), (Kd.freshB (g := v0) (o := .cells #[.slice (some G0) b0.length w0] 37 (0, 0)) (bk_ c0) k_ hk_)⟩)) (bs_ HB)); replace a0 := FB_ a0 hb; replace c0 := FB_ c0 hb; replace HB := BS_ HB hb; (try clear hb); (try clear H0)))
 go_roundg k2
 case measure => have := HJ2.out; have := a1.out; omega
 case rel => exact ⟨(wrap64 (d0 + 1)), rs_, H', ⟨by have := HJ2.out; have := a1.out; omega⟩, ⟨bk_ a0⟩, ⟨bk_ c0⟩, ⟨bl_ HB⟩⟩}
 {
 obtain rfl := Option.some.inj H
 have y0 : 0 ≤ (d0 : Int) := dm_
 have z0 : d0 < (b0.length : Int) := dm_
 obtain ⟨G0, D0, E0, I0, i0, k0, m0⟩ := at_L2 N0.out d0 y0 z0
 cases I0
 replace i0 := hc_ HB i0
 have A0 := a_ m0
 have B0 := a_ k0
 clear m0 k0
 replace y0 := eq_true y0
 replace z0 := eq_true z0
 go_wp2_with (first | ((with_reducible refine gate_callee (f := 42) rfl ?_); refine gL_ (some 29) Try.func42 #[.slice D0 (rd_L2 b0 d0).length E0] ?_; (with_reducible refine (band_Split.calls k2 _ _ (rd_L2 b0 d0) S0 T0 _ ?side1 ?side2 b1.out).mono ?_); (case side1 => exact kC_ A0 HB); (case side2 => exact B0.out); rintro e b2 ⟨c1, rfl, H0, hb⟩; refine ⟨_, rfl, ?_⟩; have Z0 := a_ (Kd.N_lower (Kd.N_mono (ok' := fun k_ => k_ ≠ t0 ∧ k_ ≠ v0) H0 (fun k_ hk_ => ⟨(Kd.freshB (g := t0) (o := .cells #[.int .i64 g0, .int .i64 h0, .slice n0 e0.length o0, .slice p0 f0.length q0] 24 (0, 0)) (bk_ a0) k_ hk_), (Kd.freshB (g := v0) (o := .cells #[.slice (some G0) b0.length w0] 37 (0, 0)) (bk_ c0) k_ hk_)⟩)) (bs_ HB)); replace a0 := FB_ a0 hb; replace c0 := FB_ c0 hb; replace HB := BS_ HB hb; (try clear hb); (try clear H0)))
 go_ret
 exact ⟨er_, bl_ HB⟩}}
 {
 obtain rfl := Option.some.inj H
 go_wp2
 go_ret
 exact ⟨er_, bl_ HB⟩}))}))
def num_Log2.l0 : Nat → Int → Int → Option (Int)
  | 0, _, _ => none
  | k + 1, x0, x3 => if x0 > 0 then (num_Log2.l0 k (x0 / 2) (wrap64 (x3 + 1))) else (some x3)
def num_Log2.f (k : Nat) (a0 : Int) : Option (Int) := num_Log2.l0 k a0 (-1)
theorem num_Log2.mono_l : ∀ k, (∀ y0 y1, LeO (num_Log2.l0 k y0 y1) (num_Log2.l0 (k + 1) y0 y1))
  | 0 => fun _ _ r h => by simp [num_Log2.l0] at h
  | k + 1 => by
    have a0 := num_Log2.mono_l k
    · intro y0 y1
      unfold num_Log2.l0
      with_reducible repeat' first
   | exact a0 _ _
   | exact LeO.refl _
   | exact LeO.none _
   | refine LeO.ite ?_ ?_
   | refine LeO.bind ?_ (fun _ => ?_)
theorem num_Log2.mono : ∀ a0 k, LeO (num_Log2.f k a0) (num_Log2.f (k + 1) a0) := by
  intro a0 k
  have b0 := num_Log2.mono_l k
  unfold num_Log2.f
  with_reducible repeat' first
   | exact b0 _ _
   | exact LeO.refl _
   | exact LeO.none _
   | refine LeO.ite ?_ ?_
   | refine LeO.bind ?_ (fun _ => ?_)
set_option maxHeartbeats 8000000 in
set_option maxRecDepth 100000 in
theorem num_Log2.calls (k : Nat) (a0 : Int) (r : Int) (w : World) (h : num_Log2.f k a0 = some r) :
    Calls Try.prog 118 #[.int .u64 a0] w fun e w' => e = .returned (.int .i64 r) ∧ Drawn0 w w' := by
 have H : (num_Log2.l0 k a0 (-1)) = some r := h
 clear h
 have H' := a_ H
 clear H
 go_enter Try.func118, Try.ntmps118
 go_wp2
 go_loopg [0, 3] k (fun kq v0 v3 w' => ∃ (b0 : Int) (c0 : Int), v0 = .int .u64 b0 ∧ v3 = .int .i64 c0 ∧ Aside0 (num_Log2.l0 kq b0 c0 = some r) ∧ Aside0 (kq ≤ k) ∧ Drawn0 w w')
 case atStart => exact ⟨(a0), ((-1)), rs_, rs_, H', ⟨Nat.le_refl _⟩, dr_⟩
 case round => (
 clear H'
 obtain ⟨b0, c0, rfl, rfl, HA, d0, ⟨m1, rfl⟩⟩ := hrel
 cases gk with
 | zero => exact absurd HA.out (by simp [num_Log2.l0])
 | succ k1 => (
 have H := HA.out
 clear HA
 simp only [num_Log2.l0] at H
 replace H := ii_ H
 rcases H with ⟨c2, H⟩ | ⟨c2, H⟩
 {
 have e0 : decide (0 < b0) = true := decide_eq_true c2
 clear c2
 have H' := a_ H
 clear H
 go_wp2
 go_roundg k1
 case measure => have := d0.out; omega
 case rel => exact ⟨(b0 / 2), (wrap64 (c0 + 1)), rs_, rs_, H', ⟨by have := d0.out; omega⟩, dr_⟩}
 {
 have e0 : decide (0 < b0) = false := decide_eq_false c2
 clear c2
 obtain rfl := Option.some.inj H
 go_wp2
 go_ret
 exact ⟨es_, dr_⟩}))
def band_gain.f (k : Nat) (a0 : Int) : Option (Int) := (num_Log2.f k a0).bind fun b0 => (some (wrap64 (b0 + 1)))
theorem band_gain.mono : ∀ a0 k, LeO (band_gain.f k a0) (band_gain.f (k + 1) a0) := by
  intro a0 k
  unfold band_gain.f
  with_reducible repeat' first
   | exact num_Log2.mono _ _
   | exact LeO.refl _
   | exact LeO.none _
   | refine LeO.ite ?_ ?_
   | refine LeO.bind ?_ (fun _ => ?_)
set_option maxHeartbeats 8000000 in
set_option maxRecDepth 100000 in
theorem band_gain.calls (k : Nat) (a0 : Int) (r : Int) (w : World) (h : band_gain.f k a0 = some r) :
    Calls Try.prog 113 #[.int .u64 a0] w fun e w' => e = .returned (.int .i64 r) ∧ Drawn0 w w' := by
 have H : ((num_Log2.f k a0).bind fun b0 => (some (wrap64 (b0 + 1)))) = some r := h
 clear h
 obtain ⟨b0, A2, H⟩ := ob_ H
 (try dsimp only at H)
 obtain rfl := Option.some.inj H
 go_enter Try.func113, Try.ntmps113
 go_wp2_with (first | ((with_reducible refine gate_callee (f := 118) rfl ?_); refine gL_ (some 4) Try.func118 #[.int .u64 a0] ?_; (with_reducible refine (num_Log2.calls k a0 b0 _ A2.out).mono ?_); rintro e w' ⟨rfl, ⟨nd, rfl⟩⟩; refine ⟨_, rfl, ?_⟩))
 go_ret
 exact ⟨es_, dr_⟩
def band_Gain.f (k : Nat) (l0 : List Int) : Option (Int × Int) := (pvq_Square.f k l0).bind fun a0 => (if a0.2 = 0 then (if (l0.length : Int) > 8 then (some (0, 1)) else ((band_gain.f k a0.1).bind fun b0 => (some (b0, 0)))) else (some (0, 1)))
theorem band_Gain.mono : ∀ a0 k, LeO (band_Gain.f k a0) (band_Gain.f (k + 1) a0) := by
  intro a0 k
  unfold band_Gain.f
  with_reducible repeat' first
   | exact band_gain.mono _ _
   | exact pvq_Square.mono _ _
   | exact LeO.refl _
   | exact LeO.none _
   | refine LeO.ite ?_ ?_
   | refine LeO.bind ?_ (fun _ => ?_)
set_option maxHeartbeats 8000000 in
set_option maxRecDepth 100000 in
theorem band_Gain.calls (k : Nat) (A0 : Option Addr) (c0 : Nat) (l0 : List Int) (r1 : Int) (r2 : Int) (w : World) (hr0 : Kd.C (Kd.int .i64) w A0 l0.length l0) (hc0 : l0.length ≤ c0) (h : band_Gain.f k l0 = some (r1, r2)) :
    Calls Try.prog 97 #[.slice A0 l0.length c0] w fun e w' => e = .returned (.tuple #[.int .i64 r1, .int .i64 r2]) ∧ Drawn0 w w' := by
 have f0 := a_ hr0
 have g0 := a_ hc0
 clear hr0 hc0
 have H : ((pvq_Square.f k l0).bind fun e0 => (if e0.2 = 0 then (if (l0.length : Int) > 8 then (some (0, 1)) else ((band_gain.f k e0.1).bind fun b0 => (some (b0, 0)))) else (some (0, 1)))) = some (r1, r2) := h
 clear h
 obtain ⟨⟨a0, d0⟩, A2, H⟩ := ob_ H
 (try dsimp only at H)
 replace H := ie_ H
 rcases H with ⟨h0, i0, H⟩ | ⟨c3, h0, i0, H⟩
 {
 replace H := ii_ H
 rcases H with ⟨c4, H⟩ | ⟨c4, H⟩
 {
 have j0 : decide (8 < (l0.length : Int)) = true := decide_eq_true c4
 have k0 : decide (8 < l0.length) = true := decide_eq_true (by omega)
 clear c4
 simp only [Option.some.injEq, Prod.mk.injEq] at H
 obtain ⟨rfl, rfl⟩ := H
 go_enter Try.func97, Try.ntmps97
 go_wp2_with (first | ((with_reducible refine gate_callee (f := 80) rfl ?_); refine gL_ (some 8) Try.func80 #[.slice A0 l0.length c0] ?_; (with_reducible refine (pvq_Square.calls k _ _ l0 a0 d0 _ ?side1 ?side2 A2.out).mono ?_); (case side1 => repeat (first | exact f0.out | (with_reducible refine Kd.C_alloc ?_ _) | (with_reducible refine Kd.C_drewN ?_ _) | (with_reducible refine Kd.C_drew ?_))); (case side2 => exact g0.out); rintro e w' ⟨rfl, ⟨nd, rfl⟩⟩; refine ⟨_, rfl, ?_⟩))
 go_ret2
 exact ⟨es_, dr_⟩}
 {
 have j0 : decide (8 < (l0.length : Int)) = false := decide_eq_false c4
 have k0 : decide (8 < l0.length) = false := decide_eq_false (by omega)
 clear c4
 obtain ⟨b0, A5, H⟩ := ob_ H
 (try dsimp only at H)
 simp only [Option.some.injEq, Prod.mk.injEq] at H
 obtain ⟨rfl, rfl⟩ := H
 go_enter Try.func97, Try.ntmps97
 go_wp2_with (first | ((with_reducible refine gate_callee (f := 80) rfl ?_); refine gL_ (some 8) Try.func80 #[.slice A0 l0.length c0] ?_; (with_reducible refine (pvq_Square.calls k _ _ l0 a0 d0 _ ?side1 ?side2 A2.out).mono ?_); (case side1 => repeat (first | exact f0.out | (with_reducible refine Kd.C_alloc ?_ _) | (with_reducible refine Kd.C_drewN ?_ _) | (with_reducible refine Kd.C_drew ?_))); (case side2 => exact g0.out); rintro e w' ⟨rfl, ⟨nd, rfl⟩⟩; refine ⟨_, rfl, ?_⟩) | ((with_reducible refine gate_callee (f := 113) rfl ?_); refine gL_ (some 19) Try.func113 #[.int .u64 a0] ?_; (with_reducible refine (band_gain.calls k a0 b0 _ A5.out).mono ?_); rintro e w' ⟨rfl, ⟨nd, rfl⟩⟩; refine ⟨_, rfl, ?_⟩))
 go_ret2
 exact ⟨es_, dr_⟩}}
 {
 simp only [Option.some.injEq, Prod.mk.injEq] at H
 obtain ⟨rfl, rfl⟩ := H
 go_enter Try.func97, Try.ntmps97
 go_wp2_with (first | ((with_reducible refine gate_callee (f := 80) rfl ?_); refine gL_ (some 8) Try.func80 #[.slice A0 l0.length c0] ?_; (with_reducible refine (pvq_Square.calls k _ _ l0 a0 d0 _ ?side1 ?side2 A2.out).mono ?_); (case side1 => repeat (first | exact f0.out | (with_reducible refine Kd.C_alloc ?_ _) | (with_reducible refine Kd.C_drewN ?_ _) | (with_reducible refine Kd.C_drew ?_))); (case side2 => exact g0.out); rintro e w' ⟨rfl, ⟨nd, rfl⟩⟩; refine ⟨_, rfl, ?_⟩))
 go_ret2
 exact ⟨es_, dr_⟩}
def band_Gains.l0 : Nat → List Int → List (List Int) → Int → Int → Option (List Int × Int)
  | 0, _, _, _, _ => none
  | k + 1, x6, b0, d0, a0 => if a0 < d0 then (if 0 ≤ a0 then (if a0 < (b0.length : Int) then ((band_Gain.f k (rd_L2 b0 a0)).bind fun c0 => (if x6.length < 17592186044416 then (band_Gains.l0 k (x6 ++ [c0.1]) b0 d0 (wrap64 (a0 + 1))) else (none))) else (none)) else (none)) else (some (x6, 0))
def band_Gains.f (k : Nat) (l0 : List Int) : Option (List Int × Int) := (band_Split.f k l0).bind fun a0 => (if a0.2 = 0 then (band_Gains.l0 k ([] : List Int) a0.1 (a0.1.length : Int) 0) else (some (([] : List Int), a0.2)))
theorem band_Gains.mono_l : ∀ k, (∀ y0 y1 y2 y3, LeO (band_Gains.l0 k y0 y1 y2 y3) (band_Gains.l0 (k + 1) y0 y1 y2 y3))
  | 0 => fun _ _ _ _ r h => by simp [band_Gains.l0] at h
  | k + 1 => by
    have a0 := band_Gains.mono_l k
    · intro y0 y1 y2 y3
      unfold band_Gains.l0
      with_reducible repeat' first
   | exact a0 _ _ _ _
   | exact band_Gain.mono _ _
   | exact band_Split.mono _ _
   | exact LeO.refl _
   | exact LeO.none _
   | refine LeO.ite ?_ ?_
   | refine LeO.bind ?_ (fun _ => ?_)
theorem band_Gains.mono : ∀ a0 k, LeO (band_Gains.f k a0) (band_Gains.f (k + 1) a0) := by
  intro a0 k
  have b0 := band_Gains.mono_l k
  unfold band_Gains.f
  with_reducible repeat' first
   | exact b0 _ _ _ _
   | exact band_Gain.mono _ _
   | exact band_Split.mono _ _
   | exact LeO.refl _
   | exact LeO.none _
   | refine LeO.ite ?_ ?_
   | refine LeO.bind ?_ (fun _ => ?_)
set_option maxHeartbeats 8000000 in
set_option maxRecDepth 100000 in
theorem band_Gains.calls (k : Nat) (A0 : Option Addr) (c0 : Nat) (l0 : List Int) (r1 : List Int) (r2 : Int) (w : World) (hr0 : Kd.C (Kd.int .i64) w A0 l0.length l0) (hc0 : l0.length ≤ c0) (h : band_Gains.f k l0 = some (r1, r2)) :
    Calls Try.prog 74 #[.slice A0 l0.length c0] w fun e w' => ∃ v0_ : Value, e = .returned (.tuple #[v0_, .int .i64 r2]) ∧ Kd.R (Kd.int .i64) 3 w' w.heap.size (fun _ => True) v0_ r1 ∧ Below w.heap.size w w' := by
 have G0 := a_ hr0
 have H0 := a_ hc0
 clear hr0 hc0
 have HB := a_ (Below.refl w.heap.size w)
 have H : ((band_Split.f k l0).bind fun e0 => (if e0.2 = 0 then (band_Gains.l0 k ([] : List Int) e0.1 (e0.1.length : Int) 0) else (some (([] : List Int), e0.2)))) = some (r1, r2) := h
 clear h
 obtain ⟨⟨b0, t0⟩, A2, H⟩ := ob_ H
 (try dsimp only at H)
 replace H := ie_ H
 rcases H with ⟨v0, y0, H⟩ | ⟨c3, v0, y0, H⟩
 {
 have H' := a_ H
 clear H
 go_enter Try.func74, Try.ntmps74
 go_wp2_with (first | ((with_reducible refine gate_callee (f := 42) rfl ?_); refine gL_ (some 13) Try.func42 #[.slice A0 l0.length c0] ?_; (with_reducible refine (band_Split.calls k _ _ l0 b0 t0 _ ?side1 ?side2 A2.out).mono ?_); (case side1 => repeat (first | exact G0.out | (with_reducible refine Kd.C_alloc ?_ _) | (with_reducible refine Kd.C_drewN ?_ _) | (with_reducible refine Kd.C_drew ?_))); (case side2 => exact H0.out); rintro e w4 ⟨L0, rfl, p0, hb⟩; refine ⟨_, rfl, ?_⟩; have k0 := a_ (Kd.N_lower (Kd.N_mono (ok' := fun k_ => True) p0 (fun k_ hk_ => trivial)) (bs_ HB)); replace HB := BS_ HB hb; (try clear hb); (try clear p0); obtain ⟨Q0, I0, R0⟩ := Kd.N_slice k0.out; subst R0))
 go_loopg [6, 21] k (fun kq v6 S0 w' => ∃ (g0 : List Int) (a0 : Int), S0 = .int .i64 a0 ∧ Aside0 (band_Gains.l0 kq g0 b0 (b0.length : Int) a0 = some (r1, r2)) ∧ Aside0 (kq ≤ k) ∧ Aside0 (Kd.R (Kd.int .i64) 3 w' w.heap.size (fun _ => True) v6 g0) ∧ Aside0 (Kd.N (Kd.slice 2 (Kd.int .i64)) 53 w' w.heap.size (fun k_ => some k_ ≠ (v6 : Value).ownBlock) (.slice Q0 b0.length I0) b0) ∧ Aside0 (Below w.heap.size w w'))
 case atStart => exact ⟨(([] : List Int)), (0), rs_, H', ⟨Nat.le_refl _⟩, ⟨kn_⟩, ⟨by (with_reducible repeat (first | apply Kd.N_alloc | apply Kd.N_drewN | apply Kd.N_drew)); exact Kd.N_mono k0.out (fun _ hk => (by simp [Value.ownBlock]))⟩, ⟨bl_ HB⟩⟩
 case round => (
 clear H'
 try clear c3
 try clear v0
 try clear y0
 obtain ⟨g0, a0, rfl, HA, J0, q0, d0, HB⟩ := hrel
 cases gk with
 | zero => exact absurd HA.out (by simp [band_Gains.l0])
 | succ k1 => (
 have H := HA.out
 clear HA
 simp only [band_Gains.l0] at H
 replace H := id_ H
 rcases H with ⟨M0, H⟩ | ⟨M0, H⟩
 {
 replace H := gd_ H
 obtain ⟨T0, H⟩ := H
 replace H := gd_ H
 obtain ⟨U0, H⟩ := H
 obtain ⟨⟨m0, N0⟩, A9, H⟩ := ob_ H
 (try dsimp only at H)
 replace H := gt_ H
 obtain ⟨K0, H⟩ := H
 have C0 := a_ K0
 clear K0
 obtain ⟨O0, f0⟩ : ∃ y_ : List Int, y_ = (g0 ++ [m0]) := ⟨_, rfl⟩
 first | replace H := by_ H f0 | rw [← f0] at H
 have D0 := a_ f0
 clear f0
 have H' := a_ H
 clear H
 have n0 : 0 ≤ (a0 : Int) := dm_
 have o0 : a0 < (b0.length : Int) := dm_
 obtain ⟨E0, z0, B0, P0, r0, h0, i0⟩ := at_L2 (Kd.N_reads' d0.out).2.2 a0 n0 o0
 cases P0
 obtain ⟨ce315, hce315, hMe315, hcc315⟩ := Kd.N_get d0.out [] a0 n0 (by first | exact o0 | exact dm_ | (have e_ := (Kd.N_reads' d0.out).1; omega))
 obtain ⟨ua315_0, uc315_0, rfl, ul315_0, ge315_0⟩ := Kd.FK_slice_open hMe315
 have hv315_0 := hcc315 0 _ rfl
 rw [Nat.add_zero, show ((Kd.slice 2 (Kd.int .i64))).sz = 1 from rfl, Nat.mul_one] at hv315_0
 replace hv315_0 := Option.some.inj (hv315_0.symm.trans r0)
 injection hv315_0 with hva_ hvn_ hvc_
 rw [hva_] at ge315_0
 rw [hvc_] at ul315_0
 have HL315_0 := a_ (show Kd.V (Kd.int .i64) 2 _ w.heap.size _ _ (rd_L2 b0 a0) from Kd.V_mk ul315_0 ge315_0)
 clear hva_ hvn_ hvc_ ge315_0 ul315_0
 clear hcc315 hce315
 have j0 := a_ i0
 have s0 := a_ h0
 clear i0 h0
 replace n0 := eq_true n0
 replace o0 := eq_true o0
 go_wp2_with (first | ((with_reducible refine gate_callee (f := 97) rfl ?_); refine gL_ (some 27) Try.func97 #[.slice z0 (rd_L2 b0 a0).length B0] ?_; (with_reducible refine (band_Gain.calls k1 _ _ (rd_L2 b0 a0) m0 N0 _ ?side1 ?side2 A9.out).mono ?_); (case side1 => repeat (first | exact (by repeat (first | (with_reducible exact j0.out) | (with_reducible refine Kd.C_alloc ?_ _) | (with_reducible refine Kd.C_drewN ?_ _) | (with_reducible refine Kd.C_drew ?_) | exact j0.out)) | (with_reducible refine Kd.C_alloc ?_ _) | (with_reducible refine Kd.C_drewN ?_ _) | (with_reducible refine Kd.C_drew ?_))); (case side2 => exact s0.out); rintro e w' ⟨rfl, ⟨nd, rfl⟩⟩; refine ⟨_, rfl, ?_⟩) | ((with_reducible refine gate_builtin (b := .append) (xs := #[.tmp 30, .tmp 32]) rfl ?_); at_builtin; refine Kd.R_append (Kd.int .i64) (w0 := w) w.heap.size rfl (.tmp 30) (.tmp 32) 22 3 (.int .i64 0) 8 rfl Try.underlying22 info3 rfl (by decide) (by omega) u6 g0 m0 [.int .i64 m0] (fun _ => True) (fun _ => False) rfl rfl ?aP (fun _ hk => hk.elim) ?aF ?aO ?aB ?aS ?aL ?_; (case aP => exact rfl); (case aB => exact (bl_ HB)); (case aF => exact (fun _ _ => trivial)); (case aO => exact (kR_ q0)); (case aS => exact (bs_ HB)); (case aL => have := C0.out; omega); intro V0 W0 ho hb hg hat; rw [← D0.out] at ho; replace d0 := a_ (Kd.N_afterv (ok := (fun _ => True)) (by (with_reducible repeat (first | apply Kd.N_alloc | apply Kd.N_drewN | apply Kd.N_drew)); exact Kd.N_mono d0.out (fun _ hk => ⟨trivial, hk⟩)) hg hat); replace HL315_0 := a_ (Kd.V_afterv (ok := (fun k_ => some k_ ≠ (.slice (some E0) b0.length I0 : Value).ownBlock)) (by (with_reducible repeat (first | apply Kd.V_alloc | apply Kd.V_drewN | apply Kd.V_drew)); exact Kd.V_mono HL315_0.out (fun _ hk => ⟨hk.2, hk.1⟩)) hg hat); replace HB := a_ (hb); have F0 := a_ (ho); clear q0; clear ho hb hg hat))
 go_roundg k1
 case measure => have := J0.out; omega
 case rel => exact ⟨(O0), (wrap64 (a0 + 1)), rs_, H', ⟨by have := J0.out; omega⟩, ⟨kR_ F0⟩, ⟨by (with_reducible repeat (first | apply Kd.N_alloc | apply Kd.N_drewN | apply Kd.N_drew)); exact Kd.N_mono d0.out (fun _ hk => hk.2)⟩, ⟨bl_ HB⟩⟩}
 {
 simp only [Option.some.injEq, Prod.mk.injEq] at H
 obtain ⟨rfl, rfl⟩ := H
 go_wp2
 go_ret2
 exact ⟨_, er_, kR_ q0, bl_ HB⟩}))}
 {
 simp only [Option.some.injEq, Prod.mk.injEq] at H
 obtain ⟨rfl, rfl⟩ := H
 go_enter Try.func74, Try.ntmps74
 go_wp2_with (first | ((with_reducible refine gate_callee (f := 42) rfl ?_); refine gL_ (some 13) Try.func42 #[.slice A0 l0.length c0] ?_; (with_reducible refine (band_Split.calls k _ _ l0 b0 t0 _ ?side1 ?side2 A2.out).mono ?_); (case side1 => repeat (first | exact G0.out | (with_reducible refine Kd.C_alloc ?_ _) | (with_reducible refine Kd.C_drewN ?_ _) | (with_reducible refine Kd.C_drew ?_))); (case side2 => exact H0.out); rintro e X0 ⟨L0, rfl, p0, hb⟩; refine ⟨_, rfl, ?_⟩; have k0 := a_ (Kd.N_lower (Kd.N_mono (ok' := fun k_ => True) p0 (fun k_ hk_ => trivial)) (bs_ HB)); replace HB := BS_ HB hb; (try clear hb); (try clear p0)))
 go_ret2
 exact ⟨_, er_, kn_, bl_ HB⟩}
mutual
def floor_Fit.j0 : Nat → List Int → Int → Bool → Option (List Int × Int)
  | 0, _, _, _ => none
  | k + 1, x0, x1, a0 => if a0 = true then (some (([] : List Int), 1)) else (if 6 ≤ 35184372088832 then (floor_Fit.l0 k x0 x1 (List.replicate 6 0) 0) else (none))
def floor_Fit.l0 : Nat → List Int → Int → List Int → Int → Option (List Int × Int)
  | 0, _, _, _, _ => none
  | k + 1, x0, x1, x6, a0 => if a0 < 6 then (if x1 > 0 then (if 0 ≤ (mn a0 4) then (if (mn a0 4) < (x0.length : Int) then (if 0 ≤ a0 then (if a0 < (x6.length : Int) then (floor_Fit.l0 k x0 x1 (x6.set (a0 : Int).toNat (mx 0 (mn (wrap64 ((wrap64 ((rd x0 (mn a0 4)) - 13)) + x1)) 44))) (wrap64 (a0 + 1))) else (none)) else (none)) else (none)) else (none)) else (floor_Fit.l0 k x0 x1 x6 (wrap64 (a0 + 1)))) else (some (x6, 0))
end
def floor_Fit.f (k : Nat) (l0 : List Int) (a1 : Int) : Option (List Int × Int) := (floor_gains.f k l0 5).bind fun a0 => (if a0 = true then (if a1 < 0 then (floor_Fit.j0 k l0 a1 true) else (floor_Fit.j0 k l0 a1 (decide (a1 > 12)))) else (floor_Fit.j0 k l0 a1 true))
theorem floor_Fit.mono_l : ∀ k, (∀ y0 y1 y2, LeO (floor_Fit.j0 k y0 y1 y2) (floor_Fit.j0 (k + 1) y0 y1 y2)) ∧ (∀ y0 y1 y2 y3, LeO (floor_Fit.l0 k y0 y1 y2 y3) (floor_Fit.l0 (k + 1) y0 y1 y2 y3))
  | 0 => ⟨fun _ _ _ r h => by simp [floor_Fit.j0] at h, fun _ _ _ _ r h => by simp [floor_Fit.l0] at h⟩
  | k + 1 => by
    obtain ⟨a0, b0⟩ := floor_Fit.mono_l k
    refine ⟨?_, ?_⟩
    all_goals (intros; first | unfold floor_Fit.j0 | unfold floor_Fit.l0)
    all_goals with_reducible repeat' first
     | exact a0 _ _ _
     | exact b0 _ _ _ _
     | exact floor_gains.mono _ _ _
     | exact LeO.refl _
     | exact LeO.none _
     | refine LeO.ite ?_ ?_
     | refine LeO.bind ?_ (fun _ => ?_)
theorem floor_Fit.mono : ∀ a0 a1 k, LeO (floor_Fit.f k a0 a1) (floor_Fit.f (k + 1) a0 a1) := by
  intro a0 a1 k
  obtain ⟨b0, c0⟩ := floor_Fit.mono_l k
  unfold floor_Fit.f
  with_reducible repeat' first
   | exact b0 _ _ _
   | exact c0 _ _ _ _
   | exact floor_gains.mono _ _ _
   | exact LeO.refl _
   | exact LeO.none _
   | refine LeO.ite ?_ ?_
   | refine LeO.bind ?_ (fun _ => ?_)
set_option maxHeartbeats 8000000 in
set_option maxRecDepth 100000 in
theorem floor_Fit.calls (k : Nat) (A0 : Option Addr) (c0 : Nat) (l0 : List Int) (a1 : Int) (r1 : List Int) (r2 : Int) (w : World) (hr0 : Kd.C (Kd.int .i64) w A0 l0.length l0) (hc0 : l0.length ≤ c0) (h : floor_Fit.f k l0 a1 = some (r1, r2)) :
    Calls Try.prog 75 #[.slice A0 l0.length c0, .int .i64 a1] w fun e w' => ∃ v0_ : Value, e = .returned (.tuple #[v0_, .int .i64 r2]) ∧ Kd.R (Kd.int .i64) 3 w' w.heap.size (fun _ => True) v0_ r1 ∧ Below w.heap.size w w' := by
 have w0 := a_ hr0
 have B0 := a_ hc0
 clear hr0 hc0
 have HB := a_ (Below.refl w.heap.size w)
 have H : ((floor_gains.f k l0 5).bind fun C0 => (if C0 = true then (if a1 < 0 then (floor_Fit.j0 k l0 a1 true) else (floor_Fit.j0 k l0 a1 (decide (a1 > 12)))) else (floor_Fit.j0 k l0 a1 true))) = some (r1, r2) := h
 clear h
 have D0 := a_ H
 clear H
 go_enter Try.func75, Try.ntmps75
 go_upto_region 1 with (fail)
 go_cut [18] (fun U0 wc => ∃ (kq : Nat) (o0 : Bool), U0 = .bool o0 ∧ Aside0 (floor_Fit.j0 kq l0 a1 o0 = some (r1, r2)) ∧ Aside0 (kq ≤ k) ∧ Aside0 (Below w.heap.size w wc))
 case first => (
 have H := D0.out
 clear D0
 obtain ⟨C0, A4, H⟩ := ob_ H
 (try dsimp only at H)
 replace H := ib_ H
 rcases H with ⟨rfl, H⟩ | ⟨rfl, H⟩
 {
 replace H := id_ H
 rcases H with ⟨h0, H⟩ | ⟨h0, H⟩
 {
 (first | rw [h0] | (simp only [i64_w, i32_w]; rw [h0]) | skip)
 have H' := a_ H
 clear H
 go_wp2_with (first | ((with_reducible refine gate_callee (f := 98) rfl ?_); refine gL_ (some 9) Try.func98 #[.slice A0 l0.length c0, .int .i64 5] ?_; (with_reducible refine (floor_gains.calls k _ _ l0 5 true _ ?side1 ?side2 A4.out).mono ?_); (case side1 => exact kC_ w0 HB); (case side2 => exact B0.out); rintro e w' ⟨rfl, ⟨nd, rfl⟩⟩; refine ⟨_, rfl, ?_⟩))
 go_meet
 case rel => exact ⟨_, (true), rs_, H', ⟨ol_⟩, ⟨bl_ HB⟩⟩}
 {
 (first | rw [h0] | (simp only [i64_w, i32_w]; rw [h0]) | skip)
 have H' := a_ H
 clear H
 go_wp2_with (first | ((with_reducible refine gate_callee (f := 98) rfl ?_); refine gL_ (some 9) Try.func98 #[.slice A0 l0.length c0, .int .i64 5] ?_; (with_reducible refine (floor_gains.calls k _ _ l0 5 true _ ?side1 ?side2 A4.out).mono ?_); (case side1 => exact kC_ w0 HB); (case side2 => exact B0.out); rintro e w' ⟨rfl, ⟨nd, rfl⟩⟩; refine ⟨_, rfl, ?_⟩))
 go_meet
 case rel => exact ⟨_, (decide (a1 > 12)), rs_, H', ⟨ol_⟩, ⟨bl_ HB⟩⟩}}
 {
 have H' := a_ H
 clear H
 go_wp2_with (first | ((with_reducible refine gate_callee (f := 98) rfl ?_); refine gL_ (some 9) Try.func98 #[.slice A0 l0.length c0, .int .i64 5] ?_; (with_reducible refine (floor_gains.calls k _ _ l0 5 false _ ?side1 ?side2 A4.out).mono ?_); (case side1 => exact kC_ w0 HB); (case side2 => exact B0.out); rintro e w' ⟨rfl, ⟨nd, rfl⟩⟩; refine ⟨_, rfl, ?_⟩))
 go_meet
 case rel => exact ⟨_, (true), rs_, H', ⟨ol_⟩, ⟨bl_ HB⟩⟩})
 case rest => (
 clear D0
 obtain ⟨kq, o0, rfl, HA, HJ2, HB⟩ := hcut
 cases kq with
 | zero => exact absurd HA.out (by simp [floor_Fit.j0])
 | succ kj2 => (
 have H := HA.out
 clear HA
 simp only [floor_Fit.j0] at H
 replace H := ib_ H
 rcases H with ⟨rfl, H⟩ | ⟨rfl, H⟩
 {
 simp only [Option.some.injEq, Prod.mk.injEq] at H
 obtain ⟨rfl, rfl⟩ := H
 go_wp2
 go_ret2
 exact ⟨_, er_, kn_, bl_ HB⟩}
 {
 replace H := gt_ H
 obtain ⟨c8, H⟩ := H
 have O0 := eq_true c8
 have P0 : decide (6 ≤ 35184372088832) = true := decide_eq_true c8
 clear c8
 obtain ⟨Q0, f0⟩ : ∃ y_ : List Int, y_ = (List.replicate 6 0) := ⟨_, rfl⟩
 first | replace H := by_ H f0 | rw [← f0] at H
 have y0 := a_ f0
 clear f0
 have H' := a_ H
 clear H
 go_wp2_with (first | ((with_reducible refine gate_dst (N := 19) rfl ?_); refine Kd.R_make (Kd.int .i64) _ 3 rfl (N := 19) rfl 22 _ _ rfl 6 rfl rfl Try.underlying22 (.int .i64 0) 8 info3 rfl (by decide) (by omega) 0 (ok := fun _ => True) (okp := fun _ => True) rfl (fun _ hk => hk) trivial (by omega) (by omega) (Below.refl _ _) (Nat.le_refl _) ?_; intro R0 w9 i0 hb hg_ hnew_; clear hg_ hnew_; (first | rw [← y0.out] at i0 | (simp only [Int.reduceToNat] at i0; rw [← y0.out] at i0)); have K0 := a_ (Kd.R_lower i0 (bs_ HB)); replace HB := BS_ HB hb; clear hb i0))
 go_loopg [20] kj2 (fun kq V0 w' => ∃ (b0 : List Int) (a0 : Int), V0 = .int .i64 a0 ∧ Aside0 (floor_Fit.l0 kq l0 a1 b0 a0 = some (r1, r2)) ∧ Aside0 (kq ≤ kj2) ∧ Aside0 (Kd.R (Kd.int .i64) 3 w' w.heap.size (fun _ => True) R0 b0) ∧ Aside0 (Below w.heap.size w w'))
 case atStart => exact ⟨(Q0), (0), rs_, H', ⟨Nat.le_refl _⟩, ⟨kR_ K0⟩, ⟨bl_ HB⟩⟩
 case round => (
 clear H'
 try clear c7
 try clear c8
 try clear O0
 try clear P0
 obtain ⟨b0, a0, rfl, HA, z0, e0, HB⟩ := hrel
 cases gk with
 | zero => exact absurd HA.out (by simp [floor_Fit.l0])
 | succ k2 => (
 have H := HA.out
 clear HA
 simp only [floor_Fit.l0] at H
 replace H := id_ H
 rcases H with ⟨L0, H⟩ | ⟨L0, H⟩
 {
 replace H := ii_ H
 rcases H with ⟨s0, H⟩ | ⟨s0, H⟩
 {
 have M0 : decide (0 < a1) = true := decide_eq_true s0
 clear s0
 obtain ⟨d0, p0⟩ : ∃ j_ : Int, (mn a0 4) = j_ := ⟨_, rfl⟩
 replace H : (if 0 ≤ (d0) then (if (d0) < (l0.length : Int) then (if 0 ≤ a0 then (if a0 < (b0.length : Int) then (floor_Fit.l0 k2 l0 a1 (b0.set (a0 : Int).toNat (mx 0 (mn (wrap64 ((wrap64 ((rd l0 (d0)) - 13)) + a1)) 44))) (wrap64 (a0 + 1))) else (none)) else (none)) else (none)) else (none)) = some (r1, r2) := by first | (rw [p0] at H; exact H) | (simp only [p0] at H ⊢; exact H)
 have hji13_ : (if 4 < a0 then 4 else a0) = d0 := p0
 replace H := gd_ H
 obtain ⟨X0, H⟩ := H
 replace H := gd_ H
 obtain ⟨Y0, H⟩ := H
 obtain ⟨k0, q0⟩ : ∃ j_ : Int, (mn (wrap64 ((wrap64 ((rd l0 (d0)) - 13)) + a1)) 44) = j_ := ⟨_, rfl⟩
 replace H : (if 0 ≤ a0 then (if a0 < (b0.length : Int) then (floor_Fit.l0 k2 l0 a1 (b0.set (a0 : Int).toNat (mx 0 (k0))) (wrap64 (a0 + 1))) else (none)) else (none)) = some (r1, r2) := by first | (rw [q0] at H; exact H) | (simp only [q0] at H ⊢; exact H)
 have hji16_ : (if 44 < (wrap64 ((wrap64 ((rd l0 (d0)) - 13)) + a1)) then 44 else (wrap64 ((wrap64 ((rd l0 (d0)) - 13)) + a1))) = k0 := q0
 obtain ⟨m0, r0⟩ : ∃ j_ : Int, (mx 0 (k0)) = j_ := ⟨_, rfl⟩
 replace H : (if 0 ≤ a0 then (if a0 < (b0.length : Int) then (floor_Fit.l0 k2 l0 a1 (b0.set (a0 : Int).toNat (m0)) (wrap64 (a0 + 1))) else (none)) else (none)) = some (r1, r2) := by first | (rw [r0] at H; exact H) | (simp only [r0] at H ⊢; exact H)
 have hji17_ : (if 0 < (k0) then (k0) else 0) = m0 := r0
 replace H := gd_ H
 obtain ⟨Z0, H⟩ := H
 replace H := gd_ H
 obtain ⟨b1, H⟩ := H
 obtain ⟨E0, g0⟩ : ∃ y_ : List Int, y_ = (b0.set (a0 : Int).toNat (m0)) := ⟨_, rfl⟩
 first | replace H := by_ H g0 | rw [← g0] at H
 have N0 := a_ g0
 clear g0
 have H' := a_ H
 clear H
 have t0 : 0 ≤ ((d0) : Int) := dm_
 have v0 : (d0) < (l0.length : Int) := dm_
 obtain ⟨c1, S0, n0⟩ := Kd.at_int w0.out (d0) t0 v0
 cases S0
 replace n0 := hc_ HB n0
 replace t0 := eq_true t0
 replace v0 := eq_true v0
 have F0 : 0 ≤ (a0 : Int) := dm_
 have G0 : (a0 : Int) < ((b0.length : Int) : Int) := dm_
 obtain ⟨go20, T0, H0, I0, gl20, cl20, HG20⟩ := Kd.R_form e0.out (by omega)
 (first | cases H0 | (injection H0 with ea_ en_ ec_; (first | subst ea_ | (injection ea_ with ea_; subst ea_)); subst ec_; clear en_))
 have GB20 := a_ I0
 have GG20 := a_ HG20
 clear I0 gl20 HG20
 obtain ⟨W0, hf20_0⟩ := Kd.R_celln 0 e0.out (a0 : Int) F0 G0
 replace F0 := eq_true F0
 replace G0 := eq_true G0
 have HP21 := Kd.R_putg e0.out (a0 : Int) m0
 go_wp2_with (first | ((with_reducible refine gate_store (t := 3) (p := 37) rfl ?_); refine store_event (t := 3) (p := 37) (v := ?vo_w22) (w1 := (wr.setCell ⟨go20, (a0 : Int).toNat, none⟩ (.int .i64 m0))) ?hg ?ho ?hn ?hr ?_; (case ho => rfl); (case hg => rfl); (case hn => rfl); (case hr => first | (go_simp; done) | (go_simp; rfl)); intro J0 hw; have hg : wr.grownBy J0 (some go20) := (by rw [hw]; exact HP21.2); have hp_ : Kd.R (Kd.int .i64) 3 J0 w.heap.size (fun _ => True) (.slice (some ⟨go20, 0, none⟩) b0.length T0) E0 := (by rw [hw, N0.out]; exact HP21.1); clear HP21; replace e0 := a_ (hp_); replace HB := a_ ((by rw [hw]; exact below_set (HB.out) GB20.out : Below w.heap.size w J0)); clear hg hw hp_))
 go_roundg k2
 case measure => have := HJ2.out; have := z0.out; omega
 case rel => exact ⟨(E0), (wrap64 (a0 + 1)), rs_, H', ⟨by have := HJ2.out; have := z0.out; omega⟩, ⟨kR_ e0⟩, ⟨bl_ HB⟩⟩}
 {
 have M0 : decide (0 < a1) = false := decide_eq_false s0
 clear s0
 have H' := a_ H
 clear H
 go_wp2
 go_roundg k2
 case measure => have := HJ2.out; have := z0.out; omega
 case rel => exact ⟨(b0), (wrap64 (a0 + 1)), rs_, H', ⟨by have := HJ2.out; have := z0.out; omega⟩, ⟨kR_ e0⟩, ⟨bl_ HB⟩⟩}}
 {
 simp only [Option.some.injEq, Prod.mk.injEq] at H
 obtain ⟨rfl, rfl⟩ := H
 go_wp2
 go_ret2
 exact ⟨_, er_, kR_ e0, bl_ HB⟩}))}))
def vcodec_codec_settled.l0 : Nat → Int → Int → List Int → Int → Int → Option (Int)
  | 0, _, _, _, _, _ => none
  | k + 1, x1, x5, b0, c0, a0 => if a0 < c0 then (if 0 ≤ a0 then (if a0 < (b0.length : Int) then (if (rd b0 a0) > 0 then (if x5 < 0 then (vcodec_codec_settled.l0 k x1 a0 b0 c0 (wrap64 (a0 + 1))) else (if a0 ≤ x1 then (vcodec_codec_settled.l0 k x1 a0 b0 c0 (wrap64 (a0 + 1))) else (vcodec_codec_settled.l0 k x1 x5 b0 c0 (wrap64 (a0 + 1))))) else (vcodec_codec_settled.l0 k x1 x5 b0 c0 (wrap64 (a0 + 1)))) else (none)) else (none)) else (some x5)
def vcodec_codec_settled.f (k : Nat) (b0 : Int) (c0 : Int) (a0 : List Int) (d0 : List Int) (a1 : Int) : Option (Int) := vcodec_codec_settled.l0 k a1 (-1) a0 (a0.length : Int) 0
theorem vcodec_codec_settled.mono_l : ∀ k, (∀ y0 y1 y2 y3 y4, LeO (vcodec_codec_settled.l0 k y0 y1 y2 y3 y4) (vcodec_codec_settled.l0 (k + 1) y0 y1 y2 y3 y4))
  | 0 => fun _ _ _ _ _ r h => by simp [vcodec_codec_settled.l0] at h
  | k + 1 => by
    have a0 := vcodec_codec_settled.mono_l k
    · intro y0 y1 y2 y3 y4
      unfold vcodec_codec_settled.l0
      with_reducible repeat' first
   | exact a0 _ _ _ _ _
   | exact LeO.refl _
   | exact LeO.none _
   | refine LeO.ite ?_ ?_
   | refine LeO.bind ?_ (fun _ => ?_)
theorem vcodec_codec_settled.mono : ∀ a0 a1 a2 a3 a4 k, LeO (vcodec_codec_settled.f k a0 a1 a2 a3 a4) (vcodec_codec_settled.f (k + 1) a0 a1 a2 a3 a4) := by
  intro a0 a1 a2 a3 a4 k
  have b0 := vcodec_codec_settled.mono_l k
  unfold vcodec_codec_settled.f
  with_reducible repeat' first
   | exact b0 _ _ _ _ _
   | exact LeO.refl _
   | exact LeO.none _
   | refine LeO.ite ?_ ?_
   | refine LeO.bind ?_ (fun _ => ?_)
set_option maxHeartbeats 8000000 in
set_option maxRecDepth 100000 in
theorem vcodec_codec_settled.calls (k : Nat) (m0 : Int) (n0 : Int) (o0 : Option Addr) (p0 : Nat) (c0 : List Int) (q0 : Option Addr) (r0 : Nat) (g0 : List Int) (a1 : Int) (r : Int) (w : World) (hr0_2 : Kd.C (Kd.int .i64) w o0 c0.length c0) (hc0_2 : c0.length ≤ p0) (hr0_3 : Kd.C (Kd.int .i64) w q0 g0.length g0) (hc0_3 : g0.length ≤ r0) (h : vcodec_codec_settled.f k m0 n0 c0 g0 a1 = some r) :
    Calls Try.prog 76 #[.agg #[.int .i64 m0, .int .i64 n0, .slice o0 c0.length p0, .slice q0 g0.length r0], .int .i64 a1] w fun e w' => e = .returned (.int .i64 r) ∧ Below w.heap.size w w' := by
 have O0 := Try.underlying61
 have j0 := a_ hr0_2
 have K0 := a_ hc0_2
 clear hr0_2 hc0_2
 have L0 := a_ hr0_3
 have M0 := a_ hc0_3
 clear hr0_3 hc0_3
 have HB := a_ (Below.refl w.heap.size w)
 have H : (vcodec_codec_settled.l0 k a1 (-1) c0 (c0.length : Int) 0) = some r := h
 clear h
 have H' := a_ H
 clear H
 go_enter Try.func76, Try.ntmps76
 go_wp2_with (first | ((with_reducible refine gate_dst (N := 2) rfl ?_); refine bx_ HB 2 #[.int .i64 m0, .int .i64 n0, .slice o0 c0.length p0, .slice q0 g0.length r0] 61 ?_; clear HB; intro D0 hg w3 hb f0 E0 HB; have N0 := E0; clear hb hg; obtain ⟨t0, v0, w0, y0, z0, A0, B0, C0⟩ := e4_ f0))
 go_loopg [5, 12] k (fun kq v5 J0 w' => ∃ (k0 : Int) (a0 : Int), v5 = .int .i64 k0 ∧ J0 = .int .i64 a0 ∧ Aside0 (vcodec_codec_settled.l0 kq a1 k0 c0 (c0.length : Int) a0 = some r) ∧ Aside0 (kq ≤ k) ∧ Aside0 (w'.heap[D0]? = some (.cells #[.int .i64 m0, .int .i64 n0, (.slice o0 c0.length p0), (.slice q0 g0.length r0)] 61 (0, 0))) ∧ Aside0 (Below w.heap.size w w'))
 case atStart => exact ⟨((-1)), (0), rs_, rs_, H', ⟨Nat.le_refl _⟩, ⟨bk_ f0⟩, ⟨bl_ HB⟩⟩
 case round => (
 clear H'
 try clear t0 v0 w0 y0 z0 A0 B0 C0
 obtain ⟨k0, a0, rfl, rfl, HA, i0, f0, HB⟩ := hrel
 cases gk with
 | zero => exact absurd HA.out (by simp [vcodec_codec_settled.l0])
 | succ k1 => (
 have H := HA.out
 clear HA
 simp only [vcodec_codec_settled.l0] at H
 replace H := id_ H
 rcases H with ⟨G0, H⟩ | ⟨G0, H⟩
 {
 replace H := gd_ H
 obtain ⟨P0, H⟩ := H
 replace H := gd_ H
 obtain ⟨Q0, H⟩ := H
 replace H := ii_ H
 rcases H with ⟨c8, H⟩ | ⟨c8, H⟩
 {
 have H0 : decide (0 < (rd c0 a0)) = true := decide_eq_true c8
 clear c8
 replace H := id_ H
 rcases H with ⟨I0, H⟩ | ⟨I0, H⟩
 {
 have H' := a_ H
 clear H
 have d0 : 0 ≤ (a0 : Int) := dm_
 have e0 : a0 < (c0.length : Int) := dm_
 obtain ⟨s0, h0, b0⟩ := Kd.at_int j0.out a0 d0 e0
 cases h0
 replace b0 := hc_ HB b0
 replace d0 := eq_true d0
 replace e0 := eq_true e0
 go_wp2
 go_roundg k1
 case measure => have := i0.out; omega
 case rel => exact ⟨(a0), (wrap64 (a0 + 1)), rs_, rs_, H', ⟨by have := i0.out; omega⟩, ⟨bk_ f0⟩, ⟨bl_ HB⟩⟩}
 {
 replace H := id_ H
 rcases H with ⟨F0, H⟩ | ⟨F0, H⟩
 {
 have H' := a_ H
 clear H
 have d0 : 0 ≤ (a0 : Int) := dm_
 have e0 : a0 < (c0.length : Int) := dm_
 obtain ⟨s0, h0, b0⟩ := Kd.at_int j0.out a0 d0 e0
 cases h0
 replace b0 := hc_ HB b0
 replace d0 := eq_true d0
 replace e0 := eq_true e0
 go_wp2
 go_roundg k1
 case measure => have := i0.out; omega
 case rel => exact ⟨(a0), (wrap64 (a0 + 1)), rs_, rs_, H', ⟨by have := i0.out; omega⟩, ⟨bk_ f0⟩, ⟨bl_ HB⟩⟩}
 {
 have H' := a_ H
 clear H
 have d0 : 0 ≤ (a0 : Int) := dm_
 have e0 : a0 < (c0.length : Int) := dm_
 obtain ⟨s0, h0, b0⟩ := Kd.at_int j0.out a0 d0 e0
 cases h0
 replace b0 := hc_ HB b0
 replace d0 := eq_true d0
 replace e0 := eq_true e0
 go_wp2
 go_roundg k1
 case measure => have := i0.out; omega
 case rel => exact ⟨(k0), (wrap64 (a0 + 1)), rs_, rs_, H', ⟨by have := i0.out; omega⟩, ⟨bk_ f0⟩, ⟨bl_ HB⟩⟩}}}
 {
 have H0 : decide (0 < (rd c0 a0)) = false := decide_eq_false c8
 clear c8
 have H' := a_ H
 clear H
 have d0 : 0 ≤ (a0 : Int) := dm_
 have e0 : a0 < (c0.length : Int) := dm_
 obtain ⟨s0, h0, b0⟩ := Kd.at_int j0.out a0 d0 e0
 cases h0
 replace b0 := hc_ HB b0
 replace d0 := eq_true d0
 replace e0 := eq_true e0
 go_wp2
 go_roundg k1
 case measure => have := i0.out; omega
 case rel => exact ⟨(k0), (wrap64 (a0 + 1)), rs_, rs_, H', ⟨by have := i0.out; omega⟩, ⟨bk_ f0⟩, ⟨bl_ HB⟩⟩}}
 {
 obtain rfl := Option.some.inj H
 go_wp2
 go_ret
 exact ⟨er_, bl_ HB⟩}))
def vcodec_codec_posts.l0 : Nat → List Int → Int → Int → Int → Int → List Int → List Int → Option (List Int)
  | 0, _, _, _, _, _, _, _ => none
  | k + 1, x7, f0, a0, b0, c0, d0, e0 => if a0 < f0 then (if 0 ≤ a0 then (if a0 < (x7.length : Int) then ((vcodec_codec_settled.f k b0 c0 d0 e0 (rd x7 a0)).bind fun g0 => (vcodec_codec_posts.l0 k (x7.set (a0 : Int).toNat g0) f0 (wrap64 (a0 + 1)) b0 c0 d0 e0)) else (none)) else (none)) else (some x7)
def vcodec_codec_posts.f (k : Nat) (d0 : Int) (b0 : Int) (e0 : List Int) (f0 : List Int) (l1 : List Int) : Option (List Int) := (band_Gains.f k l1).bind fun c0 => ((floor_Fit.f k c0.1 b0).bind fun a0 => (vcodec_codec_posts.l0 k a0.1 (a0.1.length : Int) 0 d0 b0 e0 f0))
theorem vcodec_codec_posts.mono_l : ∀ k, (∀ y0 y1 y2 y3 y4 y5 y6, LeO (vcodec_codec_posts.l0 k y0 y1 y2 y3 y4 y5 y6) (vcodec_codec_posts.l0 (k + 1) y0 y1 y2 y3 y4 y5 y6))
  | 0 => fun _ _ _ _ _ _ _ r h => by simp [vcodec_codec_posts.l0] at h
  | k + 1 => by
    have a0 := vcodec_codec_posts.mono_l k
    · intro y0 y1 y2 y3 y4 y5 y6
      unfold vcodec_codec_posts.l0
      with_reducible repeat' first
   | exact a0 _ _ _ _ _ _ _
   | exact band_Gains.mono _ _
   | exact floor_Fit.mono _ _ _
   | exact vcodec_codec_settled.mono _ _ _ _ _ _
   | exact LeO.refl _
   | exact LeO.none _
   | refine LeO.ite ?_ ?_
   | refine LeO.bind ?_ (fun _ => ?_)
theorem vcodec_codec_posts.mono : ∀ a0 a1 a2 a3 a4 k, LeO (vcodec_codec_posts.f k a0 a1 a2 a3 a4) (vcodec_codec_posts.f (k + 1) a0 a1 a2 a3 a4) := by
  intro a0 a1 a2 a3 a4 k
  have b0 := vcodec_codec_posts.mono_l k
  unfold vcodec_codec_posts.f
  with_reducible repeat' first
   | exact b0 _ _ _ _ _ _ _
   | exact band_Gains.mono _ _
   | exact floor_Fit.mono _ _ _
   | exact vcodec_codec_settled.mono _ _ _ _ _ _
   | exact LeO.refl _
   | exact LeO.none _
   | refine LeO.ite ?_ ?_
   | refine LeO.bind ?_ (fun _ => ?_)
def vcodec_codec_posts.T6 : Bool × List (List Nat × List Nat) := (true, [([], []), ([], []), ([], []), ([], []), ([], []), ([3, 4], [3, 4]), ([5], [5]), ([2, 6], [2, 6]), ([0, 1, 0, 1, 2, 3, 4, 5, 6, 7], [0, 1]), ([8, 7, 7, 0, 1, 2, 3, 4, 5, 6, 7], [7, 8])])
def vcodec_codec_posts.B6 : List Nat := [0, 0, 0, 0, 0, 24, 56, 124, 255, 511]
theorem vcodec_codec_posts.tab6 : rtab .any (opsOf Try.f37 6) = vcodec_codec_posts.T6 := by kernel_rfl
theorem vcodec_codec_posts.bits6 : waitsOk vcodec_codec_posts.T6.2 vcodec_codec_posts.B6 = true := by kernel_rfl
set_option maxHeartbeats 8000000 in
set_option maxRecDepth 100000 in
theorem vcodec_codec_posts.calls (k : Nat) (g0 : Int) (d0 : Int) (m0 : Option Addr) (n0 : Nat) (e0 : List Int) (o0 : Option Addr) (p0 : Nat) (f0 : List Int) (A1 : Option Addr) (c1 : Nat) (l1 : List Int) (r : List Int) (w : World) (hr0_2 : Kd.C (Kd.int .i64) w m0 e0.length e0) (hc0_2 : e0.length ≤ n0) (hr0_3 : Kd.C (Kd.int .i64) w o0 f0.length f0) (hc0_3 : f0.length ≤ p0) (hr1 : Kd.C (Kd.int .i64) w A1 l1.length l1) (hc1 : l1.length ≤ c1) (h : vcodec_codec_posts.f k g0 d0 e0 f0 l1 = some r) :
    Calls Try.prog 37 #[.agg #[.int .i64 g0, .int .i64 d0, .slice m0 e0.length n0, .slice o0 f0.length p0], .slice A1 l1.length c1] w fun e w' => ∃ v0_ : Value, e = .returned (v0_) ∧ Kd.R (Kd.int .i64) 3 w' w.heap.size (fun _ => True) v0_ r ∧ Below w.heap.size w w' := by
 have B1 := Try.underlying61
 have S0 := a_ hr0_2
 have T0 := a_ hc0_2
 clear hr0_2 hc0_2
 have U0 := a_ hr0_3
 have V0 := a_ hc0_3
 clear hr0_3 hc0_3
 have j1 := a_ hr1
 have m1 := a_ hc1
 clear hr1 hc1
 have HB := a_ (Below.refl w.heap.size w)
 have H : ((band_Gains.f k l1).bind fun W0 => ((floor_Fit.f k W0.1 d0).bind fun C0 => (vcodec_codec_posts.l0 k C0.1 (C0.1.length : Int) 0 g0 d0 e0 f0))) = some r := h
 clear h
 obtain ⟨⟨y0, a1⟩, A3, H⟩ := ob_ H
 (try dsimp only at H)
 obtain ⟨⟨q0, b1⟩, A4, H⟩ := ob_ H
 (try dsimp only at H)
 have H' := a_ H
 clear H
 go_enter Try.func37, Try.ntmps37
 go_wp2_with (first | ((with_reducible refine gate_dst (N := 2) rfl ?_); refine bx_ HB 2 #[.int .i64 g0, .int .i64 d0, .slice m0 e0.length n0, .slice o0 f0.length p0] 61 ?_; clear HB; intro k0 hg w5 hb a0 D0 HB; have v1 := D0; clear hb hg) | ((with_reducible refine gate_callee (f := 74) rfl ?_); refine gL_ (some 12) Try.func74 #[.slice A1 l1.length c1] ?_; (with_reducible refine (band_Gains.calls k _ _ l1 y0 a1 _ ?side1 ?side2 A3.out).mono ?_); (case side1 => exact kC_ j1 HB); (case side2 => exact m1.out); rintro e w6 ⟨C1, rfl, v0, hb⟩; refine ⟨_, rfl, ?_⟩; have j0 := a_ (Kd.R_lower v0 (bs_ HB)); replace a0 := FB_ a0 hb; replace HB := BS_ HB hb; (try clear hb); (try clear v0); obtain ⟨G0, H0, I0, J0, K0, L0, M0, N0⟩ := e4_ a0; obtain ⟨n1, o1, p1⟩ := Kd.R_slice j0.out; subst p1) | ((with_reducible refine gate_callee (f := 75) rfl ?_); refine gL_ (some 20) Try.func75 #[.slice n1 y0.length o1, .int .i64 d0] ?_; (with_reducible refine (floor_Fit.calls k _ _ y0 d0 q0 b1 _ ?side1 ?side2 A4.out).mono ?_); (case side1 => exact kCt_ (Kd.R_reads' j0.out).2.2); (case side2 => exact (Kd.R_reads' j0.out).2.1); rintro e w9 ⟨D1, rfl, v0, hb⟩; refine ⟨_, rfl, ?_⟩; have E0 := a_ (Kd.R_lower (Kd.R_new' v0 (Kd.R_lt (kR_ j0))) (bs_ HB)); replace j0 := a_ (Kd.R_elder' (kR_ j0) (Kd.R_base v0) hb); replace a0 := FB_ a0 hb; replace HB := BS_ HB hb; (try clear hb); (try clear v0); obtain ⟨d1, e1, f1⟩ := Kd.R_slice E0.out; subst f1))
 go_loopg [25] k (fun kq q1 w' => ∃ (h0 : List Int) (b0 : Int), q1 = .int .i64 b0 ∧ Aside0 (vcodec_codec_posts.l0 kq h0 (q0.length : Int) b0 g0 d0 e0 f0 = some r) ∧ Aside0 (kq ≤ k) ∧ Aside0 (Kd.R (Kd.int .i64) 3 w' w.heap.size (fun _ => True) (.slice d1 q0.length e1) h0) ∧ Aside0 (w'.heap[k0]? = some (.cells #[.int .i64 g0, .int .i64 d0, (.slice m0 e0.length n0), (.slice o0 f0.length p0)] 61 (0, 0))) ∧ Aside0 (Below w.heap.size w w'))
 case atStart => exact ⟨(q0), (0), rs_, H', ⟨Nat.le_refl _⟩, ⟨by (with_reducible repeat (first | apply Kd.R_alloc | apply Kd.R_drewN | apply Kd.R_drew)); exact Kd.R_mono E0.out (fun _ hk => trivial)⟩, ⟨bk_ a0⟩, ⟨bl_ HB⟩⟩
 case round => (
 clear H'
 try clear c1
 try clear G0 H0 I0 J0 K0 L0 M0 N0
 obtain ⟨h0, b0, rfl, HA, Z0, c0, a0, HB⟩ := hrel
 have i0 := (Kd.R_reads' c0.out).1
 rw [i0] at c0
 (try simp only [i0])
 (try simp only [i0] at a0)
 cases gk with
 | zero => exact absurd HA.out (by simp [vcodec_codec_posts.l0])
 | succ k1 => (
 have H := HA.out
 clear HA
 simp only [vcodec_codec_posts.l0] at H
 replace H := ii_ H
 rcases H with ⟨w0, H⟩ | ⟨w0, H⟩
 {
 have F0 : decide (b0 < (q0.length : Int)) = true := decide_eq_true w0
 clear w0
 replace H := gd_ H
 obtain ⟨y1, H⟩ := H
 replace H := gd_ H
 obtain ⟨z1, H⟩ := H
 obtain ⟨z0, r1, H⟩ := ob_ H
 (try dsimp only at H)
 obtain ⟨h1, t0⟩ : ∃ y_ : List Int, y_ = (h0.set (b0 : Int).toNat z0) := ⟨_, rfl⟩
 first | replace H := by_ H t0 | rw [← t0] at H
 have X0 := a_ t0
 clear t0
 have H' := a_ H
 clear H
 try go_wp2
 replace c0 := a_ (Kd.R_drew c0.out)
 replace a0 := a_ (blk_drew a0.out)
 replace HB := a_ (below_drew1 HB.out)
 have A0 : 0 ≤ (b0 : Int) := dm_
 have B0 : b0 < (h0.length : Int) := dm_
 obtain ⟨Y0, i1, r0⟩ := Kd.at_int (Kd.R_reads' c0.out).2.2 b0 A0 B0
 cases i1
 replace A0 := eq_true A0
 replace B0 := eq_true B0
 refine start_ (n := 10) (S := fun w' => w'.cell? ⟨k0, 0, none⟩ = some (.int .i64 g0) ∧ w'.cell? ⟨k0, 1, none⟩ = some (.int .i64 d0) ∧ w'.cell? ⟨k0, 2, none⟩ = some (.slice m0 e0.length n0) ∧ w'.cell? ⟨k0, 3, none⟩ = some (.slice o0 f0.length p0) ∧ w'.cell? (Y0.add (b0).toNat) = some (.int .i64 (rd h0 b0))) (ds := [9]) (B_ 10 0) kf_ rfl rfl ⟨ce_ a0 0, ce_ a0 1, ce_ a0 2, ce_ a0 3, r0⟩ (fun hHeld => ?_); refine with_tabW vcodec_codec_posts.tab6 vcodec_codec_posts.bits6 (fun HT_ HW_ => ?_)
 generalize wr.drew = F1 at c0 a0 HB r0 hHeld ⊢
 refine pu_ 0 (some 28) (B_ 10 1) HT_ ?_
 refine pu_ 1 (some 29) (B_ 10 3) HT_ ?_
 refine pu_ 3 (some 31) (B_ 10 11) HT_ ?_
 refine pu_ 4 (some 32) (B_ 10 27) HT_ ?_
 refine pu_ 5 (some 33) (B_ 10 59) HT_ ?_
 refine take_ (i := 2) (N := some 30) (v := ?_) (a' := ?_) (B_ 10 63) rfl rfl (take_ofW HT_.out HW_.out kf_) (fun _ _ _ h => h) (Or.inl ⟨by rfl, ?_⟩) hHeld ?_ ?_
 rotate_left
 {
 rintro w' ⟨s0, s1, s2, s3, s4⟩
 go_simp
 with_reducible rfl}
 rotate_left
 {
 exact sp_}
 refine take_ (i := 6) (N := some 34) (v := ?_) (a' := ?_) (B_ 10 127) rfl rfl (take_ofW HT_.out HW_.out kf_) (fun _ _ _ h => h) (Or.inl ⟨by rfl, ?_⟩) hHeld ?_ ?_
 rotate_left
 {
 rintro w' ⟨s0, s1, s2, s3, s4⟩
 go_simp
 with_reducible rfl}
 rotate_left
 {
 exact sp_}
 refine one_ (i := 7) (N := some 35) (B_ 10 255) rfl rfl (one_of HT_.out kf_) (by decide) (fun K hK => ?_)
 refine goes_ Try.func76 kf_ rfl #[.agg #[.int .i64 g0, .int .i64 d0, .slice m0 e0.length n0, .slice o0 f0.length p0], .int .i64 (rd h0 b0)] (by rfl) rfl rfl ar_ ?_
 with_reducible refine (vcodec_codec_settled.calls k1 g0 d0 _ _ e0 _ _ f0 (rd h0 b0) z0 _ ?side1 ?side2 ?side3 ?side4 r1.out).mono ?_
 (case side1 => exact kC_ S0 HB)
 (case side2 => exact T0.out)
 (case side3 => exact kC_ U0 HB)
 (case side4 => exact V0.out)
 rintro e G1 ⟨rfl, hb⟩
 have HS4_ := (hb.cell (World.block_lt_of_cell? _ _ (hHeld.2.2.2.2))).trans (hHeld.2.2.2.2)
 refine ⟨_, rfl, ?_⟩
 replace c0 := FR_ c0 hb
 replace a0 := FB_ a0 hb
 replace HB := BS_ HB hb
 (try clear hb)
 (try clear hk)
 have O0 : 0 ≤ (b0 : Int) := dm_
 have P0 : (b0 : Int) < ((h0.length : Int) : Int) := dm_
 obtain ⟨go15, E1, Q0, R0, gl15, cl15, HG15⟩ := Kd.R_form c0.out (by omega)
 (first | cases Q0 | (injection Q0 with ea_ en_ ec_; (first | subst ea_ | (injection ea_ with ea_; subst ea_)); subst ec_; clear en_))
 have GB15 := a_ R0
 have GG15 := a_ HG15
 clear R0 gl15 HG15
 (first | simp only [add_plain] at r0 | skip)
 obtain ⟨t1, hf15_0⟩ := Kd.R_celln 0 c0.out (b0 : Int) O0 P0
 replace O0 := eq_true O0
 replace P0 := eq_true P0
 have HP18 := Kd.R_putn c0.out (b0 : Int) z0
 rw [← X0.out] at HP18
 have HQ18 := a_ HP18
 clear HP18
 refine hK.out _ _ ⟨ce_ a0 0, ce_ a0 1, ce_ a0 2, ce_ a0 3, HS4_⟩ (fun hHeld => ?_)
 clear hK K
 refine norm_ (a' := ?_) ?_ ?_
 rotate_left
 {
 show Act.put _ (some 35) _ = _
 exact sp_}
 refine pu_ 8 (some 36) (B_ 10 511) HT_ ?_
 refine last_ (i := 9) (N := none) (B_ 10 1023) rfl rfl (one_of HT_.out kf_) (by decide) (fun K hK => ?_)
 refine skip_ (w1 := ?_) (by rfl) rfl ?_ ?_
 rotate_left
 {
 go_simp
 rfl}
 refine hK.out _ _ ?_
 clear hK K
 refine done_ (done_of HT_.out kf_) ?_
 try go_wp2
 (try simp only [← i0])
 go_roundg k1
 case measure => have := Z0.out; omega
 case rel => exact ⟨(h1), (wrap64 (b0 + 1)), rs_, H', ⟨by have := Z0.out; omega⟩, ⟨by (try simp only [i0]); (with_reducible repeat (first | apply Kd.R_alloc | apply Kd.R_drewN | apply Kd.R_drew)); exact HQ18.out⟩, ⟨by (try simp only [i0]); (with_reducible repeat (first | refine blk_drewN ?_ _ | refine blk_drew ?_ | refine blk_alloc ?_ _)); refine blk_far ?_ (by have h_ := Kd.R_ne c0.out a0.out (by decide); intro e_; exact h_ (by rw [e_]; rfl)) _; (with_reducible repeat (first | refine blk_drewN ?_ _ | refine blk_drew ?_ | refine blk_alloc ?_ _)); exact a0.out⟩, ⟨by repeat (first | (with_reducible first | exact HB.out | apply below_alloc | apply pw_below_drewN | apply below_drew1 | refine below_set ?_ GB15.out | refine below_set ?_ D0.out) | exact HB.out)⟩⟩}
 {
 have F0 : decide (b0 < (q0.length : Int)) = false := decide_eq_false w0
 (try rw [i0] at F0)
 clear w0
 obtain rfl := Option.some.inj H
 go_wp2
 go_ret
 exact ⟨_, er_, kR_ c0, bl_ HB⟩}))
def num_size.f (a0 : Int) : Option (Int) := if a0 < 0 then (some (IntKind.u64.wrap (-(IntKind.u64.wrap (a0))))) else (some (IntKind.u64.wrap (a0)))
set_option maxHeartbeats 8000000 in
set_option maxRecDepth 100000 in
theorem num_size.calls (a0 : Int) (r : Int) (w : World) (h : num_size.f a0 = some r) :
    Calls Try.prog 114 #[.int .i64 a0] w fun e w' => e = .returned (.int .u64 r) ∧ Drawn0 w w' := by
 have H : (if a0 < 0 then (some (IntKind.u64.wrap (-(IntKind.u64.wrap (a0))))) else (some (IntKind.u64.wrap (a0)))) = some r := h
 clear h
 replace H := id_ H
 rcases H with ⟨b0, H⟩ | ⟨b0, H⟩
 {
 obtain rfl := Option.some.inj H
 go_enter Try.func114, Try.ntmps114
 go_wp2
 go_ret
 exact ⟨es_, dr_⟩}
 {
 obtain rfl := Option.some.inj H
 go_enter Try.func114, Try.ntmps114
 go_wp2
 go_ret
 exact ⟨es_, dr_⟩}
def num_Div.f (a0 : Int) (a1 : Int) : Option (Int × Int) := if a1 < 1 then (some (0, 1)) else ((num_size.f a0).bind fun b0 => (if (IntKind.u64.wrap (a1)) = 0 then (none) else (if (Int.tmod b0 (IntKind.u64.wrap (a1))) ≥ (IntKind.u64.wrap ((IntKind.u64.wrap (a1)) - (Int.tmod b0 (IntKind.u64.wrap (a1))))) then (if a0 < 0 then (some (wrap64 (IntKind.u64.wrap (-(IntKind.u64.wrap ((IntKind.u64.wrap (Int.tdiv b0 (IntKind.u64.wrap (a1)))) + 1)))), 0)) else (some (wrap64 (IntKind.u64.wrap ((IntKind.u64.wrap (Int.tdiv b0 (IntKind.u64.wrap (a1)))) + 1)), 0))) else (if a0 < 0 then (some (wrap64 (IntKind.u64.wrap (-(IntKind.u64.wrap (Int.tdiv b0 (IntKind.u64.wrap (a1)))))), 0)) else (some (wrap64 (IntKind.u64.wrap (Int.tdiv b0 (IntKind.u64.wrap (a1)))), 0))))))
set_option maxHeartbeats 8000000 in
set_option maxRecDepth 100000 in
theorem num_Div.calls (a0 : Int) (a1 : Int) (r1 : Int) (r2 : Int) (w : World) (h : num_Div.f a0 a1 = some (r1, r2)) :
    Calls Try.prog 99 #[.int .i64 a0, .int .i64 a1] w fun e w' => e = .returned (.tuple #[.int .i64 r1, .int .i64 r2]) ∧ Drawn0 w w' := by
 have H : (if a1 < 1 then (some (0, 1)) else ((num_size.f a0).bind fun b0 => (if (IntKind.u64.wrap (a1)) = 0 then (none) else (if (Int.tmod b0 (IntKind.u64.wrap (a1))) ≥ (IntKind.u64.wrap ((IntKind.u64.wrap (a1)) - (Int.tmod b0 (IntKind.u64.wrap (a1))))) then (if a0 < 0 then (some (wrap64 (IntKind.u64.wrap (-(IntKind.u64.wrap ((IntKind.u64.wrap (Int.tdiv b0 (IntKind.u64.wrap (a1)))) + 1)))), 0)) else (some (wrap64 (IntKind.u64.wrap ((IntKind.u64.wrap (Int.tdiv b0 (IntKind.u64.wrap (a1)))) + 1)), 0))) else (if a0 < 0 then (some (wrap64 (IntKind.u64.wrap (-(IntKind.u64.wrap (Int.tdiv b0 (IntKind.u64.wrap (a1)))))), 0)) else (some (wrap64 (IntKind.u64.wrap (Int.tdiv b0 (IntKind.u64.wrap (a1)))), 0))))))) = some (r1, r2) := h
 clear h
 replace H := id_ H
 rcases H with ⟨c0, H⟩ | ⟨c0, H⟩
 {
 simp only [Option.some.injEq, Prod.mk.injEq] at H
 obtain ⟨rfl, rfl⟩ := H
 go_enter Try.func99, Try.ntmps99
 go_wp2
 repeat (go_quiet (fail); try go_wp2)
 go_ret2
 exact ⟨es_, dr_⟩}
 {
 obtain ⟨b0, A4, H⟩ := ob_ H
 (try dsimp only at H)
 replace H := ii_ H
 rcases H with ⟨c5, H⟩ | ⟨c5, H⟩
 {
 exact absurd H (by simp)}
 {
 have g0 : ((IntKind.u64.wrap (a1)) == 0) = false := beq_eq_false_iff_ne.mpr c5
 have h0 : ((IntKind.u64.wrap (a1)) != 0) = true := bne_iff_ne.mpr c5
 replace H := ii_ H
 rcases H with ⟨c6, H⟩ | ⟨c6, H⟩
 {
 have d0 : decide ((IntKind.u64.wrap ((IntKind.u64.wrap (a1)) - (Int.tmod b0 (IntKind.u64.wrap (a1))))) ≤ (Int.tmod b0 (IntKind.u64.wrap (a1)))) = true := decide_eq_true c6
 clear c6
 replace H := id_ H
 rcases H with ⟨e0, H⟩ | ⟨e0, H⟩
 {
 simp only [Option.some.injEq, Prod.mk.injEq] at H
 obtain ⟨rfl, rfl⟩ := H
 go_enter Try.func99, Try.ntmps99
 go_wp2_with (first | (go_at_call 114; (with_reducible refine (num_size.calls a0 b0 _ A4.out).mono ?_); rintro e w' ⟨rfl, ⟨nd, rfl⟩⟩; (try first | exact ⟨rfl, _, World.drewN_drewN _ _ _⟩ | exact ⟨rfl, _, Eq.trans (World.drewN_drewN _ _ _) (congrArg (World.drewN _) (Nat.add_assoc _ _ _))⟩)))
 repeat (go_quiet (first | (go_at_call 114; (with_reducible refine (num_size.calls a0 b0 _ A4.out).mono ?_); rintro e w' ⟨rfl, ⟨nd, rfl⟩⟩; (try first | exact ⟨rfl, _, World.drewN_drewN _ _ _⟩ | exact ⟨rfl, _, Eq.trans (World.drewN_drewN _ _ _) (congrArg (World.drewN _) (Nat.add_assoc _ _ _))⟩))); try go_wp2_with (first | (go_at_call 114; (with_reducible refine (num_size.calls a0 b0 _ A4.out).mono ?_); rintro e w' ⟨rfl, ⟨nd, rfl⟩⟩; (try first | exact ⟨rfl, _, World.drewN_drewN _ _ _⟩ | exact ⟨rfl, _, Eq.trans (World.drewN_drewN _ _ _) (congrArg (World.drewN _) (Nat.add_assoc _ _ _))⟩))))
 go_ret2
 exact ⟨es_, dr_⟩}
 {
 simp only [Option.some.injEq, Prod.mk.injEq] at H
 obtain ⟨rfl, rfl⟩ := H
 go_enter Try.func99, Try.ntmps99
 go_wp2_with (first | (go_at_call 114; (with_reducible refine (num_size.calls a0 b0 _ A4.out).mono ?_); rintro e w' ⟨rfl, ⟨nd, rfl⟩⟩; (try first | exact ⟨rfl, _, World.drewN_drewN _ _ _⟩ | exact ⟨rfl, _, Eq.trans (World.drewN_drewN _ _ _) (congrArg (World.drewN _) (Nat.add_assoc _ _ _))⟩)))
 repeat (go_quiet (first | (go_at_call 114; (with_reducible refine (num_size.calls a0 b0 _ A4.out).mono ?_); rintro e w' ⟨rfl, ⟨nd, rfl⟩⟩; (try first | exact ⟨rfl, _, World.drewN_drewN _ _ _⟩ | exact ⟨rfl, _, Eq.trans (World.drewN_drewN _ _ _) (congrArg (World.drewN _) (Nat.add_assoc _ _ _))⟩))); try go_wp2_with (first | (go_at_call 114; (with_reducible refine (num_size.calls a0 b0 _ A4.out).mono ?_); rintro e w' ⟨rfl, ⟨nd, rfl⟩⟩; (try first | exact ⟨rfl, _, World.drewN_drewN _ _ _⟩ | exact ⟨rfl, _, Eq.trans (World.drewN_drewN _ _ _) (congrArg (World.drewN _) (Nat.add_assoc _ _ _))⟩))))
 go_ret2
 exact ⟨es_, dr_⟩}}
 {
 have d0 : decide ((IntKind.u64.wrap ((IntKind.u64.wrap (a1)) - (Int.tmod b0 (IntKind.u64.wrap (a1))))) ≤ (Int.tmod b0 (IntKind.u64.wrap (a1)))) = false := decide_eq_false c6
 clear c6
 replace H := id_ H
 rcases H with ⟨f0, H⟩ | ⟨f0, H⟩
 {
 simp only [Option.some.injEq, Prod.mk.injEq] at H
 obtain ⟨rfl, rfl⟩ := H
 go_enter Try.func99, Try.ntmps99
 go_wp2_with (first | (go_at_call 114; (with_reducible refine (num_size.calls a0 b0 _ A4.out).mono ?_); rintro e w' ⟨rfl, ⟨nd, rfl⟩⟩; (try first | exact ⟨rfl, _, World.drewN_drewN _ _ _⟩ | exact ⟨rfl, _, Eq.trans (World.drewN_drewN _ _ _) (congrArg (World.drewN _) (Nat.add_assoc _ _ _))⟩)))
 repeat (go_quiet (first | (go_at_call 114; (with_reducible refine (num_size.calls a0 b0 _ A4.out).mono ?_); rintro e w' ⟨rfl, ⟨nd, rfl⟩⟩; (try first | exact ⟨rfl, _, World.drewN_drewN _ _ _⟩ | exact ⟨rfl, _, Eq.trans (World.drewN_drewN _ _ _) (congrArg (World.drewN _) (Nat.add_assoc _ _ _))⟩))); try go_wp2_with (first | (go_at_call 114; (with_reducible refine (num_size.calls a0 b0 _ A4.out).mono ?_); rintro e w' ⟨rfl, ⟨nd, rfl⟩⟩; (try first | exact ⟨rfl, _, World.drewN_drewN _ _ _⟩ | exact ⟨rfl, _, Eq.trans (World.drewN_drewN _ _ _) (congrArg (World.drewN _) (Nat.add_assoc _ _ _))⟩))))
 go_ret2
 exact ⟨es_, dr_⟩}
 {
 simp only [Option.some.injEq, Prod.mk.injEq] at H
 obtain ⟨rfl, rfl⟩ := H
 go_enter Try.func99, Try.ntmps99
 go_wp2_with (first | (go_at_call 114; (with_reducible refine (num_size.calls a0 b0 _ A4.out).mono ?_); rintro e w' ⟨rfl, ⟨nd, rfl⟩⟩; (try first | exact ⟨rfl, _, World.drewN_drewN _ _ _⟩ | exact ⟨rfl, _, Eq.trans (World.drewN_drewN _ _ _) (congrArg (World.drewN _) (Nat.add_assoc _ _ _))⟩)))
 repeat (go_quiet (first | (go_at_call 114; (with_reducible refine (num_size.calls a0 b0 _ A4.out).mono ?_); rintro e w' ⟨rfl, ⟨nd, rfl⟩⟩; (try first | exact ⟨rfl, _, World.drewN_drewN _ _ _⟩ | exact ⟨rfl, _, Eq.trans (World.drewN_drewN _ _ _) (congrArg (World.drewN _) (Nat.add_assoc _ _ _))⟩))); try go_wp2_with (first | (go_at_call 114; (with_reducible refine (num_size.calls a0 b0 _ A4.out).mono ?_); rintro e w' ⟨rfl, ⟨nd, rfl⟩⟩; (try first | exact ⟨rfl, _, World.drewN_drewN _ _ _⟩ | exact ⟨rfl, _, Eq.trans (World.drewN_drewN _ _ _) (congrArg (World.drewN _) (Nat.add_assoc _ _ _))⟩))))
 go_ret2
 exact ⟨es_, dr_⟩}}}}
def remap_quantized.f (a0 : Int) (a1 : Int) : Option (Int) := (num_Div.f a0 a1).bind fun b0 => (some b0.1)
set_option maxHeartbeats 8000000 in
set_option maxRecDepth 100000 in
theorem remap_quantized.calls (a0 : Int) (a1 : Int) (r : Int) (w : World) (h : remap_quantized.f a0 a1 = some r) :
    Calls Try.prog 77 #[.int .i64 a0, .int .i64 a1] w fun e w' => e = .returned (.int .i64 r) ∧ Drawn0 w w' := by
 have H : ((num_Div.f a0 a1).bind fun c0 => (some c0.1)) = some r := h
 clear h
 replace H := Option.bind_eq_some_iff.mp H
 obtain ⟨⟨b0, e0⟩, d0, H⟩ := H
 replace H : (some b0) = some r := H
 have A3 := a_ d0
 clear d0
 obtain rfl := Option.some.inj H
 go_enter Try.func77, Try.ntmps77
 go_wp2_with (first | ((with_reducible refine gate_callee (f := 99) rfl ?_); refine gL_ (some 10) Try.func99 #[.int .i64 a0, .int .i64 a1] ?_; (with_reducible refine (num_Div.calls a0 a1 b0 e0 _ A3.out).mono ?_); rintro e w' ⟨rfl, ⟨nd, rfl⟩⟩; refine ⟨_, rfl, ?_⟩))
 go_ret
 exact ⟨es_, dr_⟩
end Go.Proofs.Ytdajlfijkbafiaa.P
