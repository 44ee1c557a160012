/- Words, walks and what they compute, as the law's proof needs them. -/
import Derived.Test.YtdajlfijkbafiaaD3
import Derived.Test.YtdajlfijkbafiaaD4
import Derived.Test.YtdajlfijkbafiaaD5
set_option linter.unusedVariables false
set_option linter.unusedSimpArgs false
namespace Go.Proofs.Ytdajlfijkbafiaa.P
open Go.RowKit Go.Proofs.YtdajlfijkbafiaaW.PrintWords Go.Proofs.YtdajlfijkbafiaaW.PrintLast Go.Proofs.YtdajlfijkbafiaaW.PrintMore
attribute [local go_sem] max2_int min2_int max_two min_two max_three min_three max_four min_four
def psalterylaw22_knows.f (k : Nat)  : Option (Bool) := (vhead_Plain.f k 1 0).bind fun a0 => (if 16 ≤ 35184372088832 then ((some (List.replicate 16 0 : List Int)).bind fun e0 => ((vcodec_Encode.f k a0.1 a0.2.1 a0.2.2.1 a0.2.2.2 (([e0] : List (List Int)))).bind fun d0 => (if 0 < (e0.length : Int) then ((vcodec_Encode.f k a0.1 a0.2.1 a0.2.2.1 a0.2.2.2 (([(e0.set (0 : Int).toNat 5)] : List (List Int)))).bind fun b0 => ((vcodec_Decode.f k a0.1 a0.2.1 a0.2.2.1 a0.2.2.2 b0.1 b0.2.1).bind fun c0 => (if d0.2.2 = 0 then (if (d0.1.length : Int) = 1 then (if 0 < (d0.1.length : Int) then (if ((rd_L1 d0.1 0).length : Int) = 0 then (if b0.2.2 = 0 then (if (b0.2.1.length : Int) = 1 then (if 0 < (b0.2.1.length : Int) then (if ((rd_L2 b0.2.1 0).length : Int) = 16 then (if 0 < ((rd_L2 b0.2.1 0).length : Int) then (if (rd (rd_L2 b0.2.1 0) 0) = 5 then (if 0 < (b0.1.length : Int) then (if ((rd_L1 b0.1 0).length : Int) = 6 then (if 0 < ((rd_L1 b0.1 0).length : Int) then (if (rd (rd_L1 b0.1 0) 0) = 0 then (if c0.2 = 0 then (if (c0.1.length : Int) = 1 then (if 0 < (c0.1.length : Int) then (if ((rd_L2 c0.1 0).length : Int) = 16 then (if 0 < ((rd_L2 c0.1 0).length : Int) then (some ((rd (rd_L2 c0.1 0) 0) == 5)) else (none)) else (some false)) else (none)) else (some false)) else (some false)) else (some false)) else (none)) else (some false)) else (none)) else (some false)) else (none)) else (some false)) else (none)) else (some false)) else (some false)) else (some false)) else (none)) else (some false)) else (some false)))) else (none)))) else (none))
theorem psalterylaw22_knows.mono : ∀ k, LeO (psalterylaw22_knows.f k ) (psalterylaw22_knows.f (k + 1) ) := by
  intro  k
  unfold psalterylaw22_knows.f
  with_reducible repeat' first
   | exact vcodec_Decode.mono _ _ _ _ _ _ _
   | exact vcodec_Encode.mono _ _ _ _ _ _
   | exact vhead_Plain.mono _ _ _
   | exact LeO.refl _
   | exact LeO.none _
   | refine LeO.ite ?_ ?_
   | refine LeO.bind ?_ (fun _ => ?_)
set_option maxHeartbeats 8000000 in
set_option maxRecDepth 100000 in
theorem psalterylaw22_knows.callsT (k : Nat)  (r : Bool) (w : World) (h : psalterylaw22_knows.f k  = some r) (hT : r = true) :
    Calls Try.prog 13 #[] w fun e w' => e = .returned (.bool r) ∧ Below w.heap.size w w' := by
 have G6 := Try.underlying24
 have H6 := Try.underlying37
 have I6 := Try.underlying28
 have HB := a_ (Below.refl w.heap.size w)
 have H : ((vhead_Plain.f k 1 0).bind fun S0 => (if 16 ≤ 35184372088832 then ((some (List.replicate 16 0 : List Int)).bind fun D0 => ((vcodec_Encode.f k S0.1 S0.2.1 S0.2.2.1 S0.2.2.2 (([D0] : List (List Int)))).bind fun s1 => (if 0 < (D0.length : Int) then ((vcodec_Encode.f k S0.1 S0.2.1 S0.2.2.1 S0.2.2.2 (([(D0.set (0 : Int).toNat 5)] : List (List Int)))).bind fun T0 => ((vcodec_Decode.f k S0.1 S0.2.1 S0.2.2.1 S0.2.2.2 T0.1 T0.2.1).bind fun e1 => (if s1.2.2 = 0 then (if (s1.1.length : Int) = 1 then (if 0 < (s1.1.length : Int) then (if ((rd_L1 s1.1 0).length : Int) = 0 then (if T0.2.2 = 0 then (if (T0.2.1.length : Int) = 1 then (if 0 < (T0.2.1.length : Int) then (if ((rd_L2 T0.2.1 0).length : Int) = 16 then (if 0 < ((rd_L2 T0.2.1 0).length : Int) then (if (rd (rd_L2 T0.2.1 0) 0) = 5 then (if 0 < (T0.1.length : Int) then (if ((rd_L1 T0.1 0).length : Int) = 6 then (if 0 < ((rd_L1 T0.1 0).length : Int) then (if (rd (rd_L1 T0.1 0) 0) = 0 then (if e1.2 = 0 then (if (e1.1.length : Int) = 1 then (if 0 < (e1.1.length : Int) then (if ((rd_L2 e1.1 0).length : Int) = 16 then (if 0 < ((rd_L2 e1.1 0).length : Int) then (some ((rd (rd_L2 e1.1 0) 0) == 5)) else (none)) else (some false)) else (none)) else (some false)) else (some false)) else (some false)) else (none)) else (some false)) else (none)) else (some false)) else (none)) else (some false)) else (none)) else (some false)) else (some false)) else (some false)) else (none)) else (some false)) else (some false)))) else (none)))) else (none))) = some r := h
 clear h
 have HT := a_ hT
 clear hT
 obtain ⟨⟨M0, N0, e0, f0⟩, A1, H⟩ := ob_ H
 (try dsimp only at H)
 replace H := gt_ H
 obtain ⟨c2, H⟩ := H
 have J6 := eq_true c2
 have K6 : decide (16 ≤ 35184372088832) = true := decide_eq_true c2
 clear c2
 obtain ⟨D0, t1⟩ : ∃ y_ : List Int, y_ = (List.replicate 16 0) := ⟨_, rfl⟩
 first | replace H := by_ H t1 | rw [← t1] at H
 have J2 := a_ t1
 clear t1
 obtain ⟨b1, y1⟩ : ∃ y_ : List (List Int), y_ = (([D0] : List (List Int))) := ⟨_, rfl⟩
 first | replace H := by_ H y1 | rw [← y1] at H
 have K2 := a_ y1
 clear y1
 obtain ⟨⟨l0, p0, C3⟩, A3, H⟩ := ob_ H
 (try dsimp only at H)
 replace H := gt_ H
 obtain ⟨c4, H⟩ := H
 have L6 : decide (0 < (D0.length : Int)) = true := decide_eq_true c4
 have M6 : decide (0 < D0.length) = true := decide_eq_true (by omega)
 clear c4
 obtain ⟨o1, z1⟩ : ∃ y_ : List Int, y_ = (D0.set (0 : Int).toNat 5) := ⟨_, rfl⟩
 first | replace H := by_ H z1 | rw [← z1] at H
 have O2 := a_ z1
 clear z1
 obtain ⟨L0, B1⟩ : ∃ y_ : List (List Int), y_ = (([o1] : List (List Int))) := ⟨_, rfl⟩
 first | replace H := by_ H B1 | rw [← B1] at H
 have L2 := a_ B1
 clear B1
 obtain ⟨⟨q0, s0, D3⟩, A6, H⟩ := ob_ H
 (try dsimp only at H)
 obtain ⟨⟨B0, E3⟩, A7, H⟩ := ob_ H
 (try dsimp only at H)
 replace H := ie_ H
 rcases H with ⟨F3, G3, H⟩ | ⟨c8, F3, G3, H⟩
 {
 replace H := ie_ H
 rcases H with ⟨H3, I3, H⟩ | ⟨c9, H3, I3, H⟩
 {
 replace H := gt_ H
 obtain ⟨q3, H⟩ := H
 have S5 : decide (0 < (l0.length : Int)) = true := decide_eq_true q3
 have T5 : decide (0 < l0.length) = true := decide_eq_true (by omega)
 clear q3
 replace H := ii_ H
 rcases H with ⟨C1, H⟩ | ⟨C1, H⟩
 {
 have P2 : (((rd_L1 l0 0).length : Int) == 0) = true := beq_iff_eq.mpr C1
 have Q2 : (((rd_L1 l0 0).length : Int) != 0) = false := bne_eq_false_iff_eq.mpr C1
 clear C1
 replace H := ie_ H
 rcases H with ⟨R2, S2, H⟩ | ⟨T6, R2, S2, H⟩
 {
 replace H := ie_ H
 rcases H with ⟨T2, U2, H⟩ | ⟨U6, T2, U2, H⟩
 {
 replace H := gt_ H
 obtain ⟨r3, H⟩ := H
 have U5 : decide (0 < (s0.length : Int)) = true := decide_eq_true r3
 have V5 : decide (0 < s0.length) = true := decide_eq_true (by omega)
 clear r3
 replace H := ie_ H
 rcases H with ⟨V2, W2, H⟩ | ⟨V6, V2, W2, H⟩
 {
 replace H := gt_ H
 obtain ⟨s3, H⟩ := H
 have W5 : decide (0 < ((rd_L2 s0 0).length : Int)) = true := decide_eq_true s3
 have X5 : decide (0 < (rd_L2 s0 0).length) = true := decide_eq_true (by omega)
 clear s3
 replace H := ie_ H
 rcases H with ⟨X2, Y2, H⟩ | ⟨W6, X2, Y2, H⟩
 {
 replace H := gt_ H
 obtain ⟨t3, H⟩ := H
 have Y5 : decide (0 < (q0.length : Int)) = true := decide_eq_true t3
 have Z5 : decide (0 < q0.length) = true := decide_eq_true (by omega)
 clear t3
 replace H := ie_ H
 rcases H with ⟨Z2, a3, H⟩ | ⟨X6, Z2, a3, H⟩
 {
 replace H := gt_ H
 obtain ⟨v3, H⟩ := H
 have a6 : decide (0 < ((rd_L1 q0 0).length : Int)) = true := decide_eq_true v3
 have b6 : decide (0 < (rd_L1 q0 0).length) = true := decide_eq_true (by omega)
 clear v3
 replace H := ie_ H
 rcases H with ⟨b3, c3, H⟩ | ⟨Y6, b3, c3, H⟩
 {
 replace H := ie_ H
 rcases H with ⟨d3, e3, H⟩ | ⟨Z6, d3, e3, H⟩
 {
 replace H := ie_ H
 rcases H with ⟨f3, g3, H⟩ | ⟨a7, f3, g3, H⟩
 {
 replace H := gt_ H
 obtain ⟨w3, H⟩ := H
 have c6 : decide (0 < (B0.length : Int)) = true := decide_eq_true w3
 have d6 : decide (0 < B0.length) = true := decide_eq_true (by omega)
 clear w3
 replace H := ie_ H
 rcases H with ⟨h3, i3, H⟩ | ⟨b7, h3, i3, H⟩
 {
 replace H := gt_ H
 obtain ⟨y3, H⟩ := H
 have e6 : decide (0 < ((rd_L2 B0 0).length : Int)) = true := decide_eq_true y3
 have f6 : decide (0 < (rd_L2 B0 0).length) = true := decide_eq_true (by omega)
 clear y3
 obtain rfl := Option.some.inj H
 go_enter Try.func13, Try.ntmps13
 go_wp2_with (first | ((with_reducible refine gate_callee (f := 31) rfl ?_); refine gL_ (some 9) Try.func31 #[.int .i64 1, .int .i64 0] ?_; (with_reducible refine (vhead_Plain.calls k 1 0 M0 N0 e0 f0 _ A1.out).mono ?_); rintro e c7 ⟨N6, O6, rfl, V0, a1, hb⟩; refine ⟨_, rfl, ?_⟩; have b0 := a_ (Kd.R_lower V0 (bs_ HB)); have c0 := a_ (Kd.R_lower a1 (bs_ HB)); replace HB := BS_ HB hb; (try clear hb); (try clear hk); (try clear V0); (try clear a1)) | ((with_reducible refine gate_dst (N := 1) rfl ?_); (try (refine gate_guard (by rfl) ?_; dsimp only)); refine bx_ HB 1 #[.int .i64 0, .int .i64 0, .slice none 0 0, .slice none 0 0] 24 ?_; clear HB; intro g0 hg d7 hb a0 j3 HB; have g6 := j3; replace b0 := FR_ b0 hb; replace c0 := FR_ c0 hb; clear hb hg; obtain ⟨i4, j4, k4, l4, m4, n4, o4, p4⟩ := e4_ a0; obtain ⟨h0, i0, J3⟩ := Kd.R_slice b0.out; subst J3; obtain ⟨j0, k0, K3⟩ := Kd.R_slice c0.out; subst K3) | ((with_reducible refine gate_dst (N := 10) rfl ?_); (try (refine gate_guard (by rfl) ?_; dsimp only)); refine Kd.R_make (Kd.int .i64) _ 2 rfl (N := 10) rfl 53 _ _ rfl 16 rfl rfl Try.underlying53 (.int .i64 0) 8 info2 rfl (by decide) (by omega) 0 (ok := fun _ => True) (okp := fun _ => True) rfl (fun _ hk => hk) trivial (by omega) (by omega) (Below.refl _ _) (Nat.le_refl _) ?_; intro P6 e7 D1 hb hg_ hnew_; clear hg_ hnew_; (first | rw [← J2.out] at D1 | (simp only [Int.reduceToNat] at D1; rw [← J2.out] at D1)); replace b0 := a_ (Kd.R_below (kRk_ b0 a0) hb); replace c0 := a_ (Kd.R_below (kRk_ c0 a0) hb); have z0 := a_ (Kd.R_lower D1 (bs_ HB)); replace a0 := a_ (blk_below (g := g0) (o := .cells #[.int .i64 M0, .int .i64 N0, .slice h0 e0.length i0, .slice j0 f0.length k0] 24 (0, 0)) (bp_ a0) hb); replace HB := BS_ HB hb; clear hb D1; obtain ⟨q4, r4, s4, t4, v4, w4, x4, y4⟩ := e4_ a0; obtain ⟨m1, P0, L3⟩ := Kd.R_slice z0.out; subst L3) | ((with_reducible refine gate_dst (N := 14) rfl ?_); (try (refine gate_guard (by rfl) ?_; dsimp only)); refine Kd.N_lit (Kd.slice 2 (Kd.int .i64)) _ 53 ?hg (N' := 14) ?hd (xs := ([D0] : List (List Int))) (inner := [.slice m1 D0.length P0]) (ok := (fun k_ => some k_ ≠ (.slice h0 e0.length i0 : Value).ownBlock ∧ some k_ ≠ (.slice j0 f0.length k0 : Value).ownBlock ∧ k_ ≠ g0)) (okp := (fun k_ => some k_ ≠ (.slice h0 e0.length i0 : Value).ownBlock ∧ some k_ ≠ (.slice j0 f0.length k0 : Value).ownBlock ∧ k_ ≠ g0)) ?hr ?hp (fun _ hk => hk) (fr_ (P := (fun k_ => some k_ ≠ (.slice h0 e0.length i0 : Value).ownBlock ∧ some k_ ≠ (.slice j0 f0.length k0 : Value).ownBlock ∧ k_ ≠ g0)) (fun k_ hk => ⟨Kd.fresh' (Kd.R_lt (kR_ b0)) k_ hk, Kd.fresh' (Kd.R_lt (kR_ c0)) k_ hk, Kd.freshB (g := g0) (o := .cells #[.int .i64 M0, .int .i64 N0, .slice h0 e0.length i0, .slice j0 f0.length k0] 24 (0, 0)) (bk_ a0) k_ hk⟩)) (Below.refl _ _) (Nat.le_refl _) (by simp) ?_; (case hd => rfl); (case hg => rfl); (case hr => first | (go_simp; done) | (go_simp; rfl)); (case hp => exact (Reps.one (show Kd.FK (Kd.slice 2 (Kd.int .i64)) _ _ D0 [.slice m1 D0.length P0] from (Kd.FK_slice_mk (Kd.R_reads' (Kd.R_mono (ok' := (fun k_ => some k_ ≠ (.slice h0 e0.length i0 : Value).ownBlock ∧ some k_ ≠ (.slice j0 f0.length k0 : Value).ownBlock ∧ k_ ≠ g0)) (Kd.R_types (Kd.R_apart' (Kd.R_apart' (z0.out) (Kd.R_typed b0.out) (by decide)) (Kd.R_typed c0.out) (by decide)) a0.out (by decide)) cj_)).2.1 (Kd.R_F (Kd.R_mono (ok' := (fun k_ => some k_ ≠ (.slice h0 e0.length i0 : Value).ownBlock ∧ some k_ ≠ (.slice j0 f0.length k0 : Value).ownBlock ∧ k_ ≠ g0)) (Kd.R_types (Kd.R_apart' (Kd.R_apart' (z0.out) (Kd.R_typed b0.out) (by decide)) (Kd.R_typed c0.out) (by decide)) a0.out (by decide)) cj_)))) (Reps.none _ _))); intro Q6 f7 E1 hb hg_ hnew_; clear hg_ hnew_; (first | rw [← K2.out] at E1 | (simp only [Int.reduceToNat] at E1; rw [← K2.out] at E1)); replace b0 := FR_ b0 hb; replace c0 := FR_ c0 hb; replace z0 := FR_ z0 hb; have O0 := a_ (Kd.N_lower E1 (bs_ HB)); replace a0 := FB_ a0 hb; replace HB := BS_ HB hb; clear hb E1; obtain ⟨p1, q1, M3⟩ := Kd.N_slice O0.out; subst M3) | ((with_reducible refine gate_callee (f := 15) rfl ?_); refine gL_ (some 16) Try.func15 #[.agg #[.int .i64 M0, .int .i64 N0, .slice h0 e0.length i0, .slice j0 f0.length k0], .agg #[.slice p1 b1.length q1]] ?_; (with_reducible refine (vcodec_Encode.calls k M0 N0 _ _ e0 _ _ f0 _ _ b1 l0 p0 C3 _ ?side1 ?side2 ?side3 ?side4 ?side5 ?side6 A3.out).mono ?_); (case side1 => exact kCt_ (Kd.R_reads' b0.out).2.2); (case side2 => exact (Kd.R_reads' b0.out).2.1); (case side3 => exact kCt_ (Kd.R_reads' c0.out).2.2); (case side4 => exact (Kd.R_reads' c0.out).2.1); (case side5 => repeat (first | exact (Kd.N_reads' O0.out).2.2 | (with_reducible refine Kd.C_alloc ?_ _) | (with_reducible refine Kd.C_drewN ?_ _) | (with_reducible refine Kd.C_drew ?_))); (case side6 => exact (Kd.N_reads' O0.out).2.1); rintro e g7 ⟨N3, O3, rfl, V0, a1, hb⟩; refine ⟨_, rfl, ?_⟩; have o0 := a_ (Kd.N_lower (Kd.N_mono (ok' := fun k_ => some k_ ≠ (O3 : Value).ownBlock ∧ some k_ ≠ (.slice h0 e0.length i0 : Value).ownBlock ∧ some k_ ≠ (.slice j0 f0.length k0 : Value).ownBlock ∧ some k_ ≠ (.slice m1 D0.length P0 : Value).ownBlock ∧ some k_ ≠ (.slice p1 b1.length q1 : Value).ownBlock ∧ k_ ≠ g0) V0 (fun k_ hk_ => ⟨hk_.2, (Kd.fresh' (Kd.R_lt (kR_ b0)) k_ hk_.1), (Kd.fresh' (Kd.R_lt (kR_ c0)) k_ hk_.1), (Kd.fresh' (Kd.R_lt (kR_ z0)) k_ hk_.1), (Kd.fresh' (Kd.N_lt (kN_ O0)) k_ hk_.1), (Kd.freshB (g := g0) (o := .cells #[.int .i64 M0, .int .i64 N0, .slice h0 e0.length i0, .slice j0 f0.length k0] 24 (0, 0)) (bk_ a0) k_ hk_.1)⟩)) (bs_ HB)); have r0 := a_ (Kd.N_lower (Kd.N_mono (ok' := fun k_ => some k_ ≠ (N3 : Value).ownBlock ∧ some k_ ≠ (.slice h0 e0.length i0 : Value).ownBlock ∧ some k_ ≠ (.slice j0 f0.length k0 : Value).ownBlock ∧ some k_ ≠ (.slice m1 D0.length P0 : Value).ownBlock ∧ some k_ ≠ (.slice p1 b1.length q1 : Value).ownBlock ∧ k_ ≠ g0) a1 (fun k_ hk_ => ⟨hk_.2, (Kd.fresh' (Kd.R_lt (kR_ b0)) k_ hk_.1), (Kd.fresh' (Kd.R_lt (kR_ c0)) k_ hk_.1), (Kd.fresh' (Kd.R_lt (kR_ z0)) k_ hk_.1), (Kd.fresh' (Kd.N_lt (kN_ O0)) k_ hk_.1), (Kd.freshB (g := g0) (o := .cells #[.int .i64 M0, .int .i64 N0, .slice h0 e0.length i0, .slice j0 f0.length k0] 24 (0, 0)) (bk_ a0) k_ hk_.1)⟩)) (bs_ HB)); replace b0 := FR_ b0 hb; replace c0 := FR_ c0 hb; replace z0 := FR_ z0 hb; replace O0 := a_ (Kd.N_mono (Kd.N_told (Kd.N_told (Kd.N_old (kN_ O0) hb) (Kd.N_base V0)) (Kd.N_base a1)) (fun _ h_ => h_.1)); replace a0 := FB_ a0 hb; replace HB := BS_ HB hb; (try clear hb); (try clear hk); (try clear V0); (try clear a1)) | ((with_reducible refine gate_dst (N := 3) rfl ?_); (try (refine gate_guard (by rfl) ?_; dsimp only)); refine box_ 3 #[.slice none 0 0, .slice none 0 0] 28 ?_; intro d0 hg B5 hbox hb; replace b0 := FR_ b0 hb; replace c0 := FR_ c0 hb; replace z0 := FR_ z0 hb; replace O0 := a_ (Kd.N_below (Kd.N_elderB (kN_ O0) d0 (Nat.le_of_eq hg.symm)) hb); replace o0 := a_ (Kd.N_below (Kd.N_elderB (kN_ o0) d0 (Nat.le_of_eq hg.symm)) hb); replace r0 := a_ (Kd.N_below (Kd.N_elderB (kN_ r0) d0 (Nat.le_of_eq hg.symm)) hb); have n0 := a_ (hbox); have h6 := GE_ HB hg; have i6 := GE_ HB hg; replace HB := BS_ HB hb; obtain ⟨p2, q2⟩ := NN_ a0 hg; replace a0 := FB_ a0 hb; clear hb hbox hg; obtain ⟨t0, v0, P3⟩ := Kd.N_slice o0.out; subst P3; have j6 := q2.out; have k6 := p2.out; obtain ⟨z4, A4, B4, C4⟩ := e2_ n0; obtain ⟨w0, y0, Q3⟩ := Kd.N_slice r0.out; subst Q3) | ((with_reducible refine gate_store (t := 28) (p := 3) rfl ?_); refine store_event (t := 28) (p := 3) (v := ?vo_w45) (w1 := ((B5.setCell ⟨d0, 0, none⟩ (.slice t0 l0.length v0)).setCell ⟨d0, 1, none⟩ (.slice w0 p0.length y0))) ?hg ?ho ?hn ?hr ?_; (case ho => rfl); (case hg => rfl); (case hn => rfl); (case hr => first | (go_simp; done) | (go_simp; rfl)); intro c1 hw; have n0_ : Aside0 (Kd.R (Kd.int .i64) 3 c1 w.heap.size (fun k_ => some k_ ≠ (.slice j0 f0.length k0 : Value).ownBlock) (.slice h0 e0.length i0) e0) := ⟨(by rw [hw]; exact (kRk_ b0 n0))⟩; have n1_ : Aside0 (Kd.R (Kd.int .i64) 3 c1 w.heap.size (fun k_ => some k_ ≠ (.slice h0 e0.length i0 : Value).ownBlock) (.slice j0 f0.length k0) f0) := ⟨(by rw [hw]; exact (kRk_ c0 n0))⟩; have n2_ : Aside0 (Kd.R (Kd.int .i64) 2 c1 w.heap.size (fun _ => True) (.slice m1 D0.length P0) D0) := ⟨(by rw [hw]; exact (by (with_reducible repeat (first | apply Kd.R_alloc | apply Kd.R_drewN | apply Kd.R_drew)); exact Kd.R_mono (Kd.R_far (p := ⟨d0, 1, none⟩) (Kd.R_far (p := ⟨d0, 0, none⟩) (Kd.R_types z0.out n0.out (by decide)) (fun _ hk => hk.2) (.slice t0 l0.length v0)) (fun _ hk => hk.2) (.slice w0 p0.length y0)) (fun _ hk => trivial)))⟩; have n3_ : Aside0 (Kd.N (Kd.slice 2 (Kd.int .i64)) 53 c1 w.heap.size (fun k_ => some k_ ≠ (.slice h0 e0.length i0 : Value).ownBlock ∧ some k_ ≠ (.slice j0 f0.length k0 : Value).ownBlock ∧ some k_ ≠ (.slice t0 l0.length v0 : Value).ownBlock ∧ some k_ ≠ (.slice w0 p0.length y0 : Value).ownBlock ∧ k_ ≠ g0 ∧ k_ ≠ d0) (.slice p1 b1.length q1) b1) := ⟨(by rw [hw]; exact (by (with_reducible repeat (first | apply Kd.N_alloc | apply Kd.N_drewN | apply Kd.N_drew)); exact Kd.N_mono (Kd.N_far (p := ⟨d0, 1, none⟩) (Kd.N_far (p := ⟨d0, 0, none⟩) (Kd.N_mono O0.out (fun k_ hk => (⟨hk, hk.2⟩ : _ ∧ k_ ≠ d0))) (fun _ hk => hk.2) (.slice t0 l0.length v0)) (fun _ hk => hk.2) (.slice w0 p0.length y0)) cj_))⟩; have n4_ : Aside0 (Kd.N (Kd.slice 3 (Kd.int .i64)) 22 c1 w.heap.size (fun k_ => some k_ ≠ (.slice h0 e0.length i0 : Value).ownBlock ∧ some k_ ≠ (.slice j0 f0.length k0 : Value).ownBlock ∧ some k_ ≠ (.slice m1 D0.length P0 : Value).ownBlock ∧ some k_ ≠ (.slice p1 b1.length q1 : Value).ownBlock ∧ some k_ ≠ (.slice w0 p0.length y0 : Value).ownBlock ∧ k_ ≠ g0 ∧ k_ ≠ d0) (.slice t0 l0.length v0) l0) := ⟨(by rw [hw]; exact (by (with_reducible repeat (first | apply Kd.N_alloc | apply Kd.N_drewN | apply Kd.N_drew)); exact Kd.N_mono (Kd.N_far (p := ⟨d0, 1, none⟩) (Kd.N_far (p := ⟨d0, 0, none⟩) (Kd.N_mono o0.out (fun k_ hk => (⟨hk, hk.2⟩ : _ ∧ k_ ≠ d0))) (fun _ hk => hk.2) (.slice t0 l0.length v0)) (fun _ hk => hk.2) (.slice w0 p0.length y0)) cj_))⟩; have n5_ : Aside0 (Kd.N (Kd.slice 2 (Kd.int .i64)) 53 c1 w.heap.size (fun k_ => some k_ ≠ (.slice h0 e0.length i0 : Value).ownBlock ∧ some k_ ≠ (.slice j0 f0.length k0 : Value).ownBlock ∧ some k_ ≠ (.slice m1 D0.length P0 : Value).ownBlock ∧ some k_ ≠ (.slice p1 b1.length q1 : Value).ownBlock ∧ some k_ ≠ (.slice t0 l0.length v0 : Value).ownBlock ∧ k_ ≠ g0 ∧ k_ ≠ d0) (.slice w0 p0.length y0) p0) := ⟨(by rw [hw]; exact (by (with_reducible repeat (first | apply Kd.N_alloc | apply Kd.N_drewN | apply Kd.N_drew)); exact Kd.N_mono (Kd.N_far (p := ⟨d0, 1, none⟩) (Kd.N_far (p := ⟨d0, 0, none⟩) (Kd.N_mono r0.out (fun k_ hk => (⟨hk, hk.2⟩ : _ ∧ k_ ≠ d0))) (fun _ hk => hk.2) (.slice t0 l0.length v0)) (fun _ hk => hk.2) (.slice w0 p0.length y0)) cj_))⟩; have n6_ : Aside0 (c1.heap[g0]? = some (.cells #[.int .i64 M0, .int .i64 N0, .slice h0 e0.length i0, .slice j0 f0.length k0] 24 (0, 0))) := ⟨(by rw [hw]; exact (bk_ a0))⟩; have n7_ : Aside0 (c1.heap[d0]? = some (.cells #[.slice t0 l0.length v0, .slice w0 p0.length y0] 28 (0, 0))) := ⟨(by rw [hw]; exact (bp_ n0))⟩; have n8_ : Aside0 (Below w.heap.size w c1) := ⟨(by rw [hw]; exact (bl_ HB))⟩; clear hw; clear b0; clear c0; clear z0; clear O0; clear o0; clear r0; clear a0; clear n0; clear HB; have b0 := n0_; have c0 := n1_; have z0 := n2_; have O0 := n3_; have o0 := n4_; have r0 := n5_; have a0 := n6_; have n0 := n7_; have HB := n8_; clear n0_ n1_ n2_ n3_ n4_ n5_ n6_ n7_ n8_; have p5 : 0 ≤ (0 : Int) := (by omega); have q5 : (0 : Int) < ((D0.length : Int) : Int) := dm_; have qi5 : (0 < D0.length) = True := eq_true (by omega); obtain ⟨go5, h7, z3, B3, gl5, cl5, HG5⟩ := Kd.R_form z0.out (by omega); (first | cases z3 | (injection z3 with ea_ en_ ec_; (first | subst ea_ | (injection ea_ with ea_; subst ea_)); subst ec_; clear en_)); have GB5 := a_ B3; have GG5 := a_ HG5; clear B3 gl5 HG5; obtain ⟨M2, hf5_0⟩ := Kd.R_celln 0 z0.out (0 : Int) p5 q5; (try rw [show ((0 : Int)).toNat = 0 from rfl] at M2); (try simp only [Nat.reduceMul, Nat.zero_mul, Nat.zero_add, Nat.reduceAdd] at M2); (try rw [show ((0 : Int)).toNat = 0 from rfl] at hf5_0); (try simp only [Nat.reduceMul, Nat.zero_mul, Nat.zero_add, Nat.reduceAdd] at hf5_0); replace p5 := eq_true p5; replace q5 := eq_true q5; clear O0; obtain ⟨hy46_, hz46_⟩ := Kd.R_celln 0 z0.out (0 : Int) (by omega) (dm_); (try simp only [Int.reduceToNat, Int.toNat_zero, Int.toNat_ofNat, Nat.reduceMul, Nat.zero_mul, Nat.zero_add] at hy46_ hz46_); (try rw [show ((0 : Int)).toNat = 0 from rfl] at hy46_); (try rw [show ((0 : Int)).toNat = 0 from rfl] at hz46_); have HP46 := Kd.R_putg z0.out (0 : Int) 5) | ((with_reducible refine gate_store (t := 2) (p := 20) rfl ?_); refine store_event (t := 2) (p := 20) (v := ?vo_w47) (w1 := (c1.setCell ⟨go5, (0 : Int).toNat, none⟩ (.int .i64 5))) ?hg ?ho ?hn ?hr ?_; (case ho => rfl); (case hg => rfl); (case hn => rfl); (case hr => first | (go_simp; done) | (go_simp; rfl)); intro N2 hw; have hg : c1.grownBy N2 (some go5) := (by rw [hw]; exact HP46.2); have hp_ : Kd.R (Kd.int .i64) 2 N2 w.heap.size (fun _ => True) (.slice (some ⟨go5, 0, none⟩) D0.length P0) o1 := (by rw [hw, O2.out]; exact HP46.1); clear HP46; replace b0 := a_ (Kd.R_over' (v := (.slice (some ⟨go5, 0, none⟩) D0.length P0)) (kR_ b0) (Kd.R_typed z0.out) (by decide) hg); replace c0 := a_ (Kd.R_over' (v := (.slice (some ⟨go5, 0, none⟩) D0.length P0)) (kR_ c0) (Kd.R_typed z0.out) (by decide) hg); replace a0 := (FG_ a0 hg (Kd.R_ne z0.out a0.out (by decide))); replace o0 := a_ (Kd.N_afterv (v := (.slice (some ⟨go5, 0, none⟩) D0.length P0)) (v1 := (.slice (some ⟨go5, 0, none⟩) D0.length P0)) (ok := (fun k_ => some k_ ≠ (.slice h0 e0.length i0 : Value).ownBlock ∧ some k_ ≠ (.slice j0 f0.length k0 : Value).ownBlock ∧ some k_ ≠ (.slice w0 p0.length y0 : Value).ownBlock ∧ k_ ≠ g0 ∧ k_ ≠ d0)) (by (with_reducible repeat (first | apply Kd.N_alloc | apply Kd.N_drewN | apply Kd.N_drew)); exact Kd.N_mono o0.out cj_) hg (.inl rfl)); replace r0 := a_ (Kd.N_afterv (v := (.slice (some ⟨go5, 0, none⟩) D0.length P0)) (v1 := (.slice (some ⟨go5, 0, none⟩) D0.length P0)) (ok := (fun k_ => some k_ ≠ (.slice h0 e0.length i0 : Value).ownBlock ∧ some k_ ≠ (.slice j0 f0.length k0 : Value).ownBlock ∧ some k_ ≠ (.slice t0 l0.length v0 : Value).ownBlock ∧ k_ ≠ g0 ∧ k_ ≠ d0)) (by (with_reducible repeat (first | apply Kd.N_alloc | apply Kd.N_drewN | apply Kd.N_drew)); exact Kd.N_mono r0.out cj_) hg (.inl rfl)); replace n0 := (FG_ n0 hg (Kd.R_ne z0.out n0.out (by decide))); replace z0 := a_ (hp_); replace HB := a_ ((by rw [hw]; exact below_set (HB.out) GB5.out : Below w.heap.size w N2)); clear hg hw hp_; have hl_ := (Kd.R_reads' z0.out).1; rw [hl_] at z0; (try simp only [hl_]); clear hl_; obtain ⟨D4, E4, F4, G4, H4, I4, J4, K4⟩ := e4_ a0) | ((with_reducible refine gate_dst (N := 24) rfl ?_); (try (refine gate_guard (by rfl) ?_; dsimp only)); refine Kd.N_lit (Kd.slice 2 (Kd.int .i64)) _ 53 ?hg (N' := 24) ?hd (xs := ([o1] : List (List Int))) (inner := [.slice (some ⟨go5, 0, none⟩) o1.length P0]) (ok := (fun k_ => some k_ ≠ (.slice h0 e0.length i0 : Value).ownBlock ∧ some k_ ≠ (.slice j0 f0.length k0 : Value).ownBlock ∧ some k_ ≠ (.slice t0 l0.length v0 : Value).ownBlock ∧ some k_ ≠ (.slice w0 p0.length y0 : Value).ownBlock ∧ k_ ≠ g0 ∧ k_ ≠ d0)) (okp := (fun k_ => some k_ ≠ (.slice h0 e0.length i0 : Value).ownBlock ∧ some k_ ≠ (.slice j0 f0.length k0 : Value).ownBlock ∧ some k_ ≠ (.slice t0 l0.length v0 : Value).ownBlock ∧ some k_ ≠ (.slice w0 p0.length y0 : Value).ownBlock ∧ k_ ≠ g0 ∧ k_ ≠ d0)) ?hr ?hp (fun _ hk => hk) (fr_ (P := (fun k_ => some k_ ≠ (.slice h0 e0.length i0 : Value).ownBlock ∧ some k_ ≠ (.slice j0 f0.length k0 : Value).ownBlock ∧ some k_ ≠ (.slice t0 l0.length v0 : Value).ownBlock ∧ some k_ ≠ (.slice w0 p0.length y0 : Value).ownBlock ∧ k_ ≠ g0 ∧ k_ ≠ d0)) (fun k_ hk => ⟨Kd.fresh' (Kd.R_lt (kR_ b0)) k_ hk, Kd.fresh' (Kd.R_lt (kR_ c0)) k_ hk, Kd.fresh' (Kd.N_lt (kN_ o0)) k_ hk, Kd.fresh' (Kd.N_lt (kN_ r0)) k_ hk, Kd.freshB (g := g0) (o := .cells #[.int .i64 M0, .int .i64 N0, .slice h0 e0.length i0, .slice j0 f0.length k0] 24 (0, 0)) (bk_ a0) k_ hk, Kd.freshB (g := d0) (o := .cells #[.slice t0 l0.length v0, .slice w0 p0.length y0] 28 (0, 0)) (bk_ n0) k_ hk⟩)) (Below.refl _ _) (Nat.le_refl _) (by simp) ?_; (case hd => rfl); (case hg => rfl); (case hr => first | (go_simp; done) | (go_simp; rfl)); (case hp => exact (Reps.one (show Kd.FK (Kd.slice 2 (Kd.int .i64)) _ _ o1 [.slice (some ⟨go5, 0, none⟩) o1.length P0] from (Kd.FK_slice_mk (Kd.R_reads' (Kd.R_mono (ok' := (fun k_ => some k_ ≠ (.slice h0 e0.length i0 : Value).ownBlock ∧ some k_ ≠ (.slice j0 f0.length k0 : Value).ownBlock ∧ some k_ ≠ (.slice t0 l0.length v0 : Value).ownBlock ∧ some k_ ≠ (.slice w0 p0.length y0 : Value).ownBlock ∧ k_ ≠ g0 ∧ k_ ≠ d0)) (Kd.R_types (Kd.R_types (Kd.R_apart' (Kd.R_apart' (Kd.R_apart' (Kd.R_apart' (z0.out) (Kd.R_typed b0.out) (by decide)) (Kd.R_typed c0.out) (by decide)) (Kd.N_typed o0.out) (by decide)) (Kd.N_typed r0.out) (by decide)) a0.out (by decide)) n0.out (by decide)) cj_)).2.1 (Kd.R_F (Kd.R_mono (ok' := (fun k_ => some k_ ≠ (.slice h0 e0.length i0 : Value).ownBlock ∧ some k_ ≠ (.slice j0 f0.length k0 : Value).ownBlock ∧ some k_ ≠ (.slice t0 l0.length v0 : Value).ownBlock ∧ some k_ ≠ (.slice w0 p0.length y0 : Value).ownBlock ∧ k_ ≠ g0 ∧ k_ ≠ d0)) (Kd.R_types (Kd.R_types (Kd.R_apart' (Kd.R_apart' (Kd.R_apart' (Kd.R_apart' (z0.out) (Kd.R_typed b0.out) (by decide)) (Kd.R_typed c0.out) (by decide)) (Kd.N_typed o0.out) (by decide)) (Kd.N_typed r0.out) (by decide)) a0.out (by decide)) n0.out (by decide)) cj_)))) (Reps.none _ _))); intro R6 i7 n1 hb hg_ hnew_; clear hg_ hnew_; (first | rw [← L2.out] at n1 | (simp only [Int.reduceToNat] at n1; rw [← L2.out] at n1)); replace b0 := FR_ b0 hb; replace c0 := FR_ c0 hb; replace o0 := a_ (Kd.N_elder' (kN_ o0) (Kd.N_base n1) hb); replace r0 := a_ (Kd.N_elder' (kN_ r0) (Kd.N_base n1) hb); have E0 := a_ (Kd.N_lower n1 (bs_ HB)); replace a0 := FB_ a0 hb; replace n0 := FB_ n0 hb; replace HB := BS_ HB hb; clear z0; clear hb n1; obtain ⟨Q0, R0, R3⟩ := Kd.N_slice E0.out; subst R3) | ((with_reducible refine gate_callee (f := 15) rfl ?_); refine gL_ (some 26) Try.func15 #[.agg #[.int .i64 M0, .int .i64 N0, .slice h0 e0.length i0, .slice j0 f0.length k0], .agg #[.slice Q0 L0.length R0]] ?_; (with_reducible refine (vcodec_Encode.calls k M0 N0 _ _ e0 _ _ f0 _ _ L0 q0 s0 D3 _ ?side1 ?side2 ?side3 ?side4 ?side5 ?side6 A6.out).mono ?_); (case side1 => exact kCt_ (Kd.R_reads' b0.out).2.2); (case side2 => exact (Kd.R_reads' b0.out).2.1); (case side3 => exact kCt_ (Kd.R_reads' c0.out).2.2); (case side4 => exact (Kd.R_reads' c0.out).2.1); (case side5 => repeat (first | exact (Kd.N_reads' E0.out).2.2 | (with_reducible refine Kd.C_alloc ?_ _) | (with_reducible refine Kd.C_drewN ?_ _) | (with_reducible refine Kd.C_drew ?_))); (case side6 => exact (Kd.N_reads' E0.out).2.1); rintro e j7 ⟨S3, T3, rfl, V0, a1, hb⟩; refine ⟨_, rfl, ?_⟩; have C0 := a_ (Kd.N_lower (Kd.N_mono (ok' := fun k_ => some k_ ≠ (T3 : Value).ownBlock ∧ some k_ ≠ (.slice h0 e0.length i0 : Value).ownBlock ∧ some k_ ≠ (.slice j0 f0.length k0 : Value).ownBlock ∧ some k_ ≠ (.slice t0 l0.length v0 : Value).ownBlock ∧ some k_ ≠ (.slice w0 p0.length y0 : Value).ownBlock ∧ some k_ ≠ (.slice Q0 L0.length R0 : Value).ownBlock ∧ k_ ≠ g0 ∧ k_ ≠ d0) V0 (fun k_ hk_ => ⟨hk_.2, (Kd.fresh' (Kd.R_lt (kR_ b0)) k_ hk_.1), (Kd.fresh' (Kd.R_lt (kR_ c0)) k_ hk_.1), (Kd.fresh' (Kd.N_lt (kN_ o0)) k_ hk_.1), (Kd.fresh' (Kd.N_lt (kN_ r0)) k_ hk_.1), (Kd.fresh' (Kd.N_lt (kN_ E0)) k_ hk_.1), (Kd.freshB (g := g0) (o := .cells #[.int .i64 M0, .int .i64 N0, .slice h0 e0.length i0, .slice j0 f0.length k0] 24 (0, 0)) (bk_ a0) k_ hk_.1), (Kd.freshB (g := d0) (o := .cells #[.slice t0 l0.length v0, .slice w0 p0.length y0] 28 (0, 0)) (bk_ n0) k_ hk_.1)⟩)) (bs_ HB)); have F0 := a_ (Kd.N_lower (Kd.N_mono (ok' := fun k_ => some k_ ≠ (S3 : Value).ownBlock ∧ some k_ ≠ (.slice h0 e0.length i0 : Value).ownBlock ∧ some k_ ≠ (.slice j0 f0.length k0 : Value).ownBlock ∧ some k_ ≠ (.slice t0 l0.length v0 : Value).ownBlock ∧ some k_ ≠ (.slice w0 p0.length y0 : Value).ownBlock ∧ some k_ ≠ (.slice Q0 L0.length R0 : Value).ownBlock ∧ k_ ≠ g0 ∧ k_ ≠ d0) a1 (fun k_ hk_ => ⟨hk_.2, (Kd.fresh' (Kd.R_lt (kR_ b0)) k_ hk_.1), (Kd.fresh' (Kd.R_lt (kR_ c0)) k_ hk_.1), (Kd.fresh' (Kd.N_lt (kN_ o0)) k_ hk_.1), (Kd.fresh' (Kd.N_lt (kN_ r0)) k_ hk_.1), (Kd.fresh' (Kd.N_lt (kN_ E0)) k_ hk_.1), (Kd.freshB (g := g0) (o := .cells #[.int .i64 M0, .int .i64 N0, .slice h0 e0.length i0, .slice j0 f0.length k0] 24 (0, 0)) (bk_ a0) k_ hk_.1), (Kd.freshB (g := d0) (o := .cells #[.slice t0 l0.length v0, .slice w0 p0.length y0] 28 (0, 0)) (bk_ n0) k_ hk_.1)⟩)) (bs_ HB)); replace b0 := FR_ b0 hb; replace c0 := FR_ c0 hb; replace o0 := a_ (Kd.N_mono (Kd.N_told (Kd.N_told (Kd.N_old (kN_ o0) hb) (Kd.N_base V0)) (Kd.N_base a1)) (fun _ h_ => h_.1)); replace r0 := a_ (Kd.N_mono (Kd.N_told (Kd.N_told (Kd.N_old (kN_ r0) hb) (Kd.N_base V0)) (Kd.N_base a1)) (fun _ h_ => h_.1)); replace E0 := a_ (Kd.N_mono (Kd.N_told (Kd.N_told (Kd.N_old (kN_ E0) hb) (Kd.N_base V0)) (Kd.N_base a1)) (fun _ h_ => h_.1)); replace a0 := FB_ a0 hb; replace n0 := FB_ n0 hb; replace HB := BS_ HB hb; (try clear hb); (try clear hk); (try clear V0); (try clear a1)) | ((with_reducible refine gate_dst (N := 5) rfl ?_); (try (refine gate_guard (by rfl) ?_; dsimp only)); refine box_ 5 #[.slice none 0 0, .slice none 0 0] 28 ?_; intro m0 hg C5 hbox hb; replace b0 := FR_ b0 hb; replace c0 := FR_ c0 hb; replace o0 := a_ (Kd.N_below (Kd.N_elderB (kN_ o0) m0 (Nat.le_of_eq hg.symm)) hb); replace r0 := a_ (Kd.N_below (Kd.N_elderB (kN_ r0) m0 (Nat.le_of_eq hg.symm)) hb); replace E0 := a_ (Kd.N_below (Kd.N_elderB (kN_ E0) m0 (Nat.le_of_eq hg.symm)) hb); replace C0 := a_ (Kd.N_below (Kd.N_elderB (kN_ C0) m0 (Nat.le_of_eq hg.symm)) hb); replace F0 := a_ (Kd.N_below (Kd.N_elderB (kN_ F0) m0 (Nat.le_of_eq hg.symm)) hb); have I0 := a_ (hbox); have l6 := GE_ HB hg; have m6 := GE_ HB hg; replace HB := BS_ HB hb; obtain ⟨r2, s2⟩ := NN_ a0 hg; replace a0 := FB_ a0 hb; obtain ⟨t2, v2⟩ := NN_ n0 hg; replace n0 := FB_ n0 hb; clear hb hbox hg; obtain ⟨G0, H0, U3⟩ := Kd.N_slice C0.out; subst U3; have n6 := s2.out; have o6 := r2.out; have p6 := v2.out; have q6 := t2.out; obtain ⟨L4, M4, N4, O4⟩ := e2_ I0; obtain ⟨J0, K0, V3⟩ := Kd.N_slice F0.out; subst V3) | ((with_reducible refine gate_store (t := 28) (p := 5) rfl ?_); refine store_event (t := 28) (p := 5) (v := ?vo_w59) (w1 := ((C5.setCell ⟨m0, 0, none⟩ (.slice G0 q0.length H0)).setCell ⟨m0, 1, none⟩ (.slice J0 s0.length K0))) ?hg ?ho ?hn ?hr ?_; (case ho => rfl); (case hg => rfl); (case hn => rfl); (case hr => first | (go_simp; done) | (go_simp; rfl)); intro d1 hw; have n0_ : Aside0 (Kd.R (Kd.int .i64) 3 d1 w.heap.size (fun k_ => some k_ ≠ (.slice j0 f0.length k0 : Value).ownBlock) (.slice h0 e0.length i0) e0) := ⟨(by rw [hw]; exact (kRk_ b0 I0))⟩; have n1_ : Aside0 (Kd.R (Kd.int .i64) 3 d1 w.heap.size (fun k_ => some k_ ≠ (.slice h0 e0.length i0 : Value).ownBlock) (.slice j0 f0.length k0) f0) := ⟨(by rw [hw]; exact (kRk_ c0 I0))⟩; have n2_ : Aside0 (Kd.N (Kd.slice 3 (Kd.int .i64)) 22 d1 w.heap.size (fun k_ => some k_ ≠ (.slice h0 e0.length i0 : Value).ownBlock ∧ some k_ ≠ (.slice j0 f0.length k0 : Value).ownBlock ∧ some k_ ≠ (.slice w0 p0.length y0 : Value).ownBlock ∧ some k_ ≠ (.slice Q0 L0.length R0 : Value).ownBlock ∧ some k_ ≠ (.slice G0 q0.length H0 : Value).ownBlock ∧ some k_ ≠ (.slice J0 s0.length K0 : Value).ownBlock ∧ k_ ≠ g0 ∧ k_ ≠ d0 ∧ k_ ≠ m0) (.slice t0 l0.length v0) l0) := ⟨(by rw [hw]; exact (by (with_reducible repeat (first | apply Kd.N_alloc | apply Kd.N_drewN | apply Kd.N_drew)); exact Kd.N_mono (Kd.N_far (p := ⟨m0, 1, none⟩) (Kd.N_far (p := ⟨m0, 0, none⟩) (Kd.N_mono o0.out (fun k_ hk => (⟨hk, hk.2⟩ : _ ∧ k_ ≠ m0))) (fun _ hk => hk.2) (.slice G0 q0.length H0)) (fun _ hk => hk.2) (.slice J0 s0.length K0)) cj_))⟩; have n3_ : Aside0 (Kd.N (Kd.slice 2 (Kd.int .i64)) 53 d1 w.heap.size (fun k_ => some k_ ≠ (.slice h0 e0.length i0 : Value).ownBlock ∧ some k_ ≠ (.slice j0 f0.length k0 : Value).ownBlock ∧ some k_ ≠ (.slice t0 l0.length v0 : Value).ownBlock ∧ some k_ ≠ (.slice Q0 L0.length R0 : Value).ownBlock ∧ some k_ ≠ (.slice G0 q0.length H0 : Value).ownBlock ∧ some k_ ≠ (.slice J0 s0.length K0 : Value).ownBlock ∧ k_ ≠ g0 ∧ k_ ≠ d0 ∧ k_ ≠ m0) (.slice w0 p0.length y0) p0) := ⟨(by rw [hw]; exact (by (with_reducible repeat (first | apply Kd.N_alloc | apply Kd.N_drewN | apply Kd.N_drew)); exact Kd.N_mono (Kd.N_far (p := ⟨m0, 1, none⟩) (Kd.N_far (p := ⟨m0, 0, none⟩) (Kd.N_mono r0.out (fun k_ hk => (⟨hk, hk.2⟩ : _ ∧ k_ ≠ m0))) (fun _ hk => hk.2) (.slice G0 q0.length H0)) (fun _ hk => hk.2) (.slice J0 s0.length K0)) cj_))⟩; have n4_ : Aside0 (Kd.N (Kd.slice 2 (Kd.int .i64)) 53 d1 w.heap.size (fun k_ => some k_ ≠ (.slice h0 e0.length i0 : Value).ownBlock ∧ some k_ ≠ (.slice j0 f0.length k0 : Value).ownBlock ∧ some k_ ≠ (.slice t0 l0.length v0 : Value).ownBlock ∧ some k_ ≠ (.slice w0 p0.length y0 : Value).ownBlock ∧ some k_ ≠ (.slice G0 q0.length H0 : Value).ownBlock ∧ some k_ ≠ (.slice J0 s0.length K0 : Value).ownBlock ∧ k_ ≠ g0 ∧ k_ ≠ d0 ∧ k_ ≠ m0) (.slice Q0 L0.length R0) L0) := ⟨(by rw [hw]; exact (by (with_reducible repeat (first | apply Kd.N_alloc | apply Kd.N_drewN | apply Kd.N_drew)); exact Kd.N_mono (Kd.N_far (p := ⟨m0, 1, none⟩) (Kd.N_far (p := ⟨m0, 0, none⟩) (Kd.N_mono E0.out (fun k_ hk => (⟨hk, hk.2⟩ : _ ∧ k_ ≠ m0))) (fun _ hk => hk.2) (.slice G0 q0.length H0)) (fun _ hk => hk.2) (.slice J0 s0.length K0)) cj_))⟩; have n5_ : Aside0 (Kd.N (Kd.slice 3 (Kd.int .i64)) 22 d1 w.heap.size (fun k_ => some k_ ≠ (.slice h0 e0.length i0 : Value).ownBlock ∧ some k_ ≠ (.slice j0 f0.length k0 : Value).ownBlock ∧ some k_ ≠ (.slice t0 l0.length v0 : Value).ownBlock ∧ some k_ ≠ (.slice w0 p0.length y0 : Value).ownBlock ∧ some k_ ≠ (.slice Q0 L0.length R0 : Value).ownBlock ∧ some k_ ≠ (.slice J0 s0.length K0 : Value).ownBlock ∧ k_ ≠ g0 ∧ k_ ≠ d0 ∧ k_ ≠ m0) (.slice G0 q0.length H0) q0) := ⟨(by rw [hw]; exact (by (with_reducible repeat (first | apply Kd.N_alloc | apply Kd.N_drewN | apply Kd.N_drew)); exact Kd.N_mono (Kd.N_far (p := ⟨m0, 1, none⟩) (Kd.N_far (p := ⟨m0, 0, none⟩) (Kd.N_mono C0.out (fun k_ hk => (⟨hk, hk.2⟩ : _ ∧ k_ ≠ m0))) (fun _ hk => hk.2) (.slice G0 q0.length H0)) (fun _ hk => hk.2) (.slice J0 s0.length K0)) cj_))⟩; have n6_ : Aside0 (Kd.N (Kd.slice 2 (Kd.int .i64)) 53 d1 w.heap.size (fun k_ => some k_ ≠ (.slice h0 e0.length i0 : Value).ownBlock ∧ some k_ ≠ (.slice j0 f0.length k0 : Value).ownBlock ∧ some k_ ≠ (.slice t0 l0.length v0 : Value).ownBlock ∧ some k_ ≠ (.slice w0 p0.length y0 : Value).ownBlock ∧ some k_ ≠ (.slice Q0 L0.length R0 : Value).ownBlock ∧ some k_ ≠ (.slice G0 q0.length H0 : Value).ownBlock ∧ k_ ≠ g0 ∧ k_ ≠ d0 ∧ k_ ≠ m0) (.slice J0 s0.length K0) s0) := ⟨(by rw [hw]; exact (by (with_reducible repeat (first | apply Kd.N_alloc | apply Kd.N_drewN | apply Kd.N_drew)); exact Kd.N_mono (Kd.N_far (p := ⟨m0, 1, none⟩) (Kd.N_far (p := ⟨m0, 0, none⟩) (Kd.N_mono F0.out (fun k_ hk => (⟨hk, hk.2⟩ : _ ∧ k_ ≠ m0))) (fun _ hk => hk.2) (.slice G0 q0.length H0)) (fun _ hk => hk.2) (.slice J0 s0.length K0)) cj_))⟩; have n7_ : Aside0 (d1.heap[g0]? = some (.cells #[.int .i64 M0, .int .i64 N0, .slice h0 e0.length i0, .slice j0 f0.length k0] 24 (0, 0))) := ⟨(by rw [hw]; exact (bk_ a0))⟩; have n8_ : Aside0 (d1.heap[d0]? = some (.cells #[.slice t0 l0.length v0, .slice w0 p0.length y0] 28 (0, 0))) := ⟨(by rw [hw]; exact (bk_ n0))⟩; have n9_ : Aside0 (d1.heap[m0]? = some (.cells #[.slice G0 q0.length H0, .slice J0 s0.length K0] 28 (0, 0))) := ⟨(by rw [hw]; exact (bp_ I0))⟩; have n10_ : Aside0 (Below w.heap.size w d1) := ⟨(by rw [hw]; exact (bl_ HB))⟩; clear hw; clear b0; clear c0; clear o0; clear r0; clear E0; clear C0; clear F0; clear a0; clear n0; clear I0; clear HB; have b0 := n0_; have c0 := n1_; have o0 := n2_; have r0 := n3_; have E0 := n4_; have C0 := n5_; have F0 := n6_; have a0 := n7_; have n0 := n8_; have I0 := n9_; have HB := n10_; clear n0_ n1_ n2_ n3_ n4_ n5_ n6_ n7_ n8_ n9_ n10_; obtain ⟨P4, Q4, R4, S4, T4, U4, V4, W4⟩ := e4_ a0; obtain ⟨X4, Y4, Z4, a5⟩ := e2_ I0) | ((with_reducible refine gate_callee (f := 14) rfl ?_); refine gL_ (some 32) Try.func14 #[.agg #[.int .i64 M0, .int .i64 N0, .slice h0 e0.length i0, .slice j0 f0.length k0], .agg #[.slice G0 q0.length H0, .slice J0 s0.length K0]] ?_; (with_reducible refine (vcodec_Decode.calls k M0 N0 _ _ e0 _ _ f0 _ _ q0 (fun k_ => (some k_ ≠ (.slice h0 e0.length i0 : Value).ownBlock ∧ (some k_ ≠ (.slice j0 f0.length k0 : Value).ownBlock ∧ (some k_ ≠ (.slice t0 l0.length v0 : Value).ownBlock ∧ (some k_ ≠ (.slice w0 p0.length y0 : Value).ownBlock ∧ (some k_ ≠ (.slice Q0 L0.length R0 : Value).ownBlock ∧ (some k_ ≠ (.slice G0 q0.length H0 : Value).ownBlock ∧ (k_ ≠ g0 ∧ (k_ ≠ d0 ∧ k_ ≠ m0))))))))) _ _ s0 B0 E3 _ ?side1 ?side2 ?side3 ?side4 ?side5 ?side6 ?side7 A7.out).mono ?_); (case side1 => exact kCt_ (Kd.R_reads' b0.out).2.2); (case side2 => exact (Kd.R_reads' b0.out).2.1); (case side3 => exact kCt_ (Kd.R_reads' c0.out).2.2); (case side4 => exact (Kd.R_reads' c0.out).2.1); (case side5 => repeat (first | exact (Kd.N_reads' C0.out).2.2 | (with_reducible refine Kd.C_alloc ?_ _) | (with_reducible refine Kd.C_drewN ?_ _) | (with_reducible refine Kd.C_drew ?_))); (case side6 => exact (Kd.N_reads' C0.out).2.1); (case side7 => exact Kd.N_V (F0.out)); rintro e k7 ⟨S6, rfl, V0, hb⟩; refine ⟨_, rfl, ?_⟩; replace F0 := a_ (Kd.N_elder' (kN_ F0) (Kd.N_base V0) hb); have U0 := a_ (Kd.N_lower (Kd.N_mono (ok' := fun k_ => some k_ ≠ (.slice h0 e0.length i0 : Value).ownBlock ∧ some k_ ≠ (.slice j0 f0.length k0 : Value).ownBlock ∧ some k_ ≠ (.slice t0 l0.length v0 : Value).ownBlock ∧ some k_ ≠ (.slice w0 p0.length y0 : Value).ownBlock ∧ some k_ ≠ (.slice Q0 L0.length R0 : Value).ownBlock ∧ some k_ ≠ (.slice G0 q0.length H0 : Value).ownBlock ∧ k_ ≠ g0 ∧ k_ ≠ d0 ∧ k_ ≠ m0) V0 (fun k_ hk_ => ⟨Or.elim hk_ (fun hs_ => hs_.1) (fun hn_ => (Kd.fresh' (Kd.R_lt (kR_ b0)) k_ hn_)), Or.elim hk_ (fun hs_ => hs_.2.1) (fun hn_ => (Kd.fresh' (Kd.R_lt (kR_ c0)) k_ hn_)), Or.elim hk_ (fun hs_ => hs_.2.2.1) (fun hn_ => (Kd.fresh' (Kd.N_lt (kN_ o0)) k_ hn_)), Or.elim hk_ (fun hs_ => hs_.2.2.2.1) (fun hn_ => (Kd.fresh' (Kd.N_lt (kN_ r0)) k_ hn_)), Or.elim hk_ (fun hs_ => hs_.2.2.2.2.1) (fun hn_ => (Kd.fresh' (Kd.N_lt (kN_ E0)) k_ hn_)), Or.elim hk_ (fun hs_ => hs_.2.2.2.2.2.1) (fun hn_ => (Kd.fresh' (Kd.N_lt (kN_ C0)) k_ hn_)), Or.elim hk_ (fun hs_ => hs_.2.2.2.2.2.2.1) (fun hn_ => (Kd.freshB (g := g0) (o := .cells #[.int .i64 M0, .int .i64 N0, .slice h0 e0.length i0, .slice j0 f0.length k0] 24 (0, 0)) (bk_ a0) k_ hn_)), Or.elim hk_ (fun hs_ => hs_.2.2.2.2.2.2.2.1) (fun hn_ => (Kd.freshB (g := d0) (o := .cells #[.slice t0 l0.length v0, .slice w0 p0.length y0] 28 (0, 0)) (bk_ n0) k_ hn_)), Or.elim hk_ (fun hs_ => hs_.2.2.2.2.2.2.2.2) (fun hn_ => (Kd.freshB (g := m0) (o := .cells #[.slice G0 q0.length H0, .slice J0 s0.length K0] 28 (0, 0)) (bk_ I0) k_ hn_))⟩)) (bs_ HB)); replace b0 := FR_ b0 hb; replace c0 := FR_ c0 hb; replace o0 := a_ (Kd.N_elder' (kN_ o0) (Kd.N_base V0) hb); replace r0 := a_ (Kd.N_elder' (kN_ r0) (Kd.N_base V0) hb); replace E0 := a_ (Kd.N_elder' (kN_ E0) (Kd.N_base V0) hb); replace C0 := a_ (Kd.N_elder' (kN_ C0) (Kd.N_base V0) hb); replace a0 := FB_ a0 hb; replace n0 := FB_ n0 hb; replace I0 := FB_ I0 hb; replace HB := BS_ HB hb; (try clear hb); (try clear hk); (try clear V0)) | ((with_reducible refine gate_dst (N := 7) rfl ?_); (try (refine gate_guard (by rfl) ?_; dsimp only)); refine box_ 7 #[.slice none 0 0] 37 ?_; intro A0 hg D5 hbox hb; replace b0 := FR_ b0 hb; replace c0 := FR_ c0 hb; replace o0 := a_ (Kd.N_below (Kd.N_elderB (kN_ o0) A0 (Nat.le_of_eq hg.symm)) hb); replace r0 := a_ (Kd.N_below (Kd.N_elderB (kN_ r0) A0 (Nat.le_of_eq hg.symm)) hb); replace E0 := a_ (Kd.N_below (Kd.N_elderB (kN_ E0) A0 (Nat.le_of_eq hg.symm)) hb); replace C0 := a_ (Kd.N_below (Kd.N_elderB (kN_ C0) A0 (Nat.le_of_eq hg.symm)) hb); replace F0 := a_ (Kd.N_below (Kd.N_elderB (kN_ F0) A0 (Nat.le_of_eq hg.symm)) hb); replace U0 := a_ (Kd.N_below (Kd.N_elderB (kN_ U0) A0 (Nat.le_of_eq hg.symm)) hb); have Z0 := a_ (hbox); have r6 := GE_ HB hg; have s6 := GE_ HB hg; replace HB := BS_ HB hb; obtain ⟨w2, y2⟩ := NN_ a0 hg; replace a0 := FB_ a0 hb; obtain ⟨z2, A2⟩ := NN_ n0 hg; replace n0 := FB_ n0 hb; obtain ⟨B2, C2⟩ := NN_ I0 hg; replace I0 := FB_ I0 hb; clear hb hbox hg; obtain ⟨W0, X0, W3⟩ := Kd.N_slice U0.out; subst W3; have t6 := y2.out; have v6 := w2.out; have w6 := A2.out; have x6 := z2.out; have y6 := C2.out; have z6 := B2.out; obtain ⟨b5, c5⟩ := e1_ Z0) | ((with_reducible refine gate_store (t := 37) (p := 7) rfl ?_); refine store_event (t := 37) (p := 7) (v := ?vo_w69) (w1 := (D5.setCell ⟨A0, 0, none⟩ (.slice W0 B0.length X0))) ?hg ?ho ?hn ?hr ?_; (case ho => rfl); (case hg => rfl); (case hn => rfl); (case hr => first | (go_simp; done) | (go_simp; rfl)); intro Y0 hw; have n0_ : Aside0 (Kd.R (Kd.int .i64) 3 Y0 w.heap.size (fun k_ => some k_ ≠ (.slice j0 f0.length k0 : Value).ownBlock) (.slice h0 e0.length i0) e0) := ⟨(by rw [hw]; exact (kRk_ b0 Z0))⟩; have n1_ : Aside0 (Kd.R (Kd.int .i64) 3 Y0 w.heap.size (fun k_ => some k_ ≠ (.slice h0 e0.length i0 : Value).ownBlock) (.slice j0 f0.length k0) f0) := ⟨(by rw [hw]; exact (kRk_ c0 Z0))⟩; have n2_ : Aside0 (Kd.N (Kd.slice 3 (Kd.int .i64)) 22 Y0 w.heap.size (fun k_ => some k_ ≠ (.slice h0 e0.length i0 : Value).ownBlock ∧ some k_ ≠ (.slice j0 f0.length k0 : Value).ownBlock ∧ some k_ ≠ (.slice w0 p0.length y0 : Value).ownBlock ∧ some k_ ≠ (.slice Q0 L0.length R0 : Value).ownBlock ∧ some k_ ≠ (.slice G0 q0.length H0 : Value).ownBlock ∧ some k_ ≠ (.slice J0 s0.length K0 : Value).ownBlock ∧ some k_ ≠ (.slice W0 B0.length X0 : Value).ownBlock ∧ k_ ≠ g0 ∧ k_ ≠ d0 ∧ k_ ≠ m0 ∧ k_ ≠ A0) (.slice t0 l0.length v0) l0) := ⟨(by rw [hw]; exact (by (with_reducible repeat (first | apply Kd.N_alloc | apply Kd.N_drewN | apply Kd.N_drew)); exact Kd.N_mono (Kd.N_far (p := ⟨A0, 0, none⟩) (Kd.N_mono o0.out (fun k_ hk => (⟨hk, hk.2⟩ : _ ∧ k_ ≠ A0))) (fun _ hk => hk.2) (.slice W0 B0.length X0)) cj_))⟩; have n3_ : Aside0 (Kd.N (Kd.slice 2 (Kd.int .i64)) 53 Y0 w.heap.size (fun k_ => some k_ ≠ (.slice h0 e0.length i0 : Value).ownBlock ∧ some k_ ≠ (.slice j0 f0.length k0 : Value).ownBlock ∧ some k_ ≠ (.slice t0 l0.length v0 : Value).ownBlock ∧ some k_ ≠ (.slice Q0 L0.length R0 : Value).ownBlock ∧ some k_ ≠ (.slice G0 q0.length H0 : Value).ownBlock ∧ some k_ ≠ (.slice J0 s0.length K0 : Value).ownBlock ∧ some k_ ≠ (.slice W0 B0.length X0 : Value).ownBlock ∧ k_ ≠ g0 ∧ k_ ≠ d0 ∧ k_ ≠ m0 ∧ k_ ≠ A0) (.slice w0 p0.length y0) p0) := ⟨(by rw [hw]; exact (by (with_reducible repeat (first | apply Kd.N_alloc | apply Kd.N_drewN | apply Kd.N_drew)); exact Kd.N_mono (Kd.N_far (p := ⟨A0, 0, none⟩) (Kd.N_mono r0.out (fun k_ hk => (⟨hk, hk.2⟩ : _ ∧ k_ ≠ A0))) (fun _ hk => hk.2) (.slice W0 B0.length X0)) cj_))⟩; have n4_ : Aside0 (Kd.N (Kd.slice 2 (Kd.int .i64)) 53 Y0 w.heap.size (fun k_ => some k_ ≠ (.slice h0 e0.length i0 : Value).ownBlock ∧ some k_ ≠ (.slice j0 f0.length k0 : Value).ownBlock ∧ some k_ ≠ (.slice t0 l0.length v0 : Value).ownBlock ∧ some k_ ≠ (.slice w0 p0.length y0 : Value).ownBlock ∧ some k_ ≠ (.slice G0 q0.length H0 : Value).ownBlock ∧ some k_ ≠ (.slice J0 s0.length K0 : Value).ownBlock ∧ some k_ ≠ (.slice W0 B0.length X0 : Value).ownBlock ∧ k_ ≠ g0 ∧ k_ ≠ d0 ∧ k_ ≠ m0 ∧ k_ ≠ A0) (.slice Q0 L0.length R0) L0) := ⟨(by rw [hw]; exact (by (with_reducible repeat (first | apply Kd.N_alloc | apply Kd.N_drewN | apply Kd.N_drew)); exact Kd.N_mono (Kd.N_far (p := ⟨A0, 0, none⟩) (Kd.N_mono E0.out (fun k_ hk => (⟨hk, hk.2⟩ : _ ∧ k_ ≠ A0))) (fun _ hk => hk.2) (.slice W0 B0.length X0)) cj_))⟩; have n5_ : Aside0 (Kd.N (Kd.slice 3 (Kd.int .i64)) 22 Y0 w.heap.size (fun k_ => some k_ ≠ (.slice h0 e0.length i0 : Value).ownBlock ∧ some k_ ≠ (.slice j0 f0.length k0 : Value).ownBlock ∧ some k_ ≠ (.slice t0 l0.length v0 : Value).ownBlock ∧ some k_ ≠ (.slice w0 p0.length y0 : Value).ownBlock ∧ some k_ ≠ (.slice Q0 L0.length R0 : Value).ownBlock ∧ some k_ ≠ (.slice J0 s0.length K0 : Value).ownBlock ∧ some k_ ≠ (.slice W0 B0.length X0 : Value).ownBlock ∧ k_ ≠ g0 ∧ k_ ≠ d0 ∧ k_ ≠ m0 ∧ k_ ≠ A0) (.slice G0 q0.length H0) q0) := ⟨(by rw [hw]; exact (by (with_reducible repeat (first | apply Kd.N_alloc | apply Kd.N_drewN | apply Kd.N_drew)); exact Kd.N_mono (Kd.N_far (p := ⟨A0, 0, none⟩) (Kd.N_mono C0.out (fun k_ hk => (⟨hk, hk.2⟩ : _ ∧ k_ ≠ A0))) (fun _ hk => hk.2) (.slice W0 B0.length X0)) cj_))⟩; have n6_ : Aside0 (Kd.N (Kd.slice 2 (Kd.int .i64)) 53 Y0 w.heap.size (fun k_ => some k_ ≠ (.slice h0 e0.length i0 : Value).ownBlock ∧ some k_ ≠ (.slice j0 f0.length k0 : Value).ownBlock ∧ some k_ ≠ (.slice t0 l0.length v0 : Value).ownBlock ∧ some k_ ≠ (.slice w0 p0.length y0 : Value).ownBlock ∧ some k_ ≠ (.slice Q0 L0.length R0 : Value).ownBlock ∧ some k_ ≠ (.slice G0 q0.length H0 : Value).ownBlock ∧ some k_ ≠ (.slice W0 B0.length X0 : Value).ownBlock ∧ k_ ≠ g0 ∧ k_ ≠ d0 ∧ k_ ≠ m0 ∧ k_ ≠ A0) (.slice J0 s0.length K0) s0) := ⟨(by rw [hw]; exact (by (with_reducible repeat (first | apply Kd.N_alloc | apply Kd.N_drewN | apply Kd.N_drew)); exact Kd.N_mono (Kd.N_far (p := ⟨A0, 0, none⟩) (Kd.N_mono F0.out (fun k_ hk => (⟨hk, hk.2⟩ : _ ∧ k_ ≠ A0))) (fun _ hk => hk.2) (.slice W0 B0.length X0)) cj_))⟩; have n7_ : Aside0 (Kd.N (Kd.slice 2 (Kd.int .i64)) 53 Y0 w.heap.size (fun k_ => some k_ ≠ (.slice h0 e0.length i0 : Value).ownBlock ∧ some k_ ≠ (.slice j0 f0.length k0 : Value).ownBlock ∧ some k_ ≠ (.slice t0 l0.length v0 : Value).ownBlock ∧ some k_ ≠ (.slice w0 p0.length y0 : Value).ownBlock ∧ some k_ ≠ (.slice Q0 L0.length R0 : Value).ownBlock ∧ some k_ ≠ (.slice G0 q0.length H0 : Value).ownBlock ∧ k_ ≠ g0 ∧ k_ ≠ d0 ∧ k_ ≠ m0 ∧ k_ ≠ A0) (.slice W0 B0.length X0) B0) := ⟨(by rw [hw]; exact (by (with_reducible repeat (first | apply Kd.N_alloc | apply Kd.N_drewN | apply Kd.N_drew)); exact Kd.N_mono (Kd.N_far (p := ⟨A0, 0, none⟩) (Kd.N_mono U0.out (fun k_ hk => (⟨hk, hk.2⟩ : _ ∧ k_ ≠ A0))) (fun _ hk => hk.2) (.slice W0 B0.length X0)) cj_))⟩; have n8_ : Aside0 (Y0.heap[g0]? = some (.cells #[.int .i64 M0, .int .i64 N0, .slice h0 e0.length i0, .slice j0 f0.length k0] 24 (0, 0))) := ⟨(by rw [hw]; exact (bk_ a0))⟩; have n9_ : Aside0 (Y0.heap[d0]? = some (.cells #[.slice t0 l0.length v0, .slice w0 p0.length y0] 28 (0, 0))) := ⟨(by rw [hw]; exact (bk_ n0))⟩; have n10_ : Aside0 (Y0.heap[m0]? = some (.cells #[.slice G0 q0.length H0, .slice J0 s0.length K0] 28 (0, 0))) := ⟨(by rw [hw]; exact (bk_ I0))⟩; have n11_ : Aside0 (Y0.heap[A0]? = some (.cells #[.slice W0 B0.length X0] 37 (0, 0))) := ⟨(by rw [hw]; exact (bp_ Z0))⟩; have n12_ : Aside0 (Below w.heap.size w Y0) := ⟨(by rw [hw]; exact (bl_ HB))⟩; clear hw; clear b0; clear c0; clear o0; clear r0; clear E0; clear C0; clear F0; clear U0; clear a0; clear n0; clear I0; clear Z0; clear HB; have b0 := n0_; have c0 := n1_; have o0 := n2_; have r0 := n3_; have E0 := n4_; have C0 := n5_; have F0 := n6_; have U0 := n7_; have a0 := n8_; have n0 := n9_; have I0 := n10_; have Z0 := n11_; have HB := n12_; clear n0_ n1_ n2_ n3_ n4_ n5_ n6_ n7_ n8_ n9_ n10_ n11_ n12_; obtain ⟨d5, e5, f5, g5⟩ := e2_ n0; have Z1 : 0 ≤ (0 : Int) := (by omega); have a2 : 0 < (l0.length : Int) := dm_; obtain ⟨B6, E5, F5, X3, r1, F1, G1⟩ := at_L1 (Kd.N_reads' o0.out).2.2 0 Z1 a2; cases X3; obtain ⟨ce490, hce490, hMe490, hcc490⟩ := Kd.N_get o0.out [] 0 Z1 (by first | exact a2 | exact dm_ | (have e_ := (Kd.N_reads' o0.out).1; omega)); obtain ⟨ua490_0, uc490_0, rfl, ul490_0, ge490_0⟩ := Kd.FK_slice_open hMe490; have hv490_0 := hcc490 0 _ rfl; rw [Nat.add_zero, show ((Kd.slice 3 (Kd.int .i64))).sz = 1 from rfl, Nat.mul_one] at hv490_0; replace hv490_0 := Option.some.inj (hv490_0.symm.trans r1); injection hv490_0 with hva_ hvn_ hvc_; rw [hva_] at ge490_0; rw [hvc_] at ul490_0; have HL490_0 := a_ (show Kd.V (Kd.int .i64) 3 _ w.heap.size _ _ (rd_L1 l0 0) from Kd.V_mk ul490_0 ge490_0); clear hva_ hvn_ hvc_ ge490_0 ul490_0; clear hcc490 hce490; have qi490 : (0 < l0.length) = True := eq_true (by omega); (try rw [show ((0 : Int)).toNat = 0 from rfl] at r1); (try rw [Addr.add_zero'] at r1); have h5 := a_ G1; have i5 := a_ F1; clear G1 F1; replace Z1 := eq_true Z1; replace a2 := eq_true a2; obtain ⟨j5, k5, l5, m5⟩ := e2_ I0; have b2 : 0 ≤ (0 : Int) := (by omega); have d2 : 0 < (s0.length : Int) := dm_; obtain ⟨k3, G5, H5, Y3, f1, H1, I1⟩ := at_L2 (Kd.N_reads' F0.out).2.2 0 b2 d2; cases Y3; obtain ⟨ce491, hce491, hMe491, hcc491⟩ := Kd.N_get F0.out [] 0 b2 (by first | exact d2 | exact dm_ | (have e_ := (Kd.N_reads' F0.out).1; omega)); obtain ⟨ua491_0, uc491_0, rfl, ul491_0, ge491_0⟩ := Kd.FK_slice_open hMe491; have hv491_0 := hcc491 0 _ rfl; rw [Nat.add_zero, show ((Kd.slice 2 (Kd.int .i64))).sz = 1 from rfl, Nat.mul_one] at hv491_0; replace hv491_0 := Option.some.inj (hv491_0.symm.trans f1); injection hv491_0 with hva_ hvn_ hvc_; rw [hva_] at ge491_0; rw [hvc_] at ul491_0; have HL491_0 := a_ (show Kd.V (Kd.int .i64) 2 _ w.heap.size _ _ (rd_L2 s0 0) from Kd.V_mk ul491_0 ge491_0); clear hva_ hvn_ hvc_ ge491_0 ul491_0; clear hcc491 hce491; have qi491 : (0 < s0.length) = True := eq_true (by omega); (try rw [show ((0 : Int)).toNat = 0 from rfl] at f1); (try rw [Addr.add_zero'] at f1); have n5 := a_ I1; have o5 := a_ H1; clear I1 H1; replace b2 := eq_true b2; replace d2 := eq_true d2; have e2 : 0 ≤ (0 : Int) := (by omega); have f2 : 0 < (s0.length : Int) := dm_; obtain ⟨l3, I5, J5, Z3, h1, J1, K1⟩ := at_L2 (Kd.N_reads' F0.out).2.2 0 e2 f2; obtain rfl : k3 = l3 := (by injection Z3); obtain ⟨ce492, hce492, hMe492, hcc492⟩ := Kd.N_get F0.out [] 0 e2 (by first | exact f2 | exact dm_ | (have e_ := (Kd.N_reads' F0.out).1; omega)); obtain ⟨ua492_0, uc492_0, rfl, ul492_0, ge492_0⟩ := Kd.FK_slice_open hMe492; have hv492_0 := hcc492 0 _ rfl; rw [Nat.add_zero, show ((Kd.slice 2 (Kd.int .i64))).sz = 1 from rfl, Nat.mul_one] at hv492_0; replace hv492_0 := Option.some.inj (hv492_0.symm.trans h1); injection hv492_0 with hva_ hvn_ hvc_; rw [hva_] at ge492_0; rw [hvc_] at ul492_0; have HL492_0 := a_ (show Kd.V (Kd.int .i64) 2 _ w.heap.size _ _ (rd_L2 s0 0) from Kd.V_mk ul492_0 ge492_0); clear hva_ hvn_ hvc_ ge492_0 ul492_0; clear hcc492 hce492; have qi492 : (0 < s0.length) = True := eq_true (by omega); (try rw [show ((0 : Int)).toNat = 0 from rfl] at h1); (try rw [Addr.add_zero'] at h1); have L1 := a_ K1; have r5 := a_ J1; clear K1 J1; replace e2 := eq_true e2; replace f2 := eq_true f2; have ea_ := Option.some.inj (f1.symm.trans h1); injection ea_ with ea_ en_ ec_; subst ea_; subst ec_; clear en_; have D2 : 0 ≤ (0 : Int) := (by omega); have E2 : 0 < ((rd_L2 s0 0).length : Int) := dm_; obtain ⟨C6, a4, M1⟩ := Kd.at_int (by repeat (first | (with_reducible exact L1.out) | (with_reducible refine Kd.C_alloc ?_ _) | (with_reducible refine Kd.C_drewN ?_ _) | (with_reducible refine Kd.C_drew ?_) | exact L1.out)) 0 D2 E2; cases a4; have qi493 : (0 < (rd_L2 s0 0).length) = True := eq_true (by omega); (try rw [show ((0 : Int)).toNat = 0 from rfl] at M1); (try rw [Addr.add_zero'] at M1); replace D2 := eq_true D2; replace E2 := eq_true E2; have g2 : 0 ≤ (0 : Int) := (by omega); have h2 : 0 < (q0.length : Int) := dm_; obtain ⟨m3, K5, L5, b4, i1, N1, O1⟩ := at_L1 (Kd.N_reads' C0.out).2.2 0 g2 h2; cases b4; obtain ⟨ce494, hce494, hMe494, hcc494⟩ := Kd.N_get C0.out [] 0 g2 (by first | exact h2 | exact dm_ | (have e_ := (Kd.N_reads' C0.out).1; omega)); obtain ⟨ua494_0, uc494_0, rfl, ul494_0, ge494_0⟩ := Kd.FK_slice_open hMe494; have hv494_0 := hcc494 0 _ rfl; rw [Nat.add_zero, show ((Kd.slice 3 (Kd.int .i64))).sz = 1 from rfl, Nat.mul_one] at hv494_0; replace hv494_0 := Option.some.inj (hv494_0.symm.trans i1); injection hv494_0 with hva_ hvn_ hvc_; rw [hva_] at ge494_0; rw [hvc_] at ul494_0; have HL494_0 := a_ (show Kd.V (Kd.int .i64) 3 _ w.heap.size _ _ (rd_L1 q0 0) from Kd.V_mk ul494_0 ge494_0); clear hva_ hvn_ hvc_ ge494_0 ul494_0; clear hcc494 hce494; have qi494 : (0 < q0.length) = True := eq_true (by omega); (try rw [show ((0 : Int)).toNat = 0 from rfl] at i1); (try rw [Addr.add_zero'] at i1); have s5 := a_ O1; have t5 := a_ N1; clear O1 N1; replace g2 := eq_true g2; replace h2 := eq_true h2; have i2 : 0 ≤ (0 : Int) := (by omega); have j2 : 0 < (q0.length : Int) := dm_; obtain ⟨n3, M5, N5, d4, j1, P1, Q1⟩ := at_L1 (Kd.N_reads' C0.out).2.2 0 i2 j2; obtain rfl : m3 = n3 := (by injection d4); obtain ⟨ce495, hce495, hMe495, hcc495⟩ := Kd.N_get C0.out [] 0 i2 (by first | exact j2 | exact dm_ | (have e_ := (Kd.N_reads' C0.out).1; omega)); obtain ⟨ua495_0, uc495_0, rfl, ul495_0, ge495_0⟩ := Kd.FK_slice_open hMe495; have hv495_0 := hcc495 0 _ rfl; rw [Nat.add_zero, show ((Kd.slice 3 (Kd.int .i64))).sz = 1 from rfl, Nat.mul_one] at hv495_0; replace hv495_0 := Option.some.inj (hv495_0.symm.trans j1); injection hv495_0 with hva_ hvn_ hvc_; rw [hva_] at ge495_0; rw [hvc_] at ul495_0; have HL495_0 := a_ (show Kd.V (Kd.int .i64) 3 _ w.heap.size _ _ (rd_L1 q0 0) from Kd.V_mk ul495_0 ge495_0); clear hva_ hvn_ hvc_ ge495_0 ul495_0; clear hcc495 hce495; have qi495 : (0 < q0.length) = True := eq_true (by omega); (try rw [show ((0 : Int)).toNat = 0 from rfl] at j1); (try rw [Addr.add_zero'] at j1); have R1 := a_ Q1; have v5 := a_ P1; clear Q1 P1; replace i2 := eq_true i2; replace j2 := eq_true j2; have ea_ := Option.some.inj (i1.symm.trans j1); injection ea_ with ea_ en_ ec_; subst ea_; subst ec_; clear en_; have F2 : 0 ≤ (0 : Int) := (by omega); have G2 : 0 < ((rd_L1 q0 0).length : Int) := dm_; obtain ⟨D6, e4, S1⟩ := Kd.at_int (by repeat (first | (with_reducible exact R1.out) | (with_reducible refine Kd.C_alloc ?_ _) | (with_reducible refine Kd.C_drewN ?_ _) | (with_reducible refine Kd.C_drew ?_) | exact R1.out)) 0 F2 G2; cases e4; have qi496 : (0 < (rd_L1 q0 0).length) = True := eq_true (by omega); (try rw [show ((0 : Int)).toNat = 0 from rfl] at S1); (try rw [Addr.add_zero'] at S1); replace F2 := eq_true F2; replace G2 := eq_true G2; obtain ⟨w5, x5⟩ := e1_ Z0; have k2 : 0 ≤ (0 : Int) := (by omega); have l2 : 0 < (B0.length : Int) := dm_; obtain ⟨o3, O5, P5, f4, k1, T1, U1⟩ := at_L2 (Kd.N_reads' U0.out).2.2 0 k2 l2; cases f4; obtain ⟨ce497, hce497, hMe497, hcc497⟩ := Kd.N_get U0.out [] 0 k2 (by first | exact l2 | exact dm_ | (have e_ := (Kd.N_reads' U0.out).1; omega)); obtain ⟨ua497_0, uc497_0, rfl, ul497_0, ge497_0⟩ := Kd.FK_slice_open hMe497; have hv497_0 := hcc497 0 _ rfl; rw [Nat.add_zero, show ((Kd.slice 2 (Kd.int .i64))).sz = 1 from rfl, Nat.mul_one] at hv497_0; replace hv497_0 := Option.some.inj (hv497_0.symm.trans k1); injection hv497_0 with hva_ hvn_ hvc_; rw [hva_] at ge497_0; rw [hvc_] at ul497_0; have HL497_0 := a_ (show Kd.V (Kd.int .i64) 2 _ w.heap.size _ _ (rd_L2 B0 0) from Kd.V_mk ul497_0 ge497_0); clear hva_ hvn_ hvc_ ge497_0 ul497_0; clear hcc497 hce497; have qi497 : (0 < B0.length) = True := eq_true (by omega); (try rw [show ((0 : Int)).toNat = 0 from rfl] at k1); (try rw [Addr.add_zero'] at k1); have y5 := a_ U1; have z5 := a_ T1; clear U1 T1; replace k2 := eq_true k2; replace l2 := eq_true l2; have m2 : 0 ≤ (0 : Int) := (by omega); have n2 : 0 < (B0.length : Int) := dm_; obtain ⟨p3, Q5, R5, g4, l1, V1, W1⟩ := at_L2 (Kd.N_reads' U0.out).2.2 0 m2 n2; obtain rfl : o3 = p3 := (by injection g4); obtain ⟨ce498, hce498, hMe498, hcc498⟩ := Kd.N_get U0.out [] 0 m2 (by first | exact n2 | exact dm_ | (have e_ := (Kd.N_reads' U0.out).1; omega)); obtain ⟨ua498_0, uc498_0, rfl, ul498_0, ge498_0⟩ := Kd.FK_slice_open hMe498; have hv498_0 := hcc498 0 _ rfl; rw [Nat.add_zero, show ((Kd.slice 2 (Kd.int .i64))).sz = 1 from rfl, Nat.mul_one] at hv498_0; replace hv498_0 := Option.some.inj (hv498_0.symm.trans l1); injection hv498_0 with hva_ hvn_ hvc_; rw [hva_] at ge498_0; rw [hvc_] at ul498_0; have HL498_0 := a_ (show Kd.V (Kd.int .i64) 2 _ w.heap.size _ _ (rd_L2 B0 0) from Kd.V_mk ul498_0 ge498_0); clear hva_ hvn_ hvc_ ge498_0 ul498_0; clear hcc498 hce498; have qi498 : (0 < B0.length) = True := eq_true (by omega); (try rw [show ((0 : Int)).toNat = 0 from rfl] at l1); (try rw [Addr.add_zero'] at l1); have X1 := a_ W1; have A5 := a_ V1; clear W1 V1; replace m2 := eq_true m2; replace n2 := eq_true n2; have ea_ := Option.some.inj (k1.symm.trans l1); injection ea_ with ea_ en_ ec_; subst ea_; subst ec_; clear en_; have H2 : 0 ≤ (0 : Int) := (by omega); have I2 : 0 < ((rd_L2 B0 0).length : Int) := dm_; obtain ⟨E6, h4, Y1⟩ := Kd.at_int (by repeat (first | (with_reducible exact X1.out) | (with_reducible refine Kd.C_alloc ?_ _) | (with_reducible refine Kd.C_drewN ?_ _) | (with_reducible refine Kd.C_drew ?_) | exact X1.out)) 0 H2 I2; cases h4; have qi499 : (0 < (rd_L2 B0 0).length) = True := eq_true (by omega); (try rw [show ((0 : Int)).toNat = 0 from rfl] at Y1); (try rw [Addr.add_zero'] at Y1); replace H2 := eq_true H2; replace I2 := eq_true I2))
 go_ret
 exact ⟨er_, bl_ HB⟩}
 {
 exact absurd ((Option.some.inj H).trans HT.out) (by decide)}}
 {
 exact absurd ((Option.some.inj H).trans HT.out) (by decide)}}
 {
 exact absurd ((Option.some.inj H).trans HT.out) (by decide)}}
 {
 exact absurd ((Option.some.inj H).trans HT.out) (by decide)}}
 {
 exact absurd ((Option.some.inj H).trans HT.out) (by decide)}}
 {
 exact absurd ((Option.some.inj H).trans HT.out) (by decide)}}
 {
 exact absurd ((Option.some.inj H).trans HT.out) (by decide)}}
 {
 exact absurd ((Option.some.inj H).trans HT.out) (by decide)}}
 {
 exact absurd ((Option.some.inj H).trans HT.out) (by decide)}}
 {
 have P2 : (((rd_L1 l0 0).length : Int) == 0) = false := beq_eq_false_iff_ne.mpr C1
 have Q2 : (((rd_L1 l0 0).length : Int) != 0) = true := bne_iff_ne.mpr C1
 have F6 : ¬ ((rd_L1 l0 0) = []) := fun h_ => C1 (by rw [h_]; rfl)
 exact absurd ((Option.some.inj H).trans HT.out) (by decide)}}
 {
 exact absurd ((Option.some.inj H).trans HT.out) (by decide)}}
 {
 exact absurd ((Option.some.inj H).trans HT.out) (by decide)}
theorem psalterylaw22_knows.sure : psalterylaw22_knows.f 2000 = some true := by decide +kernel
theorem psalterylaw22_knows.calls (k : Nat)  (r : Bool) (w : World) (h : psalterylaw22_knows.f k  = some r) :
    Calls Try.prog 13 #[] w fun e w' => e = .returned (.bool r) ∧ Below w.heap.size w w' :=
  psalterylaw22_knows.callsT k r w h (by
    have h1 := at_rounds (g := fun k => psalterylaw22_knows.f k) (fun k => psalterylaw22_knows.mono k) (Nat.le_add_right k 2000) h
    have h2 := at_rounds (g := fun k => psalterylaw22_knows.f k) (fun k => psalterylaw22_knows.mono k) (Nat.le_add_left 2000 k) psalterylaw22_knows.sure
    exact Option.some.inj (h1.symm.trans h2))
def psalteryref07_Same.l0 : Nat → List Int → List Int → Int → Option (Bool)
  | 0, _, _, _ => none
  | k + 1, x0, x1, x5 => if x5 < (x0.length : Int) then (if 0 ≤ x5 then (if x5 < (x1.length : Int) then (if (rd x0 x5) = (rd x1 x5) then (psalteryref07_Same.l0 k x0 x1 (wrap64 (x5 + 1))) else (some false)) else (none)) else (none)) else (some true)
def psalteryref07_Same.f (k : Nat) (l0 : List Int) (l1 : List Int) : Option (Bool) := if (l0.length : Int) = (l1.length : Int) then (psalteryref07_Same.l0 k l0 l1 0) else (some false)
theorem psalteryref07_Same.mono_l : ∀ k, (∀ y0 y1 y2, LeO (psalteryref07_Same.l0 k y0 y1 y2) (psalteryref07_Same.l0 (k + 1) y0 y1 y2))
  | 0 => fun _ _ _ r h => by simp [psalteryref07_Same.l0] at h
  | k + 1 => by
    have a0 := psalteryref07_Same.mono_l k
    · intro y0 y1 y2
      unfold psalteryref07_Same.l0
      with_reducible repeat' first
   | exact a0 _ _ _
   | exact LeO.refl _
   | exact LeO.none _
   | refine LeO.ite ?_ ?_
   | refine LeO.bind ?_ (fun _ => ?_)
theorem psalteryref07_Same.mono : ∀ a0 a1 k, LeO (psalteryref07_Same.f k a0 a1) (psalteryref07_Same.f (k + 1) a0 a1) := by
  intro a0 a1 k
  have b0 := psalteryref07_Same.mono_l k
  unfold psalteryref07_Same.f
  with_reducible repeat' first
   | exact b0 _ _ _
   | exact LeO.refl _
   | exact LeO.none _
   | refine LeO.ite ?_ ?_
   | refine LeO.bind ?_ (fun _ => ?_)
set_option maxHeartbeats 8000000 in
set_option maxRecDepth 100000 in
theorem psalteryref07_Same.calls (k : Nat) (A0 : Option Addr) (c0 : Nat) (l0 : List Int) (A1 : Option Addr) (c1 : Nat) (l1 : List Int) (r : Bool) (w : World) (hr0 : Kd.C (Kd.int .i64) w A0 l0.length l0) (hc0 : l0.length ≤ c0) (hr1 : Kd.C (Kd.int .i64) w A1 l1.length l1) (hc1 : l1.length ≤ c1) (h : psalteryref07_Same.f k l0 l1 = some r) :
    Calls Try.prog 53 #[.slice A0 l0.length c0, .slice A1 l1.length c1] w fun e w' => e = .returned (.bool r) ∧ Drawn0 w w' := by
 have q0 := a_ hr0
 have B0 := a_ hc0
 clear hr0 hc0
 have r0 := a_ hr1
 have C0 := a_ hc1
 clear hr1 hc1
 have H : (if (l0.length : Int) = (l1.length : Int) then (psalteryref07_Same.l0 k l0 l1 0) else (some false)) = some r := h
 clear h
 replace H := ii_ H
 rcases H with ⟨c3, H⟩ | ⟨c3, H⟩
 {
 have k0 : ((l0.length : Int) == (l1.length : Int)) = true := beq_iff_eq.mpr c3
 have m0 : ((l0.length : Int) != (l1.length : Int)) = false := bne_eq_false_iff_eq.mpr c3
 have n0 : (l0.length == l1.length) = true := by first | simpa using c3 | (simp at c3 ⊢; omega)
 clear c3
 have H' := a_ H
 clear H
 go_enter Try.func53, Try.ntmps53
 go_wp2
 repeat (go_quiet (fail); try go_wp2)
 go_loopg [5] k (fun kq v5 w' => ∃ (a0 : Int), v5 = .int .i64 a0 ∧ Aside0 (psalteryref07_Same.l0 kq l0 l1 a0 = some r) ∧ Aside0 (kq ≤ k) ∧ Drawn0 w w')
 case atStart => exact ⟨(0), rs_, H', ⟨Nat.le_refl _⟩, dr_⟩
 case round => (
 clear H'
 try clear c3
 try clear k0
 try clear m0
 try clear n0
 obtain ⟨a0, rfl, HA, s0, ⟨m1, rfl⟩⟩ := hrel
 cases gk with
 | zero => exact absurd HA.out (by simp [psalteryref07_Same.l0])
 | succ k1 => (
 have H := HA.out
 clear HA
 simp only [psalteryref07_Same.l0] at H
 replace H := id_ H
 rcases H with ⟨t0, H⟩ | ⟨t0, H⟩
 {
 replace H := gd_ H
 obtain ⟨y0, H⟩ := H
 replace H := gd_ H
 obtain ⟨z0, H⟩ := H
 replace H := ie_ H
 rcases H with ⟨v0, w0, H⟩ | ⟨c7, v0, w0, H⟩
 {
 have H' := a_ H
 clear H
 have b0 : 0 ≤ (a0 : Int) := dm_
 have d0 : a0 < (l0.length : Int) := dm_
 obtain ⟨o0, g0, i0⟩ := Kd.at_int q0.out a0 b0 d0
 cases g0
 replace b0 := eq_true b0
 replace d0 := eq_true d0
 have e0 : 0 ≤ (a0 : Int) := dm_
 have f0 : a0 < (l1.length : Int) := dm_
 obtain ⟨p0, h0, j0⟩ := Kd.at_int r0.out a0 e0 f0
 cases h0
 replace e0 := eq_true e0
 replace f0 := eq_true f0
 go_wp2
 repeat (go_quiet (fail); try go_wp2)
 go_roundg k1
 case measure => have := s0.out; omega
 case rel => exact ⟨(wrap64 (a0 + 1)), rs_, H', ⟨by have := s0.out; omega⟩, dr_⟩}
 {
 obtain rfl := Option.some.inj H
 have b0 : 0 ≤ (a0 : Int) := dm_
 have d0 : a0 < (l0.length : Int) := dm_
 obtain ⟨o0, g0, i0⟩ := Kd.at_int q0.out a0 b0 d0
 cases g0
 replace b0 := eq_true b0
 replace d0 := eq_true d0
 have e0 : 0 ≤ (a0 : Int) := dm_
 have f0 : a0 < (l1.length : Int) := dm_
 obtain ⟨p0, h0, j0⟩ := Kd.at_int r0.out a0 e0 f0
 cases h0
 replace e0 := eq_true e0
 replace f0 := eq_true f0
 go_wp2
 repeat (go_quiet (fail); try go_wp2)
 go_ret
 exact ⟨es_, dr_⟩}}
 {
 obtain rfl := Option.some.inj H
 go_wp2
 repeat (go_quiet (fail); try go_wp2)
 go_ret
 exact ⟨es_, dr_⟩}))}
 {
 have k0 : ((l0.length : Int) == (l1.length : Int)) = false := beq_eq_false_iff_ne.mpr c3
 have m0 : ((l0.length : Int) != (l1.length : Int)) = true := bne_iff_ne.mpr c3
 have n0 : (l0.length == l1.length) = false := by first | simpa using c3 | (simp at c3 ⊢; omega)
 obtain rfl := Option.some.inj H
 go_enter Try.func53, Try.ntmps53
 go_wp2
 repeat (go_quiet (fail); try go_wp2)
 go_ret
 exact ⟨es_, dr_⟩}
def psalteryref22_Same.l0 : Nat → Int → List (List Int) → List (List Int) → Option (Bool)
  | 0, _, _, _ => none
  | k + 1, x5, a0, b0 => if x5 < (a0.length : Int) then (if 0 ≤ x5 then (if x5 < (b0.length : Int) then ((psalteryref07_Same.f k (rd_L2 a0 x5) (rd_L2 b0 x5)).bind fun c0 => (if c0 = true then (psalteryref22_Same.l0 k (wrap64 (x5 + 1)) a0 b0) else (some false))) else (none)) else (none)) else (some true)
def psalteryref22_Same.f (k : Nat) (a0 : List (List Int)) (b0 : List (List Int)) : Option (Bool) := if (a0.length : Int) = (b0.length : Int) then (psalteryref22_Same.l0 k 0 a0 b0) else (some false)
theorem psalteryref22_Same.mono_l : ∀ k, (∀ y0 y1 y2, LeO (psalteryref22_Same.l0 k y0 y1 y2) (psalteryref22_Same.l0 (k + 1) y0 y1 y2))
  | 0 => fun _ _ _ r h => by simp [psalteryref22_Same.l0] at h
  | k + 1 => by
    have a0 := psalteryref22_Same.mono_l k
    · intro y0 y1 y2
      unfold psalteryref22_Same.l0
      with_reducible repeat' first
   | exact a0 _ _ _
   | exact psalteryref07_Same.mono _ _ _
   | exact LeO.refl _
   | exact LeO.none _
   | refine LeO.ite ?_ ?_
   | refine LeO.bind ?_ (fun _ => ?_)
theorem psalteryref22_Same.mono : ∀ a0 a1 k, LeO (psalteryref22_Same.f k a0 a1) (psalteryref22_Same.f (k + 1) a0 a1) := by
  intro a0 a1 k
  have b0 := psalteryref22_Same.mono_l k
  unfold psalteryref22_Same.f
  with_reducible repeat' first
   | exact b0 _ _ _
   | exact psalteryref07_Same.mono _ _ _
   | exact LeO.refl _
   | exact LeO.none _
   | refine LeO.ite ?_ ?_
   | refine LeO.bind ?_ (fun _ => ?_)
set_option maxHeartbeats 8000000 in
set_option maxRecDepth 100000 in
theorem psalteryref22_Same.calls (k : Nat) (v0 : Option Addr) (w0 : Nat) (d0 : List (List Int)) (y0 : Option Addr) (z0 : Nat) (e0 : List (List Int)) (r : Bool) (w : World) (hr0_0 : Kd.C (Kd.slice 2 (Kd.int .i64)) w v0 d0.length d0) (hc0_0 : d0.length ≤ w0) (hr1_0 : Kd.C (Kd.slice 2 (Kd.int .i64)) w y0 e0.length e0) (hc1_0 : e0.length ≤ z0) (h : psalteryref22_Same.f k d0 e0 = some r) :
    Calls Try.prog 24 #[.agg #[.slice v0 d0.length w0], .agg #[.slice y0 e0.length z0]] w fun e w' => e = .returned (.bool r) ∧ Below w.heap.size w w' := by
 have L1 := Try.underlying37
 have T0 := a_ hr0_0
 have B1 := a_ hc0_0
 clear hr0_0 hc0_0
 have U0 := a_ hr1_0
 have C1 := a_ hc1_0
 clear hr1_0 hc1_0
 have HB := a_ (Below.refl w.heap.size w)
 have H : (if (d0.length : Int) = (e0.length : Int) then (psalteryref22_Same.l0 k 0 d0 e0) else (some false)) = some r := h
 clear h
 replace H := ii_ H
 rcases H with ⟨c3, H⟩ | ⟨c3, H⟩
 {
 have X0 : ((d0.length : Int) == (e0.length : Int)) = true := beq_iff_eq.mpr c3
 have Y0 : ((d0.length : Int) != (e0.length : Int)) = false := bne_eq_false_iff_eq.mpr c3
 have Z0 : (d0.length == e0.length) = true := by first | simpa using c3 | (simp at c3 ⊢; omega)
 clear c3
 have H' := a_ H
 clear H
 go_enter Try.func24, Try.ntmps24
 go_wp2_with (first | ((with_reducible refine gate_dst (N := 2) rfl ?_); refine bx_ HB 2 #[.slice v0 d0.length w0] 37 ?_; clear HB; intro A0 hg w4 hb a0 h0 HB; have G0 := h0; clear hb hg) | ((with_reducible refine gate_dst (N := 3) rfl ?_); refine bx_ HB 3 #[.slice y0 e0.length z0] 37 ?_; clear HB; intro B0 hg w5 hb g0 i0 HB; have H0 := i0; obtain ⟨b0, c0⟩ := NN_ a0 hg; replace a0 := FB_ a0 hb; clear hb hg; have a1 := b0.out; have b1 := c0.out; obtain ⟨I0, J0⟩ := e1_ a0; obtain ⟨K0, L0⟩ := e1_ g0))
 repeat (go_quiet (first | ((with_reducible refine gate_dst (N := 2) rfl ?_); refine bx_ HB 2 #[.slice v0 d0.length w0] 37 ?_; clear HB; intro A0 hg w4 hb a0 h0 HB; have G0 := h0; clear hb hg) | ((with_reducible refine gate_dst (N := 3) rfl ?_); refine bx_ HB 3 #[.slice y0 e0.length z0] 37 ?_; clear HB; intro B0 hg w5 hb g0 i0 HB; have H0 := i0; obtain ⟨b0, c0⟩ := NN_ a0 hg; replace a0 := FB_ a0 hb; clear hb hg; have a1 := b0.out; have b1 := c0.out; obtain ⟨I0, J0⟩ := e1_ a0; obtain ⟨K0, L0⟩ := e1_ g0)); try go_wp2_with (first | ((with_reducible refine gate_dst (N := 2) rfl ?_); refine bx_ HB 2 #[.slice v0 d0.length w0] 37 ?_; clear HB; intro A0 hg w4 hb a0 h0 HB; have G0 := h0; clear hb hg) | ((with_reducible refine gate_dst (N := 3) rfl ?_); refine bx_ HB 3 #[.slice y0 e0.length z0] 37 ?_; clear HB; intro B0 hg w5 hb g0 i0 HB; have H0 := i0; obtain ⟨b0, c0⟩ := NN_ a0 hg; replace a0 := FB_ a0 hb; clear hb hg; have a1 := b0.out; have b1 := c0.out; obtain ⟨I0, J0⟩ := e1_ a0; obtain ⟨K0, L0⟩ := e1_ g0)))
 go_loopg [5] k (fun kq v5 w' => ∃ (f0 : Int), v5 = .int .i64 f0 ∧ Aside0 (psalteryref22_Same.l0 kq f0 d0 e0 = some r) ∧ Aside0 (kq ≤ k) ∧ Aside0 (w'.heap[A0]? = some (.cells #[(.slice v0 d0.length w0)] 37 (0, 0))) ∧ Aside0 (w'.heap[B0]? = some (.cells #[(.slice y0 e0.length z0)] 37 (0, 0))) ∧ Aside0 (Below w.heap.size w w'))
 case atStart => exact ⟨(0), rs_, H', ⟨Nat.le_refl _⟩, ⟨bk_ a0⟩, ⟨bk_ g0⟩, ⟨bl_ HB⟩⟩
 case round => (
 clear H'
 try clear c3
 try clear X0
 try clear Y0
 try clear Z0
 try clear I0 J0
 try clear K0 L0
 obtain ⟨f0, rfl, HA, j1, a0, g0, HB⟩ := hrel
 cases gk with
 | zero => exact absurd HA.out (by simp [psalteryref22_Same.l0])
 | succ k1 => (
 have H := HA.out
 clear HA
 simp only [psalteryref22_Same.l0] at H
 replace H := id_ H
 rcases H with ⟨n1, H⟩ | ⟨n1, H⟩
 {
 replace H := gd_ H
 obtain ⟨D1, H⟩ := H
 replace H := gd_ H
 obtain ⟨E1, H⟩ := H
 obtain ⟨M1, M0, H⟩ := ob_ H
 (try dsimp only at H)
 replace H := ib_ H
 rcases H with ⟨rfl, H⟩ | ⟨rfl, H⟩
 {
 have H' := a_ H
 clear H
 have F1 := b0.out
 have G1 := c0.out
 obtain ⟨o1, p1⟩ := e1_ a0
 have C0 : 0 ≤ (f0 : Int) := dm_
 have D0 : f0 < (d0.length : Int) := dm_
 obtain ⟨h1, c1, d1, R0, o0, p0, q0⟩ := at_L2 T0.out f0 C0 D0
 cases R0
 replace o0 := hc_ HB o0
 have j0 := a_ q0
 have k0 := a_ p0
 clear q0 p0
 replace C0 := eq_true C0
 replace D0 := eq_true D0
 obtain ⟨q1, r1⟩ := e1_ g0
 have E0 : 0 ≤ (f0 : Int) := dm_
 have F0 : f0 < (e0.length : Int) := dm_
 obtain ⟨i1, e1, f1, S0, r0, s0, t0⟩ := at_L2 U0.out f0 E0 F0
 cases S0
 replace r0 := hc_ HB r0
 have m0 := a_ t0
 have n0 := a_ s0
 clear t0 s0
 replace E0 := eq_true E0
 replace F0 := eq_true F0
 go_wp2_with (first | (go_at_call 53; (with_reducible refine (psalteryref07_Same.calls k1 _ _ (rd_L2 d0 f0) _ _ (rd_L2 e0 f0) true _ ?side1 ?side2 ?side3 ?side4 M0.out).mono ?_); (case side1 => exact kC_ j0 HB); (case side2 => exact k0.out); (case side3 => exact kC_ m0 HB); (case side4 => exact n0.out); rintro e w' ⟨rfl, ⟨nd, rfl⟩⟩; (try first | exact ⟨rfl, _, World.drewN_drewN _ _ _⟩ | exact ⟨rfl, _, Eq.trans (World.drewN_drewN _ _ _) (congrArg (World.drewN _) (Nat.add_assoc _ _ _))⟩)))
 repeat (go_quiet (first | (go_at_call 53; (with_reducible refine (psalteryref07_Same.calls k1 _ _ (rd_L2 d0 f0) _ _ (rd_L2 e0 f0) true _ ?side1 ?side2 ?side3 ?side4 M0.out).mono ?_); (case side1 => exact kC_ j0 HB); (case side2 => exact k0.out); (case side3 => exact kC_ m0 HB); (case side4 => exact n0.out); rintro e w' ⟨rfl, ⟨nd, rfl⟩⟩; (try first | exact ⟨rfl, _, World.drewN_drewN _ _ _⟩ | exact ⟨rfl, _, Eq.trans (World.drewN_drewN _ _ _) (congrArg (World.drewN _) (Nat.add_assoc _ _ _))⟩))); try go_wp2_with (first | (go_at_call 53; (with_reducible refine (psalteryref07_Same.calls k1 _ _ (rd_L2 d0 f0) _ _ (rd_L2 e0 f0) true _ ?side1 ?side2 ?side3 ?side4 M0.out).mono ?_); (case side1 => exact kC_ j0 HB); (case side2 => exact k0.out); (case side3 => exact kC_ m0 HB); (case side4 => exact n0.out); rintro e w' ⟨rfl, ⟨nd, rfl⟩⟩; (try first | exact ⟨rfl, _, World.drewN_drewN _ _ _⟩ | exact ⟨rfl, _, Eq.trans (World.drewN_drewN _ _ _) (congrArg (World.drewN _) (Nat.add_assoc _ _ _))⟩))))
 go_roundg k1
 case measure => have := j1.out; omega
 case rel => exact ⟨(wrap64 (f0 + 1)), rs_, H', ⟨by have := j1.out; omega⟩, ⟨bk_ a0⟩, ⟨bk_ g0⟩, ⟨bl_ HB⟩⟩}
 {
 obtain rfl := Option.some.inj H
 have H1 := b0.out
 have I1 := c0.out
 obtain ⟨s1, t1⟩ := e1_ a0
 have C0 : 0 ≤ (f0 : Int) := dm_
 have D0 : f0 < (d0.length : Int) := dm_
 obtain ⟨h1, c1, d1, R0, o0, p0, q0⟩ := at_L2 T0.out f0 C0 D0
 cases R0
 replace o0 := hc_ HB o0
 have j0 := a_ q0
 have k0 := a_ p0
 clear q0 p0
 replace C0 := eq_true C0
 replace D0 := eq_true D0
 obtain ⟨v1, y1⟩ := e1_ g0
 have E0 : 0 ≤ (f0 : Int) := dm_
 have F0 : f0 < (e0.length : Int) := dm_
 obtain ⟨i1, e1, f1, S0, r0, s0, t0⟩ := at_L2 U0.out f0 E0 F0
 cases S0
 replace r0 := hc_ HB r0
 have m0 := a_ t0
 have n0 := a_ s0
 clear t0 s0
 replace E0 := eq_true E0
 replace F0 := eq_true F0
 go_wp2_with (first | (go_at_call 53; (with_reducible refine (psalteryref07_Same.calls k1 _ _ (rd_L2 d0 f0) _ _ (rd_L2 e0 f0) false _ ?side1 ?side2 ?side3 ?side4 M0.out).mono ?_); (case side1 => exact kC_ j0 HB); (case side2 => exact k0.out); (case side3 => exact kC_ m0 HB); (case side4 => exact n0.out); rintro e w' ⟨rfl, ⟨nd, rfl⟩⟩; (try first | exact ⟨rfl, _, World.drewN_drewN _ _ _⟩ | exact ⟨rfl, _, Eq.trans (World.drewN_drewN _ _ _) (congrArg (World.drewN _) (Nat.add_assoc _ _ _))⟩)))
 repeat (go_quiet (first | (go_at_call 53; (with_reducible refine (psalteryref07_Same.calls k1 _ _ (rd_L2 d0 f0) _ _ (rd_L2 e0 f0) false _ ?side1 ?side2 ?side3 ?side4 M0.out).mono ?_); (case side1 => exact kC_ j0 HB); (case side2 => exact k0.out); (case side3 => exact kC_ m0 HB); (case side4 => exact n0.out); rintro e w' ⟨rfl, ⟨nd, rfl⟩⟩; (try first | exact ⟨rfl, _, World.drewN_drewN _ _ _⟩ | exact ⟨rfl, _, Eq.trans (World.drewN_drewN _ _ _) (congrArg (World.drewN _) (Nat.add_assoc _ _ _))⟩))); try go_wp2_with (first | (go_at_call 53; (with_reducible refine (psalteryref07_Same.calls k1 _ _ (rd_L2 d0 f0) _ _ (rd_L2 e0 f0) false _ ?side1 ?side2 ?side3 ?side4 M0.out).mono ?_); (case side1 => exact kC_ j0 HB); (case side2 => exact k0.out); (case side3 => exact kC_ m0 HB); (case side4 => exact n0.out); rintro e w' ⟨rfl, ⟨nd, rfl⟩⟩; (try first | exact ⟨rfl, _, World.drewN_drewN _ _ _⟩ | exact ⟨rfl, _, Eq.trans (World.drewN_drewN _ _ _) (congrArg (World.drewN _) (Nat.add_assoc _ _ _))⟩))))
 go_ret
 exact ⟨er_, bl_ HB⟩}}
 {
 obtain rfl := Option.some.inj H
 have J1 := b0.out
 have K1 := c0.out
 obtain ⟨z1, A1⟩ := e1_ a0
 go_wp2
 repeat (go_quiet (fail); try go_wp2)
 go_ret
 exact ⟨er_, bl_ HB⟩}))}
 {
 have X0 : ((d0.length : Int) == (e0.length : Int)) = false := beq_eq_false_iff_ne.mpr c3
 have Y0 : ((d0.length : Int) != (e0.length : Int)) = true := bne_iff_ne.mpr c3
 have Z0 : (d0.length == e0.length) = false := by first | simpa using c3 | (simp at c3 ⊢; omega)
 obtain rfl := Option.some.inj H
 go_enter Try.func24, Try.ntmps24
 go_wp2_with (first | ((with_reducible refine gate_dst (N := 2) rfl ?_); refine bx_ HB 2 #[.slice v0 d0.length w0] 37 ?_; clear HB; intro A0 hg l1 hb a0 h0 HB; have G0 := h0; clear hb hg) | ((with_reducible refine gate_dst (N := 3) rfl ?_); refine bx_ HB 3 #[.slice y0 e0.length z0] 37 ?_; clear HB; intro B0 hg m1 hb g0 i0 HB; have H0 := i0; obtain ⟨b0, c0⟩ := NN_ a0 hg; replace a0 := FB_ a0 hb; clear hb hg; have V0 := b0.out; have W0 := c0.out; obtain ⟨N0, O0⟩ := e1_ a0; obtain ⟨P0, Q0⟩ := e1_ g0))
 repeat (go_quiet (first | ((with_reducible refine gate_dst (N := 2) rfl ?_); refine bx_ HB 2 #[.slice v0 d0.length w0] 37 ?_; clear HB; intro A0 hg l1 hb a0 h0 HB; have G0 := h0; clear hb hg) | ((with_reducible refine gate_dst (N := 3) rfl ?_); refine bx_ HB 3 #[.slice y0 e0.length z0] 37 ?_; clear HB; intro B0 hg m1 hb g0 i0 HB; have H0 := i0; obtain ⟨b0, c0⟩ := NN_ a0 hg; replace a0 := FB_ a0 hb; clear hb hg; have V0 := b0.out; have W0 := c0.out; obtain ⟨N0, O0⟩ := e1_ a0; obtain ⟨P0, Q0⟩ := e1_ g0)); try go_wp2_with (first | ((with_reducible refine gate_dst (N := 2) rfl ?_); refine bx_ HB 2 #[.slice v0 d0.length w0] 37 ?_; clear HB; intro A0 hg l1 hb a0 h0 HB; have G0 := h0; clear hb hg) | ((with_reducible refine gate_dst (N := 3) rfl ?_); refine bx_ HB 3 #[.slice y0 e0.length z0] 37 ?_; clear HB; intro B0 hg m1 hb g0 i0 HB; have H0 := i0; obtain ⟨b0, c0⟩ := NN_ a0 hg; replace a0 := FB_ a0 hb; clear hb hg; have V0 := b0.out; have W0 := c0.out; obtain ⟨N0, O0⟩ := e1_ a0; obtain ⟨P0, Q0⟩ := e1_ g0)))
 go_ret
 exact ⟨er_, bl_ HB⟩}
def psalteryref03_Sqrt.l0 : Nat → Int → Int → Int → Option (Int)
  | 0, _, _, _ => none
  | k + 1, x0, x3, x4 => if (IntKind.u64.wrap (x4 - x3)) > 1 then (if (IntKind.u64.wrap ((IntKind.u64.wrap (Int.tdiv (IntKind.u64.wrap (x3 + x4)) 2)) * (IntKind.u64.wrap (Int.tdiv (IntKind.u64.wrap (x3 + x4)) 2)))) ≤ x0 then (psalteryref03_Sqrt.l0 k x0 (IntKind.u64.wrap (Int.tdiv (IntKind.u64.wrap (x3 + x4)) 2)) x4) else (psalteryref03_Sqrt.l0 k x0 x3 (IntKind.u64.wrap (Int.tdiv (IntKind.u64.wrap (x3 + x4)) 2)))) else (some x3)
def psalteryref03_Sqrt.f (k : Nat) (a0 : Int) : Option (Int) := psalteryref03_Sqrt.l0 k a0 0 4294967296
theorem psalteryref03_Sqrt.mono_l : ∀ k, (∀ y0 y1 y2, LeO (psalteryref03_Sqrt.l0 k y0 y1 y2) (psalteryref03_Sqrt.l0 (k + 1) y0 y1 y2))
  | 0 => fun _ _ _ r h => by simp [psalteryref03_Sqrt.l0] at h
  | k + 1 => by
    have a0 := psalteryref03_Sqrt.mono_l k
    · intro y0 y1 y2
      unfold psalteryref03_Sqrt.l0
      with_reducible repeat' first
   | exact a0 _ _ _
   | exact LeO.refl _
   | exact LeO.none _
   | refine LeO.ite ?_ ?_
   | refine LeO.bind ?_ (fun _ => ?_)
theorem psalteryref03_Sqrt.mono : ∀ a0 k, LeO (psalteryref03_Sqrt.f k a0) (psalteryref03_Sqrt.f (k + 1) a0) := by
  intro a0 k
  have b0 := psalteryref03_Sqrt.mono_l k
  unfold psalteryref03_Sqrt.f
  with_reducible repeat' first
   | exact b0 _ _ _
   | exact LeO.refl _
   | exact LeO.none _
   | refine LeO.ite ?_ ?_
   | refine LeO.bind ?_ (fun _ => ?_)
set_option maxHeartbeats 8000000 in
set_option maxRecDepth 100000 in
theorem psalteryref03_Sqrt.calls (k : Nat) (a0 : Int) (r : Int) (w : World) (h : psalteryref03_Sqrt.f k a0 = some r) :
    Calls Try.prog 105 #[.int .u64 a0] w fun e w' => e = .returned (.int .u64 r) ∧ Drawn0 w w' := by
 have H : (psalteryref03_Sqrt.l0 k a0 0 4294967296) = some r := h
 clear h
 have H' := a_ H
 clear H
 go_enter Try.func105, Try.ntmps105
 go_wp2
 go_loopg [3, 4] k (fun kq v3 v4 w' => ∃ (b0 : Int) (c0 : Int), v3 = .int .u64 b0 ∧ v4 = .int .u64 c0 ∧ Aside0 (psalteryref03_Sqrt.l0 kq a0 b0 c0 = some r) ∧ Aside0 (kq ≤ k) ∧ Drawn0 w w')
 case atStart => exact ⟨(0), (4294967296), rs_, rs_, H', ⟨Nat.le_refl _⟩, dr_⟩
 case round => (
 clear H'
 obtain ⟨b0, c0, rfl, rfl, HA, d0, ⟨m1, rfl⟩⟩ := hrel
 cases gk with
 | zero => exact absurd HA.out (by simp [psalteryref03_Sqrt.l0])
 | succ k1 => (
 have H := HA.out
 clear HA
 simp only [psalteryref03_Sqrt.l0] at H
 replace H := ii_ H
 rcases H with ⟨c2, H⟩ | ⟨c2, H⟩
 {
 have e0 : decide (1 < (IntKind.u64.wrap (c0 - b0))) = true := decide_eq_true c2
 clear c2
 replace H := id_ H
 rcases H with ⟨f0, H⟩ | ⟨f0, H⟩
 {
 have H' := a_ H
 clear H
 go_wp2
 go_roundg k1
 case measure => have := d0.out; omega
 case rel => exact ⟨(IntKind.u64.wrap (Int.tdiv (IntKind.u64.wrap (b0 + c0)) 2)), (c0), rs_, rs_, H', ⟨by have := d0.out; omega⟩, dr_⟩}
 {
 have H' := a_ H
 clear H
 go_wp2
 go_roundg k1
 case measure => have := d0.out; omega
 case rel => exact ⟨(b0), (IntKind.u64.wrap (Int.tdiv (IntKind.u64.wrap (b0 + c0)) 2)), rs_, rs_, H', ⟨by have := d0.out; omega⟩, dr_⟩}}
 {
 have e0 : decide (1 < (IntKind.u64.wrap (c0 - b0))) = false := decide_eq_false c2
 clear c2
 obtain rfl := Option.some.inj H
 go_wp2
 go_ret
 exact ⟨es_, dr_⟩}))
mutual
def psalteryref10_Value.j0 : Nat → Int → Bool → Option (Int)
  | 0, _, _ => none
  | k + 1, x0, a0 => if a0 = true then (some 0) else (psalteryref10_Value.l0 k x0 1 1)
def psalteryref10_Value.l0 : Nat → Int → Int → Int → Option (Int)
  | 0, _, _, _ => none
  | k + 1, x0, x3, x4 => if x4 < x0 then (psalteryref10_Value.l0 k x0 (IntKind.u64.wrap (x3 * 2)) (wrap64 (x4 + 1))) else ((psalteryref03_Sqrt.f k x3).bind fun a0 => (some (wrap64 (a0))))
end
def psalteryref10_Value.f (k : Nat) (a0 : Int) : Option (Int) := if a0 < 1 then (psalteryref10_Value.j0 k a0 true) else (psalteryref10_Value.j0 k a0 (decide (a0 > 44)))
theorem psalteryref10_Value.mono_l : ∀ k, (∀ y0 y1, LeO (psalteryref10_Value.j0 k y0 y1) (psalteryref10_Value.j0 (k + 1) y0 y1)) ∧ (∀ y0 y1 y2, LeO (psalteryref10_Value.l0 k y0 y1 y2) (psalteryref10_Value.l0 (k + 1) y0 y1 y2))
  | 0 => ⟨fun _ _ r h => by simp [psalteryref10_Value.j0] at h, fun _ _ _ r h => by simp [psalteryref10_Value.l0] at h⟩
  | k + 1 => by
    obtain ⟨a0, b0⟩ := psalteryref10_Value.mono_l k
    refine ⟨?_, ?_⟩
    all_goals (intros; first | unfold psalteryref10_Value.j0 | unfold psalteryref10_Value.l0)
    all_goals with_reducible repeat' first
     | exact a0 _ _
     | exact b0 _ _ _
     | exact psalteryref03_Sqrt.mono _ _
     | exact LeO.refl _
     | exact LeO.none _
     | refine LeO.ite ?_ ?_
     | refine LeO.bind ?_ (fun _ => ?_)
theorem psalteryref10_Value.mono : ∀ a0 k, LeO (psalteryref10_Value.f k a0) (psalteryref10_Value.f (k + 1) a0) := by
  intro a0 k
  obtain ⟨b0, c0⟩ := psalteryref10_Value.mono_l k
  unfold psalteryref10_Value.f
  with_reducible repeat' first
   | exact b0 _ _
   | exact c0 _ _ _
   | exact psalteryref03_Sqrt.mono _ _
   | exact LeO.refl _
   | exact LeO.none _
   | refine LeO.ite ?_ ?_
   | refine LeO.bind ?_ (fun _ => ?_)
set_option maxHeartbeats 8000000 in
set_option maxRecDepth 100000 in
theorem psalteryref10_Value.calls (k : Nat) (a0 : Int) (r : Int) (w : World) (h : psalteryref10_Value.f k a0 = some r) :
    Calls Try.prog 89 #[.int .i64 a0] w fun e w' => e = .returned (.int .i64 r) ∧ Drawn0 w w' := by
 have H : (if a0 < 1 then (psalteryref10_Value.j0 k a0 true) else (psalteryref10_Value.j0 k a0 (decide (a0 > 44)))) = some r := h
 clear h
 have f0 := a_ H
 clear H
 go_enter Try.func89, Try.ntmps89
 go_upto_region 1 with (fail)
 go_cut [10] (fun k0 wc => ∃ (kq : Nat) (d0 : Bool), k0 = .bool d0 ∧ Aside0 (psalteryref10_Value.j0 kq a0 d0 = some r) ∧ Aside0 (kq ≤ k) ∧ Drawn0 w wc)
 case first => (
 have H := f0.out
 clear f0
 replace H := id_ H
 rcases H with ⟨c0, H⟩ | ⟨c0, H⟩
 {
 (first | rw [c0] | (simp only [i64_w, i32_w]; rw [c0]) | skip)
 have H' := a_ H
 clear H
 go_wp2
 go_meet
 case rel => exact ⟨_, (true), rs_, H', ⟨ol_⟩, dr_⟩}
 {
 (first | rw [c0] | (simp only [i64_w, i32_w]; rw [c0]) | skip)
 have H' := a_ H
 clear H
 go_wp2
 go_meet
 case rel => exact ⟨_, (decide (a0 > 44)), rs_, H', ⟨ol_⟩, dr_⟩})
 case rest => (
 clear f0
 obtain ⟨kq, d0, rfl, HA, HJ1, ⟨mc1, rfl⟩⟩ := hcut
 cases kq with
 | zero => exact absurd HA.out (by simp [psalteryref10_Value.j0])
 | succ kj1 => (
 have H := HA.out
 clear HA
 simp only [psalteryref10_Value.j0] at H
 replace H := ib_ H
 rcases H with ⟨rfl, H⟩ | ⟨rfl, H⟩
 {
 obtain rfl := Option.some.inj H
 go_wp2
 go_ret
 exact ⟨es_, dr_⟩}
 {
 have H' := a_ H
 clear H
 go_wp2
 go_loopg [3, 4] kj1 (fun kq v3 v4 w' => ∃ (b0 : Int) (e0 : Int), v3 = .int .u64 b0 ∧ v4 = .int .i64 e0 ∧ Aside0 (psalteryref10_Value.l0 kq a0 b0 e0 = some r) ∧ Aside0 (kq ≤ kj1) ∧ Drawn0 w w')
 case atStart => exact ⟨(1), (1), rs_, rs_, H', ⟨Nat.le_refl _⟩, dr_⟩
 case round => (
 clear H'
 try clear c4
 obtain ⟨b0, e0, rfl, rfl, HA, g0, ⟨m2, rfl⟩⟩ := hrel
 cases gk with
 | zero => exact absurd HA.out (by simp [psalteryref10_Value.l0])
 | succ k2 => (
 have H := HA.out
 clear HA
 simp only [psalteryref10_Value.l0] at H
 replace H := id_ H
 rcases H with ⟨h0, H⟩ | ⟨h0, H⟩
 {
 have H' := a_ H
 clear H
 go_wp2
 go_roundg k2
 case measure => have := HJ1.out; have := g0.out; omega
 case rel => exact ⟨(IntKind.u64.wrap (b0 * 2)), (wrap64 (e0 + 1)), rs_, rs_, H', ⟨by have := HJ1.out; have := g0.out; omega⟩, dr_⟩}
 {
 obtain ⟨i0, A6, H⟩ := ob_ H
 (try dsimp only at H)
 obtain rfl := Option.some.inj H
 go_wp2_with (first | ((with_reducible refine gate_callee (f := 105) rfl ?_); refine gL_ (some 19) Try.func105 #[.int .u64 b0] ?_; (with_reducible refine (psalteryref03_Sqrt.calls k2 b0 i0 _ A6.out).mono ?_); rintro e w' ⟨rfl, ⟨nd, rfl⟩⟩; refine ⟨_, rfl, ?_⟩))
 go_ret
 exact ⟨es_, dr_⟩}))}))
def psalteryref14_At.j0 : Nat → Int → Int → Bool → Option (Int)
  | 0, _, _, _ => none
  | k + 1, x0, x3, x4 => if x4 = true then (some x0) else (if x3 = 3 then (some 4) else (if x3 = 4 then (some 8) else (if x3 = 5 then (some 15) else (some (-1)))))
def psalteryref14_At.f (k : Nat) (a0 : Int) : Option (Int) := if a0 = 0 then (psalteryref14_At.j0 k a0 a0 (a0 == 0)) else (if a0 = 1 then (psalteryref14_At.j0 k a0 a0 (a0 == 1)) else (psalteryref14_At.j0 k a0 a0 (a0 == 2)))
theorem psalteryref14_At.mono_l : ∀ k, (∀ y0 y1 y2, LeO (psalteryref14_At.j0 k y0 y1 y2) (psalteryref14_At.j0 (k + 1) y0 y1 y2))
  | 0 => fun _ _ _ r h => by simp [psalteryref14_At.j0] at h
  | k + 1 => by
    have a0 := psalteryref14_At.mono_l k
    · intro y0 y1 y2
      unfold psalteryref14_At.j0
      with_reducible repeat' first
   | exact a0 _ _ _
   | exact LeO.refl _
   | exact LeO.none _
   | refine LeO.ite ?_ ?_
   | refine LeO.bind ?_ (fun _ => ?_)
theorem psalteryref14_At.mono : ∀ a0 k, LeO (psalteryref14_At.f k a0) (psalteryref14_At.f (k + 1) a0) := by
  intro a0 k
  have b0 := psalteryref14_At.mono_l k
  unfold psalteryref14_At.f
  with_reducible repeat' first
   | exact b0 _ _ _
   | exact LeO.refl _
   | exact LeO.none _
   | refine LeO.ite ?_ ?_
   | refine LeO.bind ?_ (fun _ => ?_)
set_option maxHeartbeats 8000000 in
set_option maxRecDepth 100000 in
theorem psalteryref14_At.calls (k : Nat) (a0 : Int) (r : Int) (w : World) (h : psalteryref14_At.f k a0 = some r) :
    Calls Try.prog 107 #[.int .i64 a0] w fun e w' => e = .returned (.int .i64 r) ∧ Drawn0 w w' := by
 have H : (if a0 = 0 then (psalteryref14_At.j0 k a0 a0 (a0 == 0)) else (if a0 = 1 then (psalteryref14_At.j0 k a0 a0 (a0 == 1)) else (psalteryref14_At.j0 k a0 a0 (a0 == 2)))) = some r := h
 clear h
 have d0 := a_ H
 clear H
 go_enter Try.func107, Try.ntmps107
 go_upto_if 4 with (fail)
 go_cut [4] (fun v4 wc => ∃ (kq : Nat) (c0 : Bool), v4 = .bool c0 ∧ Aside0 (psalteryref14_At.j0 kq a0 a0 c0 = some r) ∧ Aside0 (kq ≤ k) ∧ Drawn0 w wc)
 case first => (
 have H := d0.out
 clear d0
 replace H := ie_ H
 rcases H with ⟨b0, e0, H⟩ | ⟨c3, b0, e0, H⟩
 {
 (first | rw [b0] | (simp only [i64_w, i32_w]; rw [b0]) | skip)
 have H' := a_ H
 clear H
 go_wp2
 go_meet
 case rel => exact ⟨_, ((a0 == 0)), rs_, H', ⟨ol_⟩, dr_⟩}
 {
 (first | rw [b0] | (simp only [i64_w, i32_w]; rw [b0]) | skip)
 replace H := ie_ H
 rcases H with ⟨f0, g0, H⟩ | ⟨c4, f0, g0, H⟩
 {
 have H' := a_ H
 clear H
 go_wp2
 go_meet
 case rel => exact ⟨_, ((a0 == 1)), rs_, H', ⟨ol_⟩, dr_⟩}
 {
 have H' := a_ H
 clear H
 go_wp2
 go_meet
 case rel => exact ⟨_, ((a0 == 2)), rs_, H', ⟨ol_⟩, dr_⟩}})
 case rest => (
 clear d0
 obtain ⟨kq, c0, rfl, HA, HJ1, ⟨mc1, rfl⟩⟩ := hcut
 cases kq with
 | zero => exact absurd HA.out (by simp [psalteryref14_At.j0])
 | succ kj1 => (
 have H := HA.out
 clear HA
 simp only [psalteryref14_At.j0] at H
 replace H := ib_ H
 rcases H with ⟨rfl, H⟩ | ⟨rfl, H⟩
 {
 obtain rfl := Option.some.inj H
 go_wp2
 go_ret
 exact ⟨es_, dr_⟩}
 {
 replace H := ie_ H
 rcases H with ⟨h0, i0, H⟩ | ⟨c6, h0, i0, H⟩
 {
 obtain rfl := Option.some.inj H
 go_wp2
 go_ret
 exact ⟨es_, dr_⟩}
 {
 replace H := ie_ H
 rcases H with ⟨k0, l0, H⟩ | ⟨c7, k0, l0, H⟩
 {
 obtain rfl := Option.some.inj H
 go_wp2
 go_ret
 exact ⟨es_, dr_⟩}
 {
 replace H := ie_ H
 rcases H with ⟨m0, n0, H⟩ | ⟨c8, m0, n0, H⟩
 {
 obtain rfl := Option.some.inj H
 go_wp2
 go_ret
 exact ⟨es_, dr_⟩}
 {
 obtain rfl := Option.some.inj H
 go_wp2
 go_ret
 exact ⟨es_, dr_⟩}}}}))
def psalteryref14_post.l0 : Nat → Int → Int → Int → Option (Int)
  | 0, _, _, _ => none
  | k + 1, x0, x3, x4 => if x4 < 6 then ((psalteryref14_At.f k x4).bind fun a0 => (if a0 ≤ x0 then (psalteryref14_post.l0 k x0 x4 (wrap64 (x4 + 1))) else (psalteryref14_post.l0 k x0 x3 (wrap64 (x4 + 1))))) else (some x3)
def psalteryref14_post.f (k : Nat) (a0 : Int) : Option (Int) := psalteryref14_post.l0 k a0 0 0
theorem psalteryref14_post.mono_l : ∀ k, (∀ y0 y1 y2, LeO (psalteryref14_post.l0 k y0 y1 y2) (psalteryref14_post.l0 (k + 1) y0 y1 y2))
  | 0 => fun _ _ _ r h => by simp [psalteryref14_post.l0] at h
  | k + 1 => by
    have a0 := psalteryref14_post.mono_l k
    · intro y0 y1 y2
      unfold psalteryref14_post.l0
      with_reducible repeat' first
   | exact a0 _ _ _
   | exact psalteryref14_At.mono _ _
   | exact LeO.refl _
   | exact LeO.none _
   | refine LeO.ite ?_ ?_
   | refine LeO.bind ?_ (fun _ => ?_)
theorem psalteryref14_post.mono : ∀ a0 k, LeO (psalteryref14_post.f k a0) (psalteryref14_post.f (k + 1) a0) := by
  intro a0 k
  have b0 := psalteryref14_post.mono_l k
  unfold psalteryref14_post.f
  with_reducible repeat' first
   | exact b0 _ _ _
   | exact psalteryref14_At.mono _ _
   | exact LeO.refl _
   | exact LeO.none _
   | refine LeO.ite ?_ ?_
   | refine LeO.bind ?_ (fun _ => ?_)
set_option maxHeartbeats 8000000 in
set_option maxRecDepth 100000 in
theorem psalteryref14_post.calls (k : Nat) (a0 : Int) (r : Int) (w : World) (h : psalteryref14_post.f k a0 = some r) :
    Calls Try.prog 106 #[.int .i64 a0] w fun e w' => e = .returned (.int .i64 r) ∧ Drawn0 w w' := by
 have H : (psalteryref14_post.l0 k a0 0 0) = some r := h
 clear h
 have H' := a_ H
 clear H
 go_enter Try.func106, Try.ntmps106
 go_wp2
 go_loopg [3, 4] k (fun kq v3 v4 w' => ∃ (c0 : Int) (b0 : Int), v3 = .int .i64 c0 ∧ v4 = .int .i64 b0 ∧ Aside0 (psalteryref14_post.l0 kq a0 c0 b0 = some r) ∧ Aside0 (kq ≤ k) ∧ Drawn0 w w')
 case atStart => exact ⟨(0), (0), rs_, rs_, H', ⟨Nat.le_refl _⟩, dr_⟩
 case round => (
 clear H'
 obtain ⟨c0, b0, rfl, rfl, HA, d0, ⟨m1, rfl⟩⟩ := hrel
 cases gk with
 | zero => exact absurd HA.out (by simp [psalteryref14_post.l0])
 | succ k1 => (
 have H := HA.out
 clear HA
 simp only [psalteryref14_post.l0] at H
 replace H := id_ H
 rcases H with ⟨f0, H⟩ | ⟨f0, H⟩
 {
 obtain ⟨e0, A3, H⟩ := ob_ H
 (try dsimp only at H)
 replace H := id_ H
 rcases H with ⟨g0, H⟩ | ⟨g0, H⟩
 {
 have H' := a_ H
 clear H
 go_wp2_with (first | ((with_reducible refine gate_callee (f := 107) rfl ?_); refine gL_ (some 10) Try.func107 #[.int .i64 b0] ?_; (with_reducible refine (psalteryref14_At.calls k1 b0 e0 _ A3.out).mono ?_); rintro e w' ⟨rfl, ⟨nd, rfl⟩⟩; refine ⟨_, rfl, ?_⟩))
 go_roundg k1
 case measure => have := d0.out; omega
 case rel => exact ⟨(b0), (wrap64 (b0 + 1)), rs_, rs_, H', ⟨by have := d0.out; omega⟩, dr_⟩}
 {
 have H' := a_ H
 clear H
 go_wp2_with (first | ((with_reducible refine gate_callee (f := 107) rfl ?_); refine gL_ (some 10) Try.func107 #[.int .i64 b0] ?_; (with_reducible refine (psalteryref14_At.calls k1 b0 e0 _ A3.out).mono ?_); rintro e w' ⟨rfl, ⟨nd, rfl⟩⟩; refine ⟨_, rfl, ?_⟩))
 go_roundg k1
 case measure => have := d0.out; omega
 case rel => exact ⟨(c0), (wrap64 (b0 + 1)), rs_, rs_, H', ⟨by have := d0.out; omega⟩, dr_⟩}}
 {
 obtain rfl := Option.some.inj H
 go_wp2
 go_ret
 exact ⟨es_, dr_⟩}))
def psalteryref14_Line.f (k : Nat) (l0 : List Int) (a1 : Int) : Option (Int) := (psalteryref14_post.f k a1).bind fun a0 => (if a0 = 5 then (if 5 < (l0.length : Int) then (some (rd l0 5)) else (none)) else (if 0 ≤ (wrap64 (a0 + 1)) then (if (wrap64 (a0 + 1)) < (l0.length : Int) then (if 0 ≤ a0 then (if a0 < (l0.length : Int) then ((psalteryref14_At.f k a0).bind fun b0 => ((psalteryref14_At.f k (wrap64 (a0 + 1))).bind fun c0 => (if (wrap64 ((wrap64 ((rd l0 (wrap64 (a0 + 1))) - (rd l0 a0))) * (wrap64 (a1 - b0)))) < 0 then (if (wrap64 (c0 - b0)) = 0 then (none) else (some (wrap64 ((rd l0 a0) - (wrap64 (Int.tdiv (wrap64 (-(wrap64 ((wrap64 ((rd l0 (wrap64 (a0 + 1))) - (rd l0 a0))) * (wrap64 (a1 - b0)))))) (wrap64 (c0 - b0)))))))) else (if (wrap64 (c0 - b0)) = 0 then (none) else (some (wrap64 ((rd l0 a0) + (wrap64 (Int.tdiv (wrap64 ((wrap64 ((rd l0 (wrap64 (a0 + 1))) - (rd l0 a0))) * (wrap64 (a1 - b0)))) (wrap64 (c0 - b0))))))))))) else (none)) else (none)) else (none)) else (none)))
theorem psalteryref14_Line.mono : ∀ a0 a1 k, LeO (psalteryref14_Line.f k a0 a1) (psalteryref14_Line.f (k + 1) a0 a1) := by
  intro a0 a1 k
  unfold psalteryref14_Line.f
  with_reducible repeat' first
   | exact psalteryref14_At.mono _ _
   | exact psalteryref14_post.mono _ _
   | exact LeO.refl _
   | exact LeO.none _
   | refine LeO.ite ?_ ?_
   | refine LeO.bind ?_ (fun _ => ?_)
set_option maxHeartbeats 8000000 in
set_option maxRecDepth 100000 in
theorem psalteryref14_Line.calls (k : Nat) (A0 : Option Addr) (c0 : Nat) (l0 : List Int) (a1 : Int) (r : Int) (w : World) (hr0 : Kd.C (Kd.int .i64) w A0 l0.length l0) (hc0 : l0.length ≤ c0) (h : psalteryref14_Line.f k l0 a1 = some r) :
    Calls Try.prog 90 #[.slice A0 l0.length c0, .int .i64 a1] w fun e w' => e = .returned (.int .i64 r) ∧ Drawn0 w w' := by
 have k0 := a_ hr0
 have c1 := a_ hc0
 clear hr0 hc0
 have H : ((psalteryref14_post.f k a1).bind fun a0 => (if a0 = 5 then (if 5 < (l0.length : Int) then (some (rd l0 5)) else (none)) else (if 0 ≤ (wrap64 (a0 + 1)) then (if (wrap64 (a0 + 1)) < (l0.length : Int) then (if 0 ≤ a0 then (if a0 < (l0.length : Int) then ((psalteryref14_At.f k a0).bind fun b0 => ((psalteryref14_At.f k (wrap64 (a0 + 1))).bind fun j0 => (if (wrap64 ((wrap64 ((rd l0 (wrap64 (a0 + 1))) - (rd l0 a0))) * (wrap64 (a1 - b0)))) < 0 then (if (wrap64 (j0 - b0)) = 0 then (none) else (some (wrap64 ((rd l0 a0) - (wrap64 (Int.tdiv (wrap64 (-(wrap64 ((wrap64 ((rd l0 (wrap64 (a0 + 1))) - (rd l0 a0))) * (wrap64 (a1 - b0)))))) (wrap64 (j0 - b0)))))))) else (if (wrap64 (j0 - b0)) = 0 then (none) else (some (wrap64 ((rd l0 a0) + (wrap64 (Int.tdiv (wrap64 ((wrap64 ((rd l0 (wrap64 (a0 + 1))) - (rd l0 a0))) * (wrap64 (a1 - b0)))) (wrap64 (j0 - b0))))))))))) else (none)) else (none)) else (none)) else (none)))) = some r := h
 clear h
 obtain ⟨a0, A3, H⟩ := ob_ H
 (try dsimp only at H)
 replace H := ie_ H
 rcases H with ⟨P0, Q0, H⟩ | ⟨c4, P0, Q0, H⟩
 {
 replace H := gt_ H
 obtain ⟨c5, H⟩ := H
 have W0 : decide (5 < (l0.length : Int)) = true := decide_eq_true c5
 have X0 : decide (5 < l0.length) = true := decide_eq_true (by omega)
 clear c5
 obtain rfl := Option.some.inj H
 go_enter Try.func90, Try.ntmps90
 go_wp2_with (first | (go_at_call 106; (with_reducible refine (psalteryref14_post.calls k a1 a0 _ A3.out).mono ?_); rintro e w' ⟨rfl, ⟨nd, rfl⟩⟩; (try first | exact ⟨rfl, _, World.drewN_drewN _ _ _⟩ | exact ⟨rfl, _, Eq.trans (World.drewN_drewN _ _ _) (congrArg (World.drewN _) (Nat.add_assoc _ _ _))⟩); have o0 : 0 ≤ (5 : Int) := (by omega); have p0 : 5 < (l0.length : Int) := dm_; obtain ⟨L0, E0, m0⟩ := Kd.at_int k0.out 5 o0 p0; cases E0; (try simp only [show (5 : Int).toNat = 5 from rfl, Nat.reduceMul, Nat.reduceEqDiff, Go.Addr.add, ↓reduceIte] at m0); have qi754 : (5 < l0.length) = True := eq_true (by omega); (try rw [show ((5 : Int)).toNat = 5 from rfl] at m0); replace o0 := eq_true o0; replace p0 := eq_true p0))
 repeat (go_quiet (first | (go_at_call 106; (with_reducible refine (psalteryref14_post.calls k a1 a0 _ A3.out).mono ?_); rintro e w' ⟨rfl, ⟨nd, rfl⟩⟩; (try first | exact ⟨rfl, _, World.drewN_drewN _ _ _⟩ | exact ⟨rfl, _, Eq.trans (World.drewN_drewN _ _ _) (congrArg (World.drewN _) (Nat.add_assoc _ _ _))⟩); have o0 : 0 ≤ (5 : Int) := (by omega); have p0 : 5 < (l0.length : Int) := dm_; obtain ⟨L0, E0, m0⟩ := Kd.at_int k0.out 5 o0 p0; cases E0; (try simp only [show (5 : Int).toNat = 5 from rfl, Nat.reduceMul, Nat.reduceEqDiff, Go.Addr.add, ↓reduceIte] at m0); have qi754 : (5 < l0.length) = True := eq_true (by omega); (try rw [show ((5 : Int)).toNat = 5 from rfl] at m0); replace o0 := eq_true o0; replace p0 := eq_true p0)); try go_wp2_with (first | (go_at_call 106; (with_reducible refine (psalteryref14_post.calls k a1 a0 _ A3.out).mono ?_); rintro e w' ⟨rfl, ⟨nd, rfl⟩⟩; (try first | exact ⟨rfl, _, World.drewN_drewN _ _ _⟩ | exact ⟨rfl, _, Eq.trans (World.drewN_drewN _ _ _) (congrArg (World.drewN _) (Nat.add_assoc _ _ _))⟩); have o0 : 0 ≤ (5 : Int) := (by omega); have p0 : 5 < (l0.length : Int) := dm_; obtain ⟨L0, E0, m0⟩ := Kd.at_int k0.out 5 o0 p0; cases E0; (try simp only [show (5 : Int).toNat = 5 from rfl, Nat.reduceMul, Nat.reduceEqDiff, Go.Addr.add, ↓reduceIte] at m0); have qi754 : (5 < l0.length) = True := eq_true (by omega); (try rw [show ((5 : Int)).toNat = 5 from rfl] at m0); replace o0 := eq_true o0; replace p0 := eq_true p0)))
 go_ret
 exact ⟨es_, dr_⟩}
 {
 obtain ⟨d0, D0⟩ : ∃ j_ : Int, (wrap64 (a0 + 1)) = j_ := ⟨_, rfl⟩
 replace H : (if 0 ≤ (d0) then (if (d0) < (l0.length : Int) then (if 0 ≤ a0 then (if a0 < (l0.length : Int) then ((psalteryref14_At.f k a0).bind fun b0 => ((psalteryref14_At.f k (d0)).bind fun j0 => (if (wrap64 ((wrap64 ((rd l0 (d0)) - (rd l0 a0))) * (wrap64 (a1 - b0)))) < 0 then (if (wrap64 (j0 - b0)) = 0 then (none) else (some (wrap64 ((rd l0 a0) - (wrap64 (Int.tdiv (wrap64 (-(wrap64 ((wrap64 ((rd l0 (d0)) - (rd l0 a0))) * (wrap64 (a1 - b0)))))) (wrap64 (j0 - b0)))))))) else (if (wrap64 (j0 - b0)) = 0 then (none) else (some (wrap64 ((rd l0 a0) + (wrap64 (Int.tdiv (wrap64 ((wrap64 ((rd l0 (d0)) - (rd l0 a0))) * (wrap64 (a1 - b0)))) (wrap64 (j0 - b0))))))))))) else (none)) else (none)) else (none)) else (none)) = some r := by first | (rw [D0] at H; exact H) | (simp only [D0] at H ⊢; exact H)
 (try rw [D0] at A3)
 have hji6w : (IntKind.i64.wrap (a0 + 1)) = d0 := (i64_w _).trans D0
 replace H := gd_ H
 obtain ⟨Y0, H⟩ := H
 replace H := gd_ H
 obtain ⟨Z0, H⟩ := H
 replace H := gd_ H
 obtain ⟨b1, H⟩ := H
 replace H := gd_ H
 obtain ⟨R0, H⟩ := H
 obtain ⟨b0, H0, H⟩ := ob_ H
 (try dsimp only at H)
 obtain ⟨j0, I0, H⟩ := ob_ H
 (try dsimp only at H)
 replace H := id_ H
 rcases H with ⟨O0, H⟩ | ⟨O0, H⟩
 {
 replace H := ii_ H
 rcases H with ⟨M0, H⟩ | ⟨M0, H⟩
 {
 exact absurd H (by simp)}
 {
 have S0 : ((wrap64 (j0 - b0)) == 0) = false := beq_eq_false_iff_ne.mpr M0
 have T0 : ((wrap64 (j0 - b0)) != 0) = true := bne_iff_ne.mpr M0
 obtain rfl := Option.some.inj H
 go_enter Try.func90, Try.ntmps90
 go_wp2_with (first | (go_at_call 106; (with_reducible refine (psalteryref14_post.calls k a1 a0 _ A3.out).mono ?_); rintro e w' ⟨rfl, ⟨nd, rfl⟩⟩; (try first | exact ⟨rfl, _, World.drewN_drewN _ _ _⟩ | exact ⟨rfl, _, Eq.trans (World.drewN_drewN _ _ _) (congrArg (World.drewN _) (Nat.add_assoc _ _ _))⟩); have e0 : 0 ≤ ((d0) : Int) := dm_; have f0 : (d0) < (l0.length : Int) := dm_; obtain ⟨i0, q0, y0⟩ := Kd.at_int k0.out (d0) e0 f0; cases q0; replace e0 := eq_true e0; replace f0 := eq_true f0; have g0 : 0 ≤ (a0 : Int) := dm_; have h0 : a0 < (l0.length : Int) := dm_; obtain ⟨n0, r0, z0⟩ := Kd.at_int k0.out a0 g0 h0; obtain rfl : i0 = n0 := (by injection r0); replace g0 := eq_true g0; replace h0 := eq_true h0) | (go_at_call 107; (with_reducible refine (psalteryref14_At.calls k a0 b0 _ H0.out).mono ?_); rintro e w' ⟨rfl, ⟨nd, rfl⟩⟩; (try first | exact ⟨rfl, _, World.drewN_drewN _ _ _⟩ | exact ⟨rfl, _, Eq.trans (World.drewN_drewN _ _ _) (congrArg (World.drewN _) (Nat.add_assoc _ _ _))⟩)) | (go_at_call 107; (with_reducible refine (psalteryref14_At.calls k d0 j0 _ I0.out).mono ?_); rintro e w' ⟨rfl, ⟨nd, rfl⟩⟩; (try first | exact ⟨rfl, _, World.drewN_drewN _ _ _⟩ | exact ⟨rfl, _, Eq.trans (World.drewN_drewN _ _ _) (congrArg (World.drewN _) (Nat.add_assoc _ _ _))⟩); have s0 : 0 ≤ (a0 : Int) := dm_; have t0 : a0 < (l0.length : Int) := dm_; obtain ⟨B0, F0, J0⟩ := Kd.at_int k0.out a0 s0 t0; obtain rfl : i0 = B0 := (by injection F0); replace s0 := eq_true s0; replace t0 := eq_true t0))
 repeat (go_quiet (first | (go_at_call 106; (with_reducible refine (psalteryref14_post.calls k a1 a0 _ A3.out).mono ?_); rintro e w' ⟨rfl, ⟨nd, rfl⟩⟩; (try first | exact ⟨rfl, _, World.drewN_drewN _ _ _⟩ | exact ⟨rfl, _, Eq.trans (World.drewN_drewN _ _ _) (congrArg (World.drewN _) (Nat.add_assoc _ _ _))⟩); have e0 : 0 ≤ ((d0) : Int) := dm_; have f0 : (d0) < (l0.length : Int) := dm_; obtain ⟨i0, q0, y0⟩ := Kd.at_int k0.out (d0) e0 f0; cases q0; replace e0 := eq_true e0; replace f0 := eq_true f0; have g0 : 0 ≤ (a0 : Int) := dm_; have h0 : a0 < (l0.length : Int) := dm_; obtain ⟨n0, r0, z0⟩ := Kd.at_int k0.out a0 g0 h0; obtain rfl : i0 = n0 := (by injection r0); replace g0 := eq_true g0; replace h0 := eq_true h0) | (go_at_call 107; (with_reducible refine (psalteryref14_At.calls k a0 b0 _ H0.out).mono ?_); rintro e w' ⟨rfl, ⟨nd, rfl⟩⟩; (try first | exact ⟨rfl, _, World.drewN_drewN _ _ _⟩ | exact ⟨rfl, _, Eq.trans (World.drewN_drewN _ _ _) (congrArg (World.drewN _) (Nat.add_assoc _ _ _))⟩)) | (go_at_call 107; (with_reducible refine (psalteryref14_At.calls k d0 j0 _ I0.out).mono ?_); rintro e w' ⟨rfl, ⟨nd, rfl⟩⟩; (try first | exact ⟨rfl, _, World.drewN_drewN _ _ _⟩ | exact ⟨rfl, _, Eq.trans (World.drewN_drewN _ _ _) (congrArg (World.drewN _) (Nat.add_assoc _ _ _))⟩); have s0 : 0 ≤ (a0 : Int) := dm_; have t0 : a0 < (l0.length : Int) := dm_; obtain ⟨B0, F0, J0⟩ := Kd.at_int k0.out a0 s0 t0; obtain rfl : i0 = B0 := (by injection F0); replace s0 := eq_true s0; replace t0 := eq_true t0)); try go_wp2_with (first | (go_at_call 106; (with_reducible refine (psalteryref14_post.calls k a1 a0 _ A3.out).mono ?_); rintro e w' ⟨rfl, ⟨nd, rfl⟩⟩; (try first | exact ⟨rfl, _, World.drewN_drewN _ _ _⟩ | exact ⟨rfl, _, Eq.trans (World.drewN_drewN _ _ _) (congrArg (World.drewN _) (Nat.add_assoc _ _ _))⟩); have e0 : 0 ≤ ((d0) : Int) := dm_; have f0 : (d0) < (l0.length : Int) := dm_; obtain ⟨i0, q0, y0⟩ := Kd.at_int k0.out (d0) e0 f0; cases q0; replace e0 := eq_true e0; replace f0 := eq_true f0; have g0 : 0 ≤ (a0 : Int) := dm_; have h0 : a0 < (l0.length : Int) := dm_; obtain ⟨n0, r0, z0⟩ := Kd.at_int k0.out a0 g0 h0; obtain rfl : i0 = n0 := (by injection r0); replace g0 := eq_true g0; replace h0 := eq_true h0) | (go_at_call 107; (with_reducible refine (psalteryref14_At.calls k a0 b0 _ H0.out).mono ?_); rintro e w' ⟨rfl, ⟨nd, rfl⟩⟩; (try first | exact ⟨rfl, _, World.drewN_drewN _ _ _⟩ | exact ⟨rfl, _, Eq.trans (World.drewN_drewN _ _ _) (congrArg (World.drewN _) (Nat.add_assoc _ _ _))⟩)) | (go_at_call 107; (with_reducible refine (psalteryref14_At.calls k d0 j0 _ I0.out).mono ?_); rintro e w' ⟨rfl, ⟨nd, rfl⟩⟩; (try first | exact ⟨rfl, _, World.drewN_drewN _ _ _⟩ | exact ⟨rfl, _, Eq.trans (World.drewN_drewN _ _ _) (congrArg (World.drewN _) (Nat.add_assoc _ _ _))⟩); have s0 : 0 ≤ (a0 : Int) := dm_; have t0 : a0 < (l0.length : Int) := dm_; obtain ⟨B0, F0, J0⟩ := Kd.at_int k0.out a0 s0 t0; obtain rfl : i0 = B0 := (by injection F0); replace s0 := eq_true s0; replace t0 := eq_true t0)))
 go_ret
 exact ⟨by first | rfl | (simp; done) | (simp only [← D0] <;> (first | rfl | simp)) | (simp [*]; done), dr_⟩}}
 {
 replace H := ii_ H
 rcases H with ⟨N0, H⟩ | ⟨N0, H⟩
 {
 exact absurd H (by simp)}
 {
 have U0 : ((wrap64 (j0 - b0)) == 0) = false := beq_eq_false_iff_ne.mpr N0
 have V0 : ((wrap64 (j0 - b0)) != 0) = true := bne_iff_ne.mpr N0
 obtain rfl := Option.some.inj H
 go_enter Try.func90, Try.ntmps90
 go_wp2_with (first | (go_at_call 106; (with_reducible refine (psalteryref14_post.calls k a1 a0 _ A3.out).mono ?_); rintro e w' ⟨rfl, ⟨nd, rfl⟩⟩; (try first | exact ⟨rfl, _, World.drewN_drewN _ _ _⟩ | exact ⟨rfl, _, Eq.trans (World.drewN_drewN _ _ _) (congrArg (World.drewN _) (Nat.add_assoc _ _ _))⟩); have e0 : 0 ≤ ((d0) : Int) := dm_; have f0 : (d0) < (l0.length : Int) := dm_; obtain ⟨i0, q0, y0⟩ := Kd.at_int k0.out (d0) e0 f0; cases q0; replace e0 := eq_true e0; replace f0 := eq_true f0; have g0 : 0 ≤ (a0 : Int) := dm_; have h0 : a0 < (l0.length : Int) := dm_; obtain ⟨n0, r0, z0⟩ := Kd.at_int k0.out a0 g0 h0; obtain rfl : i0 = n0 := (by injection r0); replace g0 := eq_true g0; replace h0 := eq_true h0) | (go_at_call 107; (with_reducible refine (psalteryref14_At.calls k a0 b0 _ H0.out).mono ?_); rintro e w' ⟨rfl, ⟨nd, rfl⟩⟩; (try first | exact ⟨rfl, _, World.drewN_drewN _ _ _⟩ | exact ⟨rfl, _, Eq.trans (World.drewN_drewN _ _ _) (congrArg (World.drewN _) (Nat.add_assoc _ _ _))⟩)) | (go_at_call 107; (with_reducible refine (psalteryref14_At.calls k d0 j0 _ I0.out).mono ?_); rintro e w' ⟨rfl, ⟨nd, rfl⟩⟩; (try first | exact ⟨rfl, _, World.drewN_drewN _ _ _⟩ | exact ⟨rfl, _, Eq.trans (World.drewN_drewN _ _ _) (congrArg (World.drewN _) (Nat.add_assoc _ _ _))⟩); have v0 : 0 ≤ (a0 : Int) := dm_; have w0 : a0 < (l0.length : Int) := dm_; obtain ⟨C0, G0, K0⟩ := Kd.at_int k0.out a0 v0 w0; obtain rfl : i0 = C0 := (by injection G0); replace v0 := eq_true v0; replace w0 := eq_true w0))
 repeat (go_quiet (first | (go_at_call 106; (with_reducible refine (psalteryref14_post.calls k a1 a0 _ A3.out).mono ?_); rintro e w' ⟨rfl, ⟨nd, rfl⟩⟩; (try first | exact ⟨rfl, _, World.drewN_drewN _ _ _⟩ | exact ⟨rfl, _, Eq.trans (World.drewN_drewN _ _ _) (congrArg (World.drewN _) (Nat.add_assoc _ _ _))⟩); have e0 : 0 ≤ ((d0) : Int) := dm_; have f0 : (d0) < (l0.length : Int) := dm_; obtain ⟨i0, q0, y0⟩ := Kd.at_int k0.out (d0) e0 f0; cases q0; replace e0 := eq_true e0; replace f0 := eq_true f0; have g0 : 0 ≤ (a0 : Int) := dm_; have h0 : a0 < (l0.length : Int) := dm_; obtain ⟨n0, r0, z0⟩ := Kd.at_int k0.out a0 g0 h0; obtain rfl : i0 = n0 := (by injection r0); replace g0 := eq_true g0; replace h0 := eq_true h0) | (go_at_call 107; (with_reducible refine (psalteryref14_At.calls k a0 b0 _ H0.out).mono ?_); rintro e w' ⟨rfl, ⟨nd, rfl⟩⟩; (try first | exact ⟨rfl, _, World.drewN_drewN _ _ _⟩ | exact ⟨rfl, _, Eq.trans (World.drewN_drewN _ _ _) (congrArg (World.drewN _) (Nat.add_assoc _ _ _))⟩)) | (go_at_call 107; (with_reducible refine (psalteryref14_At.calls k d0 j0 _ I0.out).mono ?_); rintro e w' ⟨rfl, ⟨nd, rfl⟩⟩; (try first | exact ⟨rfl, _, World.drewN_drewN _ _ _⟩ | exact ⟨rfl, _, Eq.trans (World.drewN_drewN _ _ _) (congrArg (World.drewN _) (Nat.add_assoc _ _ _))⟩); have v0 : 0 ≤ (a0 : Int) := dm_; have w0 : a0 < (l0.length : Int) := dm_; obtain ⟨C0, G0, K0⟩ := Kd.at_int k0.out a0 v0 w0; obtain rfl : i0 = C0 := (by injection G0); replace v0 := eq_true v0; replace w0 := eq_true w0)); try go_wp2_with (first | (go_at_call 106; (with_reducible refine (psalteryref14_post.calls k a1 a0 _ A3.out).mono ?_); rintro e w' ⟨rfl, ⟨nd, rfl⟩⟩; (try first | exact ⟨rfl, _, World.drewN_drewN _ _ _⟩ | exact ⟨rfl, _, Eq.trans (World.drewN_drewN _ _ _) (congrArg (World.drewN _) (Nat.add_assoc _ _ _))⟩); have e0 : 0 ≤ ((d0) : Int) := dm_; have f0 : (d0) < (l0.length : Int) := dm_; obtain ⟨i0, q0, y0⟩ := Kd.at_int k0.out (d0) e0 f0; cases q0; replace e0 := eq_true e0; replace f0 := eq_true f0; have g0 : 0 ≤ (a0 : Int) := dm_; have h0 : a0 < (l0.length : Int) := dm_; obtain ⟨n0, r0, z0⟩ := Kd.at_int k0.out a0 g0 h0; obtain rfl : i0 = n0 := (by injection r0); replace g0 := eq_true g0; replace h0 := eq_true h0) | (go_at_call 107; (with_reducible refine (psalteryref14_At.calls k a0 b0 _ H0.out).mono ?_); rintro e w' ⟨rfl, ⟨nd, rfl⟩⟩; (try first | exact ⟨rfl, _, World.drewN_drewN _ _ _⟩ | exact ⟨rfl, _, Eq.trans (World.drewN_drewN _ _ _) (congrArg (World.drewN _) (Nat.add_assoc _ _ _))⟩)) | (go_at_call 107; (with_reducible refine (psalteryref14_At.calls k d0 j0 _ I0.out).mono ?_); rintro e w' ⟨rfl, ⟨nd, rfl⟩⟩; (try first | exact ⟨rfl, _, World.drewN_drewN _ _ _⟩ | exact ⟨rfl, _, Eq.trans (World.drewN_drewN _ _ _) (congrArg (World.drewN _) (Nat.add_assoc _ _ _))⟩); have v0 : 0 ≤ (a0 : Int) := dm_; have w0 : a0 < (l0.length : Int) := dm_; obtain ⟨C0, G0, K0⟩ := Kd.at_int k0.out a0 v0 w0; obtain rfl : i0 = C0 := (by injection G0); replace v0 := eq_true v0; replace w0 := eq_true w0)))
 go_ret
 exact ⟨by first | rfl | (simp; done) | (simp only [← D0] <;> (first | rfl | simp)) | (simp [*]; done), dr_⟩}}}
def psalteryref14_Floor.f (k : Nat) (l0 : List Int) (a1 : Int) : Option (Int) := (psalteryref14_Line.f k l0 a1).bind fun b0 => ((psalteryref10_Value.f k b0).bind fun a0 => (if a0 < 1 then (some 1) else (some a0)))
theorem psalteryref14_Floor.mono : ∀ a0 a1 k, LeO (psalteryref14_Floor.f k a0 a1) (psalteryref14_Floor.f (k + 1) a0 a1) := by
  intro a0 a1 k
  unfold psalteryref14_Floor.f
  with_reducible repeat' first
   | exact psalteryref10_Value.mono _ _
   | exact psalteryref14_Line.mono _ _ _
   | exact LeO.refl _
   | exact LeO.none _
   | refine LeO.ite ?_ ?_
   | refine LeO.bind ?_ (fun _ => ?_)
set_option maxHeartbeats 8000000 in
set_option maxRecDepth 100000 in
theorem psalteryref14_Floor.calls (k : Nat) (A0 : Option Addr) (c0 : Nat) (l0 : List Int) (a1 : Int) (r : Int) (w : World) (hr0 : Kd.C (Kd.int .i64) w A0 l0.length l0) (hc0 : l0.length ≤ c0) (h : psalteryref14_Floor.f k l0 a1 = some r) :
    Calls Try.prog 60 #[.slice A0 l0.length c0, .int .i64 a1] w fun e w' => e = .returned (.int .i64 r) ∧ Drawn0 w w' := by
 have d0 := a_ hr0
 have e0 := a_ hc0
 clear hr0 hc0
 have H : ((psalteryref14_Line.f k l0 a1).bind fun a0 => ((psalteryref10_Value.f k a0).bind fun b0 => (if b0 < 1 then (some 1) else (some b0)))) = some r := h
 clear h
 obtain ⟨a0, A3, H⟩ := ob_ H
 (try dsimp only at H)
 obtain ⟨b0, A4, H⟩ := ob_ H
 (try dsimp only at H)
 replace H := id_ H
 rcases H with ⟨f0, H⟩ | ⟨f0, H⟩
 {
 obtain rfl := Option.some.inj H
 go_enter Try.func60, Try.ntmps60
 go_wp2_with (first | ((with_reducible refine gate_callee (f := 90) rfl ?_); refine gL_ (some 8) Try.func90 #[.slice A0 l0.length c0, .int .i64 a1] ?_; (with_reducible refine (psalteryref14_Line.calls k _ _ l0 a1 a0 _ ?side1 ?side2 A3.out).mono ?_); (case side1 => repeat (first | exact d0.out | (with_reducible refine Kd.C_alloc ?_ _) | (with_reducible refine Kd.C_drewN ?_ _) | (with_reducible refine Kd.C_drew ?_))); (case side2 => exact e0.out); rintro e w' ⟨rfl, ⟨nd, rfl⟩⟩; refine ⟨_, rfl, ?_⟩) | ((with_reducible refine gate_callee (f := 89) rfl ?_); refine gL_ (some 9) Try.func89 #[.int .i64 a0] ?_; (with_reducible refine (psalteryref10_Value.calls k a0 b0 _ A4.out).mono ?_); rintro e w' ⟨rfl, ⟨nd, rfl⟩⟩; refine ⟨_, rfl, ?_⟩))
 go_ret
 exact ⟨es_, dr_⟩}
 {
 obtain rfl := Option.some.inj H
 go_enter Try.func60, Try.ntmps60
 go_wp2_with (first | ((with_reducible refine gate_callee (f := 90) rfl ?_); refine gL_ (some 8) Try.func90 #[.slice A0 l0.length c0, .int .i64 a1] ?_; (with_reducible refine (psalteryref14_Line.calls k _ _ l0 a1 a0 _ ?side1 ?side2 A3.out).mono ?_); (case side1 => repeat (first | exact d0.out | (with_reducible refine Kd.C_alloc ?_ _) | (with_reducible refine Kd.C_drewN ?_ _) | (with_reducible refine Kd.C_drew ?_))); (case side2 => exact e0.out); rintro e w' ⟨rfl, ⟨nd, rfl⟩⟩; refine ⟨_, rfl, ?_⟩) | ((with_reducible refine gate_callee (f := 89) rfl ?_); refine gL_ (some 9) Try.func89 #[.int .i64 a0] ?_; (with_reducible refine (psalteryref10_Value.calls k a0 b0 _ A4.out).mono ?_); rintro e w' ⟨rfl, ⟨nd, rfl⟩⟩; refine ⟨_, rfl, ?_⟩))
 go_ret
 exact ⟨es_, dr_⟩}
def psalteryref22_Floors.l0 : Nat → List Int → List Int → Int → Option (List Int)
  | 0, _, _, _ => none
  | k + 1, x0, x3, x4 => if x4 < 16 then ((psalteryref14_Floor.f k x0 x4).bind fun a0 => (if x3.length < 17592186044416 then (psalteryref22_Floors.l0 k x0 (x3 ++ [a0]) (wrap64 (x4 + 1))) else (none))) else (some x3)
def psalteryref22_Floors.f (k : Nat) (l0 : List Int) : Option (List Int) := psalteryref22_Floors.l0 k l0 ([] : List Int) 0
theorem psalteryref22_Floors.mono_l : ∀ k, (∀ y0 y1 y2, LeO (psalteryref22_Floors.l0 k y0 y1 y2) (psalteryref22_Floors.l0 (k + 1) y0 y1 y2))
  | 0 => fun _ _ _ r h => by simp [psalteryref22_Floors.l0] at h
  | k + 1 => by
    have a0 := psalteryref22_Floors.mono_l k
    · intro y0 y1 y2
      unfold psalteryref22_Floors.l0
      with_reducible repeat' first
   | exact a0 _ _ _
   | exact psalteryref14_Floor.mono _ _ _
   | exact LeO.refl _
   | exact LeO.none _
   | refine LeO.ite ?_ ?_
   | refine LeO.bind ?_ (fun _ => ?_)
theorem psalteryref22_Floors.mono : ∀ a0 k, LeO (psalteryref22_Floors.f k a0) (psalteryref22_Floors.f (k + 1) a0) := by
  intro a0 k
  have b0 := psalteryref22_Floors.mono_l k
  unfold psalteryref22_Floors.f
  with_reducible repeat' first
   | exact b0 _ _ _
   | exact psalteryref14_Floor.mono _ _ _
   | exact LeO.refl _
   | exact LeO.none _
   | refine LeO.ite ?_ ?_
   | refine LeO.bind ?_ (fun _ => ?_)
set_option maxHeartbeats 8000000 in
set_option maxRecDepth 100000 in
theorem psalteryref22_Floors.calls (k : Nat) (A0 : Option Addr) (c0 : Nat) (l0 : List Int) (r : List Int) (w : World) (hr0 : Kd.C (Kd.int .i64) w A0 l0.length l0) (hc0 : l0.length ≤ c0) (h : psalteryref22_Floors.f k l0 = some r) :
    Calls Try.prog 26 #[.slice A0 l0.length c0] w fun e w' => ∃ v0_ : Value, e = .returned (v0_) ∧ Kd.R (Kd.int .i64) 2 w' w.heap.size (fun _ => True) v0_ r ∧ Below w.heap.size w w' := by
 have n0 := a_ hr0
 have o0 := a_ hc0
 clear hr0 hc0
 have HB := a_ (Below.refl w.heap.size w)
 have H : (psalteryref22_Floors.l0 k l0 ([] : List Int) 0) = some r := h
 clear h
 have H' := a_ H
 clear H
 go_enter Try.func26, Try.ntmps26
 go_wp2
 go_loopg [3, 4] k (fun kq v3 v4 w' => ∃ (d0 : List Int) (a0 : Int), v4 = .int .i64 a0 ∧ Aside0 (psalteryref22_Floors.l0 kq l0 d0 a0 = some r) ∧ Aside0 (kq ≤ k) ∧ Aside0 (Kd.R (Kd.int .i64) 2 w' w.heap.size (fun _ => True) v3 d0) ∧ Aside0 (Below w.heap.size w w'))
 case atStart => exact ⟨(([] : List Int)), (0), rs_, H', ⟨Nat.le_refl _⟩, ⟨kn_⟩, ⟨bl_ HB⟩⟩
 case round => (
 clear H'
 obtain ⟨d0, a0, rfl, HA, i0, f0, HB⟩ := hrel
 cases gk with
 | zero => exact absurd HA.out (by simp [psalteryref22_Floors.l0])
 | succ k1 => (
 have H := HA.out
 clear HA
 simp only [psalteryref22_Floors.l0] at H
 replace H := id_ H
 rcases H with ⟨j0, H⟩ | ⟨j0, H⟩
 {
 obtain ⟨e0, A3, H⟩ := ob_ H
 (try dsimp only at H)
 replace H := gt_ H
 obtain ⟨c4, H⟩ := H
 have k0 := a_ c4
 clear c4
 obtain ⟨m0, b0⟩ : ∃ y_ : List Int, y_ = (d0 ++ [e0]) := ⟨_, rfl⟩
 first | replace H := by_ H b0 | rw [← b0] at H
 have g0 := a_ b0
 clear b0
 have H' := a_ H
 clear H
 go_wp2_with (first | ((with_reducible refine gate_callee (f := 60) rfl ?_); refine gL_ (some 12) Try.func60 #[.slice A0 l0.length c0, .int .i64 a0] ?_; (with_reducible refine (psalteryref14_Floor.calls k1 _ _ l0 a0 e0 _ ?side1 ?side2 A3.out).mono ?_); (case side1 => exact kC_ n0 HB); (case side2 => exact o0.out); rintro e w' ⟨rfl, ⟨nd, rfl⟩⟩; refine ⟨_, rfl, ?_⟩) | ((with_reducible refine gate_builtin (b := .append) (xs := #[.tmp 9, .tmp 13]) rfl ?_); at_builtin; refine Kd.R_append (Kd.int .i64) (w0 := w) w.heap.size rfl (.tmp 9) (.tmp 13) 53 2 (.int .i64 0) 8 rfl Try.underlying53 info2 rfl (by decide) (by omega) u3 d0 e0 [.int .i64 e0] (fun _ => True) (fun _ => False) rfl rfl ?aP (fun _ hk => hk.elim) ?aF ?aO ?aB ?aS ?aL ?_; (case aP => exact rfl); (case aB => exact (bl_ HB)); (case aF => exact (fun _ _ => trivial)); (case aO => exact (kR_ f0)); (case aS => exact (bs_ HB)); (case aL => have := k0.out; omega); intro p0 w5 ho hb hg hat; rw [← g0.out] at ho; replace HB := a_ (hb); have h0 := a_ (ho); clear f0; clear ho hb hg hat))
 go_roundg k1
 case measure => have := i0.out; omega
 case rel => exact ⟨(m0), (wrap64 (a0 + 1)), rs_, H', ⟨by have := i0.out; omega⟩, ⟨kR_ h0⟩, ⟨bl_ HB⟩⟩}
 {
 obtain rfl := Option.some.inj H
 go_wp2
 go_ret
 exact ⟨_, er_, kR_ f0, bl_ HB⟩}))
def psalteryref15_Part.j0 : Nat → Int → Int → Bool → Option (Int × Int)
  | 0, _, _, _ => none
  | k + 1, x0, x1, a0 => if a0 = true then (some (x0, wrap64 (x0 - x1))) else (if x0 > 0 then (some (wrap64 (x0 + x1), x0)) else (if x1 > 0 then (some (x0, wrap64 (x0 + x1))) else (some (wrap64 (x0 - x1), x0))))
def psalteryref15_Part.f (k : Nat) (a0 : Int) (a1 : Int) : Option (Int × Int) := if a0 > 0 then (psalteryref15_Part.j0 k a0 a1 (decide (a1 > 0))) else (psalteryref15_Part.j0 k a0 a1 false)
theorem psalteryref15_Part.mono_l : ∀ k, (∀ y0 y1 y2, LeO (psalteryref15_Part.j0 k y0 y1 y2) (psalteryref15_Part.j0 (k + 1) y0 y1 y2))
  | 0 => fun _ _ _ r h => by simp [psalteryref15_Part.j0] at h
  | k + 1 => by
    have a0 := psalteryref15_Part.mono_l k
    · intro y0 y1 y2
      unfold psalteryref15_Part.j0
      with_reducible repeat' first
   | exact a0 _ _ _
   | exact LeO.refl _
   | exact LeO.none _
   | refine LeO.ite ?_ ?_
   | refine LeO.bind ?_ (fun _ => ?_)
theorem psalteryref15_Part.mono : ∀ a0 a1 k, LeO (psalteryref15_Part.f k a0 a1) (psalteryref15_Part.f (k + 1) a0 a1) := by
  intro a0 a1 k
  have b0 := psalteryref15_Part.mono_l k
  unfold psalteryref15_Part.f
  with_reducible repeat' first
   | exact b0 _ _ _
   | exact LeO.refl _
   | exact LeO.none _
   | refine LeO.ite ?_ ?_
   | refine LeO.bind ?_ (fun _ => ?_)
set_option maxHeartbeats 8000000 in
set_option maxRecDepth 100000 in
theorem psalteryref15_Part.calls (k : Nat) (a0 : Int) (a1 : Int) (r1 : Int) (r2 : Int) (w : World) (h : psalteryref15_Part.f k a0 a1 = some (r1, r2)) :
    Calls Try.prog 57 #[.int .i64 a0, .int .i64 a1] w fun e w' => e = .returned (.tuple #[.int .i64 r1, .int .i64 r2]) ∧ Drawn0 w w' := by
 have H : (if a0 > 0 then (psalteryref15_Part.j0 k a0 a1 (decide (a1 > 0))) else (psalteryref15_Part.j0 k a0 a1 false)) = some (r1, r2) := h
 clear h
 have d0 := a_ H
 clear H
 go_enter Try.func57, Try.ntmps57
 go_upto_region 1 with (fail)
 go_cut [11] (fun g0 wc => ∃ (kq : Nat) (c0 : Bool), g0 = .bool c0 ∧ Aside0 (psalteryref15_Part.j0 kq a0 a1 c0 = some (r1, r2)) ∧ Aside0 (kq ≤ k) ∧ Drawn0 w wc)
 case first => (
 have H := d0.out
 clear d0
 replace H := ii_ H
 rcases H with ⟨c4, H⟩ | ⟨c4, H⟩
 {
 have b0 : decide (0 < a0) = true := decide_eq_true c4
 clear c4
 (first | rw [b0] | (simp only [i64_w, i32_w]; rw [b0]) | skip)
 have H' := a_ H
 clear H
 go_wp2
 go_meet
 case rel => exact ⟨_, (decide (a1 > 0)), rs_, H', ⟨ol_⟩, dr_⟩}
 {
 have b0 : decide (0 < a0) = false := decide_eq_false c4
 clear c4
 (first | rw [b0] | (simp only [i64_w, i32_w]; rw [b0]) | skip)
 have H' := a_ H
 clear H
 go_wp2
 go_meet
 case rel => exact ⟨_, (false), rs_, H', ⟨ol_⟩, dr_⟩})
 case rest => (
 clear d0
 obtain ⟨kq, c0, rfl, HA, HJ2, ⟨mc2, rfl⟩⟩ := hcut
 cases kq with
 | zero => exact absurd HA.out (by simp [psalteryref15_Part.j0])
 | succ kj2 => (
 have H := HA.out
 clear HA
 simp only [psalteryref15_Part.j0] at H
 replace H := ib_ H
 rcases H with ⟨rfl, H⟩ | ⟨rfl, H⟩
 {
 simp only [Option.some.injEq, Prod.mk.injEq] at H
 obtain ⟨rfl, rfl⟩ := H
 go_wp2
 go_ret2
 exact ⟨es_, dr_⟩}
 {
 replace H := ii_ H
 rcases H with ⟨c6, H⟩ | ⟨c6, H⟩
 {
 have e0 : decide (0 < a0) = true := decide_eq_true c6
 clear c6
 simp only [Option.some.injEq, Prod.mk.injEq] at H
 obtain ⟨rfl, rfl⟩ := H
 go_wp2
 go_ret2
 exact ⟨es_, dr_⟩}
 {
 have e0 : decide (0 < a0) = false := decide_eq_false c6
 clear c6
 replace H := ii_ H
 rcases H with ⟨c7, H⟩ | ⟨c7, H⟩
 {
 have f0 : decide (0 < a1) = true := decide_eq_true c7
 clear c7
 simp only [Option.some.injEq, Prod.mk.injEq] at H
 obtain ⟨rfl, rfl⟩ := H
 go_wp2
 go_ret2
 exact ⟨es_, dr_⟩}
 {
 have f0 : decide (0 < a1) = false := decide_eq_false c7
 clear c7
 simp only [Option.some.injEq, Prod.mk.injEq] at H
 obtain ⟨rfl, rfl⟩ := H
 go_wp2
 go_ret2
 exact ⟨es_, dr_⟩}}}))
def psalteryref03_Clamp.f (a0 : Int) (a1 : Int) (a2 : Int) : Option (Int) := if a0 < a1 then (some a1) else (if a0 > a2 then (some a2) else (some a0))
set_option maxHeartbeats 8000000 in
set_option maxRecDepth 100000 in
theorem psalteryref03_Clamp.calls (a0 : Int) (a1 : Int) (a2 : Int) (r : Int) (w : World) (h : psalteryref03_Clamp.f a0 a1 a2 = some r) :
    Calls Try.prog 58 #[.int .i64 a0, .int .i64 a1, .int .i64 a2] w fun e w' => e = .returned (.int .i64 r) ∧ Drawn0 w w' := by
 have H : (if a0 < a1 then (some a1) else (if a0 > a2 then (some a2) else (some a0))) = some r := h
 clear h
 replace H := id_ H
 rcases H with ⟨b0, H⟩ | ⟨b0, H⟩
 {
 obtain rfl := Option.some.inj H
 go_enter Try.func58, Try.ntmps58
 go_wp2
 go_ret
 exact ⟨es_, dr_⟩}
 {
 replace H := ii_ H
 rcases H with ⟨c5, H⟩ | ⟨c5, H⟩
 {
 have c0 : decide (a2 < a0) = true := decide_eq_true c5
 clear c5
 obtain rfl := Option.some.inj H
 go_enter Try.func58, Try.ntmps58
 go_wp2
 go_ret
 exact ⟨es_, dr_⟩}
 {
 have c0 : decide (a2 < a0) = false := decide_eq_false c5
 clear c5
 obtain rfl := Option.some.inj H
 go_enter Try.func58, Try.ntmps58
 go_wp2
 go_ret
 exact ⟨es_, dr_⟩}}
def psalteryref21_Restore.l0 : Nat → List Int → List Int → List Int → Int → Option (List Int)
  | 0, _, _, _, _ => none
  | k + 1, x0, x1, x5, x6 => if x6 < 16 then (if 0 ≤ x6 then (if x6 < (x0.length : Int) then (if x6 < (x1.length : Int) then ((psalteryref03_Clamp.f (wrap64 ((rd x0 x6) * (rd x1 x6))) (-1048576) 1048576).bind fun a0 => (if x5.length < 17592186044416 then (psalteryref21_Restore.l0 k x0 x1 (x5 ++ [a0]) (wrap64 (x6 + 1))) else (none))) else (none)) else (none)) else (none)) else (some x5)
def psalteryref21_Restore.f (k : Nat) (l0 : List Int) (l1 : List Int) : Option (List Int) := psalteryref21_Restore.l0 k l0 l1 ([] : List Int) 0
theorem psalteryref21_Restore.mono_l : ∀ k, (∀ y0 y1 y2 y3, LeO (psalteryref21_Restore.l0 k y0 y1 y2 y3) (psalteryref21_Restore.l0 (k + 1) y0 y1 y2 y3))
  | 0 => fun _ _ _ _ r h => by simp [psalteryref21_Restore.l0] at h
  | k + 1 => by
    have a0 := psalteryref21_Restore.mono_l k
    · intro y0 y1 y2 y3
      unfold psalteryref21_Restore.l0
      with_reducible repeat' first
   | exact a0 _ _ _ _
   | exact LeO.refl _
   | exact LeO.none _
   | refine LeO.ite ?_ ?_
   | refine LeO.bind ?_ (fun _ => ?_)
theorem psalteryref21_Restore.mono : ∀ a0 a1 k, LeO (psalteryref21_Restore.f k a0 a1) (psalteryref21_Restore.f (k + 1) a0 a1) := by
  intro a0 a1 k
  have b0 := psalteryref21_Restore.mono_l k
  unfold psalteryref21_Restore.f
  with_reducible repeat' first
   | exact b0 _ _ _ _
   | exact LeO.refl _
   | exact LeO.none _
   | refine LeO.ite ?_ ?_
   | refine LeO.bind ?_ (fun _ => ?_)
def psalteryref21_Restore.T5 : Bool × List (List Nat × List Nat) := (true, [([], []), ([], []), ([], []), ([1, 2], [1, 2]), ([3], [3]), ([], []), ([], []), ([5, 6], [5, 6]), ([7], [7]), ([4, 8], [4, 8]), ([9], [9]), ([10], [10]), ([0, 11, 10], [0, 11]), ([12, 12, 0, 1, 2, 3, 4, 5, 6, 7, 8, 9, 10, 11, 12], [0, 12])])
def psalteryref21_Restore.B5 : List Nat := [0, 0, 0, 6, 14, 0, 0, 96, 224, 510, 1022, 2046, 4095, 8191]
theorem psalteryref21_Restore.tab5 : rtab .any (opsOf Try.f59 5) = psalteryref21_Restore.T5 := by kernel_rfl
theorem psalteryref21_Restore.bits5 : waitsOk psalteryref21_Restore.T5.2 psalteryref21_Restore.B5 = true := by kernel_rfl
set_option maxHeartbeats 8000000 in
set_option maxRecDepth 100000 in
theorem psalteryref21_Restore.calls (k : Nat) (A0 : Option Addr) (c0 : Nat) (l0 : List Int) (A1 : Option Addr) (c1 : Nat) (l1 : List Int) (r : List Int) (w : World) (hr0 : Kd.C (Kd.int .i64) w A0 l0.length l0) (hc0 : l0.length ≤ c0) (hr1 : Kd.C (Kd.int .i64) w A1 l1.length l1) (hc1 : l1.length ≤ c1) (h : psalteryref21_Restore.f k l0 l1 = some r) :
    Calls Try.prog 59 #[.slice A0 l0.length c0, .slice A1 l1.length c1] w fun e w' => ∃ v0_ : Value, e = .returned (v0_) ∧ Kd.R (Kd.int .i64) 2 w' w.heap.size (fun _ => True) v0_ r ∧ Below w.heap.size w w' := by
 have E0 := a_ hr0
 have K0 := a_ hc0
 clear hr0 hc0
 have F0 := a_ hr1
 have L0 := a_ hc1
 clear hr1 hc1
 have HB := a_ (Below.refl w.heap.size w)
 have H : (psalteryref21_Restore.l0 k l0 l1 ([] : List Int) 0) = some r := h
 clear h
 have H' := a_ H
 clear H
 go_enter Try.func59, Try.ntmps59
 go_wp2
 go_loopg [5, 6] k (fun kq v5 v6 w' => ∃ (i0 : List Int) (a0 : Int), v6 = .int .i64 a0 ∧ Aside0 (psalteryref21_Restore.l0 kq l0 l1 i0 a0 = some r) ∧ Aside0 (kq ≤ k) ∧ Aside0 (Kd.R (Kd.int .i64) 2 w' w.heap.size (fun _ => True) v5 i0) ∧ Aside0 (Below w.heap.size w w'))
 case atStart => exact ⟨(([] : List Int)), (0), rs_, H', ⟨Nat.le_refl _⟩, ⟨kn_⟩, ⟨bl_ HB⟩⟩
 case round => (
 clear H'
 obtain ⟨i0, a0, rfl, HA, v0, g0, HB⟩ := hrel
 cases gk with
 | zero => exact absurd HA.out (by simp [psalteryref21_Restore.l0])
 | succ k1 => (
 have H := HA.out
 clear HA
 simp only [psalteryref21_Restore.l0] at H
 replace H := id_ H
 rcases H with ⟨y0, H⟩ | ⟨y0, H⟩
 {
 replace H := gd_ H
 obtain ⟨G0, H⟩ := H
 replace H := gd_ H
 obtain ⟨H0, H⟩ := H
 replace H := gd_ H
 obtain ⟨I0, H⟩ := H
 obtain ⟨j0, A7, H⟩ := ob_ H
 (try dsimp only at H)
 replace H := gt_ H
 obtain ⟨c8, H⟩ := H
 have z0 := a_ c8
 clear c8
 obtain ⟨B0, h0⟩ : ∃ y_ : List Int, y_ = (i0 ++ [j0]) := ⟨_, rfl⟩
 first | replace H := by_ H h0 | rw [← h0] at H
 have p0 := a_ h0
 clear h0
 have H' := a_ H
 clear H
 try go_wp2
 replace g0 := a_ (Kd.R_drew g0.out)
 replace HB := a_ (below_drew1 HB.out)
 have k0 : 0 ≤ (a0 : Int) := dm_
 have m0 : a0 < (l0.length : Int) := dm_
 obtain ⟨q0, C0, e0⟩ := Kd.at_int E0.out a0 k0 m0
 have b0 := e0
 cases C0
 replace e0 := hc_ HB e0
 replace k0 := eq_true k0
 replace m0 := eq_true m0
 have n0 : 0 ≤ (a0 : Int) := dm_
 have o0 : a0 < (l1.length : Int) := dm_
 obtain ⟨r0, D0, f0⟩ := Kd.at_int F0.out a0 n0 o0
 have d0 := f0
 cases D0
 replace f0 := hc_ HB f0
 replace n0 := eq_true n0
 replace o0 := eq_true o0
 refine start_ (n := 14) (S := fun w' => w'.cell? (q0.add (a0).toNat) = some (.int .i64 (rd l0 a0)) ∧ w'.cell? (r0.add (a0).toNat) = some (.int .i64 (rd l1 a0))) (ds := []) (B_ 14 0) kf_ rfl rfl ⟨(hc_ HB b0), (hc_ HB d0)⟩ (fun hHeld => ?_); refine with_tabW psalteryref21_Restore.tab5 psalteryref21_Restore.bits5 (fun HT_ HW_ => ?_)
 generalize wr.drew = w9 at g0 HB e0 f0 hHeld ⊢
 refine pu_ 0 (some 11) (B_ 14 1) HT_ ?_
 refine pu_ 1 (some 12) (B_ 14 3) HT_ ?_
 refine pu_ 2 (some 13) (B_ 14 7) HT_ ?_
 refine pu_ 3 (some 14) (B_ 14 15) HT_ ?_
 refine pu_ 5 (some 16) (B_ 14 47) HT_ ?_
 refine pu_ 6 (some 17) (B_ 14 111) HT_ ?_
 refine pu_ 7 (some 18) (B_ 14 239) HT_ ?_
 refine take_ (i := 4) (N := some 15) (v := ?_) (a' := ?_) (B_ 14 255) rfl rfl (take_ofW HT_.out HW_.out kf_) (fun _ _ _ h => h) (Or.inl ⟨by rfl, ?_⟩) hHeld ?_ ?_
 rotate_left
 {
 rintro w' ⟨s0, s1⟩
 go_simp
 with_reducible rfl}
 rotate_left
 {
 exact sp_}
 refine take_ (i := 8) (N := some 19) (v := ?_) (a' := ?_) (B_ 14 511) rfl rfl (take_ofW HT_.out HW_.out kf_) (fun _ _ _ h => h) (Or.inl ⟨by rfl, ?_⟩) hHeld ?_ ?_
 rotate_left
 {
 rintro w' ⟨s0, s1⟩
 go_simp
 with_reducible rfl}
 rotate_left
 {
 exact sp_}
 refine pu_ 9 (some 20) (B_ 14 1023) HT_ ?_
 refine one_ (i := 10) (N := some 21) (B_ 14 2047) rfl rfl (one_of HT_.out kf_) (by decide) (fun K hK => ?_)
 refine goes_ Try.func58 kf_ rfl #[.int .i64 (wrap64 ((rd l0 a0) * (rd l1 a0))), .int .i64 (-1048576), .int .i64 1048576] (by rfl) rfl rfl ar_ ?_
 with_reducible refine (psalteryref03_Clamp.calls (wrap64 ((rd l0 a0) * (rd l1 a0))) (-1048576) 1048576 j0 _ A7.out).mono ?_
 rintro e w' ⟨rfl, ⟨nd, rfl⟩⟩
 refine ⟨_, rfl, ?_⟩
 refine hK.out _ _ ⟨(hc_ HB b0), (hc_ HB d0)⟩ (fun hHeld => ?_)
 clear hK K
 refine norm_ (a' := ?_) ?_ ?_
 rotate_left
 {
 show Act.put _ (some 21) _ = _
 exact sp_}
 refine one_ (i := 11) (N := some 22) (B_ 14 4095) rfl rfl (one_of HT_.out kf_) (by decide) (fun K hK => ?_)
 refine value_ (w1 := ?_) (v := ?_) (by rfl) rfl ?_ ?_
 rotate_left 2
 {
 go_simp
 constructor
 {
 rfl}
 {
 rfl}}
 refine hK.out _ _ ⟨(World.cell?_alloc_lt _ _ _ (World.block_lt_of_cell? _ _ ((hc_ HB b0)))).trans ((hc_ HB b0)), (World.cell?_alloc_lt _ _ _ (World.block_lt_of_cell? _ _ ((hc_ HB d0)))).trans ((hc_ HB d0))⟩ (fun hHeld => ?_)
 clear hK K
 refine norm_ (a' := ?_) ?_ ?_
 rotate_left
 {
 show Act.put _ (some 22) _ = _
 exact sp_}
 refine one_ (i := 12) (N := some 23) (B_ 14 8191) rfl rfl (one_of HT_.out kf_) (by decide) (fun K hK => ?_)
 refine Kd.R_append_step (Kd.int .i64) (w0 := w) w.heap.size (by rfl) (.tmp 11) (.tmp 22) 53 2 (.int .i64 0) 8 rfl Try.underlying53 info2 rfl (by decide) (by omega) u5 i0 j0 [.int .i64 j0] (fun _ => True) (fun _ => False) rfl rfl ?aP (fun _ hk => hk.elim) ?aF ?aO ?aB ?aS ?aL ?_
 (case aP => exact rfl)
 (case aB => exact (bl_ HB))
 (case aF => exact (fun _ _ => trivial))
 (case aO => exact (kR_ g0))
 (case aS => exact (bs_ HB))
 (case aL => have := z0.out; omega)
 intro J0 M0 ho hb hg hat
 rw [← p0.out] at ho
 replace HB := a_ (hb)
 have t0 := a_ (ho)
 clear g0
 clear ho hb hg hat
 refine hK.out _ _ ⟨(hc_ HB b0), (hc_ HB d0)⟩ (fun hHeld => ?_)
 clear hK K
 refine norm_ (a' := ?_) ?_ ?_
 rotate_left
 {
 show Act.put _ (some 23) _ = _
 exact sp_}
 refine pu_ 13 (some 5) (B_ 14 16383) HT_ ?_
 refine done_ (done_of HT_.out kf_) ?_
 try go_wp2
 go_roundg k1
 case measure => have := v0.out; omega
 case rel => exact ⟨(B0), (wrap64 (a0 + 1)), rs_, H', ⟨by have := v0.out; omega⟩, ⟨kR_ t0⟩, ⟨bl_ HB⟩⟩}
 {
 obtain rfl := Option.some.inj H
 go_wp2
 go_ret
 exact ⟨_, er_, kR_ g0, bl_ HB⟩}))
mutual
def psalteryref22_Decode.j0 : Nat → Bool → Int → Int → List Int → List Int → List (List Int) → List (List Int) → Option ((List (List Int)))
  | 0, _, _, _, _, _, _, _ => none
  | k + 1, x6, a0, b0, c0, d0, e0, f0 => psalteryref22_Decode.l0 k x6 0 a0 b0 c0 d0 e0 f0 ([] : List (List Int))
def psalteryref22_Decode.l0 : Nat → Bool → Int → Int → Int → List Int → List Int → List (List Int) → List (List Int) → List (List Int) → Option ((List (List Int)))
  | 0, _, _, _, _, _, _, _, _, _ => none
  | k + 1, x6, x7, c0, d0, e0, f0, a0, g0, b0 => if x7 < c0 then (if 16 ≤ 35184372088832 then (if 0 ≤ x7 then (if x7 < (a0.length : Int) then (if ((rd_L1 a0 x7).length : Int) > 0 then (psalteryref22_Decode.l1 k x6 x7 ([] : List Int) 0 c0 d0 e0 f0 a0 g0 b0) else (if b0.length < 5864062014805 then (psalteryref22_Decode.l0 k x6 (wrap64 (x7 + 1)) c0 d0 e0 f0 a0 g0 (b0 ++ [(List.replicate 16 0)])) else (none))) else (none)) else (none)) else (none)) else (some b0)
def psalteryref22_Decode.l1 : Nat → Bool → Int → List Int → Int → Int → Int → List Int → List Int → List (List Int) → List (List Int) → List (List Int) → Option ((List (List Int)))
  | 0, _, _, _, _, _, _, _, _, _, _, _ => none
  | k + 1, x6, x7, x9, d0, e0, f0, g0, h0, b0, a0, c0 => if d0 < 16 then (if 0 ≤ x7 then (if x7 < (a0.length : Int) then (if 0 ≤ d0 then (if d0 < ((rd_L2 a0 x7).length : Int) then (if x6 = true then (if 0 < (a0.length : Int) then (if d0 < ((rd_L2 a0 0).length : Int) then (if 1 < (a0.length : Int) then (if d0 < ((rd_L2 a0 1).length : Int) then ((psalteryref15_Part.f k (rd (rd_L2 a0 0) d0) (rd (rd_L2 a0 1) d0)).bind fun i0 => (if x7 = 1 then ((psalteryref03_Clamp.f i0.2 (-8388608) 8388608).bind fun j0 => (if x9.length < 17592186044416 then (psalteryref22_Decode.l1 k x6 x7 (x9 ++ [j0]) (wrap64 (d0 + 1)) e0 f0 g0 h0 b0 a0 c0) else (none))) else ((psalteryref03_Clamp.f i0.1 (-8388608) 8388608).bind fun k0 => (if x9.length < 17592186044416 then (psalteryref22_Decode.l1 k x6 x7 (x9 ++ [k0]) (wrap64 (d0 + 1)) e0 f0 g0 h0 b0 a0 c0) else (none))))) else (none)) else (none)) else (none)) else (none)) else ((psalteryref03_Clamp.f (rd (rd_L2 a0 x7) d0) (-8388608) 8388608).bind fun m0 => (if x9.length < 17592186044416 then (psalteryref22_Decode.l1 k x6 x7 (x9 ++ [m0]) (wrap64 (d0 + 1)) e0 f0 g0 h0 b0 a0 c0) else (none)))) else (none)) else (none)) else (none)) else (none)) else (if 0 ≤ x7 then (if x7 < (b0.length : Int) then ((psalteryref22_Floors.f k (rd_L1 b0 x7)).bind fun n0 => ((psalteryref21_Restore.f k x9 n0).bind fun o0 => (if c0.length < 5864062014805 then (psalteryref22_Decode.l0 k x6 (wrap64 (x7 + 1)) e0 f0 g0 h0 b0 a0 (c0 ++ [o0])) else (none)))) else (none)) else (none))
end
def psalteryref22_Decode.f (k : Nat) (b0 : Int) (c0 : Int) (d0 : List Int) (e0 : List Int) (a0 : List (List Int)) (f0 : List (List Int)) : Option ((List (List Int))) := if b0 = 2 then (if 0 < (a0.length : Int) then (if ((rd_L1 a0 0).length : Int) > 0 then (if 1 < (a0.length : Int) then (psalteryref22_Decode.j0 k (decide (((rd_L1 a0 1).length : Int) > 0)) b0 c0 d0 e0 a0 f0) else (none)) else (psalteryref22_Decode.j0 k false b0 c0 d0 e0 a0 f0)) else (none)) else (psalteryref22_Decode.j0 k false b0 c0 d0 e0 a0 f0)
theorem psalteryref22_Decode.mono_l : ∀ k, (∀ y0 y1 y2 y3 y4 y5 y6, LeO (psalteryref22_Decode.j0 k y0 y1 y2 y3 y4 y5 y6) (psalteryref22_Decode.j0 (k + 1) y0 y1 y2 y3 y4 y5 y6)) ∧ (∀ y0 y1 y2 y3 y4 y5 y6 y7 y8, LeO (psalteryref22_Decode.l0 k y0 y1 y2 y3 y4 y5 y6 y7 y8) (psalteryref22_Decode.l0 (k + 1) y0 y1 y2 y3 y4 y5 y6 y7 y8)) ∧ (∀ y0 y1 y2 y3 y4 y5 y6 y7 y8 y9 a0, LeO (psalteryref22_Decode.l1 k y0 y1 y2 y3 y4 y5 y6 y7 y8 y9 a0) (psalteryref22_Decode.l1 (k + 1) y0 y1 y2 y3 y4 y5 y6 y7 y8 y9 a0))
  | 0 => ⟨fun _ _ _ _ _ _ _ r h => by simp [psalteryref22_Decode.j0] at h, fun _ _ _ _ _ _ _ _ _ r h => by simp [psalteryref22_Decode.l0] at h, fun _ _ _ _ _ _ _ _ _ _ _ r h => by simp [psalteryref22_Decode.l1] at h⟩
  | k + 1 => by
    obtain ⟨b0, c0, d0⟩ := psalteryref22_Decode.mono_l k
    refine ⟨?_, ?_, ?_⟩
    all_goals (intros; first | unfold psalteryref22_Decode.j0 | unfold psalteryref22_Decode.l0 | unfold psalteryref22_Decode.l1)
    all_goals with_reducible repeat' first
     | exact b0 _ _ _ _ _ _ _
     | exact c0 _ _ _ _ _ _ _ _ _
     | exact d0 _ _ _ _ _ _ _ _ _ _ _
     | exact psalteryref15_Part.mono _ _ _
     | exact psalteryref21_Restore.mono _ _ _
     | exact psalteryref22_Floors.mono _ _
     | exact LeO.refl _
     | exact LeO.none _
     | refine LeO.ite ?_ ?_
     | refine LeO.bind ?_ (fun _ => ?_)
theorem psalteryref22_Decode.mono : ∀ a0 a1 a2 a3 a4 a5 k, LeO (psalteryref22_Decode.f k a0 a1 a2 a3 a4 a5) (psalteryref22_Decode.f (k + 1) a0 a1 a2 a3 a4 a5) := by
  intro a0 a1 a2 a3 a4 a5 k
  obtain ⟨b0, c0, d0⟩ := psalteryref22_Decode.mono_l k
  unfold psalteryref22_Decode.f
  with_reducible repeat' first
   | exact b0 _ _ _ _ _ _ _
   | exact c0 _ _ _ _ _ _ _ _ _
   | exact d0 _ _ _ _ _ _ _ _ _ _ _
   | exact psalteryref15_Part.mono _ _ _
   | exact psalteryref21_Restore.mono _ _ _
   | exact psalteryref22_Floors.mono _ _
   | exact LeO.refl _
   | exact LeO.none _
   | refine LeO.ite ?_ ?_
   | refine LeO.bind ?_ (fun _ => ?_)
set_option maxHeartbeats 8000000 in
set_option maxRecDepth 100000 in
theorem psalteryref22_Decode.calls (k : Nat) (V0 : Int) (b1 : Int) (P1 : Option Addr) (Q1 : Nat) (P0 : List Int) (R1 : Option Addr) (S1 : Nat) (Q0 : List Int) (f2 : Option Addr) (T1 : Nat) (i0 : List (List Int)) (U1 : Option Addr) (V1 : Nat) (g0 : List (List Int)) (r : List (List Int)) (w : World) (hr0_2 : Kd.C (Kd.int .i64) w P1 P0.length P0) (hc0_2 : P0.length ≤ Q1) (hr0_3 : Kd.C (Kd.int .i64) w R1 Q0.length Q0) (hc0_3 : Q0.length ≤ S1) (hr1_0 : Kd.C (Kd.slice 3 (Kd.int .i64)) w f2 i0.length i0) (hc1_0 : i0.length ≤ T1) (hr1_1 : Kd.C (Kd.slice 2 (Kd.int .i64)) w U1 g0.length g0) (hc1_1 : g0.length ≤ V1) (h : psalteryref22_Decode.f k V0 b1 P0 Q0 i0 g0 = some r) :
    Calls Try.prog 25 #[.agg #[.int .i64 V0, .int .i64 b1, .slice P1 P0.length Q1, .slice R1 Q0.length S1], .agg #[.slice f2 i0.length T1, .slice U1 g0.length V1]] w fun e w' => ∃ v0_ : Value, e = .returned (.agg #[v0_]) ∧ Kd.S (Kd.slice 2 (Kd.int .i64)) 53 w' w.heap.size (fun _ => True) v0_ r ∧ Below w.heap.size w w' := by
 have y9 := Try.underlying31
 have z9 := Try.underlying33
 have A9 := Try.underlying37
 have P7 := a_ hr0_2
 have Q7 := a_ hc0_2
 clear hr0_2 hc0_2
 have R7 := a_ hr0_3
 have S7 := a_ hc0_3
 clear hr0_3 hc0_3
 have d1 := a_ hr1_0
 have T7 := a_ hc1_0
 clear hr1_0 hc1_0
 have J1 := a_ hr1_1
 have U7 := a_ hc1_1
 clear hr1_1 hc1_1
 have HB := a_ (Below.refl w.heap.size w)
 have H : (if V0 = 2 then (if 0 < (i0.length : Int) then (if ((rd_L1 i0 0).length : Int) > 0 then (if 1 < (i0.length : Int) then (psalteryref22_Decode.j0 k (decide (((rd_L1 i0 1).length : Int) > 0)) V0 b1 P0 Q0 i0 g0) else (none)) else (psalteryref22_Decode.j0 k false V0 b1 P0 Q0 i0 g0)) else (none)) else (psalteryref22_Decode.j0 k false V0 b1 P0 Q0 i0 g0)) = some r := h
 clear h
 have S4 := a_ H
 clear H
 go_enter Try.func25, Try.ntmps25
 go_upto_region 2 with (first | ((with_reducible refine gate_dst (N := 2) rfl ?_); (try (refine gate_guard (by rfl) ?_; dsimp only)); refine bx_ HB 2 #[.int .i64 V0, .int .i64 b1, .slice P1 P0.length Q1, .slice R1 Q0.length S1] 31 ?_; clear HB; intro s2 hg w4 hb b0 t2 HB; have k4 := t2; clear hb hg) | ((with_reducible refine gate_dst (N := 3) rfl ?_); (try (refine gate_guard (by rfl) ?_; dsimp only)); refine bx_ HB 3 #[.slice f2 i0.length T1, .slice U1 g0.length V1] 33 ?_; clear HB; intro v2 hg w5 hb c0 w2 HB; have l4 := w2; obtain ⟨z0, A0⟩ := NN_ b0 hg; replace b0 := FB_ b0 hb; clear hb hg) | ((with_reducible refine gate_dst (N := 4) rfl ?_); (try (refine gate_guard (by rfl) ?_; dsimp only)); refine bx_ HB 4 #[.slice none 0 0] 37 ?_; clear HB; intro K1 hg w6 hb e0 y2 HB; have m4 := y2; obtain ⟨M0, N0⟩ := NN_ b0 hg; replace b0 := FB_ b0 hb; obtain ⟨o0, p0⟩ := NN_ c0 hg; replace c0 := FB_ c0 hb; clear hb hg) | ((with_reducible refine gate_dst (N := 5) rfl ?_); (try (refine gate_guard (by rfl) ?_; dsimp only)); refine bx_ HB 5 #[.slice none 0 0] 37 ?_; clear HB; intro L1 hg w7 hb d0 z2 HB; have n4 := z2; obtain ⟨C0, D0⟩ := NN_ b0 hg; replace b0 := FB_ b0 hb; obtain ⟨q0, r0⟩ := NN_ c0 hg; replace c0 := FB_ c0 hb; obtain ⟨I0, J0⟩ := NN_ e0 hg; replace e0 := FB_ e0 hb; clear hb hg))
 repeat (go_quiet (first | ((with_reducible refine gate_dst (N := 2) rfl ?_); (try (refine gate_guard (by rfl) ?_; dsimp only)); refine bx_ HB 2 #[.int .i64 V0, .int .i64 b1, .slice P1 P0.length Q1, .slice R1 Q0.length S1] 31 ?_; clear HB; intro s2 hg w4 hb b0 t2 HB; have k4 := t2; clear hb hg) | ((with_reducible refine gate_dst (N := 3) rfl ?_); (try (refine gate_guard (by rfl) ?_; dsimp only)); refine bx_ HB 3 #[.slice f2 i0.length T1, .slice U1 g0.length V1] 33 ?_; clear HB; intro v2 hg w5 hb c0 w2 HB; have l4 := w2; obtain ⟨z0, A0⟩ := NN_ b0 hg; replace b0 := FB_ b0 hb; clear hb hg) | ((with_reducible refine gate_dst (N := 4) rfl ?_); (try (refine gate_guard (by rfl) ?_; dsimp only)); refine bx_ HB 4 #[.slice none 0 0] 37 ?_; clear HB; intro K1 hg w6 hb e0 y2 HB; have m4 := y2; obtain ⟨M0, N0⟩ := NN_ b0 hg; replace b0 := FB_ b0 hb; obtain ⟨o0, p0⟩ := NN_ c0 hg; replace c0 := FB_ c0 hb; clear hb hg) | ((with_reducible refine gate_dst (N := 5) rfl ?_); (try (refine gate_guard (by rfl) ?_; dsimp only)); refine bx_ HB 5 #[.slice none 0 0] 37 ?_; clear HB; intro L1 hg w7 hb d0 z2 HB; have n4 := z2; obtain ⟨C0, D0⟩ := NN_ b0 hg; replace b0 := FB_ b0 hb; obtain ⟨q0, r0⟩ := NN_ c0 hg; replace c0 := FB_ c0 hb; obtain ⟨I0, J0⟩ := NN_ e0 hg; replace e0 := FB_ e0 hb; clear hb hg)); go_upto_region 2 with (first | ((with_reducible refine gate_dst (N := 2) rfl ?_); (try (refine gate_guard (by rfl) ?_; dsimp only)); refine bx_ HB 2 #[.int .i64 V0, .int .i64 b1, .slice P1 P0.length Q1, .slice R1 Q0.length S1] 31 ?_; clear HB; intro s2 hg w4 hb b0 t2 HB; have k4 := t2; clear hb hg) | ((with_reducible refine gate_dst (N := 3) rfl ?_); (try (refine gate_guard (by rfl) ?_; dsimp only)); refine bx_ HB 3 #[.slice f2 i0.length T1, .slice U1 g0.length V1] 33 ?_; clear HB; intro v2 hg w5 hb c0 w2 HB; have l4 := w2; obtain ⟨z0, A0⟩ := NN_ b0 hg; replace b0 := FB_ b0 hb; clear hb hg) | ((with_reducible refine gate_dst (N := 4) rfl ?_); (try (refine gate_guard (by rfl) ?_; dsimp only)); refine bx_ HB 4 #[.slice none 0 0] 37 ?_; clear HB; intro K1 hg w6 hb e0 y2 HB; have m4 := y2; obtain ⟨M0, N0⟩ := NN_ b0 hg; replace b0 := FB_ b0 hb; obtain ⟨o0, p0⟩ := NN_ c0 hg; replace c0 := FB_ c0 hb; clear hb hg) | ((with_reducible refine gate_dst (N := 5) rfl ?_); (try (refine gate_guard (by rfl) ?_; dsimp only)); refine bx_ HB 5 #[.slice none 0 0] 37 ?_; clear HB; intro L1 hg w7 hb d0 z2 HB; have n4 := z2; obtain ⟨C0, D0⟩ := NN_ b0 hg; replace b0 := FB_ b0 hb; obtain ⟨q0, r0⟩ := NN_ c0 hg; replace c0 := FB_ c0 hb; obtain ⟨I0, J0⟩ := NN_ e0 hg; replace e0 := FB_ e0 hb; clear hb hg)))
 (try simp only [Act.put, List.setIfInBounds_toArray, List.set_cons_zero, List.set_cons_succ])
 go_cut [6] (fun v6 wc => ∃ (kq : Nat) (T2 : Bool), v6 = .bool T2 ∧ Aside0 (psalteryref22_Decode.j0 kq T2 V0 b1 P0 Q0 i0 g0 = some r) ∧ Aside0 (kq ≤ k) ∧ Aside0 (wc.heap[s2]? = some (.cells #[.int .i64 V0, .int .i64 b1, (.slice P1 P0.length Q1), (.slice R1 Q0.length S1)] 31 (0, 0))) ∧ Aside0 (wc.heap[v2]? = some (.cells #[(.slice f2 i0.length T1), (.slice U1 g0.length V1)] 33 (0, 0))) ∧ Aside0 (wc.heap[K1]? = some (.cells #[(.slice none 0 0)] 37 (0, 0))) ∧ Aside0 (wc.heap[L1]? = some (.cells #[(.slice none 0 0)] 37 (0, 0))) ∧ Aside0 (Below w.heap.size w wc))
 case first => (
 have H := S4.out
 clear S4
 replace H := ie_ H
 rcases H with ⟨U2, S5, H⟩ | ⟨c8, U2, S5, H⟩
 {
 (first | rw [U2] | (simp only [i64_w, i32_w]; rw [U2]) | skip)
 replace H := gt_ H
 obtain ⟨c9, H⟩ := H
 have B9 : decide (0 < (i0.length : Int)) = true := decide_eq_true c9
 have C9 : decide (0 < i0.length) = true := decide_eq_true (by omega)
 clear c9
 replace H := ii_ H
 rcases H with ⟨Q3, H⟩ | ⟨Q3, H⟩
 {
 have n5 : decide (0 < ((rd_L1 i0 0).length : Int)) = true := decide_eq_true Q3
 have o5 : decide (0 < (rd_L1 i0 0).length) = true := decide_eq_true (by omega)
 clear Q3
 replace H := gt_ H
 obtain ⟨D5, H⟩ := H
 have V7 : decide (1 < (i0.length : Int)) = true := decide_eq_true D5
 have W7 : decide (1 < i0.length) = true := decide_eq_true (by omega)
 clear D5
 have H' := a_ H
 clear H
 have X7 := z0.out
 have Y7 := A0.out
 have Z7 := M0.out
 have a8 := N0.out
 have b8 := C0.out
 have d8 := D0.out
 obtain ⟨s6, t6, x6, y6, z6, A6, B6, C6⟩ := e4_ b0
 have e8 := o0.out
 have g8 := p0.out
 have h8 := q0.out
 have j8 := r0.out
 obtain ⟨D6, E6, F6, G6⟩ := e2_ c0
 have g2 : 0 ≤ (0 : Int) := (by omega)
 have h2 : 0 < (i0.length : Int) := dm_
 obtain ⟨o4, T4, U4, Z3, R0, y1, z1⟩ := at_L1 d1.out 0 g2 h2
 cases Z3
 have qi891 : (0 < i0.length) = True := eq_true (by omega)
 (try rw [show ((0 : Int)).toNat = 0 from rfl] at R0)
 (try rw [Addr.add_zero'] at R0)
 replace R0 := hc_ HB R0
 have G4 := a_ z1
 have H4 := a_ y1
 clear z1 y1
 replace g2 := eq_true g2
 replace h2 := eq_true h2
 have a4 : 0 ≤ (1 : Int) := (by omega)
 have b4 : 1 < (i0.length : Int) := dm_
 obtain ⟨p5, t7, x7, T5, a2, l3, m3⟩ := at_L1 d1.out 1 a4 b4
 obtain rfl : o4 = p5 := (by injection T5)
 (try simp only [show (1 : Int).toNat = 1 from rfl, Nat.reduceMul, Nat.reduceEqDiff, Go.Addr.add, ↓reduceIte] at a2)
 have qi892 : (1 < i0.length) = True := eq_true (by omega)
 (try rw [show ((1 : Int)).toNat = 1 from rfl] at a2)
 replace a2 := hc_ HB a2
 have H6 := a_ m3
 have I6 := a_ l3
 clear m3 l3
 replace a4 := eq_true a4
 replace b4 := eq_true b4
 go_wp2
 repeat (go_quiet (fail); try go_wp2)
 go_meet
 case rel => exact ⟨_, (decide (((rd_L1 i0 1).length : Int) > 0)), rs_, H', ⟨ol_⟩, ⟨bk_ b0⟩, ⟨bk_ c0⟩, ⟨bk_ e0⟩, ⟨bk_ d0⟩, ⟨bl_ HB⟩⟩}
 {
 have n5 : decide (0 < ((rd_L1 i0 0).length : Int)) = false := decide_eq_false Q3
 have o5 : decide (0 < (rd_L1 i0 0).length) = false := decide_eq_false (by omega)
 clear Q3
 have H' := a_ H
 clear H
 have k8 := z0.out
 have l8 := A0.out
 have m8 := M0.out
 have n8 := N0.out
 have o8 := C0.out
 have p8 := D0.out
 obtain ⟨J6, K6, L6, M6, N6, O6, P6, Q6⟩ := e4_ b0
 have q8 := o0.out
 have r8 := p0.out
 have s8 := q0.out
 have t8 := r0.out
 obtain ⟨R6, S6, T6, U6⟩ := e2_ c0
 have g2 : 0 ≤ (0 : Int) := (by omega)
 have h2 : 0 < (i0.length : Int) := dm_
 obtain ⟨o4, T4, U4, Z3, R0, y1, z1⟩ := at_L1 d1.out 0 g2 h2
 cases Z3
 have qi891 : (0 < i0.length) = True := eq_true (by omega)
 (try rw [show ((0 : Int)).toNat = 0 from rfl] at R0)
 (try rw [Addr.add_zero'] at R0)
 replace R0 := hc_ HB R0
 have G4 := a_ z1
 have H4 := a_ y1
 clear z1 y1
 replace g2 := eq_true g2
 replace h2 := eq_true h2
 go_wp2
 repeat (go_quiet (fail); try go_wp2)
 go_meet
 case rel => exact ⟨_, (false), rs_, H', ⟨ol_⟩, ⟨bk_ b0⟩, ⟨bk_ c0⟩, ⟨bk_ e0⟩, ⟨bk_ d0⟩, ⟨bl_ HB⟩⟩}}
 {
 (first | rw [U2] | (simp only [i64_w, i32_w]; rw [U2]) | skip)
 have H' := a_ H
 clear H
 have v8 := z0.out
 have w8 := A0.out
 have x8 := M0.out
 have y8 := N0.out
 have z8 := C0.out
 have A8 := D0.out
 obtain ⟨V6, W6, X6, Y6, Z6, a7, b7, c7⟩ := e4_ b0
 go_wp2
 repeat (go_quiet (fail); try go_wp2)
 go_meet
 case rel => exact ⟨_, (false), rs_, H', ⟨ol_⟩, ⟨bk_ b0⟩, ⟨bk_ c0⟩, ⟨bk_ e0⟩, ⟨bk_ d0⟩, ⟨bl_ HB⟩⟩})
 case rest => (
 clear S4
 obtain ⟨kq, T2, rfl, HA, HJ2, b0, c0, e0, d0, HB⟩ := hcut
 cases kq with
 | zero => exact absurd HA.out (by simp [psalteryref22_Decode.j0])
 | succ kj2 => (
 have H := HA.out
 clear HA
 simp only [psalteryref22_Decode.j0] at H
 have H' := a_ H
 clear H
 go_wp2
 repeat (go_quiet (fail); try go_wp2)
 go_loopg [7] kj2 (fun kq v7 w' => ∃ (k0 : Int) (s0 : List (List Int)) (m0 : Value), v7 = .int .i64 k0 ∧ Aside0 (psalteryref22_Decode.l0 kq T2 k0 V0 b1 P0 Q0 i0 g0 s0 = some r) ∧ Aside0 (kq ≤ kj2) ∧ Aside0 (Kd.S (Kd.slice 2 (Kd.int .i64)) 53 w' w.heap.size (fun _ => True) m0 s0) ∧ Aside0 (w'.heap[s2]? = some (.cells #[.int .i64 V0, .int .i64 b1, (.slice P1 P0.length Q1), (.slice R1 Q0.length S1)] 31 (0, 0))) ∧ Aside0 (w'.heap[v2]? = some (.cells #[(.slice f2 i0.length T1), (.slice U1 g0.length V1)] 33 (0, 0))) ∧ Aside0 (w'.heap[K1]? = some (.cells #[(.slice none 0 0)] 37 (0, 0))) ∧ Aside0 (w'.heap[L1]? = some (.cells #[m0] 37 (0, 0))) ∧ Aside0 (Below w.heap.size w w'))
 case atStart => exact ⟨(0), (([] : List (List Int))), (.slice none 0 0), rs_, H', ⟨Nat.le_refl _⟩, ⟨kn_⟩, ⟨bk_ b0⟩, ⟨bk_ c0⟩, ⟨bk_ e0⟩, ⟨bk_ d0⟩, ⟨bl_ HB⟩⟩
 case round => (
 clear H'
 obtain ⟨k0, s0, m0, rfl, HA, e2, a0, b0, c0, e0, d0, HB⟩ := hrel
 cases gk with
 | zero => exact absurd HA.out (by simp [psalteryref22_Decode.l0])
 | succ k2 => (
 have H := HA.out
 clear HA
 simp only [psalteryref22_Decode.l0] at H
 replace H := id_ H
 rcases H with ⟨p4, H⟩ | ⟨p4, H⟩
 {
 replace H := gt_ H
 obtain ⟨q4, H⟩ := H
 have q5 := eq_true q4
 have r5 : decide (16 ≤ 35184372088832) = true := decide_eq_true q4
 clear q4
 obtain ⟨r1, L2⟩ : ∃ y_ : List Int, y_ = (List.replicate 16 0) := ⟨_, rfl⟩
 first | replace H := by_ H L2 | rw [← L2] at H
 have U0 := a_ L2
 clear L2
 replace H := gd_ H
 obtain ⟨s5, H⟩ := H
 replace H := gd_ H
 obtain ⟨t5, H⟩ := H
 replace H := ii_ H
 rcases H with ⟨n3, H⟩ | ⟨n3, H⟩
 {
 have r4 : decide (0 < ((rd_L1 i0 k0).length : Int)) = true := decide_eq_true n3
 have s4 : decide (0 < (rd_L1 i0 k0).length) = true := decide_eq_true (by omega)
 clear n3
 have H' := a_ H
 clear H
 have B8 := z0.out
 have C8 := A0.out
 have D8 := M0.out
 have E8 := N0.out
 have F8 := C0.out
 have G8 := D0.out
 obtain ⟨I4, J4, K4, L4, M4, N4, O4, P4⟩ := e4_ b0
 go_wp2_with (first | ((with_reducible refine gate_dst (N := 39) rfl ?_); (try (refine gate_guard (by rfl) ?_; dsimp only)); refine Kd.R_make (Kd.int .i64) _ 2 rfl (N := 39) rfl 53 _ _ rfl 16 rfl rfl Try.underlying53 (.int .i64 0) 8 info2 rfl (by decide) (by omega) 0 (ok := fun _ => True) (okp := fun _ => True) rfl (fun _ hk => hk) trivial (by omega) (by omega) (Below.refl _ _) (Nat.le_refl _) ?_; intro V2 E5 L0 hb hg_ hnew_; clear hg_ hnew_; (first | rw [← U0.out] at L0 | (simp only [Int.reduceToNat] at L0; rw [← U0.out] at L0)); replace a0 := a_ (Kd.S_elder' (kS_ a0) (Kd.R_base L0) hb); have K0 := a_ (Kd.R_lower L0 (bs_ HB)); replace b0 := FB_ b0 hb; replace c0 := FB_ c0 hb; replace e0 := FB_ e0 hb; replace d0 := FB_ d0 hb; replace HB := BS_ HB hb; clear hb L0; have t4 := o0.out; have v4 := p0.out; have x4 := q0.out; have y4 := r0.out; obtain ⟨C2, D2, E2, F2⟩ := e2_ c0; have F0 : 0 ≤ (k0 : Int) := dm_; have G0 : k0 < (i0.length : Int) := dm_; obtain ⟨M1, W1, X1, e1, t0, v0, y0⟩ := at_L1 d1.out k0 F0 G0; cases e1; replace t0 := hc_ HB t0; have A1 := a_ y0; have B1 := a_ v0; clear y0 v0; replace F0 := eq_true F0; replace G0 := eq_true G0))
 repeat (go_quiet (first | ((with_reducible refine gate_dst (N := 39) rfl ?_); (try (refine gate_guard (by rfl) ?_; dsimp only)); refine Kd.R_make (Kd.int .i64) _ 2 rfl (N := 39) rfl 53 _ _ rfl 16 rfl rfl Try.underlying53 (.int .i64 0) 8 info2 rfl (by decide) (by omega) 0 (ok := fun _ => True) (okp := fun _ => True) rfl (fun _ hk => hk) trivial (by omega) (by omega) (Below.refl _ _) (Nat.le_refl _) ?_; intro V2 E5 L0 hb hg_ hnew_; clear hg_ hnew_; (first | rw [← U0.out] at L0 | (simp only [Int.reduceToNat] at L0; rw [← U0.out] at L0)); replace a0 := a_ (Kd.S_elder' (kS_ a0) (Kd.R_base L0) hb); have K0 := a_ (Kd.R_lower L0 (bs_ HB)); replace b0 := FB_ b0 hb; replace c0 := FB_ c0 hb; replace e0 := FB_ e0 hb; replace d0 := FB_ d0 hb; replace HB := BS_ HB hb; clear hb L0; have t4 := o0.out; have v4 := p0.out; have x4 := q0.out; have y4 := r0.out; obtain ⟨C2, D2, E2, F2⟩ := e2_ c0; have F0 : 0 ≤ (k0 : Int) := dm_; have G0 : k0 < (i0.length : Int) := dm_; obtain ⟨M1, W1, X1, e1, t0, v0, y0⟩ := at_L1 d1.out k0 F0 G0; cases e1; replace t0 := hc_ HB t0; have A1 := a_ y0; have B1 := a_ v0; clear y0 v0; replace F0 := eq_true F0; replace G0 := eq_true G0)); try go_wp2_with (first | ((with_reducible refine gate_dst (N := 39) rfl ?_); (try (refine gate_guard (by rfl) ?_; dsimp only)); refine Kd.R_make (Kd.int .i64) _ 2 rfl (N := 39) rfl 53 _ _ rfl 16 rfl rfl Try.underlying53 (.int .i64 0) 8 info2 rfl (by decide) (by omega) 0 (ok := fun _ => True) (okp := fun _ => True) rfl (fun _ hk => hk) trivial (by omega) (by omega) (Below.refl _ _) (Nat.le_refl _) ?_; intro V2 E5 L0 hb hg_ hnew_; clear hg_ hnew_; (first | rw [← U0.out] at L0 | (simp only [Int.reduceToNat] at L0; rw [← U0.out] at L0)); replace a0 := a_ (Kd.S_elder' (kS_ a0) (Kd.R_base L0) hb); have K0 := a_ (Kd.R_lower L0 (bs_ HB)); replace b0 := FB_ b0 hb; replace c0 := FB_ c0 hb; replace e0 := FB_ e0 hb; replace d0 := FB_ d0 hb; replace HB := BS_ HB hb; clear hb L0; have t4 := o0.out; have v4 := p0.out; have x4 := q0.out; have y4 := r0.out; obtain ⟨C2, D2, E2, F2⟩ := e2_ c0; have F0 : 0 ≤ (k0 : Int) := dm_; have G0 : k0 < (i0.length : Int) := dm_; obtain ⟨M1, W1, X1, e1, t0, v0, y0⟩ := at_L1 d1.out k0 F0 G0; cases e1; replace t0 := hc_ HB t0; have A1 := a_ y0; have B1 := a_ v0; clear y0 v0; replace F0 := eq_true F0; replace G0 := eq_true G0)))
 go_loopg [9, 10] k2 (fun kq v9 y7 w' => ∃ (B0 : List Int) (h0 : Int), y7 = .int .i64 h0 ∧ Aside0 (psalteryref22_Decode.l1 kq T2 k0 B0 h0 V0 b1 P0 Q0 i0 g0 s0 = some r) ∧ Aside0 (kq ≤ k2) ∧ Aside0 (Kd.R (Kd.int .i64) 2 w' w.heap.size (fun _ => True) v9 B0) ∧ Aside0 (Kd.S (Kd.slice 2 (Kd.int .i64)) 53 w' w.heap.size (fun k_ => some k_ ≠ (v9 : Value).ownBlock) m0 s0) ∧ Aside0 (w'.heap[s2]? = some (.cells #[.int .i64 V0, .int .i64 b1, (.slice P1 P0.length Q1), (.slice R1 Q0.length S1)] 31 (0, 0))) ∧ Aside0 (w'.heap[v2]? = some (.cells #[(.slice (some M1) i0.length T1), (.slice U1 g0.length V1)] 33 (0, 0))) ∧ Aside0 (w'.heap[K1]? = some (.cells #[(.slice none 0 0)] 37 (0, 0))) ∧ Aside0 (w'.heap[L1]? = some (.cells #[m0] 37 (0, 0))) ∧ Aside0 (Below w.heap.size w w'))
 case atStart => exact ⟨(([] : List Int)), (0), rs_, H', ⟨Nat.le_refl _⟩, ⟨kn_⟩, ⟨by (with_reducible repeat (first | apply Kd.S_alloc | apply Kd.S_drewN | apply Kd.S_drew)); exact Kd.S_mono a0.out (fun _ hk => (by simp [Value.ownBlock]))⟩, ⟨bk_ b0⟩, ⟨bk_ c0⟩, ⟨bk_ e0⟩, ⟨bk_ d0⟩, ⟨bl_ HB⟩⟩
 case round => (
 clear H'
 try clear D9
 try clear p4
 try clear q4
 try clear q5
 try clear r5
 try clear E9
 try clear s5
 try clear F9
 try clear t5
 try clear n3
 try clear r4
 try clear s4
 try clear I4 J4 K4 L4 M4 N4 O4 P4
 try clear C2 D2 E2 F2
 try clear t0
 try clear F0
 try clear G0
 obtain ⟨B0, h0, rfl, HA, K2, f0, a0, b0, c0, e0, d0, HB⟩ := hrel
 cases gk with
 | zero => exact absurd HA.out (by simp [psalteryref22_Decode.l1])
 | succ k3 => (
 have H := HA.out
 clear HA
 simp only [psalteryref22_Decode.l1] at H
 replace H := id_ H
 rcases H with ⟨v5, H⟩ | ⟨v5, H⟩
 {
 replace H := gd_ H
 obtain ⟨H8, H⟩ := H
 replace H := gd_ H
 obtain ⟨I8, H⟩ := H
 replace H := gd_ H
 obtain ⟨J8, H⟩ := H
 replace H := gd_ H
 obtain ⟨K8, H⟩ := H
 replace H := ib_ H
 rcases H with ⟨rfl, H⟩ | ⟨rfl, H⟩
 {
 replace H := gt_ H
 obtain ⟨F5, H⟩ := H
 have L8 : decide (0 < (g0.length : Int)) = true := decide_eq_true F5
 have M8 : decide (0 < g0.length) = true := decide_eq_true (by omega)
 clear F5
 replace H := gd_ H
 obtain ⟨N8, H⟩ := H
 replace H := gt_ H
 obtain ⟨G5, H⟩ := H
 have O8 : decide (1 < (g0.length : Int)) = true := decide_eq_true G5
 have P8 : decide (1 < g0.length) = true := decide_eq_true (by omega)
 clear G5
 replace H := gd_ H
 obtain ⟨Q8, H⟩ := H
 obtain ⟨⟨N1, O1⟩, o3, H⟩ := ob_ H
 (try dsimp only at H)
 replace H := ie_ H
 rcases H with ⟨x5, y5, H⟩ | ⟨G9, x5, y5, H⟩
 {
 obtain ⟨s1, V4, H⟩ := ob_ H
 (try dsimp only at H)
 replace H := gt_ H
 obtain ⟨H5, H⟩ := H
 have z3 := a_ H5
 clear H5
 obtain ⟨U5, M2⟩ : ∃ y_ : List Int, y_ = (B0 ++ [s1]) := ⟨_, rfl⟩
 first | replace H := by_ H M2 | rw [← M2] at H
 have A3 := a_ M2
 clear M2
 have H' := a_ H
 clear H
 have R8 := A0.out
 have S8 := z0.out
 have T8 := o0.out
 have U8 := p0.out
 have V8 := q0.out
 have W8 := r0.out
 obtain ⟨d7, e7, f7, g7⟩ := e2_ c0
 have f1 : 0 ≤ (k0 : Int) := dm_
 have h1 : k0 < (g0.length : Int) := dm_
 obtain ⟨b2, R3, S3, W2, X0, Y0, Z0⟩ := at_L2 J1.out k0 f1 h1
 cases W2
 replace X0 := hc_ HB X0
 have C1 := a_ Z0
 have p3 := a_ Y0
 clear Z0 Y0
 replace f1 := eq_true f1
 replace h1 := eq_true h1
 have i1 : 0 ≤ (h0 : Int) := dm_
 have j1 : h0 < ((rd_L2 g0 k0).length : Int) := dm_
 obtain ⟨z4, X2, a1⟩ := Kd.at_int C1.out h0 i1 j1
 cases X2
 replace a1 := hc_ HB a1
 replace i1 := eq_true i1
 replace j1 := eq_true j1
 have i2 : 0 ≤ (0 : Int) := (by omega)
 have j2 : 0 < (g0.length : Int) := dm_
 obtain ⟨B3, W4, X4, c4, S0, D1, E1⟩ := at_L2 J1.out 0 i2 j2
 obtain rfl : b2 = B3 := (by injection c4)
 have qi909 : (0 < g0.length) = True := eq_true (by omega)
 (try rw [show ((0 : Int)).toNat = 0 from rfl] at S0)
 (try rw [Addr.add_zero'] at S0)
 replace S0 := hc_ HB S0
 have G2 := a_ E1
 have Q4 := a_ D1
 clear E1 D1
 replace i2 := eq_true i2
 replace j2 := eq_true j2
 have l2 : 0 ≤ (h0 : Int) := dm_
 have m2 : h0 < ((rd_L2 g0 0).length : Int) := dm_
 obtain ⟨z5, d4, F1⟩ := Kd.at_int G2.out h0 l2 m2
 cases d4
 replace F1 := hc_ HB F1
 replace l2 := eq_true l2
 replace m2 := eq_true m2
 have n2 : 0 ≤ (1 : Int) := (by omega)
 have p2 : 1 < (g0.length : Int) := dm_
 obtain ⟨C3, Y4, Z4, e4, T0, G1, H1⟩ := at_L2 J1.out 1 n2 p2
 obtain rfl : b2 = C3 := (by injection e4)
 (try simp only [show (1 : Int).toNat = 1 from rfl, Nat.reduceMul, Nat.reduceEqDiff, Go.Addr.add, ↓reduceIte] at T0)
 have qi911 : (1 < g0.length) = True := eq_true (by omega)
 (try rw [show ((1 : Int)).toNat = 1 from rfl] at T0)
 replace T0 := hc_ HB T0
 have H2 := a_ H1
 have R4 := a_ G1
 clear H1 G1
 replace n2 := eq_true n2
 replace p2 := eq_true p2
 have q2 : 0 ≤ (h0 : Int) := dm_
 have r2 : h0 < ((rd_L2 g0 1).length : Int) := dm_
 obtain ⟨A5, f4, I1⟩ := Kd.at_int H2.out h0 q2 r2
 cases f4
 replace I1 := hc_ HB I1
 replace q2 := eq_true q2
 replace r2 := eq_true r2
 go_wp2_with (first | (go_at_call 57; (with_reducible refine (psalteryref15_Part.calls k3 (rd (rd_L2 g0 0) h0) (rd (rd_L2 g0 1) h0) N1 O1 _ o3.out).mono ?_); rintro e w' ⟨rfl, ⟨nd, rfl⟩⟩; (try first | exact ⟨rfl, _, World.drewN_drewN _ _ _⟩ | exact ⟨rfl, _, Eq.trans (World.drewN_drewN _ _ _) (congrArg (World.drewN _) (Nat.add_assoc _ _ _))⟩)) | (go_at_call 58; (with_reducible refine (psalteryref03_Clamp.calls O1 (-8388608) 8388608 s1 _ V4.out).mono ?_); rintro e w' ⟨rfl, ⟨nd, rfl⟩⟩; (try first | exact ⟨rfl, _, World.drewN_drewN _ _ _⟩ | exact ⟨rfl, _, Eq.trans (World.drewN_drewN _ _ _) (congrArg (World.drewN _) (Nat.add_assoc _ _ _))⟩)) | ((with_reducible refine gate_builtin (b := .append) (xs := #[.tmp 82, .tmp 85]) rfl ?_); (try (refine gate_guard (by rfl) ?_; dsimp only)); at_builtin; refine Kd.R_append (Kd.int .i64) (w0 := w) w.heap.size rfl (.tmp 82) (.tmp 85) 53 2 (.int .i64 0) 8 rfl Try.underlying53 info2 rfl (by decide) (by omega) u9 B0 s1 [.int .i64 s1] (fun _ => True) (fun _ => False) rfl rfl ?aP (fun _ hk => hk.elim) ?aF ?aO ?aB ?aS ?aL ?_; (case aP => exact rfl); (case aB => exact (bl_ HB)); (case aF => exact (fun _ _ => trivial)); (case aO => exact (kR_ f0)); (case aS => exact (bs_ HB)); (case aL => have := z3.out; omega); intro a5 I5 ho hb hg hat; rw [← A3.out] at ho; replace a0 := a_ (Kd.S_after (ok := (fun _ => True)) (by (with_reducible repeat (first | apply Kd.S_alloc | apply Kd.S_drewN | apply Kd.S_drew)); exact Kd.S_mono a0.out (fun _ hk => ⟨trivial, hk⟩)) hg hat); replace b0 := (FG_ b0 hg (Kd.R_ne f0.out b0.out (by decide))); replace c0 := (FG_ c0 hg (Kd.R_ne f0.out c0.out (by decide))); replace e0 := (FG_ e0 hg (Kd.R_ne f0.out e0.out (by decide))); replace d0 := (FG_ d0 hg (Kd.R_ne f0.out d0.out (by decide))); replace HB := a_ (hb); have D3 := a_ (ho); clear f0; clear ho hb hg hat))
 repeat (go_quiet (first | (go_at_call 57; (with_reducible refine (psalteryref15_Part.calls k3 (rd (rd_L2 g0 0) h0) (rd (rd_L2 g0 1) h0) N1 O1 _ o3.out).mono ?_); rintro e w' ⟨rfl, ⟨nd, rfl⟩⟩; (try first | exact ⟨rfl, _, World.drewN_drewN _ _ _⟩ | exact ⟨rfl, _, Eq.trans (World.drewN_drewN _ _ _) (congrArg (World.drewN _) (Nat.add_assoc _ _ _))⟩)) | (go_at_call 58; (with_reducible refine (psalteryref03_Clamp.calls O1 (-8388608) 8388608 s1 _ V4.out).mono ?_); rintro e w' ⟨rfl, ⟨nd, rfl⟩⟩; (try first | exact ⟨rfl, _, World.drewN_drewN _ _ _⟩ | exact ⟨rfl, _, Eq.trans (World.drewN_drewN _ _ _) (congrArg (World.drewN _) (Nat.add_assoc _ _ _))⟩)) | ((with_reducible refine gate_builtin (b := .append) (xs := #[.tmp 82, .tmp 85]) rfl ?_); (try (refine gate_guard (by rfl) ?_; dsimp only)); at_builtin; refine Kd.R_append (Kd.int .i64) (w0 := w) w.heap.size rfl (.tmp 82) (.tmp 85) 53 2 (.int .i64 0) 8 rfl Try.underlying53 info2 rfl (by decide) (by omega) u9 B0 s1 [.int .i64 s1] (fun _ => True) (fun _ => False) rfl rfl ?aP (fun _ hk => hk.elim) ?aF ?aO ?aB ?aS ?aL ?_; (case aP => exact rfl); (case aB => exact (bl_ HB)); (case aF => exact (fun _ _ => trivial)); (case aO => exact (kR_ f0)); (case aS => exact (bs_ HB)); (case aL => have := z3.out; omega); intro a5 I5 ho hb hg hat; rw [← A3.out] at ho; replace a0 := a_ (Kd.S_after (ok := (fun _ => True)) (by (with_reducible repeat (first | apply Kd.S_alloc | apply Kd.S_drewN | apply Kd.S_drew)); exact Kd.S_mono a0.out (fun _ hk => ⟨trivial, hk⟩)) hg hat); replace b0 := (FG_ b0 hg (Kd.R_ne f0.out b0.out (by decide))); replace c0 := (FG_ c0 hg (Kd.R_ne f0.out c0.out (by decide))); replace e0 := (FG_ e0 hg (Kd.R_ne f0.out e0.out (by decide))); replace d0 := (FG_ d0 hg (Kd.R_ne f0.out d0.out (by decide))); replace HB := a_ (hb); have D3 := a_ (ho); clear f0; clear ho hb hg hat)); try go_wp2_with (first | (go_at_call 57; (with_reducible refine (psalteryref15_Part.calls k3 (rd (rd_L2 g0 0) h0) (rd (rd_L2 g0 1) h0) N1 O1 _ o3.out).mono ?_); rintro e w' ⟨rfl, ⟨nd, rfl⟩⟩; (try first | exact ⟨rfl, _, World.drewN_drewN _ _ _⟩ | exact ⟨rfl, _, Eq.trans (World.drewN_drewN _ _ _) (congrArg (World.drewN _) (Nat.add_assoc _ _ _))⟩)) | (go_at_call 58; (with_reducible refine (psalteryref03_Clamp.calls O1 (-8388608) 8388608 s1 _ V4.out).mono ?_); rintro e w' ⟨rfl, ⟨nd, rfl⟩⟩; (try first | exact ⟨rfl, _, World.drewN_drewN _ _ _⟩ | exact ⟨rfl, _, Eq.trans (World.drewN_drewN _ _ _) (congrArg (World.drewN _) (Nat.add_assoc _ _ _))⟩)) | ((with_reducible refine gate_builtin (b := .append) (xs := #[.tmp 82, .tmp 85]) rfl ?_); (try (refine gate_guard (by rfl) ?_; dsimp only)); at_builtin; refine Kd.R_append (Kd.int .i64) (w0 := w) w.heap.size rfl (.tmp 82) (.tmp 85) 53 2 (.int .i64 0) 8 rfl Try.underlying53 info2 rfl (by decide) (by omega) u9 B0 s1 [.int .i64 s1] (fun _ => True) (fun _ => False) rfl rfl ?aP (fun _ hk => hk.elim) ?aF ?aO ?aB ?aS ?aL ?_; (case aP => exact rfl); (case aB => exact (bl_ HB)); (case aF => exact (fun _ _ => trivial)); (case aO => exact (kR_ f0)); (case aS => exact (bs_ HB)); (case aL => have := z3.out; omega); intro a5 I5 ho hb hg hat; rw [← A3.out] at ho; replace a0 := a_ (Kd.S_after (ok := (fun _ => True)) (by (with_reducible repeat (first | apply Kd.S_alloc | apply Kd.S_drewN | apply Kd.S_drew)); exact Kd.S_mono a0.out (fun _ hk => ⟨trivial, hk⟩)) hg hat); replace b0 := (FG_ b0 hg (Kd.R_ne f0.out b0.out (by decide))); replace c0 := (FG_ c0 hg (Kd.R_ne f0.out c0.out (by decide))); replace e0 := (FG_ e0 hg (Kd.R_ne f0.out e0.out (by decide))); replace d0 := (FG_ d0 hg (Kd.R_ne f0.out d0.out (by decide))); replace HB := a_ (hb); have D3 := a_ (ho); clear f0; clear ho hb hg hat)))
 go_roundg k3
 case measure => have := HJ2.out; have := e2.out; have := K2.out; omega
 case rel => exact ⟨(U5), (wrap64 (h0 + 1)), rs_, H', ⟨by have := HJ2.out; have := e2.out; have := K2.out; omega⟩, ⟨kR_ D3⟩, ⟨by (with_reducible repeat (first | apply Kd.S_alloc | apply Kd.S_drewN | apply Kd.S_drew)); exact Kd.S_mono a0.out (fun _ hk => hk.2)⟩, ⟨bk_ b0⟩, ⟨bk_ c0⟩, ⟨bk_ e0⟩, ⟨bk_ d0⟩, ⟨bl_ HB⟩⟩}
 {
 obtain ⟨t1, b5, H⟩ := ob_ H
 (try dsimp only at H)
 replace H := gt_ H
 obtain ⟨J5, H⟩ := H
 have E3 := a_ J5
 clear J5
 obtain ⟨V5, N2⟩ : ∃ y_ : List Int, y_ = (B0 ++ [t1]) := ⟨_, rfl⟩
 first | replace H := by_ H N2 | rw [← N2] at H
 have F3 := a_ N2
 clear N2
 have H' := a_ H
 clear H
 have X8 := A0.out
 have Y8 := z0.out
 have Z8 := o0.out
 have a9 := p0.out
 have b9 := q0.out
 have d9 := r0.out
 obtain ⟨h7, i7, j7, k7⟩ := e2_ c0
 have f1 : 0 ≤ (k0 : Int) := dm_
 have h1 : k0 < (g0.length : Int) := dm_
 obtain ⟨b2, R3, S3, W2, X0, Y0, Z0⟩ := at_L2 J1.out k0 f1 h1
 cases W2
 replace X0 := hc_ HB X0
 have C1 := a_ Z0
 have p3 := a_ Y0
 clear Z0 Y0
 replace f1 := eq_true f1
 replace h1 := eq_true h1
 have i1 : 0 ≤ (h0 : Int) := dm_
 have j1 : h0 < ((rd_L2 g0 k0).length : Int) := dm_
 obtain ⟨z4, X2, a1⟩ := Kd.at_int C1.out h0 i1 j1
 cases X2
 replace a1 := hc_ HB a1
 replace i1 := eq_true i1
 replace j1 := eq_true j1
 have i2 : 0 ≤ (0 : Int) := (by omega)
 have j2 : 0 < (g0.length : Int) := dm_
 obtain ⟨B3, W4, X4, c4, S0, D1, E1⟩ := at_L2 J1.out 0 i2 j2
 obtain rfl : b2 = B3 := (by injection c4)
 have qi909 : (0 < g0.length) = True := eq_true (by omega)
 (try rw [show ((0 : Int)).toNat = 0 from rfl] at S0)
 (try rw [Addr.add_zero'] at S0)
 replace S0 := hc_ HB S0
 have G2 := a_ E1
 have Q4 := a_ D1
 clear E1 D1
 replace i2 := eq_true i2
 replace j2 := eq_true j2
 have l2 : 0 ≤ (h0 : Int) := dm_
 have m2 : h0 < ((rd_L2 g0 0).length : Int) := dm_
 obtain ⟨z5, d4, F1⟩ := Kd.at_int G2.out h0 l2 m2
 cases d4
 replace F1 := hc_ HB F1
 replace l2 := eq_true l2
 replace m2 := eq_true m2
 have n2 : 0 ≤ (1 : Int) := (by omega)
 have p2 : 1 < (g0.length : Int) := dm_
 obtain ⟨C3, Y4, Z4, e4, T0, G1, H1⟩ := at_L2 J1.out 1 n2 p2
 obtain rfl : b2 = C3 := (by injection e4)
 (try simp only [show (1 : Int).toNat = 1 from rfl, Nat.reduceMul, Nat.reduceEqDiff, Go.Addr.add, ↓reduceIte] at T0)
 have qi911 : (1 < g0.length) = True := eq_true (by omega)
 (try rw [show ((1 : Int)).toNat = 1 from rfl] at T0)
 replace T0 := hc_ HB T0
 have H2 := a_ H1
 have R4 := a_ G1
 clear H1 G1
 replace n2 := eq_true n2
 replace p2 := eq_true p2
 have q2 : 0 ≤ (h0 : Int) := dm_
 have r2 : h0 < ((rd_L2 g0 1).length : Int) := dm_
 obtain ⟨A5, f4, I1⟩ := Kd.at_int H2.out h0 q2 r2
 cases f4
 replace I1 := hc_ HB I1
 replace q2 := eq_true q2
 replace r2 := eq_true r2
 go_wp2_with (first | (go_at_call 57; (with_reducible refine (psalteryref15_Part.calls k3 (rd (rd_L2 g0 0) h0) (rd (rd_L2 g0 1) h0) N1 O1 _ o3.out).mono ?_); rintro e w' ⟨rfl, ⟨nd, rfl⟩⟩; (try first | exact ⟨rfl, _, World.drewN_drewN _ _ _⟩ | exact ⟨rfl, _, Eq.trans (World.drewN_drewN _ _ _) (congrArg (World.drewN _) (Nat.add_assoc _ _ _))⟩)) | (go_at_call 58; (with_reducible refine (psalteryref03_Clamp.calls N1 (-8388608) 8388608 t1 _ b5.out).mono ?_); rintro e w' ⟨rfl, ⟨nd, rfl⟩⟩; (try first | exact ⟨rfl, _, World.drewN_drewN _ _ _⟩ | exact ⟨rfl, _, Eq.trans (World.drewN_drewN _ _ _) (congrArg (World.drewN _) (Nat.add_assoc _ _ _))⟩)) | ((with_reducible refine gate_builtin (b := .append) (xs := #[.tmp 82, .tmp 85]) rfl ?_); (try (refine gate_guard (by rfl) ?_; dsimp only)); at_builtin; refine Kd.R_append (Kd.int .i64) (w0 := w) w.heap.size rfl (.tmp 82) (.tmp 85) 53 2 (.int .i64 0) 8 rfl Try.underlying53 info2 rfl (by decide) (by omega) u9 B0 t1 [.int .i64 t1] (fun _ => True) (fun _ => False) rfl rfl ?aP (fun _ hk => hk.elim) ?aF ?aO ?aB ?aS ?aL ?_; (case aP => exact rfl); (case aB => exact (bl_ HB)); (case aF => exact (fun _ _ => trivial)); (case aO => exact (kR_ f0)); (case aS => exact (bs_ HB)); (case aL => have := E3.out; omega); intro c5 K5 ho hb hg hat; rw [← F3.out] at ho; replace a0 := a_ (Kd.S_after (ok := (fun _ => True)) (by (with_reducible repeat (first | apply Kd.S_alloc | apply Kd.S_drewN | apply Kd.S_drew)); exact Kd.S_mono a0.out (fun _ hk => ⟨trivial, hk⟩)) hg hat); replace b0 := (FG_ b0 hg (Kd.R_ne f0.out b0.out (by decide))); replace c0 := (FG_ c0 hg (Kd.R_ne f0.out c0.out (by decide))); replace e0 := (FG_ e0 hg (Kd.R_ne f0.out e0.out (by decide))); replace d0 := (FG_ d0 hg (Kd.R_ne f0.out d0.out (by decide))); replace HB := a_ (hb); have G3 := a_ (ho); clear f0; clear ho hb hg hat))
 repeat (go_quiet (first | (go_at_call 57; (with_reducible refine (psalteryref15_Part.calls k3 (rd (rd_L2 g0 0) h0) (rd (rd_L2 g0 1) h0) N1 O1 _ o3.out).mono ?_); rintro e w' ⟨rfl, ⟨nd, rfl⟩⟩; (try first | exact ⟨rfl, _, World.drewN_drewN _ _ _⟩ | exact ⟨rfl, _, Eq.trans (World.drewN_drewN _ _ _) (congrArg (World.drewN _) (Nat.add_assoc _ _ _))⟩)) | (go_at_call 58; (with_reducible refine (psalteryref03_Clamp.calls N1 (-8388608) 8388608 t1 _ b5.out).mono ?_); rintro e w' ⟨rfl, ⟨nd, rfl⟩⟩; (try first | exact ⟨rfl, _, World.drewN_drewN _ _ _⟩ | exact ⟨rfl, _, Eq.trans (World.drewN_drewN _ _ _) (congrArg (World.drewN _) (Nat.add_assoc _ _ _))⟩)) | ((with_reducible refine gate_builtin (b := .append) (xs := #[.tmp 82, .tmp 85]) rfl ?_); (try (refine gate_guard (by rfl) ?_; dsimp only)); at_builtin; refine Kd.R_append (Kd.int .i64) (w0 := w) w.heap.size rfl (.tmp 82) (.tmp 85) 53 2 (.int .i64 0) 8 rfl Try.underlying53 info2 rfl (by decide) (by omega) u9 B0 t1 [.int .i64 t1] (fun _ => True) (fun _ => False) rfl rfl ?aP (fun _ hk => hk.elim) ?aF ?aO ?aB ?aS ?aL ?_; (case aP => exact rfl); (case aB => exact (bl_ HB)); (case aF => exact (fun _ _ => trivial)); (case aO => exact (kR_ f0)); (case aS => exact (bs_ HB)); (case aL => have := E3.out; omega); intro c5 K5 ho hb hg hat; rw [← F3.out] at ho; replace a0 := a_ (Kd.S_after (ok := (fun _ => True)) (by (with_reducible repeat (first | apply Kd.S_alloc | apply Kd.S_drewN | apply Kd.S_drew)); exact Kd.S_mono a0.out (fun _ hk => ⟨trivial, hk⟩)) hg hat); replace b0 := (FG_ b0 hg (Kd.R_ne f0.out b0.out (by decide))); replace c0 := (FG_ c0 hg (Kd.R_ne f0.out c0.out (by decide))); replace e0 := (FG_ e0 hg (Kd.R_ne f0.out e0.out (by decide))); replace d0 := (FG_ d0 hg (Kd.R_ne f0.out d0.out (by decide))); replace HB := a_ (hb); have G3 := a_ (ho); clear f0; clear ho hb hg hat)); try go_wp2_with (first | (go_at_call 57; (with_reducible refine (psalteryref15_Part.calls k3 (rd (rd_L2 g0 0) h0) (rd (rd_L2 g0 1) h0) N1 O1 _ o3.out).mono ?_); rintro e w' ⟨rfl, ⟨nd, rfl⟩⟩; (try first | exact ⟨rfl, _, World.drewN_drewN _ _ _⟩ | exact ⟨rfl, _, Eq.trans (World.drewN_drewN _ _ _) (congrArg (World.drewN _) (Nat.add_assoc _ _ _))⟩)) | (go_at_call 58; (with_reducible refine (psalteryref03_Clamp.calls N1 (-8388608) 8388608 t1 _ b5.out).mono ?_); rintro e w' ⟨rfl, ⟨nd, rfl⟩⟩; (try first | exact ⟨rfl, _, World.drewN_drewN _ _ _⟩ | exact ⟨rfl, _, Eq.trans (World.drewN_drewN _ _ _) (congrArg (World.drewN _) (Nat.add_assoc _ _ _))⟩)) | ((with_reducible refine gate_builtin (b := .append) (xs := #[.tmp 82, .tmp 85]) rfl ?_); (try (refine gate_guard (by rfl) ?_; dsimp only)); at_builtin; refine Kd.R_append (Kd.int .i64) (w0 := w) w.heap.size rfl (.tmp 82) (.tmp 85) 53 2 (.int .i64 0) 8 rfl Try.underlying53 info2 rfl (by decide) (by omega) u9 B0 t1 [.int .i64 t1] (fun _ => True) (fun _ => False) rfl rfl ?aP (fun _ hk => hk.elim) ?aF ?aO ?aB ?aS ?aL ?_; (case aP => exact rfl); (case aB => exact (bl_ HB)); (case aF => exact (fun _ _ => trivial)); (case aO => exact (kR_ f0)); (case aS => exact (bs_ HB)); (case aL => have := E3.out; omega); intro c5 K5 ho hb hg hat; rw [← F3.out] at ho; replace a0 := a_ (Kd.S_after (ok := (fun _ => True)) (by (with_reducible repeat (first | apply Kd.S_alloc | apply Kd.S_drewN | apply Kd.S_drew)); exact Kd.S_mono a0.out (fun _ hk => ⟨trivial, hk⟩)) hg hat); replace b0 := (FG_ b0 hg (Kd.R_ne f0.out b0.out (by decide))); replace c0 := (FG_ c0 hg (Kd.R_ne f0.out c0.out (by decide))); replace e0 := (FG_ e0 hg (Kd.R_ne f0.out e0.out (by decide))); replace d0 := (FG_ d0 hg (Kd.R_ne f0.out d0.out (by decide))); replace HB := a_ (hb); have G3 := a_ (ho); clear f0; clear ho hb hg hat)))
 go_roundg k3
 case measure => have := HJ2.out; have := e2.out; have := K2.out; omega
 case rel => exact ⟨(V5), (wrap64 (h0 + 1)), rs_, H', ⟨by have := HJ2.out; have := e2.out; have := K2.out; omega⟩, ⟨kR_ G3⟩, ⟨by (with_reducible repeat (first | apply Kd.S_alloc | apply Kd.S_drewN | apply Kd.S_drew)); exact Kd.S_mono a0.out (fun _ hk => hk.2)⟩, ⟨bk_ b0⟩, ⟨bk_ c0⟩, ⟨bk_ e0⟩, ⟨bk_ d0⟩, ⟨bl_ HB⟩⟩}}
 {
 obtain ⟨v1, d5, H⟩ := ob_ H
 (try dsimp only at H)
 replace H := gt_ H
 obtain ⟨L5, H⟩ := H
 have H3 := a_ L5
 clear L5
 obtain ⟨W5, O2⟩ : ∃ y_ : List Int, y_ = (B0 ++ [v1]) := ⟨_, rfl⟩
 first | replace H := by_ H O2 | rw [← O2] at H
 have I3 := a_ O2
 clear O2
 have H' := a_ H
 clear H
 have e9 := A0.out
 have f9 := z0.out
 have g9 := o0.out
 have h9 := p0.out
 have i9 := q0.out
 have j9 := r0.out
 obtain ⟨l7, m7, n7, o7⟩ := e2_ c0
 have f1 : 0 ≤ (k0 : Int) := dm_
 have h1 : k0 < (g0.length : Int) := dm_
 obtain ⟨b2, R3, S3, W2, X0, Y0, Z0⟩ := at_L2 J1.out k0 f1 h1
 cases W2
 replace X0 := hc_ HB X0
 have C1 := a_ Z0
 have p3 := a_ Y0
 clear Z0 Y0
 replace f1 := eq_true f1
 replace h1 := eq_true h1
 have i1 : 0 ≤ (h0 : Int) := dm_
 have j1 : h0 < ((rd_L2 g0 k0).length : Int) := dm_
 obtain ⟨z4, X2, a1⟩ := Kd.at_int C1.out h0 i1 j1
 cases X2
 replace a1 := hc_ HB a1
 replace i1 := eq_true i1
 replace j1 := eq_true j1
 go_wp2_with (first | (go_at_call 58; (with_reducible refine (psalteryref03_Clamp.calls (rd (rd_L2 g0 k0) h0) (-8388608) 8388608 v1 _ d5.out).mono ?_); rintro e w' ⟨rfl, ⟨nd, rfl⟩⟩; (try first | exact ⟨rfl, _, World.drewN_drewN _ _ _⟩ | exact ⟨rfl, _, Eq.trans (World.drewN_drewN _ _ _) (congrArg (World.drewN _) (Nat.add_assoc _ _ _))⟩)) | ((with_reducible refine gate_builtin (b := .append) (xs := #[.tmp 82, .tmp 85]) rfl ?_); (try (refine gate_guard (by rfl) ?_; dsimp only)); at_builtin; refine Kd.R_append (Kd.int .i64) (w0 := w) w.heap.size rfl (.tmp 82) (.tmp 85) 53 2 (.int .i64 0) 8 rfl Try.underlying53 info2 rfl (by decide) (by omega) u9 B0 v1 [.int .i64 v1] (fun _ => True) (fun _ => False) rfl rfl ?aP (fun _ hk => hk.elim) ?aF ?aO ?aB ?aS ?aL ?_; (case aP => exact rfl); (case aB => exact (bl_ HB)); (case aF => exact (fun _ _ => trivial)); (case aO => exact (kR_ f0)); (case aS => exact (bs_ HB)); (case aL => have := H3.out; omega); intro e5 M5 ho hb hg hat; rw [← I3.out] at ho; replace a0 := a_ (Kd.S_after (ok := (fun _ => True)) (by (with_reducible repeat (first | apply Kd.S_alloc | apply Kd.S_drewN | apply Kd.S_drew)); exact Kd.S_mono a0.out (fun _ hk => ⟨trivial, hk⟩)) hg hat); replace b0 := (FG_ b0 hg (Kd.R_ne f0.out b0.out (by decide))); replace c0 := (FG_ c0 hg (Kd.R_ne f0.out c0.out (by decide))); replace e0 := (FG_ e0 hg (Kd.R_ne f0.out e0.out (by decide))); replace d0 := (FG_ d0 hg (Kd.R_ne f0.out d0.out (by decide))); replace HB := a_ (hb); have J3 := a_ (ho); clear f0; clear ho hb hg hat))
 repeat (go_quiet (first | (go_at_call 58; (with_reducible refine (psalteryref03_Clamp.calls (rd (rd_L2 g0 k0) h0) (-8388608) 8388608 v1 _ d5.out).mono ?_); rintro e w' ⟨rfl, ⟨nd, rfl⟩⟩; (try first | exact ⟨rfl, _, World.drewN_drewN _ _ _⟩ | exact ⟨rfl, _, Eq.trans (World.drewN_drewN _ _ _) (congrArg (World.drewN _) (Nat.add_assoc _ _ _))⟩)) | ((with_reducible refine gate_builtin (b := .append) (xs := #[.tmp 82, .tmp 85]) rfl ?_); (try (refine gate_guard (by rfl) ?_; dsimp only)); at_builtin; refine Kd.R_append (Kd.int .i64) (w0 := w) w.heap.size rfl (.tmp 82) (.tmp 85) 53 2 (.int .i64 0) 8 rfl Try.underlying53 info2 rfl (by decide) (by omega) u9 B0 v1 [.int .i64 v1] (fun _ => True) (fun _ => False) rfl rfl ?aP (fun _ hk => hk.elim) ?aF ?aO ?aB ?aS ?aL ?_; (case aP => exact rfl); (case aB => exact (bl_ HB)); (case aF => exact (fun _ _ => trivial)); (case aO => exact (kR_ f0)); (case aS => exact (bs_ HB)); (case aL => have := H3.out; omega); intro e5 M5 ho hb hg hat; rw [← I3.out] at ho; replace a0 := a_ (Kd.S_after (ok := (fun _ => True)) (by (with_reducible repeat (first | apply Kd.S_alloc | apply Kd.S_drewN | apply Kd.S_drew)); exact Kd.S_mono a0.out (fun _ hk => ⟨trivial, hk⟩)) hg hat); replace b0 := (FG_ b0 hg (Kd.R_ne f0.out b0.out (by decide))); replace c0 := (FG_ c0 hg (Kd.R_ne f0.out c0.out (by decide))); replace e0 := (FG_ e0 hg (Kd.R_ne f0.out e0.out (by decide))); replace d0 := (FG_ d0 hg (Kd.R_ne f0.out d0.out (by decide))); replace HB := a_ (hb); have J3 := a_ (ho); clear f0; clear ho hb hg hat)); try go_wp2_with (first | (go_at_call 58; (with_reducible refine (psalteryref03_Clamp.calls (rd (rd_L2 g0 k0) h0) (-8388608) 8388608 v1 _ d5.out).mono ?_); rintro e w' ⟨rfl, ⟨nd, rfl⟩⟩; (try first | exact ⟨rfl, _, World.drewN_drewN _ _ _⟩ | exact ⟨rfl, _, Eq.trans (World.drewN_drewN _ _ _) (congrArg (World.drewN _) (Nat.add_assoc _ _ _))⟩)) | ((with_reducible refine gate_builtin (b := .append) (xs := #[.tmp 82, .tmp 85]) rfl ?_); (try (refine gate_guard (by rfl) ?_; dsimp only)); at_builtin; refine Kd.R_append (Kd.int .i64) (w0 := w) w.heap.size rfl (.tmp 82) (.tmp 85) 53 2 (.int .i64 0) 8 rfl Try.underlying53 info2 rfl (by decide) (by omega) u9 B0 v1 [.int .i64 v1] (fun _ => True) (fun _ => False) rfl rfl ?aP (fun _ hk => hk.elim) ?aF ?aO ?aB ?aS ?aL ?_; (case aP => exact rfl); (case aB => exact (bl_ HB)); (case aF => exact (fun _ _ => trivial)); (case aO => exact (kR_ f0)); (case aS => exact (bs_ HB)); (case aL => have := H3.out; omega); intro e5 M5 ho hb hg hat; rw [← I3.out] at ho; replace a0 := a_ (Kd.S_after (ok := (fun _ => True)) (by (with_reducible repeat (first | apply Kd.S_alloc | apply Kd.S_drewN | apply Kd.S_drew)); exact Kd.S_mono a0.out (fun _ hk => ⟨trivial, hk⟩)) hg hat); replace b0 := (FG_ b0 hg (Kd.R_ne f0.out b0.out (by decide))); replace c0 := (FG_ c0 hg (Kd.R_ne f0.out c0.out (by decide))); replace e0 := (FG_ e0 hg (Kd.R_ne f0.out e0.out (by decide))); replace d0 := (FG_ d0 hg (Kd.R_ne f0.out d0.out (by decide))); replace HB := a_ (hb); have J3 := a_ (ho); clear f0; clear ho hb hg hat)))
 go_roundg k3
 case measure => have := HJ2.out; have := e2.out; have := K2.out; omega
 case rel => exact ⟨(W5), (wrap64 (h0 + 1)), rs_, H', ⟨by have := HJ2.out; have := e2.out; have := K2.out; omega⟩, ⟨kR_ J3⟩, ⟨by (with_reducible repeat (first | apply Kd.S_alloc | apply Kd.S_drewN | apply Kd.S_drew)); exact Kd.S_mono a0.out (fun _ hk => hk.2)⟩, ⟨bk_ b0⟩, ⟨bk_ c0⟩, ⟨bk_ e0⟩, ⟨bk_ d0⟩, ⟨bl_ HB⟩⟩}}
 {
 replace H := gd_ H
 obtain ⟨k9, H⟩ := H
 replace H := gd_ H
 obtain ⟨l9, H⟩ := H
 obtain ⟨W0, f5, H⟩ := ob_ H
 (try dsimp only at H)
 obtain ⟨c1, g5, H⟩ := ob_ H
 (try dsimp only at H)
 replace H := gt_ H
 obtain ⟨N5, H⟩ := H
 have K3 := a_ N5
 clear N5
 obtain ⟨g4, P2⟩ : ∃ y_ : List (List Int), y_ = (s0 ++ [c1]) := ⟨_, rfl⟩
 first | replace H := by_ H P2 | rw [← P2] at H
 have L3 := a_ P2
 clear P2
 have H' := a_ H
 clear H
 have m9 := A0.out
 have n9 := z0.out
 have o9 := o0.out
 have p9 := p0.out
 have q9 := q0.out
 have r9 := r0.out
 obtain ⟨p7, q7, r7, s7⟩ := e2_ c0
 have h4 : 0 ≤ (k0 : Int) := dm_
 have i4 : k0 < (i0.length : Int) := dm_
 obtain ⟨B5, z7, A7, X5, q3, r3, s3⟩ := at_L1 d1.out k0 h4 i4
 obtain rfl : M1 = B5 := (by injection X5)
 replace q3 := hc_ HB q3
 have I2 := a_ s3
 have J2 := a_ r3
 clear s3 r3
 replace h4 := eq_true h4
 replace i4 := eq_true i4
 go_wp2_with (first | (go_at_call 26; (with_reducible refine (psalteryref22_Floors.calls k3 _ _ (rd_L1 i0 k0) W0 _ ?side1 ?side2 f5.out).mono ?_); (case side1 => exact kC_ I2 HB); (case side2 => exact J2.out); rintro e O5 ⟨h5, rfl, H0, hb⟩; replace a0 := a_ (Kd.S_elder' (kS_ a0) (Kd.R_base H0) hb); have n0 := a_ (Kd.R_lower (Kd.R_new' H0 (Kd.R_lt (kR_ f0))) (bs_ HB)); replace f0 := a_ (Kd.R_elder' (kR_ f0) (Kd.R_base H0) hb); replace b0 := FB_ b0 hb; replace c0 := FB_ c0 hb; replace e0 := FB_ e0 hb; replace d0 := FB_ d0 hb; replace HB := BS_ HB hb; (try clear hb); (try clear hk); (try clear H0); obtain ⟨k1, m1, Y2⟩ := Kd.R_slice f0.out; subst Y2; obtain ⟨n1, o1, Z2⟩ := Kd.R_slice n0.out; subst Z2) | (go_at_call 59; (with_reducible refine (psalteryref21_Restore.calls k3 _ _ B0 _ _ W0 c1 _ ?side1 ?side2 ?side3 ?side4 g5.out).mono ?_); (case side1 => exact kCt_ (Kd.R_reads' f0.out).2.2); (case side2 => exact (Kd.R_reads' f0.out).2.1); (case side3 => exact kCt_ (Kd.R_reads' n0.out).2.2); (case side4 => exact (Kd.R_reads' n0.out).2.1); rintro e P5 ⟨i5, rfl, H0, hb⟩; replace a0 := a_ (Kd.S_elder' (kS_ a0) (Kd.R_base H0) hb); have O0 := a_ (Kd.R_lower (Kd.R_new' (Kd.R_new' H0 (Kd.R_lt (kR_ f0))) (Kd.R_lt (kR_ n0))) (bs_ HB)); replace f0 := a_ (Kd.R_elder' (kR_ f0) (Kd.R_base H0) hb); replace n0 := a_ (Kd.R_elder' (kR_ n0) (Kd.R_base H0) hb); replace b0 := FB_ b0 hb; replace c0 := FB_ c0 hb; replace e0 := FB_ e0 hb; replace d0 := FB_ d0 hb; replace HB := BS_ HB hb; (try clear hb); (try clear hk); (try clear H0); have A4 := D0.out; have B4 := C0.out; have C4 := J0.out; have D4 := I0.out; obtain ⟨t3, v3⟩ := e1_ d0; obtain ⟨Y1, Z1, a3⟩ := Kd.R_slice O0.out; subst a3) | ((with_reducible refine gate_builtin (b := .append) (xs := #[.tmp 96, .tmp 98]) rfl ?_); (try (refine gate_guard (by rfl) ?_; dsimp only)); at_builtin; refine Kd.S_append (Kd.slice 2 (Kd.int .i64)) (w0 := w) w.heap.size rfl (.tmp 96) (.tmp 98) 26 53 (.slice none 0 0) 24 rfl Try.underlying26 info53 rfl (by decide) (by omega) m0 s0 c1 [.slice Y1 c1.length Z1] (fun k_ => some k_ ≠ (.slice k1 B0.length m1 : Value).ownBlock ∧ some k_ ≠ (.slice n1 W0.length o1 : Value).ownBlock) (fun k_ => some k_ = (.slice Y1 c1.length Z1 : Value).ownBlock) rfl rfl ?aP (fun k_ hk_ => ((Kd.R_mono (ok' := fun k_ => ((fun k_ => some k_ ≠ (.slice k1 B0.length m1 : Value).ownBlock ∧ some k_ ≠ (.slice n1 W0.length o1 : Value).ownBlock)) k_ ∧ some k_ ≠ (m0 : Value).ownBlock) (Kd.R_apart' (O0.out) (Kd.S_typed a0.out) (by decide)) cj_)).1 k_ hk_.symm) ?aF ?aO ?aB ?aS ?aL ?_; (case aP => exact Kd.M_row (Kd.R_mono (Kd.R_tight rfl (Kd.R_mono (ok' := fun k_ => ((fun k_ => some k_ ≠ (.slice k1 B0.length m1 : Value).ownBlock ∧ some k_ ≠ (.slice n1 W0.length o1 : Value).ownBlock)) k_ ∧ some k_ ≠ (m0 : Value).ownBlock) (Kd.R_apart' (O0.out) (Kd.S_typed a0.out) (by decide)) cj_)) (fun _ h_ => h_))); (case aB => exact (bl_ HB)); (case aF => exact (fun k_ hk => ⟨Kd.fresh' (Kd.R_lt (kR_ f0)) k_ hk, Kd.fresh' (Kd.R_lt (kR_ n0)) k_ hk⟩)); (case aO => exact (by (with_reducible repeat (first | apply Kd.S_alloc | apply Kd.S_drewN | apply Kd.S_drew)); exact Kd.S_mono a0.out (fun k_ hk => ⟨⟨hk.1.1, hk.1.2⟩, fun e_ => hk.2 e_⟩))); (case aS => exact (bs_ HB)); (case aL => have := K3.out; omega); intro j5 Q5 ho hb hg hat; rw [← L3.out] at ho; replace f0 := a_ (Kd.R_over' (kR_ f0) (Kd.S_typed (kS_ a0)) (by decide) hg); replace b0 := (FG_ b0 hg (Kd.S_ne a0.out b0.out (by decide))); replace c0 := (FG_ c0 hg (Kd.S_ne a0.out c0.out (by decide))); replace e0 := (FG_ e0 hg (Kd.S_ne a0.out e0.out (by decide))); replace d0 := (FG_ d0 hg (Kd.S_ne a0.out d0.out (by decide))); replace n0 := a_ (Kd.R_over' (kR_ n0) (Kd.S_typed (kS_ a0)) (by decide) hg); replace HB := a_ (hb); have c2 := a_ (ho); clear a0 O0; clear ho hb hg hat; obtain ⟨M3, N3, b3⟩ := Kd.S_slice c2.out; subst b3; obtain ⟨w3, y3⟩ := e1_ d0))
 repeat (go_quiet (first | (go_at_call 26; (with_reducible refine (psalteryref22_Floors.calls k3 _ _ (rd_L1 i0 k0) W0 _ ?side1 ?side2 f5.out).mono ?_); (case side1 => exact kC_ I2 HB); (case side2 => exact J2.out); rintro e O5 ⟨h5, rfl, H0, hb⟩; replace a0 := a_ (Kd.S_elder' (kS_ a0) (Kd.R_base H0) hb); have n0 := a_ (Kd.R_lower (Kd.R_new' H0 (Kd.R_lt (kR_ f0))) (bs_ HB)); replace f0 := a_ (Kd.R_elder' (kR_ f0) (Kd.R_base H0) hb); replace b0 := FB_ b0 hb; replace c0 := FB_ c0 hb; replace e0 := FB_ e0 hb; replace d0 := FB_ d0 hb; replace HB := BS_ HB hb; (try clear hb); (try clear hk); (try clear H0); obtain ⟨k1, m1, Y2⟩ := Kd.R_slice f0.out; subst Y2; obtain ⟨n1, o1, Z2⟩ := Kd.R_slice n0.out; subst Z2) | (go_at_call 59; (with_reducible refine (psalteryref21_Restore.calls k3 _ _ B0 _ _ W0 c1 _ ?side1 ?side2 ?side3 ?side4 g5.out).mono ?_); (case side1 => exact kCt_ (Kd.R_reads' f0.out).2.2); (case side2 => exact (Kd.R_reads' f0.out).2.1); (case side3 => exact kCt_ (Kd.R_reads' n0.out).2.2); (case side4 => exact (Kd.R_reads' n0.out).2.1); rintro e P5 ⟨i5, rfl, H0, hb⟩; replace a0 := a_ (Kd.S_elder' (kS_ a0) (Kd.R_base H0) hb); have O0 := a_ (Kd.R_lower (Kd.R_new' (Kd.R_new' H0 (Kd.R_lt (kR_ f0))) (Kd.R_lt (kR_ n0))) (bs_ HB)); replace f0 := a_ (Kd.R_elder' (kR_ f0) (Kd.R_base H0) hb); replace n0 := a_ (Kd.R_elder' (kR_ n0) (Kd.R_base H0) hb); replace b0 := FB_ b0 hb; replace c0 := FB_ c0 hb; replace e0 := FB_ e0 hb; replace d0 := FB_ d0 hb; replace HB := BS_ HB hb; (try clear hb); (try clear hk); (try clear H0); have A4 := D0.out; have B4 := C0.out; have C4 := J0.out; have D4 := I0.out; obtain ⟨t3, v3⟩ := e1_ d0; obtain ⟨Y1, Z1, a3⟩ := Kd.R_slice O0.out; subst a3) | ((with_reducible refine gate_builtin (b := .append) (xs := #[.tmp 96, .tmp 98]) rfl ?_); (try (refine gate_guard (by rfl) ?_; dsimp only)); at_builtin; refine Kd.S_append (Kd.slice 2 (Kd.int .i64)) (w0 := w) w.heap.size rfl (.tmp 96) (.tmp 98) 26 53 (.slice none 0 0) 24 rfl Try.underlying26 info53 rfl (by decide) (by omega) m0 s0 c1 [.slice Y1 c1.length Z1] (fun k_ => some k_ ≠ (.slice k1 B0.length m1 : Value).ownBlock ∧ some k_ ≠ (.slice n1 W0.length o1 : Value).ownBlock) (fun k_ => some k_ = (.slice Y1 c1.length Z1 : Value).ownBlock) rfl rfl ?aP (fun k_ hk_ => ((Kd.R_mono (ok' := fun k_ => ((fun k_ => some k_ ≠ (.slice k1 B0.length m1 : Value).ownBlock ∧ some k_ ≠ (.slice n1 W0.length o1 : Value).ownBlock)) k_ ∧ some k_ ≠ (m0 : Value).ownBlock) (Kd.R_apart' (O0.out) (Kd.S_typed a0.out) (by decide)) cj_)).1 k_ hk_.symm) ?aF ?aO ?aB ?aS ?aL ?_; (case aP => exact Kd.M_row (Kd.R_mono (Kd.R_tight rfl (Kd.R_mono (ok' := fun k_ => ((fun k_ => some k_ ≠ (.slice k1 B0.length m1 : Value).ownBlock ∧ some k_ ≠ (.slice n1 W0.length o1 : Value).ownBlock)) k_ ∧ some k_ ≠ (m0 : Value).ownBlock) (Kd.R_apart' (O0.out) (Kd.S_typed a0.out) (by decide)) cj_)) (fun _ h_ => h_))); (case aB => exact (bl_ HB)); (case aF => exact (fun k_ hk => ⟨Kd.fresh' (Kd.R_lt (kR_ f0)) k_ hk, Kd.fresh' (Kd.R_lt (kR_ n0)) k_ hk⟩)); (case aO => exact (by (with_reducible repeat (first | apply Kd.S_alloc | apply Kd.S_drewN | apply Kd.S_drew)); exact Kd.S_mono a0.out (fun k_ hk => ⟨⟨hk.1.1, hk.1.2⟩, fun e_ => hk.2 e_⟩))); (case aS => exact (bs_ HB)); (case aL => have := K3.out; omega); intro j5 Q5 ho hb hg hat; rw [← L3.out] at ho; replace f0 := a_ (Kd.R_over' (kR_ f0) (Kd.S_typed (kS_ a0)) (by decide) hg); replace b0 := (FG_ b0 hg (Kd.S_ne a0.out b0.out (by decide))); replace c0 := (FG_ c0 hg (Kd.S_ne a0.out c0.out (by decide))); replace e0 := (FG_ e0 hg (Kd.S_ne a0.out e0.out (by decide))); replace d0 := (FG_ d0 hg (Kd.S_ne a0.out d0.out (by decide))); replace n0 := a_ (Kd.R_over' (kR_ n0) (Kd.S_typed (kS_ a0)) (by decide) hg); replace HB := a_ (hb); have c2 := a_ (ho); clear a0 O0; clear ho hb hg hat; obtain ⟨M3, N3, b3⟩ := Kd.S_slice c2.out; subst b3; obtain ⟨w3, y3⟩ := e1_ d0)); try go_wp2_with (first | (go_at_call 26; (with_reducible refine (psalteryref22_Floors.calls k3 _ _ (rd_L1 i0 k0) W0 _ ?side1 ?side2 f5.out).mono ?_); (case side1 => exact kC_ I2 HB); (case side2 => exact J2.out); rintro e O5 ⟨h5, rfl, H0, hb⟩; replace a0 := a_ (Kd.S_elder' (kS_ a0) (Kd.R_base H0) hb); have n0 := a_ (Kd.R_lower (Kd.R_new' H0 (Kd.R_lt (kR_ f0))) (bs_ HB)); replace f0 := a_ (Kd.R_elder' (kR_ f0) (Kd.R_base H0) hb); replace b0 := FB_ b0 hb; replace c0 := FB_ c0 hb; replace e0 := FB_ e0 hb; replace d0 := FB_ d0 hb; replace HB := BS_ HB hb; (try clear hb); (try clear hk); (try clear H0); obtain ⟨k1, m1, Y2⟩ := Kd.R_slice f0.out; subst Y2; obtain ⟨n1, o1, Z2⟩ := Kd.R_slice n0.out; subst Z2) | (go_at_call 59; (with_reducible refine (psalteryref21_Restore.calls k3 _ _ B0 _ _ W0 c1 _ ?side1 ?side2 ?side3 ?side4 g5.out).mono ?_); (case side1 => exact kCt_ (Kd.R_reads' f0.out).2.2); (case side2 => exact (Kd.R_reads' f0.out).2.1); (case side3 => exact kCt_ (Kd.R_reads' n0.out).2.2); (case side4 => exact (Kd.R_reads' n0.out).2.1); rintro e P5 ⟨i5, rfl, H0, hb⟩; replace a0 := a_ (Kd.S_elder' (kS_ a0) (Kd.R_base H0) hb); have O0 := a_ (Kd.R_lower (Kd.R_new' (Kd.R_new' H0 (Kd.R_lt (kR_ f0))) (Kd.R_lt (kR_ n0))) (bs_ HB)); replace f0 := a_ (Kd.R_elder' (kR_ f0) (Kd.R_base H0) hb); replace n0 := a_ (Kd.R_elder' (kR_ n0) (Kd.R_base H0) hb); replace b0 := FB_ b0 hb; replace c0 := FB_ c0 hb; replace e0 := FB_ e0 hb; replace d0 := FB_ d0 hb; replace HB := BS_ HB hb; (try clear hb); (try clear hk); (try clear H0); have A4 := D0.out; have B4 := C0.out; have C4 := J0.out; have D4 := I0.out; obtain ⟨t3, v3⟩ := e1_ d0; obtain ⟨Y1, Z1, a3⟩ := Kd.R_slice O0.out; subst a3) | ((with_reducible refine gate_builtin (b := .append) (xs := #[.tmp 96, .tmp 98]) rfl ?_); (try (refine gate_guard (by rfl) ?_; dsimp only)); at_builtin; refine Kd.S_append (Kd.slice 2 (Kd.int .i64)) (w0 := w) w.heap.size rfl (.tmp 96) (.tmp 98) 26 53 (.slice none 0 0) 24 rfl Try.underlying26 info53 rfl (by decide) (by omega) m0 s0 c1 [.slice Y1 c1.length Z1] (fun k_ => some k_ ≠ (.slice k1 B0.length m1 : Value).ownBlock ∧ some k_ ≠ (.slice n1 W0.length o1 : Value).ownBlock) (fun k_ => some k_ = (.slice Y1 c1.length Z1 : Value).ownBlock) rfl rfl ?aP (fun k_ hk_ => ((Kd.R_mono (ok' := fun k_ => ((fun k_ => some k_ ≠ (.slice k1 B0.length m1 : Value).ownBlock ∧ some k_ ≠ (.slice n1 W0.length o1 : Value).ownBlock)) k_ ∧ some k_ ≠ (m0 : Value).ownBlock) (Kd.R_apart' (O0.out) (Kd.S_typed a0.out) (by decide)) cj_)).1 k_ hk_.symm) ?aF ?aO ?aB ?aS ?aL ?_; (case aP => exact Kd.M_row (Kd.R_mono (Kd.R_tight rfl (Kd.R_mono (ok' := fun k_ => ((fun k_ => some k_ ≠ (.slice k1 B0.length m1 : Value).ownBlock ∧ some k_ ≠ (.slice n1 W0.length o1 : Value).ownBlock)) k_ ∧ some k_ ≠ (m0 : Value).ownBlock) (Kd.R_apart' (O0.out) (Kd.S_typed a0.out) (by decide)) cj_)) (fun _ h_ => h_))); (case aB => exact (bl_ HB)); (case aF => exact (fun k_ hk => ⟨Kd.fresh' (Kd.R_lt (kR_ f0)) k_ hk, Kd.fresh' (Kd.R_lt (kR_ n0)) k_ hk⟩)); (case aO => exact (by (with_reducible repeat (first | apply Kd.S_alloc | apply Kd.S_drewN | apply Kd.S_drew)); exact Kd.S_mono a0.out (fun k_ hk => ⟨⟨hk.1.1, hk.1.2⟩, fun e_ => hk.2 e_⟩))); (case aS => exact (bs_ HB)); (case aL => have := K3.out; omega); intro j5 Q5 ho hb hg hat; rw [← L3.out] at ho; replace f0 := a_ (Kd.R_over' (kR_ f0) (Kd.S_typed (kS_ a0)) (by decide) hg); replace b0 := (FG_ b0 hg (Kd.S_ne a0.out b0.out (by decide))); replace c0 := (FG_ c0 hg (Kd.S_ne a0.out c0.out (by decide))); replace e0 := (FG_ e0 hg (Kd.S_ne a0.out e0.out (by decide))); replace d0 := (FG_ d0 hg (Kd.S_ne a0.out d0.out (by decide))); replace n0 := a_ (Kd.R_over' (kR_ n0) (Kd.S_typed (kS_ a0)) (by decide) hg); replace HB := a_ (hb); have c2 := a_ (ho); clear a0 O0; clear ho hb hg hat; obtain ⟨M3, N3, b3⟩ := Kd.S_slice c2.out; subst b3; obtain ⟨w3, y3⟩ := e1_ d0)))
 go_roundg k3
 case measure => have := HJ2.out; have := e2.out; have := K2.out; omega
 case rel => exact ⟨(wrap64 (k0 + 1)), (g4), (.slice M3 g4.length N3), rs_, H', ⟨by have := HJ2.out; have := e2.out; have := K2.out; omega⟩, ⟨by (with_reducible repeat (first | apply Kd.S_alloc | apply Kd.S_drewN | apply Kd.S_drew)); exact Kd.S_mono (Kd.S_far (p := ⟨L1, 0, none⟩) (Kd.S_types c2.out d0.out (by decide)) (fun _ hk => hk.2) (.slice M3 g4.length N3)) (fun _ hk => trivial)⟩, ⟨bk_ b0⟩, ⟨bk_ c0⟩, ⟨bk_ e0⟩, ⟨bp_ d0⟩, ⟨bl_ HB⟩⟩}))}
 {
 have r4 : decide (0 < ((rd_L1 i0 k0).length : Int)) = false := decide_eq_false n3
 have s4 : decide (0 < (rd_L1 i0 k0).length) = false := decide_eq_false (by omega)
 clear n3
 replace H := gt_ H
 obtain ⟨R5, H⟩ := H
 have O3 := a_ R5
 clear R5
 obtain ⟨j4, Q2⟩ : ∃ y_ : List (List Int), y_ = (s0 ++ [r1]) := ⟨_, rfl⟩
 first | replace H := by_ H Q2 | rw [← Q2] at H
 have P3 := a_ Q2
 clear Q2
 have H' := a_ H
 clear H
 have s9 := z0.out
 have t9 := A0.out
 have w9 := M0.out
 have x9 := N0.out
 have B7 := C0.out
 have C7 := D0.out
 obtain ⟨Y5, Z5, a6, b6, c6, d6, e6, f6⟩ := e4_ b0
 go_wp2_with (first | ((with_reducible refine gate_dst (N := 39) rfl ?_); (try (refine gate_guard (by rfl) ?_; dsimp only)); refine Kd.R_make (Kd.int .i64) _ 2 rfl (N := 39) rfl 53 _ _ rfl 16 rfl rfl Try.underlying53 (.int .i64 0) 8 info2 rfl (by decide) (by omega) 0 (ok := fun _ => True) (okp := fun _ => True) rfl (fun _ hk => hk) trivial (by omega) (by omega) (Below.refl _ _) (Nat.le_refl _) ?_; intro V2 k5 E0 hb hg_ hnew_; clear hg_ hnew_; (first | rw [← U0.out] at E0 | (simp only [Int.reduceToNat] at E0; rw [← U0.out] at E0)); replace a0 := a_ (Kd.S_elder' (kS_ a0) (Kd.R_base E0) hb); have K0 := a_ (Kd.R_lower E0 (bs_ HB)); replace b0 := FB_ b0 hb; replace c0 := FB_ c0 hb; replace e0 := FB_ e0 hb; replace d0 := FB_ d0 hb; replace HB := BS_ HB hb; clear hb E0; have T3 := o0.out; have U3 := p0.out; have V3 := q0.out; have W3 := r0.out; obtain ⟨c3, d3, e3, f3⟩ := e2_ c0; have F0 : 0 ≤ (k0 : Int) := dm_; have G0 : k0 < (i0.length : Int) := dm_; obtain ⟨M1, W1, X1, e1, t0, v0, y0⟩ := at_L1 d1.out k0 F0 G0; cases e1; replace t0 := hc_ HB t0; have A1 := a_ y0; have B1 := a_ v0; clear y0 v0; replace F0 := eq_true F0; replace G0 := eq_true G0; have X3 := J0.out; have Y3 := I0.out; obtain ⟨g3, h3⟩ := e1_ d0; obtain ⟨p1, q1, A2⟩ := Kd.R_slice K0.out; subst A2) | ((with_reducible refine gate_builtin (b := .append) (xs := #[.tmp 96, .tmp 98]) rfl ?_); (try (refine gate_guard (by rfl) ?_; dsimp only)); at_builtin; refine Kd.S_append (Kd.slice 2 (Kd.int .i64)) (w0 := w) w.heap.size rfl (.tmp 96) (.tmp 98) 26 53 (.slice none 0 0) 24 rfl Try.underlying26 info53 rfl (by decide) (by omega) m0 s0 r1 [.slice p1 r1.length q1] (fun _ => True) (fun k_ => some k_ = (.slice p1 r1.length q1 : Value).ownBlock) rfl rfl ?aP (fun k_ hk_ => ((Kd.R_mono (ok' := fun k_ => ((fun _ => True)) k_ ∧ some k_ ≠ (m0 : Value).ownBlock) (Kd.R_apart' (K0.out) (Kd.S_typed a0.out) (by decide)) (fun k_ hk => ⟨trivial, hk.2⟩))).1 k_ hk_.symm) ?aF ?aO ?aB ?aS ?aL ?_; (case aP => exact Kd.M_row (Kd.R_mono (Kd.R_tight rfl (Kd.R_mono (ok' := fun k_ => ((fun _ => True)) k_ ∧ some k_ ≠ (m0 : Value).ownBlock) (Kd.R_apart' (K0.out) (Kd.S_typed a0.out) (by decide)) (fun k_ hk => ⟨trivial, hk.2⟩))) (fun _ h_ => h_))); (case aB => exact (bl_ HB)); (case aF => exact (fun _ _ => trivial)); (case aO => exact (by (with_reducible repeat (first | apply Kd.S_alloc | apply Kd.S_drewN | apply Kd.S_drew)); exact Kd.S_mono a0.out (fun k_ hk => ⟨trivial, fun e_ => hk.2 e_⟩))); (case aS => exact (bs_ HB)); (case aL => have := O3.out; omega); intro l5 m5 ho hb hg hat; rw [← P3.out] at ho; replace b0 := (FG_ b0 hg (Kd.S_ne a0.out b0.out (by decide))); replace c0 := (FG_ c0 hg (Kd.S_ne a0.out c0.out (by decide))); replace e0 := (FG_ e0 hg (Kd.S_ne a0.out e0.out (by decide))); replace d0 := (FG_ d0 hg (Kd.S_ne a0.out d0.out (by decide))); replace HB := a_ (hb); have d2 := a_ (ho); clear a0 K0; clear ho hb hg hat; obtain ⟨R2, S2, B2⟩ := Kd.S_slice d2.out; subst B2; obtain ⟨i3, j3⟩ := e1_ d0))
 repeat (go_quiet (first | ((with_reducible refine gate_dst (N := 39) rfl ?_); (try (refine gate_guard (by rfl) ?_; dsimp only)); refine Kd.R_make (Kd.int .i64) _ 2 rfl (N := 39) rfl 53 _ _ rfl 16 rfl rfl Try.underlying53 (.int .i64 0) 8 info2 rfl (by decide) (by omega) 0 (ok := fun _ => True) (okp := fun _ => True) rfl (fun _ hk => hk) trivial (by omega) (by omega) (Below.refl _ _) (Nat.le_refl _) ?_; intro V2 k5 E0 hb hg_ hnew_; clear hg_ hnew_; (first | rw [← U0.out] at E0 | (simp only [Int.reduceToNat] at E0; rw [← U0.out] at E0)); replace a0 := a_ (Kd.S_elder' (kS_ a0) (Kd.R_base E0) hb); have K0 := a_ (Kd.R_lower E0 (bs_ HB)); replace b0 := FB_ b0 hb; replace c0 := FB_ c0 hb; replace e0 := FB_ e0 hb; replace d0 := FB_ d0 hb; replace HB := BS_ HB hb; clear hb E0; have T3 := o0.out; have U3 := p0.out; have V3 := q0.out; have W3 := r0.out; obtain ⟨c3, d3, e3, f3⟩ := e2_ c0; have F0 : 0 ≤ (k0 : Int) := dm_; have G0 : k0 < (i0.length : Int) := dm_; obtain ⟨M1, W1, X1, e1, t0, v0, y0⟩ := at_L1 d1.out k0 F0 G0; cases e1; replace t0 := hc_ HB t0; have A1 := a_ y0; have B1 := a_ v0; clear y0 v0; replace F0 := eq_true F0; replace G0 := eq_true G0; have X3 := J0.out; have Y3 := I0.out; obtain ⟨g3, h3⟩ := e1_ d0; obtain ⟨p1, q1, A2⟩ := Kd.R_slice K0.out; subst A2) | ((with_reducible refine gate_builtin (b := .append) (xs := #[.tmp 96, .tmp 98]) rfl ?_); (try (refine gate_guard (by rfl) ?_; dsimp only)); at_builtin; refine Kd.S_append (Kd.slice 2 (Kd.int .i64)) (w0 := w) w.heap.size rfl (.tmp 96) (.tmp 98) 26 53 (.slice none 0 0) 24 rfl Try.underlying26 info53 rfl (by decide) (by omega) m0 s0 r1 [.slice p1 r1.length q1] (fun _ => True) (fun k_ => some k_ = (.slice p1 r1.length q1 : Value).ownBlock) rfl rfl ?aP (fun k_ hk_ => ((Kd.R_mono (ok' := fun k_ => ((fun _ => True)) k_ ∧ some k_ ≠ (m0 : Value).ownBlock) (Kd.R_apart' (K0.out) (Kd.S_typed a0.out) (by decide)) (fun k_ hk => ⟨trivial, hk.2⟩))).1 k_ hk_.symm) ?aF ?aO ?aB ?aS ?aL ?_; (case aP => exact Kd.M_row (Kd.R_mono (Kd.R_tight rfl (Kd.R_mono (ok' := fun k_ => ((fun _ => True)) k_ ∧ some k_ ≠ (m0 : Value).ownBlock) (Kd.R_apart' (K0.out) (Kd.S_typed a0.out) (by decide)) (fun k_ hk => ⟨trivial, hk.2⟩))) (fun _ h_ => h_))); (case aB => exact (bl_ HB)); (case aF => exact (fun _ _ => trivial)); (case aO => exact (by (with_reducible repeat (first | apply Kd.S_alloc | apply Kd.S_drewN | apply Kd.S_drew)); exact Kd.S_mono a0.out (fun k_ hk => ⟨trivial, fun e_ => hk.2 e_⟩))); (case aS => exact (bs_ HB)); (case aL => have := O3.out; omega); intro l5 m5 ho hb hg hat; rw [← P3.out] at ho; replace b0 := (FG_ b0 hg (Kd.S_ne a0.out b0.out (by decide))); replace c0 := (FG_ c0 hg (Kd.S_ne a0.out c0.out (by decide))); replace e0 := (FG_ e0 hg (Kd.S_ne a0.out e0.out (by decide))); replace d0 := (FG_ d0 hg (Kd.S_ne a0.out d0.out (by decide))); replace HB := a_ (hb); have d2 := a_ (ho); clear a0 K0; clear ho hb hg hat; obtain ⟨R2, S2, B2⟩ := Kd.S_slice d2.out; subst B2; obtain ⟨i3, j3⟩ := e1_ d0)); try go_wp2_with (first | ((with_reducible refine gate_dst (N := 39) rfl ?_); (try (refine gate_guard (by rfl) ?_; dsimp only)); refine Kd.R_make (Kd.int .i64) _ 2 rfl (N := 39) rfl 53 _ _ rfl 16 rfl rfl Try.underlying53 (.int .i64 0) 8 info2 rfl (by decide) (by omega) 0 (ok := fun _ => True) (okp := fun _ => True) rfl (fun _ hk => hk) trivial (by omega) (by omega) (Below.refl _ _) (Nat.le_refl _) ?_; intro V2 k5 E0 hb hg_ hnew_; clear hg_ hnew_; (first | rw [← U0.out] at E0 | (simp only [Int.reduceToNat] at E0; rw [← U0.out] at E0)); replace a0 := a_ (Kd.S_elder' (kS_ a0) (Kd.R_base E0) hb); have K0 := a_ (Kd.R_lower E0 (bs_ HB)); replace b0 := FB_ b0 hb; replace c0 := FB_ c0 hb; replace e0 := FB_ e0 hb; replace d0 := FB_ d0 hb; replace HB := BS_ HB hb; clear hb E0; have T3 := o0.out; have U3 := p0.out; have V3 := q0.out; have W3 := r0.out; obtain ⟨c3, d3, e3, f3⟩ := e2_ c0; have F0 : 0 ≤ (k0 : Int) := dm_; have G0 : k0 < (i0.length : Int) := dm_; obtain ⟨M1, W1, X1, e1, t0, v0, y0⟩ := at_L1 d1.out k0 F0 G0; cases e1; replace t0 := hc_ HB t0; have A1 := a_ y0; have B1 := a_ v0; clear y0 v0; replace F0 := eq_true F0; replace G0 := eq_true G0; have X3 := J0.out; have Y3 := I0.out; obtain ⟨g3, h3⟩ := e1_ d0; obtain ⟨p1, q1, A2⟩ := Kd.R_slice K0.out; subst A2) | ((with_reducible refine gate_builtin (b := .append) (xs := #[.tmp 96, .tmp 98]) rfl ?_); (try (refine gate_guard (by rfl) ?_; dsimp only)); at_builtin; refine Kd.S_append (Kd.slice 2 (Kd.int .i64)) (w0 := w) w.heap.size rfl (.tmp 96) (.tmp 98) 26 53 (.slice none 0 0) 24 rfl Try.underlying26 info53 rfl (by decide) (by omega) m0 s0 r1 [.slice p1 r1.length q1] (fun _ => True) (fun k_ => some k_ = (.slice p1 r1.length q1 : Value).ownBlock) rfl rfl ?aP (fun k_ hk_ => ((Kd.R_mono (ok' := fun k_ => ((fun _ => True)) k_ ∧ some k_ ≠ (m0 : Value).ownBlock) (Kd.R_apart' (K0.out) (Kd.S_typed a0.out) (by decide)) (fun k_ hk => ⟨trivial, hk.2⟩))).1 k_ hk_.symm) ?aF ?aO ?aB ?aS ?aL ?_; (case aP => exact Kd.M_row (Kd.R_mono (Kd.R_tight rfl (Kd.R_mono (ok' := fun k_ => ((fun _ => True)) k_ ∧ some k_ ≠ (m0 : Value).ownBlock) (Kd.R_apart' (K0.out) (Kd.S_typed a0.out) (by decide)) (fun k_ hk => ⟨trivial, hk.2⟩))) (fun _ h_ => h_))); (case aB => exact (bl_ HB)); (case aF => exact (fun _ _ => trivial)); (case aO => exact (by (with_reducible repeat (first | apply Kd.S_alloc | apply Kd.S_drewN | apply Kd.S_drew)); exact Kd.S_mono a0.out (fun k_ hk => ⟨trivial, fun e_ => hk.2 e_⟩))); (case aS => exact (bs_ HB)); (case aL => have := O3.out; omega); intro l5 m5 ho hb hg hat; rw [← P3.out] at ho; replace b0 := (FG_ b0 hg (Kd.S_ne a0.out b0.out (by decide))); replace c0 := (FG_ c0 hg (Kd.S_ne a0.out c0.out (by decide))); replace e0 := (FG_ e0 hg (Kd.S_ne a0.out e0.out (by decide))); replace d0 := (FG_ d0 hg (Kd.S_ne a0.out d0.out (by decide))); replace HB := a_ (hb); have d2 := a_ (ho); clear a0 K0; clear ho hb hg hat; obtain ⟨R2, S2, B2⟩ := Kd.S_slice d2.out; subst B2; obtain ⟨i3, j3⟩ := e1_ d0)))
 go_roundg k2
 case measure => have := HJ2.out; have := e2.out; omega
 case rel => exact ⟨(wrap64 (k0 + 1)), (j4), (.slice R2 j4.length S2), rs_, H', ⟨by have := HJ2.out; have := e2.out; omega⟩, ⟨by (with_reducible repeat (first | apply Kd.S_alloc | apply Kd.S_drewN | apply Kd.S_drew)); exact Kd.S_mono (Kd.S_far (p := ⟨L1, 0, none⟩) (Kd.S_types d2.out d0.out (by decide)) (fun _ hk => hk.2) (.slice R2 j4.length S2)) (fun _ hk => trivial)⟩, ⟨bk_ b0⟩, ⟨bk_ c0⟩, ⟨bk_ e0⟩, ⟨bp_ d0⟩, ⟨bl_ HB⟩⟩}}
 {
 obtain rfl := Option.some.inj H
 have D7 := z0.out
 have E7 := A0.out
 have F7 := M0.out
 have G7 := N0.out
 have H7 := C0.out
 have I7 := D0.out
 obtain ⟨g6, h6, i6, j6, k6, l6, m6, n6⟩ := e4_ b0
 have J7 := r0.out
 have K7 := q0.out
 have L7 := J0.out
 have M7 := I0.out
 obtain ⟨o6, p6⟩ := e1_ d0
 obtain ⟨E4, F4, C5⟩ := Kd.S_slice a0.out
 subst C5
 have N7 := p0.out
 have O7 := o0.out
 obtain ⟨q6, r6⟩ := e1_ e0
 go_wp2
 repeat (go_quiet (fail); try go_wp2)
 refine bodyPost_ret (results_cell_row rfl _ _ K1 37 #[.slice E4 s0.length F4] (0, 0) _ rfl (bp_ e0) Try.underlying37 rfl kf_) rfl ?_
 exact ⟨_, er_, by (with_reducible repeat (first | apply Kd.S_alloc | apply Kd.S_drewN | apply Kd.S_drew)); exact Kd.S_mono (Kd.S_far (p := ⟨K1, 0, none⟩) (Kd.S_types a0.out e0.out (by decide)) (fun _ hk => hk.2) (.slice E4 s0.length F4)) (fun _ hk => trivial), bl_ HB⟩}))))
end Go.Proofs.Ytdajlfijkbafiaa.P
