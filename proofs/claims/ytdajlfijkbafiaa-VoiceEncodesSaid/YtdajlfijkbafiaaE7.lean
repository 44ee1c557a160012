/- Words, walks and what they compute, as the law's proof needs them. -/
import Derived.Test.YtdajlfijkbafiaaE3
import Derived.Test.YtdajlfijkbafiaaE6
import Derived.Test.YtdajlfijkbafiaaE4
import Derived.Test.YtdajlfijkbafiaaE5
import Derived.Test.YtdajlfijkbafiaaE2
import Derived.Laws.BitsAllLaws
set_option linter.unusedVariables false
set_option linter.unusedSimpArgs false
namespace Go.Proofs.Ytdajlfijkbafiaa.P
open Go.RowKit Go.Proofs.YtdajlfijkbafiaaW.PrintWords Go.Proofs.YtdajlfijkbafiaaW.PrintLast Go.Proofs.YtdajlfijkbafiaaW.PrintMore
attribute [local go_sem] max2_int min2_int max_two min_two max_three min_three max_four min_four
mutual
def psalteryref22_Encode.l0 : Nat → Int → Int → Int → Int → List Int → List Int → List (List Int) → List (List Int) → List (List Int) → Option ((List (List Int)) × (List (List Int)))
  | 0, _, _, _, _, _, _, _, _, _ => none
  | k + 1, x6, x7, d0, e0, f0, g0, c0, a0, b0 => if x7 < d0 then (if 0 ≤ x7 then (if x7 < (c0.length : Int) then ((psalteryref22_Posts.f k d0 e0 f0 g0 (rd_L2 c0 x7)).bind fun h0 => ((psalteryref22_Floors.f k h0).bind fun j0 => ((psalteryref21_Quantize.f k (rd_L2 c0 x7) j0).bind fun i0 => ((psalteryref22_noughts.f k i0).bind fun k0 => (if k0 = true then (if a0.length < 5864062014805 then (if b0.length < 5864062014805 then (psalteryref22_Encode.l0 k x6 (wrap64 (x7 + 1)) d0 e0 f0 g0 c0 (a0 ++ [[]]) (b0 ++ [[]])) else (none)) else (none)) else (if a0.length < 5864062014805 then (if b0.length < 5864062014805 then (psalteryref22_Encode.l0 k (wrap64 (x6 + 1)) (wrap64 (x7 + 1)) d0 e0 f0 g0 c0 (a0 ++ [h0]) (b0 ++ [i0])) else (none)) else (none))))))) else (none)) else (none)) else (if x6 = 2 then (psalteryref22_Encode.l1 k ([] : List Int) ([] : List Int) 0 a0 b0) else (some (a0, b0)))
def psalteryref22_Encode.l1 : Nat → List Int → List Int → Int → List (List Int) → List (List Int) → Option ((List (List Int)) × (List (List Int)))
  | 0, _, _, _, _, _ => none
  | k + 1, e0, f0, b0, c0, a0 => if b0 < 16 then (if 0 < (a0.length : Int) then (if 0 ≤ b0 then (if b0 < ((rd_L2 a0 0).length : Int) then (if 1 < (a0.length : Int) then (if b0 < ((rd_L2 a0 1).length : Int) then ((psalteryref15_Couple.f (rd (rd_L2 a0 0) b0) (rd (rd_L2 a0 1) b0)).bind fun d0 => (if e0.length < 17592186044416 then (if f0.length < 17592186044416 then (psalteryref22_Encode.l1 k (e0 ++ [d0.1]) (f0 ++ [d0.2]) (wrap64 (b0 + 1)) c0 a0) else (none)) else (none))) else (none)) else (none)) else (none)) else (none)) else (none)) else (some (c0, (([e0, f0] : List (List Int)))))
end
def psalteryref22_Encode.f (k : Nat) (a0 : Int) (b0 : Int) (c0 : List Int) (d0 : List Int) (e0 : List (List Int)) : Option ((List (List Int)) × (List (List Int))) := psalteryref22_Encode.l0 k 0 0 a0 b0 c0 d0 e0 ([] : List (List Int)) ([] : List (List Int))
theorem psalteryref22_Encode.mono_l : ∀ k, (∀ y0 y1 y2 y3 y4 y5 y6 y7 y8, LeO (psalteryref22_Encode.l0 k y0 y1 y2 y3 y4 y5 y6 y7 y8) (psalteryref22_Encode.l0 (k + 1) y0 y1 y2 y3 y4 y5 y6 y7 y8)) ∧ (∀ y0 y1 y2 y3 y4, LeO (psalteryref22_Encode.l1 k y0 y1 y2 y3 y4) (psalteryref22_Encode.l1 (k + 1) y0 y1 y2 y3 y4))
  | 0 => ⟨fun _ _ _ _ _ _ _ _ _ r h => by simp [psalteryref22_Encode.l0] at h, fun _ _ _ _ _ r h => by simp [psalteryref22_Encode.l1] at h⟩
  | k + 1 => by
    obtain ⟨a0, b0⟩ := psalteryref22_Encode.mono_l k
    refine ⟨?_, ?_⟩
    all_goals (intros; first | unfold psalteryref22_Encode.l0 | unfold psalteryref22_Encode.l1)
    all_goals with_reducible repeat' first
     | apply a0
     | exact b0 _ _ _ _ _
     | apply psalteryref21_Quantize.mono
     | apply psalteryref22_Floors.mono
     | apply psalteryref22_Posts.mono
     | apply psalteryref22_noughts.mono
     | exact LeO.refl _
     | exact LeO.none _
     | refine LeO.ite ?_ ?_
     | refine LeO.bind ?_ (fun _ => ?_)
theorem psalteryref22_Encode.mono : ∀ a0 a1 a2 a3 a4 k, LeO (psalteryref22_Encode.f k a0 a1 a2 a3 a4) (psalteryref22_Encode.f (k + 1) a0 a1 a2 a3 a4) := by
  intro a0 a1 a2 a3 a4 k
  obtain ⟨b0, c0⟩ := psalteryref22_Encode.mono_l k
  unfold psalteryref22_Encode.f
  with_reducible repeat' first
   | apply b0
   | exact c0 _ _ _ _ _
   | apply psalteryref21_Quantize.mono
   | apply psalteryref22_Floors.mono
   | apply psalteryref22_Posts.mono
   | apply psalteryref22_noughts.mono
   | exact LeO.refl _
   | exact LeO.none _
   | refine LeO.ite ?_ ?_
   | refine LeO.bind ?_ (fun _ => ?_)
def psalteryref22_Encode.T6 : Bool × List (List Nat × List Nat) := (true, [([], []), ([], []), ([1], [1]), ([], []), ([2, 3], [2, 3]), ([4], [4]), ([0, 5], [0, 5]), ([6, 6, 0, 1, 2, 3, 4, 5, 6], [6])])
def psalteryref22_Encode.B6 : List Nat := [0, 0, 2, 0, 14, 30, 63, 127]
theorem psalteryref22_Encode.tab6 : rtab .any (opsOf Try.f23 6) = psalteryref22_Encode.T6 := by kernel_rfl
theorem psalteryref22_Encode.bits6 : waitsOk psalteryref22_Encode.T6.2 psalteryref22_Encode.B6 = true := by kernel_rfl
def psalteryref22_Encode.T7 : Bool × List (List Nat × List Nat) := (true, [([], []), ([0], [0]), ([], []), ([1, 2], [1, 2]), ([3], [3]), ([], []), ([5], [5]), ([4, 6, 6], [4, 6]), ([7, 7, 0, 1, 2, 3, 4, 5, 6, 7], [7])])
def psalteryref22_Encode.B7 : List Nat := [0, 1, 0, 7, 15, 0, 32, 127, 255]
theorem psalteryref22_Encode.tab7 : rtab .any (opsOf Try.f23 7) = psalteryref22_Encode.T7 := by kernel_rfl
theorem psalteryref22_Encode.bits7 : waitsOk psalteryref22_Encode.T7.2 psalteryref22_Encode.B7 = true := by kernel_rfl
def psalteryref22_Encode.T19 : Bool × List (List Nat × List Nat) := (true, [([], []), ([0], [0]), ([1], [1]), ([2], [2]), ([], []), ([3, 4], [3, 4]), ([5], [5]), ([], []), ([7], [7]), ([8], [8]), ([9], [9]), ([], []), ([10, 11], [10, 11]), ([12], [12]), ([6, 13], [6, 13]), ([14], [14]), ([15], [15]), ([15], [15]), ([16, 14, 0, 1, 2, 3, 4, 5, 6, 7, 8, 9, 10, 11, 12, 13, 14, 15, 16], [16]), ([17, 18, 0, 1, 2, 3, 4, 5, 6, 7, 8, 9, 10, 11, 12, 13, 14, 15, 16, 17, 18], [17])])
def psalteryref22_Encode.B19 : List Nat := [0, 1, 3, 7, 0, 31, 63, 0, 128, 384, 896, 0, 3968, 8064, 16383, 32767, 65535, 65535, 131071, 524287]
theorem psalteryref22_Encode.tab19 : rtab .any (opsOf Try.f23 19) = psalteryref22_Encode.T19 := by kernel_rfl
theorem psalteryref22_Encode.bits19 : waitsOk psalteryref22_Encode.T19.2 psalteryref22_Encode.B19 = true := by kernel_rfl
set_option maxHeartbeats 8000000 in
set_option maxRecDepth 100000 in
theorem psalteryref22_Encode.calls (k : Nat) (G0 : Int) (H0 : Int) (M0 : Option Addr) (N0 : Nat) (C0 : List Int) (O0 : Option Addr) (P0 : Nat) (D0 : List Int) (T1 : Option Addr) (Q0 : Nat) (r0 : List (List Int)) (r1 : List (List Int)) (r2 : List (List Int)) (w : World) (hr0_2 : Kd.C (Kd.int .i64) w M0 C0.length C0) (hc0_2 : C0.length ≤ N0) (hr0_3 : Kd.C (Kd.int .i64) w O0 D0.length D0) (hc0_3 : D0.length ≤ P0) (hr1_0 : Kd.C (Kd.slice 2 (Kd.int .i64)) w T1 r0.length r0) (hc1_0 : r0.length ≤ Q0) (h : psalteryref22_Encode.f k G0 H0 C0 D0 r0 = some (r1, r2)) :
    Calls Try.prog 23 #[.agg #[.int .i64 G0, .int .i64 H0, .slice M0 C0.length N0, .slice O0 D0.length P0], .agg #[.slice T1 r0.length Q0]] w fun e w' => ∃ v0_ v1_ : Value, e = .returned (.agg #[v0_, v1_]) ∧ Kd.N (Kd.slice 3 (Kd.int .i64)) 22 w' w.heap.size (fun k_ => (w.heap.size ≤ k_) ∧ no_ k_ v1_) v0_ r1 ∧ Kd.N (Kd.slice 2 (Kd.int .i64)) 53 w' w.heap.size (fun k_ => (w.heap.size ≤ k_) ∧ no_ k_ v0_) v1_ r2 ∧ Below w.heap.size w w' := by
 have R7 := Try.underlying31
 have S7 := Try.underlying37
 have T7 := Try.underlying33
 have i3 := a_ hr0_2
 have j3 := a_ hc0_2
 clear hr0_2 hc0_2
 have k3 := a_ hr0_3
 have l3 := a_ hc0_3
 clear hr0_3 hc0_3
 have a2 := a_ hr1_0
 have I6 := a_ hc1_0
 clear hr1_0 hc1_0
 have HB := a_ (Below.refl w.heap.size w)
 have H : (psalteryref22_Encode.l0 k 0 0 G0 H0 C0 D0 r0 ([] : List (List Int)) ([] : List (List Int))) = some (r1, r2) := h
 clear h
 have H' := a_ H
 clear H
 go_enter Try.func23, Try.ntmps23
 go_wp2_with (first | ((with_reducible refine gate_dst (N := 2) rfl ?_); refine bx_ HB 2 #[.int .i64 G0, .int .i64 H0, .slice M0 C0.length N0, .slice O0 D0.length P0] 31 ?_; clear HB; intro j0 hg w3 hb c0 W3 HB; have J6 := W3; clear hb hg) | ((with_reducible refine gate_dst (N := 3) rfl ?_); refine bx_ HB 3 #[.slice T1 r0.length Q0] 37 ?_; clear HB; intro k0 hg w4 hb e0 X3 HB; have K6 := X3; obtain ⟨j1, m1⟩ := NN_ c0 hg; replace c0 := FB_ c0 hb; clear hb hg) | ((with_reducible refine gate_dst (N := 4) rfl ?_); refine bx_ HB 4 #[.slice none 0 0, .slice none 0 0] 33 ?_; clear HB; intro i0 hg w5 hb f0 Y3 HB; have L6 := Y3; obtain ⟨b1, c1⟩ := NN_ c0 hg; replace c0 := FB_ c0 hb; obtain ⟨Y1, Z1⟩ := NN_ e0 hg; replace e0 := FB_ e0 hb; clear hb hg) | ((with_reducible refine gate_dst (N := 5) rfl ?_); refine bx_ HB 5 #[.slice none 0 0, .slice none 0 0] 33 ?_; clear HB; intro g0 hg w6 hb d0 Z3 HB; have M6 := Z3; obtain ⟨d1, e1⟩ := NN_ c0 hg; replace c0 := FB_ c0 hb; obtain ⟨n1, o1⟩ := NN_ e0 hg; replace e0 := FB_ e0 hb; obtain ⟨p1, q1⟩ := NN_ f0 hg; replace f0 := FB_ f0 hb; clear hb hg))
 go_loopg [6, 7] k (fun kq v6 v7 w' => ∃ (j2 : Int) (v0 : Int) (t0 : List (List Int)) (h0 : List (List Int)) (n0 : Value) (m0 : Value), v6 = .int .i64 j2 ∧ v7 = .int .i64 v0 ∧ Aside0 (psalteryref22_Encode.l0 kq j2 v0 G0 H0 C0 D0 r0 t0 h0 = some (r1, r2)) ∧ Aside0 (kq ≤ k) ∧ Aside0 (Kd.N (Kd.slice 3 (Kd.int .i64)) 22 w' w.heap.size (fun k_ => (w.heap.size ≤ k_) ∧ no_ k_ m0 ∧ k_ ≠ j0 ∧ k_ ≠ k0 ∧ k_ ≠ i0 ∧ k_ ≠ g0) n0 t0) ∧ Aside0 (Kd.N (Kd.slice 2 (Kd.int .i64)) 53 w' w.heap.size (fun k_ => (w.heap.size ≤ k_) ∧ no_ k_ n0 ∧ k_ ≠ j0 ∧ k_ ≠ k0 ∧ k_ ≠ i0 ∧ k_ ≠ g0) m0 h0) ∧ Aside0 (w'.heap[j0]? = some (.cells #[.int .i64 G0, .int .i64 H0, (.slice M0 C0.length N0), (.slice O0 D0.length P0)] 31 (0, 0))) ∧ Aside0 (w'.heap[k0]? = some (.cells #[(.slice T1 r0.length Q0)] 37 (0, 0))) ∧ Aside0 (w'.heap[i0]? = some (.cells #[(.slice none 0 0), (.slice none 0 0)] 33 (0, 0))) ∧ Aside0 (w'.heap[g0]? = some (.cells #[n0, m0] 33 (0, 0))) ∧ Aside0 (Below w.heap.size w w'))
 case atStart => exact ⟨(0), (0), (([] : List (List Int))), (([] : List (List Int))), (.slice none 0 0), (.slice none 0 0), rs_, rs_, H', ⟨Nat.le_refl _⟩, ⟨kn_⟩, ⟨kn_⟩, ⟨bk_ c0⟩, ⟨bk_ e0⟩, ⟨bk_ f0⟩, ⟨bk_ d0⟩, ⟨bl_ HB⟩⟩
 case round => (
 clear H'
 obtain ⟨j2, v0, t0, h0, n0, m0, rfl, rfl, HA, A2, b0, a0, c0, e0, f0, d0, HB⟩ := hrel
 cases gk with
 | zero => exact absurd HA.out (by simp [psalteryref22_Encode.l0])
 | succ k1 => (
 have H := HA.out
 clear HA
 simp only [psalteryref22_Encode.l0] at H
 replace H := id_ H
 rcases H with ⟨I3, H⟩ | ⟨I3, H⟩
 {
 replace H := gd_ H
 obtain ⟨U7, H⟩ := H
 replace H := gd_ H
 obtain ⟨V7, H⟩ := H
 obtain ⟨T0, r4, H⟩ := ob_ H
 (try dsimp only at H)
 obtain ⟨y0, t4, H⟩ := ob_ H
 (try dsimp only at H)
 obtain ⟨z0, v4, H⟩ := ob_ H
 (try dsimp only at H)
 obtain ⟨W7, x4, H⟩ := ob_ H
 (try dsimp only at H)
 replace H := ib_ H
 rcases H with ⟨rfl, H⟩ | ⟨rfl, H⟩
 {
 replace H := gt_ H
 obtain ⟨y4, H⟩ := H
 have a4 := a_ y4
 clear y4
 obtain ⟨i1, b2⟩ : ∃ y_ : List (List Int), y_ = (t0 ++ [[]]) := ⟨_, rfl⟩
 first | replace H := by_ H b2 | rw [← b2] at H
 have b4 := a_ b2
 clear b2
 replace H := gt_ H
 obtain ⟨z4, H⟩ := H
 have c4 := a_ z4
 clear z4
 obtain ⟨H2, c2⟩ : ∃ y_ : List (List Int), y_ = (h0 ++ [[]]) := ⟨_, rfl⟩
 first | replace H := by_ H c2 | rw [← c2] at H
 have d4 := a_ c2
 clear c2
 have H' := a_ H
 clear H
 have N6 := j1.out
 have O6 := m1.out
 have P6 := b1.out
 have Q6 := c1.out
 have R6 := d1.out
 have S6 := e1.out
 obtain ⟨i5, j5, k5, l5, m5, n5, o5, p5⟩ := e4_ c0
 try go_wp2
 replace b0 := a_ (Kd.N_drew b0.out)
 replace a0 := a_ (Kd.N_drew a0.out)
 replace c0 := a_ (blk_drew c0.out)
 replace e0 := a_ (blk_drew e0.out)
 replace f0 := a_ (blk_drew f0.out)
 replace d0 := a_ (blk_drew d0.out)
 replace HB := a_ (below_drew1 HB.out)
 have L1 : 0 ≤ (v0 : Int) := dm_
 have M1 : v0 < (r0.length : Int) := dm_
 obtain ⟨E0, H1, I1, U2, I0, y1, z1⟩ := at_L2 a2.out v0 L1 M1
 have A1 := I0
 cases U2
 replace I0 := hc_ HB I0
 have B1 := a_ z1
 have U1 := a_ y1
 clear z1 y1
 replace L1 := eq_true L1
 replace M1 := eq_true M1
 refine start_ (n := 8) (S := fun w' => w'.cell? ⟨j0, 0, none⟩ = some (.int .i64 G0) ∧ w'.cell? ⟨j0, 1, none⟩ = some (.int .i64 H0) ∧ w'.cell? ⟨j0, 2, none⟩ = some (.slice M0 C0.length N0) ∧ w'.cell? ⟨j0, 3, none⟩ = some (.slice O0 D0.length P0) ∧ w'.cell? ⟨k0, 0, none⟩ = some (.slice (some E0) r0.length Q0) ∧ w'.cell? (E0.add (v0).toNat) = some (.slice H1 (rd_L2 r0 v0).length I1)) (ds := []) (B_ 8 0) kf_ rfl rfl ⟨ce_ c0 0, ce_ c0 1, ce_ c0 2, ce_ c0 3, ce_ e0 0, (hc_ HB A1)⟩ (fun hHeld => ?_); refine with_tabW psalteryref22_Encode.tab6 psalteryref22_Encode.bits6 (fun HT_ HW_ => ?_)
 generalize wr.drew = e8 at b0 a0 c0 e0 f0 d0 HB B1 I0 hHeld ⊢
 refine pu_ 1 (some 22) (B_ 8 2) HT_ ?_
 refine pu_ 3 (some 24) (B_ 8 10) HT_ ?_
 refine take_ (i := 0) (N := some 21) (v := ?_) (a' := ?_) (B_ 8 11) rfl rfl (take_ofW HT_.out HW_.out kf_) (fun _ _ _ h => h) (Or.inl ⟨by rfl, ?_⟩) hHeld ?_ ?_
 rotate_left
 {
 rintro w' ⟨s0, s1, s2, s3, s4, s5⟩
 go_simp
 with_reducible rfl}
 rotate_left
 {
 exact sp_}
 refine take_ (i := 2) (N := some 23) (v := ?_) (a' := ?_) (B_ 8 15) rfl rfl (take_ofW HT_.out HW_.out kf_) (fun _ _ _ h => h) (Or.inl ⟨by rfl, ?_⟩) hHeld ?_ ?_
 rotate_left
 {
 rintro w' ⟨s0, s1, s2, s3, s4, s5⟩
 go_simp
 with_reducible rfl}
 rotate_left
 {
 exact sp_}
 refine pu_ 4 (some 25) (B_ 8 31) HT_ ?_
 refine take_ (i := 5) (N := some 26) (v := ?_) (a' := ?_) (B_ 8 63) rfl rfl (take_ofW HT_.out HW_.out kf_) (fun _ _ _ h => h) (Or.inl ⟨by rfl, ?_⟩) hHeld ?_ ?_
 rotate_left
 {
 rintro w' ⟨s0, s1, s2, s3, s4, s5⟩
 go_simp
 with_reducible rfl}
 rotate_left
 {
 exact sp_}
 refine one_ (i := 6) (N := some 27) (B_ 8 127) rfl rfl (one_of HT_.out kf_) (by decide) (fun K hK => ?_)
 refine goes_ Try.func27 kf_ rfl #[.agg #[.int .i64 G0, .int .i64 H0, .slice M0 C0.length N0, .slice O0 D0.length P0], .slice H1 (rd_L2 r0 v0).length I1] (by rfl) rfl rfl ar_ ?_
 with_reducible refine (psalteryref22_Posts.calls k1 G0 H0 _ _ C0 _ _ D0 _ _ (rd_L2 r0 v0) T0 _ ?side1 ?side2 ?side3 ?side4 ?side5 ?side6 r4.out).mono ?_
 (case side1 => exact kC_ i3 HB)
 (case side2 => exact j3.out)
 (case side3 => exact kC_ k3 HB)
 (case side4 => exact l3.out)
 (case side5 => exact kC_ B1 HB)
 (case side6 => exact U1.out)
 rintro e y6 ⟨H4, rfl, A0, hb⟩
 refine ⟨_, rfl, ?_⟩
 replace b0 := a_ (Kd.N_elder' (kN_ b0) (Kd.R_base A0) hb)
 replace a0 := a_ (Kd.N_elder' (kN_ a0) (Kd.R_base A0) hb)
 have o0 := a_ (Kd.R_lower (Kd.R_newM (M := fun k_ => (w.heap.size ≤ k_)) A0 (bs_ HB) (fun k_ h_ => h_)) (bs_ HB))
 replace c0 := FB_ c0 hb
 replace e0 := FB_ e0 hb
 replace f0 := FB_ f0 hb
 replace d0 := FB_ d0 hb
 replace HB := BS_ HB hb
 (try clear hb)
 (try clear A0)
 refine hK.out _ _ ⟨ce_ c0 0, ce_ c0 1, ce_ c0 2, ce_ c0 3, ce_ e0 0, (hc_ HB A1)⟩ (fun hHeld => ?_)
 clear hK K
 refine norm_ (a' := ?_) ?_ ?_
 rotate_left
 {
 show Act.put _ (some 27) _ = _
 exact sp_}
 refine pu_ 7 (some 8) (B_ 8 255) HT_ ?_
 refine done_ (done_of HT_.out kf_) ?_
 try go_wp2
 replace b0 := a_ (Kd.N_drew b0.out)
 replace a0 := a_ (Kd.N_drew a0.out)
 replace o0 := a_ (Kd.R_drew o0.out)
 replace c0 := a_ (blk_drew c0.out)
 replace e0 := a_ (blk_drew e0.out)
 replace f0 := a_ (blk_drew f0.out)
 replace d0 := a_ (blk_drew d0.out)
 replace HB := a_ (below_drew1 HB.out)
 have N1 : 0 ≤ (v0 : Int) := dm_
 have O1 : v0 < (r0.length : Int) := dm_
 obtain ⟨I2, J1, K1, V2, J0, C1, D1⟩ := at_L2 a2.out v0 N1 O1
 have X0 := J0
 obtain rfl : E0 = I2 := (by injection V2)
 replace J0 := hc_ HB J0
 have E1 := a_ D1
 have V1 := a_ C1
 clear D1 C1
 replace N1 := eq_true N1
 replace O1 := eq_true O1
 obtain ⟨l2, m2, J3⟩ := Kd.R_slice o0.out
 (first | subst J3 | (injection J3 with f1_ f2_ f3_; have f4_ := f1_.symm; have f5_ := f3_.symm; clear f1_ f2_ f3_; subst f4_; subst f5_))
 refine start_ (n := 9) (S := fun w' => w'.cell? ⟨k0, 0, none⟩ = some (.slice (some E0) r0.length Q0) ∧ w'.cell? (E0.add (v0).toNat) = some (.slice J1 (rd_L2 r0 v0).length K1)) (ds := []) (B_ 9 0) kf_ rfl rfl ⟨ce_ e0 0, (hc_ HB X0)⟩ (fun hHeld => ?_); refine with_tabW psalteryref22_Encode.tab7 psalteryref22_Encode.bits7 (fun HT_ HW_ => ?_)
 generalize y6.drew = g8 at b0 a0 o0 c0 e0 f0 d0 HB E1 J0 hHeld ⊢
 refine pu_ 0 (some 28) (B_ 9 1) HT_ ?_
 refine pu_ 2 (some 30) (B_ 9 5) HT_ ?_
 refine pu_ 5 (some 33) (B_ 9 37) HT_ ?_
 refine take_ (i := 1) (N := some 29) (v := ?_) (a' := ?_) (B_ 9 39) rfl rfl (take_ofW HT_.out HW_.out kf_) (fun _ _ _ h => h) (Or.inl ⟨by rfl, ?_⟩) hHeld ?_ ?_
 rotate_left
 {
 rintro w' ⟨s0, s1⟩
 go_simp
 with_reducible rfl}
 rotate_left
 {
 exact sp_}
 refine pu_ 3 (some 31) (B_ 9 47) HT_ ?_
 refine take_ (i := 4) (N := some 32) (v := ?_) (a' := ?_) (B_ 9 63) rfl rfl (take_ofW HT_.out HW_.out kf_) (fun _ _ _ h => h) (Or.inl ⟨by rfl, ?_⟩) hHeld ?_ ?_
 rotate_left
 {
 rintro w' ⟨s0, s1⟩
 go_simp
 with_reducible rfl}
 rotate_left
 {
 exact sp_}
 refine one_ (i := 6) (N := some 34) (B_ 9 127) rfl rfl (one_of HT_.out kf_) (by decide) (fun K hK => ?_)
 refine goes_ Try.func26 kf_ rfl #[.slice l2 T0.length m2] (by rfl) rfl rfl ar_ ?_
 with_reducible refine (psalteryref22_Floors.calls k1 _ _ T0 y0 _ ?side1 ?side2 t4.out).mono ?_
 (case side1 => exact kCt_ (Kd.R_reads' o0.out).2.2)
 (case side2 => exact (Kd.R_reads' o0.out).2.1)
 rintro e h8 ⟨I4, rfl, A0, hb⟩
 refine ⟨_, rfl, ?_⟩
 replace b0 := a_ (Kd.N_elder' (kN_ b0) (Kd.R_base A0) hb)
 replace a0 := a_ (Kd.N_elder' (kN_ a0) (Kd.R_base A0) hb)
 replace o0 := FR_ o0 hb
 have p0 := a_ (Kd.R_lower (Kd.R_newM (M := fun k_ => (w.heap.size ≤ k_)) A0 (bs_ HB) (fun k_ h_ => h_)) (bs_ HB))
 replace c0 := FB_ c0 hb
 replace e0 := FB_ e0 hb
 replace f0 := FB_ f0 hb
 replace d0 := FB_ d0 hb
 replace HB := BS_ HB hb
 (try clear hb)
 (try clear A0)
 obtain ⟨n2, p2, K3⟩ := Kd.R_slice p0.out
 (first | subst K3 | (injection K3 with f1_ f2_ f3_; have f4_ := f1_.symm; have f5_ := f3_.symm; clear f1_ f2_ f3_; subst f4_; subst f5_))
 refine hK.out _ _ ⟨ce_ e0 0, (hc_ HB X0)⟩ (fun hHeld => ?_)
 clear hK K
 refine norm_ (a' := ?_) ?_ ?_
 rotate_left
 {
 show Act.put _ (some 34) _ = _
 exact sp_}
 refine one_ (i := 7) (N := some 35) (B_ 9 255) rfl rfl (one_of HT_.out kf_) (by decide) (fun K hK => ?_)
 refine goes_ Try.func54 kf_ rfl #[.slice J1 (rd_L2 r0 v0).length K1, .slice n2 y0.length p2] (by rfl) rfl rfl ar_ ?_
 with_reducible refine (psalteryref21_Quantize.calls k1 _ _ (rd_L2 r0 v0) _ _ y0 z0 _ ?side1 ?side2 ?side3 ?side4 v4.out).mono ?_
 (case side1 => exact kC_ E1 HB)
 (case side2 => exact V1.out)
 (case side3 => exact kCt_ (Kd.R_reads' p0.out).2.2)
 (case side4 => exact (Kd.R_reads' p0.out).2.1)
 rintro e L3 ⟨J4, rfl, A0, hb⟩
 refine ⟨_, rfl, ?_⟩
 replace b0 := a_ (Kd.N_elder' (kN_ b0) (Kd.R_base A0) hb)
 replace a0 := a_ (Kd.N_elder' (kN_ a0) (Kd.R_base A0) hb)
 replace o0 := FR_ o0 hb
 have q0 := a_ (Kd.R_lower (Kd.R_new' (Kd.R_newM (M := fun k_ => (w.heap.size ≤ k_)) A0 (bs_ HB) (fun k_ h_ => h_)) (Kd.R_lt (kR_ p0))) (bs_ HB))
 replace p0 := a_ (Kd.R_elder' (kR_ p0) (Kd.R_base A0) hb)
 replace c0 := FB_ c0 hb
 replace e0 := FB_ e0 hb
 replace f0 := FB_ f0 hb
 replace d0 := FB_ d0 hb
 replace HB := BS_ HB hb
 (try clear hb)
 (try clear A0)
 refine hK.out _ _ ⟨ce_ e0 0, (hc_ HB X0)⟩ (fun hHeld => ?_)
 clear hK K
 refine norm_ (a' := ?_) ?_ ?_
 rotate_left
 {
 show Act.put _ (some 35) _ = _
 exact sp_}
 refine pu_ 8 (some 9) (B_ 9 511) HT_ ?_
 refine done_ (done_of HT_.out kf_) ?_
 obtain ⟨q2, t2, K4⟩ := Kd.R_slice q0.out
 subst K4
 try go_wp2_with (first | ((with_reducible refine gate_callee (f := 55) rfl ?_); refine gL_ (some 37) Try.func55 #[.slice q2 z0.length t2] ?_; (with_reducible refine (psalteryref22_noughts.calls k1 _ _ z0 true _ ?side1 ?side2 x4.out).mono ?_); (case side1 => exact kCt_ (Kd.R_reads' q0.out).2.2); (case side2 => exact (Kd.R_reads' q0.out).2.1); rintro e w' ⟨rfl, ⟨nd, rfl⟩⟩; refine ⟨_, rfl, ?_⟩; (try (rw [drewN_self L3]; generalize hq_ : World.drewN L3 _ = L3; have n0_ := a_ (Kd.N_at hq_ b0.out); have n1_ := a_ (Kd.N_at hq_ a0.out); have n2_ := a_ (Kd.R_at hq_ o0.out); have n3_ := a_ (Kd.R_at hq_ p0.out); have n4_ := a_ (Kd.R_at hq_ q0.out); have n5_ := a_ (blk_at hq_ c0.out); have n6_ := a_ (blk_at hq_ e0.out); have n7_ := a_ (blk_at hq_ f0.out); have n8_ := a_ (blk_at hq_ d0.out); have n9_ := a_ (below_at hq_ HB.out); clear hq_ b0 a0 o0 p0 q0 c0 e0 f0 d0 HB; have b0 := n0_; have a0 := n1_; have o0 := n2_; have p0 := n3_; have q0 := n4_; have c0 := n5_; have e0 := n6_; have f0 := n7_; have d0 := n8_; have HB := n9_; clear n0_ n1_ n2_ n3_ n4_ n5_ n6_ n7_ n8_ n9_)); have T6 := o1.out; have U6 := n1.out; have V6 := q1.out; have W6 := p1.out; obtain ⟨q5, r5, t5, v5⟩ := e2_ d0) | ((with_reducible refine gate_builtin (b := .append) (xs := #[.tmp 39, .tmp 40]) rfl ?_); at_builtin; refine Kd.N_append (Kd.slice 3 (Kd.int .i64)) (w0 := w) w.heap.size rfl (.tmp 39) (.tmp 40) 25 22 (.slice none 0 0) 24 rfl Try.underlying25 info22 rfl (by decide) (by omega) n0 t0 [] [.slice none 0 0] (fun k_ => (w.heap.size ≤ k_) ∧ no_ k_ m0 ∧ no_ k_ (.slice l2 T0.length m2) ∧ no_ k_ (.slice n2 y0.length p2) ∧ no_ k_ (.slice q2 z0.length t2) ∧ k_ ≠ j0 ∧ k_ ≠ k0 ∧ k_ ≠ i0 ∧ k_ ≠ g0) (fun _ => False) rfl rfl ?aP (fun _ hk => hk.elim) ?aF ?aO ?aB ?aS ?aL ?_; (case aP => exact (Kd.FK_slice_mk (Nat.le_refl _) (Kd.F_nil _ _ _))); (case aB => exact (bl_ HB)); (case aF => exact (fun k_ hk => ⟨(Nat.le_trans (bs_ HB) hk), Kd.fresh' (Kd.N_lt (kN_ a0)) k_ hk, Kd.fresh' (Kd.R_lt (kR_ o0)) k_ hk, Kd.fresh' (Kd.R_lt (kR_ p0)) k_ hk, Kd.fresh' (Kd.R_lt (kR_ q0)) k_ hk, Kd.freshB (g := j0) (o := .cells #[.int .i64 G0, .int .i64 H0, .slice M0 C0.length N0, .slice O0 D0.length P0] 31 (0, 0)) (bk_ c0) k_ hk, Kd.freshB (g := k0) (o := .cells #[.slice (some E0) r0.length Q0] 37 (0, 0)) (bk_ e0) k_ hk, Kd.freshB (g := i0) (o := .cells #[.slice none 0 0, .slice none 0 0] 33 (0, 0)) (bk_ f0) k_ hk, Kd.freshB (g := g0) (o := .cells #[n0, m0] 33 (0, 0)) (bk_ d0) k_ hk⟩)); (case aO => exact (by (with_reducible repeat (first | apply Kd.N_alloc | apply Kd.N_drewN | apply Kd.N_drew)); exact Kd.N_mono b0.out cj_)); (case aS => exact (bs_ HB)); (case aL => have := a4.out; omega); intro X7 j8 ho hb hg hat; rw [← b4.out] at ho; replace a0 := a_ (Kd.N_afterv (ok := (fun k_ => (w.heap.size ≤ k_) ∧ no_ k_ (.slice l2 T0.length m2) ∧ no_ k_ (.slice n2 y0.length p2) ∧ no_ k_ (.slice q2 z0.length t2) ∧ k_ ≠ j0 ∧ k_ ≠ k0 ∧ k_ ≠ i0 ∧ k_ ≠ g0)) (by (with_reducible repeat (first | apply Kd.N_alloc | apply Kd.N_drewN | apply Kd.N_drew)); exact Kd.N_mono a0.out cj_) hg hat); replace c0 := (FG_ c0 hg (Kd.N_ne b0.out c0.out (by decide))); replace e0 := (FG_ e0 hg (Kd.N_ne b0.out e0.out (by decide))); replace f0 := (FG_ f0 hg (Kd.N_ne b0.out f0.out (by decide))); replace d0 := (FG_ d0 hg (Kd.N_ne b0.out d0.out (by decide))); replace o0 := a_ (Kd.R_over' (kR_ o0) (Kd.N_typed (kN_ b0)) (by decide) hg); replace p0 := a_ (Kd.R_over' (kR_ p0) (Kd.N_typed (kN_ b0)) (by decide) hg); replace q0 := a_ (Kd.R_over' (kR_ q0) (Kd.N_typed (kN_ b0)) (by decide) hg); replace HB := a_ (hb); have R1 := a_ (ho); clear b0; clear ho hb hg hat; obtain ⟨t1, v1, L4⟩ := Kd.N_slice R1.out; subst L4; obtain ⟨x5, y5, z5, A5⟩ := e2_ d0) | ((with_reducible refine gate_builtin (b := .append) (xs := #[.tmp 44, .tmp 45]) rfl ?_); at_builtin; refine Kd.N_append (Kd.slice 2 (Kd.int .i64)) (w0 := w) w.heap.size rfl (.tmp 44) (.tmp 45) 26 53 (.slice none 0 0) 24 rfl Try.underlying26 info53 rfl (by decide) (by omega) m0 h0 [] [.slice none 0 0] (fun k_ => (w.heap.size ≤ k_) ∧ no_ k_ (.slice l2 T0.length m2) ∧ no_ k_ (.slice n2 y0.length p2) ∧ no_ k_ (.slice q2 z0.length t2) ∧ no_ k_ (.slice t1 i1.length v1) ∧ k_ ≠ j0 ∧ k_ ≠ k0 ∧ k_ ≠ i0 ∧ k_ ≠ g0) (fun _ => False) rfl (by first | (go_simp; done) | (go_simp; rfl)) ?aP (fun _ hk => hk.elim) ?aF ?aO ?aB ?aS ?aL ?_; (case aP => exact (Kd.FK_slice_mk (Nat.le_refl _) (Kd.F_nil _ _ _))); (case aB => exact (bl_ HB)); (case aF => exact (fun k_ hk => ⟨(Nat.le_trans (bs_ HB) hk), Kd.fresh' (Kd.R_lt (kRk_ o0 d0)) k_ hk, Kd.fresh' (Kd.R_lt (kRk_ p0 d0)) k_ hk, Kd.fresh' (Kd.R_lt (kRk_ q0 d0)) k_ hk, Kd.fresh' (Kd.N_lt (by (with_reducible repeat (first | apply Kd.N_alloc | apply Kd.N_drewN | apply Kd.N_drew)); exact (Kd.N_mono (Kd.N_far (p := ⟨g0, 0, none⟩) (Kd.N_mono R1.out (fun k_ hk => (⟨hk, hk.2.2.2.2.2.2.2.2⟩ : _ ∧ k_ ≠ g0))) (fun _ hk => hk.2) (.slice t1 i1.length v1)) (fun _ h_ => h_.1)))) k_ hk, Kd.freshB (g := j0) (o := .cells #[.int .i64 G0, .int .i64 H0, .slice M0 C0.length N0, .slice O0 D0.length P0] 31 (0, 0)) (bk_ c0) k_ hk, Kd.freshB (g := k0) (o := .cells #[.slice (some E0) r0.length Q0] 37 (0, 0)) (bk_ e0) k_ hk, Kd.freshB (g := i0) (o := .cells #[.slice none 0 0, .slice none 0 0] 33 (0, 0)) (bk_ f0) k_ hk, Kd.freshB (g := g0) (o := .cells #[.slice t1 i1.length v1, m0] 33 (0, 0)) (bp_ d0) k_ hk⟩)); (case aO => exact (by (with_reducible repeat (first | apply Kd.N_alloc | apply Kd.N_drewN | apply Kd.N_drew)); exact Kd.N_mono (Kd.N_far (p := ⟨g0, 0, none⟩) (Kd.N_mono a0.out (fun k_ hk => (⟨hk, hk.1.2.2.2.2.2.2.2⟩ : _ ∧ k_ ≠ g0))) (fun _ hk => hk.2) (.slice t1 i1.length v1)) cj_)); (case aS => exact (bs_ HB)); (case aL => have := c4.out; omega); intro Y7 k8 ho hb hg hat; rw [← d4.out] at ho; replace c0 := (FG_ c0 hg (Kd.N_ne a0.out c0.out (by decide))); replace e0 := (FG_ e0 hg (Kd.N_ne a0.out e0.out (by decide))); replace f0 := (FG_ f0 hg (Kd.N_ne a0.out f0.out (by decide))); replace o0 := a_ (Kd.R_over' (kRk_ o0 d0) (Kd.N_typed (by (with_reducible repeat (first | apply Kd.N_alloc | apply Kd.N_drewN | apply Kd.N_drew)); exact (Kd.N_mono (Kd.N_far (p := ⟨g0, 0, none⟩) (Kd.N_mono a0.out (fun k_ hk => (⟨hk, hk.1.2.2.2.2.2.2.2⟩ : _ ∧ k_ ≠ g0))) (fun _ hk => hk.2) (.slice t1 i1.length v1)) (fun _ h_ => h_.1)))) (by decide) hg); replace p0 := a_ (Kd.R_over' (kRk_ p0 d0) (Kd.N_typed (by (with_reducible repeat (first | apply Kd.N_alloc | apply Kd.N_drewN | apply Kd.N_drew)); exact (Kd.N_mono (Kd.N_far (p := ⟨g0, 0, none⟩) (Kd.N_mono a0.out (fun k_ hk => (⟨hk, hk.1.2.2.2.2.2.2.2⟩ : _ ∧ k_ ≠ g0))) (fun _ hk => hk.2) (.slice t1 i1.length v1)) (fun _ h_ => h_.1)))) (by decide) hg); replace q0 := a_ (Kd.R_over' (kRk_ q0 d0) (Kd.N_typed (by (with_reducible repeat (first | apply Kd.N_alloc | apply Kd.N_drewN | apply Kd.N_drew)); exact (Kd.N_mono (Kd.N_far (p := ⟨g0, 0, none⟩) (Kd.N_mono a0.out (fun k_ hk => (⟨hk, hk.1.2.2.2.2.2.2.2⟩ : _ ∧ k_ ≠ g0))) (fun _ hk => hk.2) (.slice t1 i1.length v1)) (fun _ h_ => h_.1)))) (by decide) hg); replace d0 := a_ (blk_grown (g := g0) (o := .cells #[.slice t1 i1.length v1, m0] 33 (0, 0)) (bp_ d0) hg (Kd.N_ne a0.out d0.out (by decide))); replace R1 := a_ (Kd.N_afterv (ok := (fun k_ => (w.heap.size ≤ k_) ∧ no_ k_ (.slice l2 T0.length m2) ∧ no_ k_ (.slice n2 y0.length p2) ∧ no_ k_ (.slice q2 z0.length t2) ∧ k_ ≠ j0 ∧ k_ ≠ k0 ∧ k_ ≠ i0 ∧ k_ ≠ g0)) (by (with_reducible repeat (first | apply Kd.N_alloc | apply Kd.N_drewN | apply Kd.N_drew)); exact Kd.N_mono (Kd.N_far (p := ⟨g0, 0, none⟩) (Kd.N_mono R1.out (fun k_ hk => (⟨hk, hk.2.2.2.2.2.2.2.2⟩ : _ ∧ k_ ≠ g0))) (fun _ hk => hk.2) (.slice t1 i1.length v1)) cj_) hg hat); replace HB := a_ (hb); have m3 := a_ (ho); clear a0; clear ho hb hg hat; obtain ⟨W2, X2, M4⟩ := Kd.N_slice m3.out; subst M4; obtain ⟨B5, C5, D5, E5⟩ := e2_ d0))
 go_roundg k1
 case measure => have := A2.out; omega
 case rel => exact ⟨(j2), (wrap64 (v0 + 1)), (i1), (H2), (.slice t1 i1.length v1), (.slice W2 H2.length X2), rs_, rs_, H', ⟨by have := A2.out; omega⟩, ⟨by (with_reducible repeat (first | apply Kd.N_alloc | apply Kd.N_drewN | apply Kd.N_drew)); exact Kd.N_mono (Kd.N_far (p := ⟨g0, 1, none⟩) (Kd.N_mono R1.out (fun k_ hk => (⟨hk, hk.1.2.2.2.2.2.2.2⟩ : _ ∧ k_ ≠ g0))) (fun _ hk => hk.2) (.slice W2 H2.length X2)) cj_⟩, ⟨by (with_reducible repeat (first | apply Kd.N_alloc | apply Kd.N_drewN | apply Kd.N_drew)); exact Kd.N_mono (Kd.N_far (p := ⟨g0, 1, none⟩) (Kd.N_mono m3.out (fun k_ hk => (⟨hk, hk.2.2.2.2.2.2.2.2⟩ : _ ∧ k_ ≠ g0))) (fun _ hk => hk.2) (.slice W2 H2.length X2)) cj_⟩, ⟨bk_ c0⟩, ⟨bk_ e0⟩, ⟨bk_ f0⟩, ⟨bp_ d0⟩, ⟨bl_ HB⟩⟩}
 {
 replace H := gt_ H
 obtain ⟨A4, H⟩ := H
 have e4 := a_ A4
 clear A4
 obtain ⟨L0, d2⟩ : ∃ y_ : List (List Int), y_ = (t0 ++ [T0]) := ⟨_, rfl⟩
 first | replace H := by_ H d2 | rw [← d2] at H
 have f4 := a_ d2
 clear d2
 replace H := gt_ H
 obtain ⟨B4, H⟩ := H
 have g4 := a_ B4
 clear B4
 obtain ⟨J2, e2⟩ : ∃ y_ : List (List Int), y_ = (h0 ++ [z0]) := ⟨_, rfl⟩
 first | replace H := by_ H e2 | rw [← e2] at H
 have h4 := a_ e2
 clear e2
 have H' := a_ H
 clear H
 have X6 := j1.out
 have Y6 := m1.out
 have Z6 := b1.out
 have a7 := c1.out
 have b7 := d1.out
 have d7 := e1.out
 obtain ⟨F5, G5, H5, I5, J5, K5, L5, M5⟩ := e4_ c0
 try go_wp2
 replace b0 := a_ (Kd.N_drew b0.out)
 replace a0 := a_ (Kd.N_drew a0.out)
 replace c0 := a_ (blk_drew c0.out)
 replace e0 := a_ (blk_drew e0.out)
 replace f0 := a_ (blk_drew f0.out)
 replace d0 := a_ (blk_drew d0.out)
 replace HB := a_ (below_drew1 HB.out)
 have L1 : 0 ≤ (v0 : Int) := dm_
 have M1 : v0 < (r0.length : Int) := dm_
 obtain ⟨E0, H1, I1, U2, I0, y1, z1⟩ := at_L2 a2.out v0 L1 M1
 have A1 := I0
 cases U2
 replace I0 := hc_ HB I0
 have B1 := a_ z1
 have U1 := a_ y1
 clear z1 y1
 replace L1 := eq_true L1
 replace M1 := eq_true M1
 refine start_ (n := 8) (S := fun w' => w'.cell? ⟨j0, 0, none⟩ = some (.int .i64 G0) ∧ w'.cell? ⟨j0, 1, none⟩ = some (.int .i64 H0) ∧ w'.cell? ⟨j0, 2, none⟩ = some (.slice M0 C0.length N0) ∧ w'.cell? ⟨j0, 3, none⟩ = some (.slice O0 D0.length P0) ∧ w'.cell? ⟨k0, 0, none⟩ = some (.slice (some E0) r0.length Q0) ∧ w'.cell? (E0.add (v0).toNat) = some (.slice H1 (rd_L2 r0 v0).length I1)) (ds := []) (B_ 8 0) kf_ rfl rfl ⟨ce_ c0 0, ce_ c0 1, ce_ c0 2, ce_ c0 3, ce_ e0 0, (hc_ HB A1)⟩ (fun hHeld => ?_); refine with_tabW psalteryref22_Encode.tab6 psalteryref22_Encode.bits6 (fun HT_ HW_ => ?_)
 generalize wr.drew = l8 at b0 a0 c0 e0 f0 d0 HB B1 I0 hHeld ⊢
 refine pu_ 1 (some 22) (B_ 8 2) HT_ ?_
 refine pu_ 3 (some 24) (B_ 8 10) HT_ ?_
 refine take_ (i := 0) (N := some 21) (v := ?_) (a' := ?_) (B_ 8 11) rfl rfl (take_ofW HT_.out HW_.out kf_) (fun _ _ _ h => h) (Or.inl ⟨by rfl, ?_⟩) hHeld ?_ ?_
 rotate_left
 {
 rintro w' ⟨s0, s1, s2, s3, s4, s5⟩
 go_simp
 with_reducible rfl}
 rotate_left
 {
 exact sp_}
 refine take_ (i := 2) (N := some 23) (v := ?_) (a' := ?_) (B_ 8 15) rfl rfl (take_ofW HT_.out HW_.out kf_) (fun _ _ _ h => h) (Or.inl ⟨by rfl, ?_⟩) hHeld ?_ ?_
 rotate_left
 {
 rintro w' ⟨s0, s1, s2, s3, s4, s5⟩
 go_simp
 with_reducible rfl}
 rotate_left
 {
 exact sp_}
 refine pu_ 4 (some 25) (B_ 8 31) HT_ ?_
 refine take_ (i := 5) (N := some 26) (v := ?_) (a' := ?_) (B_ 8 63) rfl rfl (take_ofW HT_.out HW_.out kf_) (fun _ _ _ h => h) (Or.inl ⟨by rfl, ?_⟩) hHeld ?_ ?_
 rotate_left
 {
 rintro w' ⟨s0, s1, s2, s3, s4, s5⟩
 go_simp
 with_reducible rfl}
 rotate_left
 {
 exact sp_}
 refine one_ (i := 6) (N := some 27) (B_ 8 127) rfl rfl (one_of HT_.out kf_) (by decide) (fun K hK => ?_)
 refine goes_ Try.func27 kf_ rfl #[.agg #[.int .i64 G0, .int .i64 H0, .slice M0 C0.length N0, .slice O0 D0.length P0], .slice H1 (rd_L2 r0 v0).length I1] (by rfl) rfl rfl ar_ ?_
 with_reducible refine (psalteryref22_Posts.calls k1 G0 H0 _ _ C0 _ _ D0 _ _ (rd_L2 r0 v0) T0 _ ?side1 ?side2 ?side3 ?side4 ?side5 ?side6 r4.out).mono ?_
 (case side1 => exact kC_ i3 HB)
 (case side2 => exact j3.out)
 (case side3 => exact kC_ k3 HB)
 (case side4 => exact l3.out)
 (case side5 => exact kC_ B1 HB)
 (case side6 => exact U1.out)
 rintro e z6 ⟨H4, rfl, A0, hb⟩
 refine ⟨_, rfl, ?_⟩
 replace b0 := a_ (Kd.N_elder' (kN_ b0) (Kd.R_base A0) hb)
 replace a0 := a_ (Kd.N_elder' (kN_ a0) (Kd.R_base A0) hb)
 have o0 := a_ (Kd.R_lower (Kd.R_newM (M := fun k_ => (w.heap.size ≤ k_)) A0 (bs_ HB) (fun k_ h_ => h_)) (bs_ HB))
 replace c0 := FB_ c0 hb
 replace e0 := FB_ e0 hb
 replace f0 := FB_ f0 hb
 replace d0 := FB_ d0 hb
 replace HB := BS_ HB hb
 (try clear hb)
 (try clear A0)
 refine hK.out _ _ ⟨ce_ c0 0, ce_ c0 1, ce_ c0 2, ce_ c0 3, ce_ e0 0, (hc_ HB A1)⟩ (fun hHeld => ?_)
 clear hK K
 refine norm_ (a' := ?_) ?_ ?_
 rotate_left
 {
 show Act.put _ (some 27) _ = _
 exact sp_}
 refine pu_ 7 (some 8) (B_ 8 255) HT_ ?_
 refine done_ (done_of HT_.out kf_) ?_
 try go_wp2
 replace b0 := a_ (Kd.N_drew b0.out)
 replace a0 := a_ (Kd.N_drew a0.out)
 replace o0 := a_ (Kd.R_drew o0.out)
 replace c0 := a_ (blk_drew c0.out)
 replace e0 := a_ (blk_drew e0.out)
 replace f0 := a_ (blk_drew f0.out)
 replace d0 := a_ (blk_drew d0.out)
 replace HB := a_ (below_drew1 HB.out)
 have N1 : 0 ≤ (v0 : Int) := dm_
 have O1 : v0 < (r0.length : Int) := dm_
 obtain ⟨I2, J1, K1, V2, J0, C1, D1⟩ := at_L2 a2.out v0 N1 O1
 have X0 := J0
 obtain rfl : E0 = I2 := (by injection V2)
 replace J0 := hc_ HB J0
 have E1 := a_ D1
 have V1 := a_ C1
 clear D1 C1
 replace N1 := eq_true N1
 replace O1 := eq_true O1
 obtain ⟨Y2, Z2, M3⟩ := Kd.R_slice o0.out
 (first | subst M3 | (injection M3 with f1_ f2_ f3_; have f4_ := f1_.symm; have f5_ := f3_.symm; clear f1_ f2_ f3_; subst f4_; subst f5_))
 refine start_ (n := 9) (S := fun w' => w'.cell? ⟨k0, 0, none⟩ = some (.slice (some E0) r0.length Q0) ∧ w'.cell? (E0.add (v0).toNat) = some (.slice J1 (rd_L2 r0 v0).length K1)) (ds := []) (B_ 9 0) kf_ rfl rfl ⟨ce_ e0 0, (hc_ HB X0)⟩ (fun hHeld => ?_); refine with_tabW psalteryref22_Encode.tab7 psalteryref22_Encode.bits7 (fun HT_ HW_ => ?_)
 generalize z6.drew = m8 at b0 a0 o0 c0 e0 f0 d0 HB E1 J0 hHeld ⊢
 refine pu_ 0 (some 28) (B_ 9 1) HT_ ?_
 refine pu_ 2 (some 30) (B_ 9 5) HT_ ?_
 refine pu_ 5 (some 33) (B_ 9 37) HT_ ?_
 refine take_ (i := 1) (N := some 29) (v := ?_) (a' := ?_) (B_ 9 39) rfl rfl (take_ofW HT_.out HW_.out kf_) (fun _ _ _ h => h) (Or.inl ⟨by rfl, ?_⟩) hHeld ?_ ?_
 rotate_left
 {
 rintro w' ⟨s0, s1⟩
 go_simp
 with_reducible rfl}
 rotate_left
 {
 exact sp_}
 refine pu_ 3 (some 31) (B_ 9 47) HT_ ?_
 refine take_ (i := 4) (N := some 32) (v := ?_) (a' := ?_) (B_ 9 63) rfl rfl (take_ofW HT_.out HW_.out kf_) (fun _ _ _ h => h) (Or.inl ⟨by rfl, ?_⟩) hHeld ?_ ?_
 rotate_left
 {
 rintro w' ⟨s0, s1⟩
 go_simp
 with_reducible rfl}
 rotate_left
 {
 exact sp_}
 refine one_ (i := 6) (N := some 34) (B_ 9 127) rfl rfl (one_of HT_.out kf_) (by decide) (fun K hK => ?_)
 refine goes_ Try.func26 kf_ rfl #[.slice Y2 T0.length Z2] (by rfl) rfl rfl ar_ ?_
 with_reducible refine (psalteryref22_Floors.calls k1 _ _ T0 y0 _ ?side1 ?side2 t4.out).mono ?_
 (case side1 => exact kCt_ (Kd.R_reads' o0.out).2.2)
 (case side2 => exact (Kd.R_reads' o0.out).2.1)
 rintro e n8 ⟨I4, rfl, A0, hb⟩
 refine ⟨_, rfl, ?_⟩
 replace b0 := a_ (Kd.N_elder' (kN_ b0) (Kd.R_base A0) hb)
 replace a0 := a_ (Kd.N_elder' (kN_ a0) (Kd.R_base A0) hb)
 replace o0 := FR_ o0 hb
 have p0 := a_ (Kd.R_lower (Kd.R_newM (M := fun k_ => (w.heap.size ≤ k_)) A0 (bs_ HB) (fun k_ h_ => h_)) (bs_ HB))
 replace c0 := FB_ c0 hb
 replace e0 := FB_ e0 hb
 replace f0 := FB_ f0 hb
 replace d0 := FB_ d0 hb
 replace HB := BS_ HB hb
 (try clear hb)
 (try clear A0)
 obtain ⟨R0, S0, N3⟩ := Kd.R_slice p0.out
 (first | subst N3 | (injection N3 with f1_ f2_ f3_; have f4_ := f1_.symm; have f5_ := f3_.symm; clear f1_ f2_ f3_; subst f4_; subst f5_))
 refine hK.out _ _ ⟨ce_ e0 0, (hc_ HB X0)⟩ (fun hHeld => ?_)
 clear hK K
 refine norm_ (a' := ?_) ?_ ?_
 rotate_left
 {
 show Act.put _ (some 34) _ = _
 exact sp_}
 refine one_ (i := 7) (N := some 35) (B_ 9 255) rfl rfl (one_of HT_.out kf_) (by decide) (fun K hK => ?_)
 refine goes_ Try.func54 kf_ rfl #[.slice J1 (rd_L2 r0 v0).length K1, .slice R0 y0.length S0] (by rfl) rfl rfl ar_ ?_
 with_reducible refine (psalteryref21_Quantize.calls k1 _ _ (rd_L2 r0 v0) _ _ y0 z0 _ ?side1 ?side2 ?side3 ?side4 v4.out).mono ?_
 (case side1 => exact kC_ E1 HB)
 (case side2 => exact V1.out)
 (case side3 => exact kCt_ (Kd.R_reads' p0.out).2.2)
 (case side4 => exact (Kd.R_reads' p0.out).2.1)
 rintro e O3 ⟨J4, rfl, A0, hb⟩
 refine ⟨_, rfl, ?_⟩
 replace b0 := a_ (Kd.N_elder' (kN_ b0) (Kd.R_base A0) hb)
 replace a0 := a_ (Kd.N_elder' (kN_ a0) (Kd.R_base A0) hb)
 replace o0 := FR_ o0 hb
 have q0 := a_ (Kd.R_lower (Kd.R_new' (Kd.R_newM (M := fun k_ => (w.heap.size ≤ k_)) A0 (bs_ HB) (fun k_ h_ => h_)) (Kd.R_lt (kR_ p0))) (bs_ HB))
 replace p0 := a_ (Kd.R_elder' (kR_ p0) (Kd.R_base A0) hb)
 replace c0 := FB_ c0 hb
 replace e0 := FB_ e0 hb
 replace f0 := FB_ f0 hb
 replace d0 := FB_ d0 hb
 replace HB := BS_ HB hb
 (try clear hb)
 (try clear A0)
 refine hK.out _ _ ⟨ce_ e0 0, (hc_ HB X0)⟩ (fun hHeld => ?_)
 clear hK K
 refine norm_ (a' := ?_) ?_ ?_
 rotate_left
 {
 show Act.put _ (some 35) _ = _
 exact sp_}
 refine pu_ 8 (some 9) (B_ 9 511) HT_ ?_
 refine done_ (done_of HT_.out kf_) ?_
 obtain ⟨f1, h1, N4⟩ := Kd.R_slice q0.out
 subst N4
 try go_wp2_with (first | ((with_reducible refine gate_callee (f := 55) rfl ?_); refine gL_ (some 37) Try.func55 #[.slice f1 z0.length h1] ?_; (with_reducible refine (psalteryref22_noughts.calls k1 _ _ z0 false _ ?side1 ?side2 x4.out).mono ?_); (case side1 => exact kCt_ (Kd.R_reads' q0.out).2.2); (case side2 => exact (Kd.R_reads' q0.out).2.1); rintro e w' ⟨rfl, ⟨nd, rfl⟩⟩; refine ⟨_, rfl, ?_⟩; (try (rw [drewN_self O3]; generalize hq_ : World.drewN O3 _ = O3; have n0_ := a_ (Kd.N_at hq_ b0.out); have n1_ := a_ (Kd.N_at hq_ a0.out); have n2_ := a_ (Kd.R_at hq_ o0.out); have n3_ := a_ (Kd.R_at hq_ p0.out); have n4_ := a_ (Kd.R_at hq_ q0.out); have n5_ := a_ (blk_at hq_ c0.out); have n6_ := a_ (blk_at hq_ e0.out); have n7_ := a_ (blk_at hq_ f0.out); have n8_ := a_ (blk_at hq_ d0.out); have n9_ := a_ (below_at hq_ HB.out); clear hq_ b0 a0 o0 p0 q0 c0 e0 f0 d0 HB; have b0 := n0_; have a0 := n1_; have o0 := n2_; have p0 := n3_; have q0 := n4_; have c0 := n5_; have e0 := n6_; have f0 := n7_; have d0 := n8_; have HB := n9_; clear n0_ n1_ n2_ n3_ n4_ n5_ n6_ n7_ n8_ n9_)); have e7 := o1.out; have f7 := n1.out; have g7 := q1.out; have h7 := p1.out; obtain ⟨N5, O5, P5, Q5⟩ := e2_ d0) | ((with_reducible refine gate_builtin (b := .append) (xs := #[.tmp 51, .tmp 53]) rfl ?_); at_builtin; refine Kd.N_append (Kd.slice 3 (Kd.int .i64)) (w0 := w) w.heap.size rfl (.tmp 51) (.tmp 53) 25 22 (.slice none 0 0) 24 rfl Try.underlying25 info22 rfl (by decide) (by omega) n0 t0 T0 [.slice Y2 T0.length Z2] (fun k_ => (w.heap.size ≤ k_) ∧ no_ k_ m0 ∧ no_ k_ (.slice R0 y0.length S0) ∧ no_ k_ (.slice f1 z0.length h1) ∧ k_ ≠ j0 ∧ k_ ≠ k0 ∧ k_ ≠ i0 ∧ k_ ≠ g0) (fun k_ => ((fun k_ => (w.heap.size ≤ k_) ∧ no_ k_ m0 ∧ no_ k_ (.slice R0 y0.length S0) ∧ no_ k_ (.slice f1 z0.length h1) ∧ k_ ≠ j0 ∧ k_ ≠ k0 ∧ k_ ≠ i0 ∧ k_ ≠ g0)) k_ ∧ no_ k_ n0) rfl rfl ?aP (fun _ hk => hk) ?aF ?aO ?aB ?aS ?aL ?_; (case aP => exact (Kd.FK_slice_mk (Kd.R_reads' (Kd.R_mono (ok' := (fun k_ => ((fun k_ => (w.heap.size ≤ k_) ∧ no_ k_ m0 ∧ no_ k_ (.slice R0 y0.length S0) ∧ no_ k_ (.slice f1 z0.length h1) ∧ k_ ≠ j0 ∧ k_ ≠ k0 ∧ k_ ≠ i0 ∧ k_ ≠ g0)) k_ ∧ no_ k_ n0)) (Kd.R_types (Kd.R_types (Kd.R_types (Kd.R_types (Kd.R_apart' (Kd.R_apart' (Kd.R_apart' (Kd.R_apart' (o0.out) (Kd.N_typed a0.out) (by decide)) (Kd.R_typed p0.out) (by decide)) (Kd.R_typed q0.out) (by decide)) (Kd.N_typed b0.out) (by decide)) c0.out (by decide)) e0.out (by decide)) f0.out (by decide)) d0.out (by decide)) cj_)).2.1 (Kd.R_F (Kd.R_mono (ok' := (fun k_ => ((fun k_ => (w.heap.size ≤ k_) ∧ no_ k_ m0 ∧ no_ k_ (.slice R0 y0.length S0) ∧ no_ k_ (.slice f1 z0.length h1) ∧ k_ ≠ j0 ∧ k_ ≠ k0 ∧ k_ ≠ i0 ∧ k_ ≠ g0)) k_ ∧ no_ k_ n0)) (Kd.R_types (Kd.R_types (Kd.R_types (Kd.R_types (Kd.R_apart' (Kd.R_apart' (Kd.R_apart' (Kd.R_apart' (o0.out) (Kd.N_typed a0.out) (by decide)) (Kd.R_typed p0.out) (by decide)) (Kd.R_typed q0.out) (by decide)) (Kd.N_typed b0.out) (by decide)) c0.out (by decide)) e0.out (by decide)) f0.out (by decide)) d0.out (by decide)) cj_)))); (case aB => exact (bl_ HB)); (case aF => exact (fun k_ hk => ⟨(Nat.le_trans (bs_ HB) hk), Kd.fresh' (Kd.N_lt (kN_ a0)) k_ hk, Kd.fresh' (Kd.R_lt (kR_ p0)) k_ hk, Kd.fresh' (Kd.R_lt (kR_ q0)) k_ hk, Kd.freshB (g := j0) (o := .cells #[.int .i64 G0, .int .i64 H0, .slice M0 C0.length N0, .slice O0 D0.length P0] 31 (0, 0)) (bk_ c0) k_ hk, Kd.freshB (g := k0) (o := .cells #[.slice (some E0) r0.length Q0] 37 (0, 0)) (bk_ e0) k_ hk, Kd.freshB (g := i0) (o := .cells #[.slice none 0 0, .slice none 0 0] 33 (0, 0)) (bk_ f0) k_ hk, Kd.freshB (g := g0) (o := .cells #[n0, m0] 33 (0, 0)) (bk_ d0) k_ hk⟩)); (case aO => exact (by (with_reducible repeat (first | apply Kd.N_alloc | apply Kd.N_drewN | apply Kd.N_drew)); exact Kd.N_mono b0.out cj_)); (case aS => exact (bs_ HB)); (case aL => have := e4.out; omega); intro Z7 A6 ho hb hg hat; rw [← f4.out] at ho; replace a0 := a_ (Kd.N_afterv (ok := (fun k_ => (w.heap.size ≤ k_) ∧ no_ k_ (.slice Y2 T0.length Z2) ∧ no_ k_ (.slice R0 y0.length S0) ∧ no_ k_ (.slice f1 z0.length h1) ∧ k_ ≠ j0 ∧ k_ ≠ k0 ∧ k_ ≠ i0 ∧ k_ ≠ g0)) (by (with_reducible repeat (first | apply Kd.N_alloc | apply Kd.N_drewN | apply Kd.N_drew)); exact Kd.N_mono a0.out cj_) hg hat); replace c0 := (FG_ c0 hg (Kd.N_ne b0.out c0.out (by decide))); replace e0 := (FG_ e0 hg (Kd.N_ne b0.out e0.out (by decide))); replace f0 := (FG_ f0 hg (Kd.N_ne b0.out f0.out (by decide))); replace d0 := (FG_ d0 hg (Kd.N_ne b0.out d0.out (by decide))); replace p0 := a_ (Kd.R_over' (kR_ p0) (Kd.N_typed (kN_ b0)) (by decide) hg); replace q0 := a_ (Kd.R_over' (kR_ q0) (Kd.N_typed (kN_ b0)) (by decide) hg); replace HB := a_ (hb); have Y0 := a_ (ho); clear b0 o0; clear ho hb hg hat; obtain ⟨U0, V0, O4⟩ := Kd.N_slice Y0.out; subst O4; obtain ⟨R5, S5, T5, U5⟩ := e2_ d0) | ((with_reducible refine gate_store (t := 25) (p := 55) rfl ?_); refine store_event (t := 25) (p := 55) (v := ?vo_w58) (w1 := (A6.setCell ⟨g0, 0, none⟩ (.slice U0 L0.length V0))) ?hg ?ho ?hn ?hr ?_; (case ho => rfl); (case hg => rfl); (case hn => rfl); (case hr => first | (go_simp; done) | (go_simp; rfl)); intro S1 hw; have n0_ : Aside0 (Kd.N (Kd.slice 2 (Kd.int .i64)) 53 S1 w.heap.size (fun k_ => (w.heap.size ≤ k_) ∧ no_ k_ (.slice R0 y0.length S0) ∧ no_ k_ (.slice f1 z0.length h1) ∧ no_ k_ (.slice U0 L0.length V0) ∧ k_ ≠ j0 ∧ k_ ≠ k0 ∧ k_ ≠ i0 ∧ k_ ≠ g0) m0 h0) := ⟨(by rw [hw]; exact (by (with_reducible repeat (first | apply Kd.N_alloc | apply Kd.N_drewN | apply Kd.N_drew)); exact Kd.N_mono (Kd.N_far (p := ⟨g0, 0, none⟩) (Kd.N_mono a0.out (fun k_ hk => (⟨hk, hk.1.2.2.2.2.2.2.2⟩ : _ ∧ k_ ≠ g0))) (fun _ hk => hk.2) (.slice U0 L0.length V0)) cj_))⟩; have n1_ : Aside0 (Kd.R (Kd.int .i64) 2 S1 w.heap.size (fun k_ => (w.heap.size ≤ k_) ∧ no_ k_ (.slice f1 z0.length h1)) (.slice R0 y0.length S0) y0) := ⟨(by rw [hw]; exact (by (with_reducible repeat (first | apply Kd.R_alloc | apply Kd.R_drewN | apply Kd.R_drew)); exact Kd.R_mono (Kd.R_far (p := ⟨g0, 0, none⟩) (Kd.R_types p0.out d0.out (by decide)) (fun _ hk => hk.2) (.slice U0 L0.length V0)) cj_))⟩; have n2_ : Aside0 (Kd.R (Kd.int .i64) 2 S1 w.heap.size (fun k_ => (w.heap.size ≤ k_) ∧ no_ k_ (.slice R0 y0.length S0)) (.slice f1 z0.length h1) z0) := ⟨(by rw [hw]; exact (by (with_reducible repeat (first | apply Kd.R_alloc | apply Kd.R_drewN | apply Kd.R_drew)); exact Kd.R_mono (Kd.R_far (p := ⟨g0, 0, none⟩) (Kd.R_types q0.out d0.out (by decide)) (fun _ hk => hk.2) (.slice U0 L0.length V0)) cj_))⟩; have n3_ : Aside0 (Kd.N (Kd.slice 3 (Kd.int .i64)) 22 S1 w.heap.size (fun k_ => (w.heap.size ≤ k_) ∧ no_ k_ m0 ∧ no_ k_ (.slice R0 y0.length S0) ∧ no_ k_ (.slice f1 z0.length h1) ∧ k_ ≠ j0 ∧ k_ ≠ k0 ∧ k_ ≠ i0 ∧ k_ ≠ g0) (.slice U0 L0.length V0) L0) := ⟨(by rw [hw]; exact (by (with_reducible repeat (first | apply Kd.N_alloc | apply Kd.N_drewN | apply Kd.N_drew)); exact Kd.N_mono (Kd.N_far (p := ⟨g0, 0, none⟩) (Kd.N_mono Y0.out (fun k_ hk => (⟨hk, hk.2.2.2.2.2.2.2⟩ : _ ∧ k_ ≠ g0))) (fun _ hk => hk.2) (.slice U0 L0.length V0)) cj_))⟩; have n4_ : Aside0 (S1.heap[j0]? = some (.cells #[.int .i64 G0, .int .i64 H0, .slice M0 C0.length N0, .slice O0 D0.length P0] 31 (0, 0))) := ⟨(by rw [hw]; exact (bk_ c0))⟩; have n5_ : Aside0 (S1.heap[k0]? = some (.cells #[.slice (some E0) r0.length Q0] 37 (0, 0))) := ⟨(by rw [hw]; exact (bk_ e0))⟩; have n6_ : Aside0 (S1.heap[i0]? = some (.cells #[.slice none 0 0, .slice none 0 0] 33 (0, 0))) := ⟨(by rw [hw]; exact (bk_ f0))⟩; have n7_ : Aside0 (S1.heap[g0]? = some (.cells #[.slice U0 L0.length V0, m0] 33 (0, 0))) := ⟨(by rw [hw]; exact (bp_ d0))⟩; have n8_ : Aside0 (Below w.heap.size w S1) := ⟨(by rw [hw]; exact (bl_ HB))⟩; clear hw; clear a0; clear p0; clear q0; clear Y0; clear c0; clear e0; clear f0; clear d0; clear HB; have a0 := n0_; have p0 := n1_; have q0 := n2_; have Y0 := n3_; have c0 := n4_; have e0 := n5_; have f0 := n6_; have d0 := n7_; have HB := n8_; clear n0_ n1_ n2_ n3_ n4_ n5_ n6_ n7_ n8_; obtain ⟨V5, W5, X5, Y5⟩ := e2_ d0) | ((with_reducible refine gate_builtin (b := .append) (xs := #[.tmp 57, .tmp 59]) rfl ?_); at_builtin; refine Kd.N_append (Kd.slice 2 (Kd.int .i64)) (w0 := w) w.heap.size rfl (.tmp 57) (.tmp 59) 26 53 (.slice none 0 0) 24 rfl Try.underlying26 info53 rfl (by decide) (by omega) m0 h0 z0 [.slice f1 z0.length h1] (fun k_ => (w.heap.size ≤ k_) ∧ no_ k_ (.slice R0 y0.length S0) ∧ no_ k_ (.slice U0 L0.length V0) ∧ k_ ≠ j0 ∧ k_ ≠ k0 ∧ k_ ≠ i0 ∧ k_ ≠ g0) (fun k_ => ((fun k_ => (w.heap.size ≤ k_) ∧ no_ k_ (.slice R0 y0.length S0) ∧ no_ k_ (.slice U0 L0.length V0) ∧ k_ ≠ j0 ∧ k_ ≠ k0 ∧ k_ ≠ i0 ∧ k_ ≠ g0)) k_ ∧ no_ k_ m0) rfl rfl ?aP (fun _ hk => hk) ?aF ?aO ?aB ?aS ?aL ?_; (case aP => exact (Kd.FK_slice_mk (Kd.R_reads' (Kd.R_mono (ok' := (fun k_ => ((fun k_ => (w.heap.size ≤ k_) ∧ no_ k_ (.slice R0 y0.length S0) ∧ no_ k_ (.slice U0 L0.length V0) ∧ k_ ≠ j0 ∧ k_ ≠ k0 ∧ k_ ≠ i0 ∧ k_ ≠ g0)) k_ ∧ no_ k_ m0)) (Kd.R_types (Kd.R_types (Kd.R_types (Kd.R_types (Kd.R_apart' (Kd.R_apart' (q0.out) (Kd.N_typed Y0.out) (by decide)) (Kd.N_typed a0.out) (by decide)) c0.out (by decide)) e0.out (by decide)) f0.out (by decide)) d0.out (by decide)) cj_)).2.1 (Kd.R_F (Kd.R_mono (ok' := (fun k_ => ((fun k_ => (w.heap.size ≤ k_) ∧ no_ k_ (.slice R0 y0.length S0) ∧ no_ k_ (.slice U0 L0.length V0) ∧ k_ ≠ j0 ∧ k_ ≠ k0 ∧ k_ ≠ i0 ∧ k_ ≠ g0)) k_ ∧ no_ k_ m0)) (Kd.R_types (Kd.R_types (Kd.R_types (Kd.R_types (Kd.R_apart' (Kd.R_apart' (q0.out) (Kd.N_typed Y0.out) (by decide)) (Kd.N_typed a0.out) (by decide)) c0.out (by decide)) e0.out (by decide)) f0.out (by decide)) d0.out (by decide)) cj_)))); (case aB => exact (bl_ HB)); (case aF => exact (fun k_ hk => ⟨(Nat.le_trans (bs_ HB) hk), Kd.fresh' (Kd.R_lt (kR_ p0)) k_ hk, Kd.fresh' (Kd.N_lt (kN_ Y0)) k_ hk, Kd.freshB (g := j0) (o := .cells #[.int .i64 G0, .int .i64 H0, .slice M0 C0.length N0, .slice O0 D0.length P0] 31 (0, 0)) (bk_ c0) k_ hk, Kd.freshB (g := k0) (o := .cells #[.slice (some E0) r0.length Q0] 37 (0, 0)) (bk_ e0) k_ hk, Kd.freshB (g := i0) (o := .cells #[.slice none 0 0, .slice none 0 0] 33 (0, 0)) (bk_ f0) k_ hk, Kd.freshB (g := g0) (o := .cells #[.slice U0 L0.length V0, m0] 33 (0, 0)) (bk_ d0) k_ hk⟩)); (case aO => exact (by (with_reducible repeat (first | apply Kd.N_alloc | apply Kd.N_drewN | apply Kd.N_drew)); exact Kd.N_mono a0.out cj_)); (case aS => exact (bs_ HB)); (case aL => have := g4.out; omega); intro a8 o8 ho hb hg hat; rw [← h4.out] at ho; replace c0 := (FG_ c0 hg (Kd.N_ne a0.out c0.out (by decide))); replace e0 := (FG_ e0 hg (Kd.N_ne a0.out e0.out (by decide))); replace f0 := (FG_ f0 hg (Kd.N_ne a0.out f0.out (by decide))); replace d0 := (FG_ d0 hg (Kd.N_ne a0.out d0.out (by decide))); replace p0 := a_ (Kd.R_over' (kR_ p0) (Kd.N_typed (kN_ a0)) (by decide) hg); replace Y0 := a_ (Kd.N_afterv (ok := (fun k_ => (w.heap.size ≤ k_) ∧ no_ k_ (.slice R0 y0.length S0) ∧ no_ k_ (.slice f1 z0.length h1) ∧ k_ ≠ j0 ∧ k_ ≠ k0 ∧ k_ ≠ i0 ∧ k_ ≠ g0)) (by (with_reducible repeat (first | apply Kd.N_alloc | apply Kd.N_drewN | apply Kd.N_drew)); exact Kd.N_mono Y0.out cj_) hg hat); replace HB := a_ (hb); have n3 := a_ (ho); clear a0 q0; clear ho hb hg hat; obtain ⟨a3, b3, P4⟩ := Kd.N_slice n3.out; subst P4; obtain ⟨Z5, a6, b6, c6⟩ := e2_ d0))
 go_roundg k1
 case measure => have := A2.out; omega
 case rel => exact ⟨(wrap64 (j2 + 1)), (wrap64 (v0 + 1)), (L0), (J2), (.slice U0 L0.length V0), (.slice a3 J2.length b3), rs_, rs_, H', ⟨by have := A2.out; omega⟩, ⟨by (with_reducible repeat (first | apply Kd.N_alloc | apply Kd.N_drewN | apply Kd.N_drew)); exact Kd.N_mono (Kd.N_far (p := ⟨g0, 1, none⟩) (Kd.N_mono Y0.out (fun k_ hk => (⟨hk, hk.1.2.2.2.2.2.2⟩ : _ ∧ k_ ≠ g0))) (fun _ hk => hk.2) (.slice a3 J2.length b3)) cj_⟩, ⟨by (with_reducible repeat (first | apply Kd.N_alloc | apply Kd.N_drewN | apply Kd.N_drew)); exact Kd.N_mono (Kd.N_far (p := ⟨g0, 1, none⟩) (Kd.N_mono n3.out (fun k_ hk => (⟨hk, hk.2.2.2.2.2.2⟩ : _ ∧ k_ ≠ g0))) (fun _ hk => hk.2) (.slice a3 J2.length b3)) cj_⟩, ⟨bk_ c0⟩, ⟨bk_ e0⟩, ⟨bk_ f0⟩, ⟨bp_ d0⟩, ⟨bl_ HB⟩⟩}}
 {
 replace H := ie_ H
 rcases H with ⟨o3, p3, H⟩ | ⟨B6, o3, p3, H⟩
 {
 have H' := a_ H
 clear H
 have i7 := j1.out
 have j7 := m1.out
 have k7 := b1.out
 have l7 := c1.out
 have m7 := d1.out
 have n7 := e1.out
 obtain ⟨A3, B3, C3, D3, E3, F3, G3, H3⟩ := e4_ c0
 go_wp2
 go_loopg [10, 11, 12] k1 (fun kq q3 r3 C6 w' => ∃ (Z0 : List Int) (a1 : List Int) (B0 : Int), C6 = .int .i64 B0 ∧ Aside0 (psalteryref22_Encode.l1 kq Z0 a1 B0 t0 h0 = some (r1, r2)) ∧ Aside0 (kq ≤ k1) ∧ Aside0 (Kd.R (Kd.int .i64) 2 w' w.heap.size (fun k_ => (w.heap.size ≤ k_) ∧ no_ k_ r3) q3 Z0) ∧ Aside0 (Kd.R (Kd.int .i64) 2 w' w.heap.size (fun k_ => (w.heap.size ≤ k_) ∧ no_ k_ q3) r3 a1) ∧ Aside0 (Kd.N (Kd.slice 3 (Kd.int .i64)) 22 w' w.heap.size (fun k_ => (w.heap.size ≤ k_) ∧ no_ k_ q3 ∧ no_ k_ r3 ∧ no_ k_ m0 ∧ k_ ≠ j0 ∧ k_ ≠ k0 ∧ k_ ≠ i0 ∧ k_ ≠ g0) n0 t0) ∧ Aside0 (Kd.N (Kd.slice 2 (Kd.int .i64)) 53 w' w.heap.size (fun k_ => (w.heap.size ≤ k_) ∧ no_ k_ q3 ∧ no_ k_ r3 ∧ no_ k_ n0 ∧ k_ ≠ j0 ∧ k_ ≠ k0 ∧ k_ ≠ i0 ∧ k_ ≠ g0) m0 h0) ∧ Aside0 (w'.heap[j0]? = some (.cells #[.int .i64 G0, .int .i64 H0, (.slice M0 C0.length N0), (.slice O0 D0.length P0)] 31 (0, 0))) ∧ Aside0 (w'.heap[k0]? = some (.cells #[(.slice T1 r0.length Q0)] 37 (0, 0))) ∧ Aside0 (w'.heap[i0]? = some (.cells #[(.slice none 0 0), (.slice none 0 0)] 33 (0, 0))) ∧ Aside0 (w'.heap[g0]? = some (.cells #[n0, m0] 33 (0, 0))) ∧ Aside0 (Below w.heap.size w w'))
 case atStart => exact ⟨(([] : List Int)), (([] : List Int)), (0), rs_, H', ⟨Nat.le_refl _⟩, ⟨kn_⟩, ⟨kn_⟩, ⟨by (with_reducible repeat (first | apply Kd.N_alloc | apply Kd.N_drewN | apply Kd.N_drew)); exact Kd.N_mono b0.out (fun _ hk => ⟨hk.1, ⟨(by simp [Value.ownBlock]), ⟨(by simp [Value.ownBlock]), ⟨hk.2.1, ⟨hk.2.2.1, ⟨hk.2.2.2.1, ⟨hk.2.2.2.2.1, hk.2.2.2.2.2⟩⟩⟩⟩⟩⟩⟩)⟩, ⟨by (with_reducible repeat (first | apply Kd.N_alloc | apply Kd.N_drewN | apply Kd.N_drew)); exact Kd.N_mono a0.out (fun _ hk => ⟨hk.1, ⟨(by simp [Value.ownBlock]), ⟨(by simp [Value.ownBlock]), ⟨hk.2.1, ⟨hk.2.2.1, ⟨hk.2.2.2.1, ⟨hk.2.2.2.2.1, hk.2.2.2.2.2⟩⟩⟩⟩⟩⟩⟩)⟩, ⟨bk_ c0⟩, ⟨bk_ e0⟩, ⟨bk_ f0⟩, ⟨bk_ d0⟩, ⟨bl_ HB⟩⟩
 case round => (
 clear H'
 try clear c7
 try clear I3
 try clear B6
 try clear o3
 try clear p3
 try clear A3 B3 C3 D3 E3 F3 G3 H3
 obtain ⟨Z0, a1, B0, rfl, HA, C4, K0, F0, b0, a0, c0, e0, f0, d0, HB⟩ := hrel
 cases gk with
 | zero => exact absurd HA.out (by simp [psalteryref22_Encode.l1])
 | succ k2 => (
 have H := HA.out
 clear HA
 simp only [psalteryref22_Encode.l1] at H
 replace H := id_ H
 rcases H with ⟨i4, H⟩ | ⟨i4, H⟩
 {
 replace H := gt_ H
 obtain ⟨D4, H⟩ := H
 have o7 : decide (0 < (h0.length : Int)) = true := decide_eq_true D4
 have p7 : decide (0 < h0.length) = true := decide_eq_true (by omega)
 clear D4
 replace H := gd_ H
 obtain ⟨q7, H⟩ := H
 replace H := gd_ H
 obtain ⟨r7, H⟩ := H
 replace H := gt_ H
 obtain ⟨E4, H⟩ := H
 have s7 : decide (1 < (h0.length : Int)) = true := decide_eq_true E4
 have t7 : decide (1 < h0.length) = true := decide_eq_true (by omega)
 clear E4
 replace H := gd_ H
 obtain ⟨w7, H⟩ := H
 obtain ⟨⟨K2, L2⟩, D6, H⟩ := ob_ H
 (try dsimp only at H)
 replace H := gt_ H
 obtain ⟨F4, H⟩ := H
 have j4 := a_ F4
 clear F4
 obtain ⟨Q4, f2⟩ : ∃ y_ : List Int, y_ = (Z0 ++ [K2]) := ⟨_, rfl⟩
 first | replace H := by_ H f2 | rw [← f2] at H
 have k4 := a_ f2
 clear f2
 replace H := gt_ H
 obtain ⟨G4, H⟩ := H
 have l4 := a_ G4
 clear G4
 obtain ⟨R4, g2⟩ : ∃ y_ : List Int, y_ = (a1 ++ [L2]) := ⟨_, rfl⟩
 first | replace H := by_ H g2 | rw [← g2] at H
 have m4 := a_ g2
 clear g2
 have H' := a_ H
 clear H
 try go_wp2
 replace K0 := a_ (Kd.R_drew K0.out)
 replace F0 := a_ (Kd.R_drew F0.out)
 replace b0 := a_ (Kd.N_drew b0.out)
 replace a0 := a_ (Kd.N_drew a0.out)
 replace c0 := a_ (blk_drew c0.out)
 replace e0 := a_ (blk_drew e0.out)
 replace f0 := a_ (blk_drew f0.out)
 replace d0 := a_ (blk_drew d0.out)
 replace HB := a_ (below_drew1 HB.out)
 obtain ⟨b8, P1, P3⟩ := Kd.N_slice a0.out
 (first | subst P3 | (injection P3 with f1_ f2_ f3_; have f4_ := f1_.symm; have f5_ := f3_.symm; clear f1_ f2_ f3_; subst f4_; subst f5_))
 have M2 : 0 ≤ (0 : Int) := (by omega)
 have N2 : 0 < (h0.length : Int) := dm_
 obtain ⟨W0, E6, Q3, S4, F1, B2, C2⟩ := at_L2 (Kd.N_reads' a0.out).2.2 0 M2 N2
 cases S4
 obtain ⟨ce833, hce833, hMe833, hcc833⟩ := Kd.N_get a0.out [] 0 M2 (by first | exact N2 | exact dm_ | (have e_ := (Kd.N_reads' a0.out).1; omega))
 obtain ⟨ua833_0, uc833_0, rfl, ul833_0, ge833_0⟩ := Kd.FK_slice_open hMe833
 have hv833_0 := hcc833 0 _ rfl
 rw [Nat.add_zero, show ((Kd.slice 2 (Kd.int .i64))).sz = 1 from rfl, Nat.mul_one] at hv833_0
 replace hv833_0 := Option.some.inj (hv833_0.symm.trans F1)
 injection hv833_0 with hva_ hvn_ hvc_
 rw [hva_] at ge833_0
 rw [hvc_] at ul833_0
 have HL833_0 := a_ (show Kd.V (Kd.int .i64) 2 _ w.heap.size _ _ (rd_L2 h0 0) from Kd.V_mk ul833_0 ge833_0)
 clear hva_ hvn_ hvc_ ge833_0 ul833_0
 clear hcc833 hce833
 have qi833 : (0 < h0.length) = True := eq_true (by omega)
 (try rw [show ((0 : Int)).toNat = 0 from rfl] at F1)
 (try rw [Addr.add_zero'] at F1)
 have W1 := a_ C2
 have d6 := a_ B2
 clear C2 B2
 replace M2 := eq_true M2
 replace N2 := eq_true N2
 have c3 : 0 ≤ (B0 : Int) := dm_
 have d3 : B0 < ((rd_L2 h0 0).length : Int) := dm_
 obtain ⟨t3, T4, D2⟩ := Kd.at_int (by repeat (first | (with_reducible exact W1.out) | (with_reducible refine Kd.C_alloc ?_ _) | (with_reducible refine Kd.C_drewN ?_ _) | (with_reducible refine Kd.C_drew ?_) | exact W1.out)) B0 c3 d3
 cases T4
 replace c3 := eq_true c3
 replace d3 := eq_true d3
 have O2 : 0 ≤ (1 : Int) := (by omega)
 have P2 : 1 < (h0.length : Int) := dm_
 obtain ⟨n4, F6, R3, U4, G1, E2, F2⟩ := at_L2 (Kd.N_reads' a0.out).2.2 1 O2 P2
 obtain rfl : W0 = n4 := (by injection U4)
 obtain ⟨ce835, hce835, hMe835, hcc835⟩ := Kd.N_get a0.out [] 1 O2 (by first | exact P2 | exact dm_ | (have e_ := (Kd.N_reads' a0.out).1; omega))
 obtain ⟨ua835_0, uc835_0, rfl, ul835_0, ge835_0⟩ := Kd.FK_slice_open hMe835
 have hv835_0 := hcc835 0 _ rfl
 rw [Nat.add_zero, show ((Kd.slice 2 (Kd.int .i64))).sz = 1 from rfl, Nat.mul_one] at hv835_0
 replace hv835_0 := Option.some.inj (hv835_0.symm.trans G1)
 injection hv835_0 with hva_ hvn_ hvc_
 rw [hva_] at ge835_0
 rw [hvc_] at ul835_0
 have HL835_0 := a_ (show Kd.V (Kd.int .i64) 2 _ w.heap.size _ _ (rd_L2 h0 1) from Kd.V_mk ul835_0 ge835_0)
 clear hva_ hvn_ hvc_ ge835_0 ul835_0
 clear hcc835 hce835
 (try simp only [show (1 : Int).toNat = 1 from rfl, Nat.reduceMul, Nat.reduceEqDiff, Go.Addr.add, ↓reduceIte] at G1)
 have qi835 : (1 < h0.length) = True := eq_true (by omega)
 (try rw [show ((1 : Int)).toNat = 1 from rfl] at G1)
 have X1 := a_ F2
 have e6 := a_ E2
 clear F2 E2
 replace O2 := eq_true O2
 replace P2 := eq_true P2
 have e3 : 0 ≤ (B0 : Int) := dm_
 have f3 : B0 < ((rd_L2 h0 1).length : Int) := dm_
 obtain ⟨v3, V4, G2⟩ := Kd.at_int (by repeat (first | (with_reducible exact X1.out) | (with_reducible refine Kd.C_alloc ?_ _) | (with_reducible refine Kd.C_drewN ?_ _) | (with_reducible refine Kd.C_drew ?_) | exact X1.out)) B0 e3 f3
 cases V4
 replace e3 := eq_true e3
 replace f3 := eq_true f3
 refine start_ (n := 20) (S := fun w' => w'.cell? ⟨g0, 0, none⟩ = some (n0) ∧ w'.cell? ⟨g0, 1, none⟩ = some (.slice (some W0) h0.length P1) ∧ w'.cell? W0 = some (.slice (some t3) (rd_L2 h0 0).length Q3) ∧ w'.cell? (t3.add (B0).toNat) = some (.int .i64 (rd (rd_L2 h0 0) B0)) ∧ w'.cell? ⟨W0.block, W0.off + 1, none⟩ = some (.slice (some v3) (rd_L2 h0 1).length R3) ∧ w'.cell? (v3.add (B0).toNat) = some (.int .i64 (rd (rd_L2 h0 1) B0))) (ds := []) (B_ 20 0) kf_ rfl rfl ⟨ce_ d0 0, ce_ d0 1, F1, D2, G1, G2⟩ (fun hHeld => ?_); refine with_tabW psalteryref22_Encode.tab19 psalteryref22_Encode.bits19 (fun HT_ HW_ => ?_)
 generalize wr.drew = p8 at K0 F0 b0 a0 c0 e0 f0 d0 HB HL833_0 HL835_0 W1 X1 F1 D2 G1 G2 hHeld ⊢
 refine pu_ 0 (some 69) (B_ 20 1) HT_ ?_
 refine pu_ 4 (some 73) (B_ 20 17) HT_ ?_
 refine pu_ 7 (some 76) (B_ 20 145) HT_ ?_
 refine pu_ 11 (some 80) (B_ 20 2193) HT_ ?_
 refine take_ (i := 1) (N := some 70) (v := ?_) (a' := ?_) (B_ 20 2195) rfl rfl (take_ofW HT_.out HW_.out kf_) (fun _ _ _ h => h) (Or.inl ⟨by rfl, ?_⟩) hHeld ?_ ?_
 rotate_left
 {
 rintro w' ⟨s0, s1, s2, s3, s4, s5⟩
 go_simp
 with_reducible rfl}
 rotate_left
 {
 exact sp_}
 refine pu_ 2 (some 71) (B_ 20 2199) HT_ ?_
 refine take_ (i := 3) (N := some 72) (v := ?_) (a' := ?_) (B_ 20 2207) rfl rfl (take_ofW HT_.out HW_.out kf_) (fun _ _ _ h => h) (Or.inl ⟨by rfl, ?_⟩) hHeld ?_ ?_
 rotate_left
 {
 rintro w' ⟨s0, s1, s2, s3, s4, s5⟩
 go_simp
 with_reducible rfl}
 rotate_left
 {
 exact sp_}
 refine pu_ 5 (some 74) (B_ 20 2239) HT_ ?_
 refine take_ (i := 6) (N := some 75) (v := ?_) (a' := ?_) (B_ 20 2303) rfl rfl (take_ofW HT_.out HW_.out kf_) (fun _ _ _ h => h) (Or.inl ⟨by rfl, ?_⟩) hHeld ?_ ?_
 rotate_left
 {
 rintro w' ⟨s0, s1, s2, s3, s4, s5⟩
 go_simp
 with_reducible rfl}
 rotate_left
 {
 exact sp_}
 refine take_ (i := 8) (N := some 77) (v := ?_) (a' := ?_) (B_ 20 2559) rfl rfl (take_ofW HT_.out HW_.out kf_) (fun _ _ _ h => h) (Or.inl ⟨by rfl, ?_⟩) hHeld ?_ ?_
 rotate_left
 {
 rintro w' ⟨s0, s1, s2, s3, s4, s5⟩
 go_simp
 with_reducible rfl}
 rotate_left
 {
 exact sp_}
 refine pu_ 9 (some 78) (B_ 20 3071) HT_ ?_
 refine take_ (i := 10) (N := some 79) (v := ?_) (a' := ?_) (B_ 20 4095) rfl rfl (take_ofW HT_.out HW_.out kf_) (fun _ _ _ h => h) (Or.inl ⟨by rfl, ?_⟩) hHeld ?_ ?_
 rotate_left
 {
 rintro w' ⟨s0, s1, s2, s3, s4, s5⟩
 go_simp
 with_reducible rfl}
 rotate_left
 {
 exact sp_}
 refine pu_ 12 (some 81) (B_ 20 8191) HT_ ?_
 refine take_ (i := 13) (N := some 82) (v := ?_) (a' := ?_) (B_ 20 16383) rfl rfl (take_ofW HT_.out HW_.out kf_) (fun _ _ _ h => h) (Or.inl ⟨by rfl, ?_⟩) hHeld ?_ ?_
 rotate_left
 {
 rintro w' ⟨s0, s1, s2, s3, s4, s5⟩
 go_simp
 with_reducible rfl}
 rotate_left
 {
 exact sp_}
 refine one_ (i := 14) (N := some 83) (B_ 20 32767) rfl rfl (one_of HT_.out kf_) (by decide) (fun K hK => ?_)
 refine goes_ Try.func56 kf_ rfl #[.int .i64 (rd (rd_L2 h0 0) B0), .int .i64 (rd (rd_L2 h0 1) B0)] (by rfl) rfl rfl ar_ ?_
 with_reducible refine (psalteryref15_Couple.calls (rd (rd_L2 h0 0) B0) (rd (rd_L2 h0 1) B0) K2 L2 _ D6.out).mono ?_
 rintro e w' ⟨rfl, ⟨nd, rfl⟩⟩
 refine ⟨_, rfl, ?_⟩
 refine hK.out _ _ ⟨ce_ d0 0, ce_ d0 1, hHeld.2.2.1, hHeld.2.2.2.1, hHeld.2.2.2.2.1, hHeld.2.2.2.2.2⟩ (fun hHeld => ?_)
 clear hK K
 refine norm_ (a' := ?_) ?_ ?_
 rotate_left
 {
 show Act.put _ (some 83) _ = _
 exact sp_}
 refine pu_ 15 (some 68) (B_ 20 65535) HT_ ?_
 refine pu_ 16 (some 84) (B_ 20 131071) HT_ ?_
 refine pu_ 17 (some 85) (B_ 20 262143) HT_ ?_
 refine pu_ 18 (some 13) (B_ 20 524287) HT_ ?_
 refine pu_ 19 (some 14) (B_ 20 1048575) HT_ ?_
 refine done_ (done_of HT_.out kf_) ?_
 try go_wp2_with (first | ((with_reducible refine gate_builtin (b := .append) (xs := #[.tmp 86, .tmp 88]) rfl ?_); at_builtin; refine Kd.R_append (Kd.int .i64) (w0 := w) w.heap.size rfl (.tmp 86) (.tmp 88) 53 2 (.int .i64 0) 8 rfl Try.underlying53 info2 rfl (by decide) (by omega) u10 Z0 K2 [.int .i64 K2] (fun k_ => (w.heap.size ≤ k_) ∧ no_ k_ u11) (fun _ => False) rfl rfl ?aP (fun _ hk => hk.elim) ?aF ?aO ?aB ?aS ?aL ?_; (case aP => exact rfl); (case aB => exact (bl_ HB)); (case aF => exact (fun k_ hk => ⟨(Nat.le_trans (bs_ HB) hk), Kd.fresh' (Kd.R_lt (kR_ F0)) k_ hk⟩)); (case aO => exact (kR_ K0)); (case aS => exact (bs_ HB)); (case aL => have := j4.out; omega); intro v2 q8 ho hb hg hat; rw [← k4.out] at ho; replace F0 := a_ (Kd.R_after (ok := (fun k_ => (w.heap.size ≤ k_))) (kR_ F0) hg hat); replace b0 := a_ (Kd.N_afterv (ok := (fun k_ => (w.heap.size ≤ k_) ∧ no_ k_ u11 ∧ no_ k_ (.slice (some W0) h0.length P1) ∧ k_ ≠ j0 ∧ k_ ≠ k0 ∧ k_ ≠ i0 ∧ k_ ≠ g0)) (by (with_reducible repeat (first | apply Kd.N_alloc | apply Kd.N_drewN | apply Kd.N_drew)); exact Kd.N_mono b0.out cj_) hg hat); replace a0 := a_ (Kd.N_afterv (ok := (fun k_ => (w.heap.size ≤ k_) ∧ no_ k_ u11 ∧ no_ k_ n0 ∧ k_ ≠ j0 ∧ k_ ≠ k0 ∧ k_ ≠ i0 ∧ k_ ≠ g0)) (by (with_reducible repeat (first | apply Kd.N_alloc | apply Kd.N_drewN | apply Kd.N_drew)); exact Kd.N_mono a0.out cj_) hg hat); replace c0 := (FG_ c0 hg (Kd.R_ne K0.out c0.out (by decide))); replace e0 := (FG_ e0 hg (Kd.R_ne K0.out e0.out (by decide))); replace f0 := (FG_ f0 hg (Kd.R_ne K0.out f0.out (by decide))); replace d0 := (FG_ d0 hg (Kd.R_ne K0.out d0.out (by decide))); replace HL833_0 := a_ (Kd.V_afterv (ok := (fun k_ => (w.heap.size ≤ k_) ∧ no_ k_ u11 ∧ no_ k_ n0 ∧ no_ k_ (.slice (some W0) h0.length P1) ∧ k_ ≠ j0 ∧ k_ ≠ k0 ∧ k_ ≠ i0 ∧ k_ ≠ g0)) (by (with_reducible repeat (first | apply Kd.V_alloc | apply Kd.V_drewN | apply Kd.V_drew)); exact Kd.V_mono HL833_0.out cj_) hg hat); replace HL835_0 := a_ (Kd.V_afterv (ok := (fun k_ => (w.heap.size ≤ k_) ∧ no_ k_ u11 ∧ no_ k_ n0 ∧ no_ k_ (.slice (some W0) h0.length P1) ∧ k_ ≠ j0 ∧ k_ ≠ k0 ∧ k_ ≠ i0 ∧ k_ ≠ g0)) (by (with_reducible repeat (first | apply Kd.V_alloc | apply Kd.V_drewN | apply Kd.V_drew)); exact Kd.V_mono HL835_0.out cj_) hg hat); replace HB := a_ (hb); have h2 := a_ (ho); clear K0; clear ho hb hg hat) | ((with_reducible refine gate_builtin (b := .append) (xs := #[.tmp 90, .tmp 92]) rfl ?_); at_builtin; refine Kd.R_append (Kd.int .i64) (w0 := w) w.heap.size rfl (.tmp 90) (.tmp 92) 53 2 (.int .i64 0) 8 rfl Try.underlying53 info2 rfl (by decide) (by omega) u11 a1 L2 [.int .i64 L2] (fun k_ => (w.heap.size ≤ k_) ∧ no_ k_ v2) (fun _ => False) rfl rfl ?aP (fun _ hk => hk.elim) ?aF ?aO ?aB ?aS ?aL ?_; (case aP => exact rfl); (case aB => exact (bl_ HB)); (case aF => exact (fun k_ hk => ⟨(Nat.le_trans (bs_ HB) hk), Kd.fresh' (Kd.R_lt (kR_ h2)) k_ hk⟩)); (case aO => exact (kR_ F0)); (case aS => exact (bs_ HB)); (case aL => have := l4.out; omega); intro c8 r8 ho hb hg hat; rw [← m4.out] at ho; replace b0 := a_ (Kd.N_afterv (ok := (fun k_ => (w.heap.size ≤ k_) ∧ no_ k_ (.slice (some W0) h0.length P1) ∧ no_ k_ v2 ∧ k_ ≠ j0 ∧ k_ ≠ k0 ∧ k_ ≠ i0 ∧ k_ ≠ g0)) (by (with_reducible repeat (first | apply Kd.N_alloc | apply Kd.N_drewN | apply Kd.N_drew)); exact Kd.N_mono b0.out cj_) hg hat); replace a0 := a_ (Kd.N_afterv (ok := (fun k_ => (w.heap.size ≤ k_) ∧ no_ k_ n0 ∧ no_ k_ v2 ∧ k_ ≠ j0 ∧ k_ ≠ k0 ∧ k_ ≠ i0 ∧ k_ ≠ g0)) (by (with_reducible repeat (first | apply Kd.N_alloc | apply Kd.N_drewN | apply Kd.N_drew)); exact Kd.N_mono a0.out cj_) hg hat); replace c0 := (FG_ c0 hg (Kd.R_ne F0.out c0.out (by decide))); replace e0 := (FG_ e0 hg (Kd.R_ne F0.out e0.out (by decide))); replace f0 := (FG_ f0 hg (Kd.R_ne F0.out f0.out (by decide))); replace d0 := (FG_ d0 hg (Kd.R_ne F0.out d0.out (by decide))); replace HL833_0 := a_ (Kd.V_afterv (ok := (fun k_ => (w.heap.size ≤ k_) ∧ no_ k_ n0 ∧ no_ k_ (.slice (some W0) h0.length P1) ∧ no_ k_ v2 ∧ k_ ≠ j0 ∧ k_ ≠ k0 ∧ k_ ≠ i0 ∧ k_ ≠ g0)) (by (with_reducible repeat (first | apply Kd.V_alloc | apply Kd.V_drewN | apply Kd.V_drew)); exact Kd.V_mono HL833_0.out cj_) hg hat); replace HL835_0 := a_ (Kd.V_afterv (ok := (fun k_ => (w.heap.size ≤ k_) ∧ no_ k_ n0 ∧ no_ k_ (.slice (some W0) h0.length P1) ∧ no_ k_ v2 ∧ k_ ≠ j0 ∧ k_ ≠ k0 ∧ k_ ≠ i0 ∧ k_ ≠ g0)) (by (with_reducible repeat (first | apply Kd.V_alloc | apply Kd.V_drewN | apply Kd.V_drew)); exact Kd.V_mono HL835_0.out cj_) hg hat); replace h2 := a_ (Kd.R_after (ok := (fun k_ => (w.heap.size ≤ k_))) (kR_ h2) hg hat); replace HB := a_ (hb); have o4 := a_ (ho); clear F0; clear ho hb hg hat))
 go_roundg k2
 case measure => have := A2.out; have := C4.out; omega
 case rel => exact ⟨(Q4), (R4), (wrap64 (B0 + 1)), rs_, H', ⟨by have := A2.out; have := C4.out; omega⟩, ⟨kR_ h2⟩, ⟨kR_ o4⟩, ⟨by (with_reducible repeat (first | apply Kd.N_alloc | apply Kd.N_drewN | apply Kd.N_drew)); exact Kd.N_mono b0.out cj_⟩, ⟨by (with_reducible repeat (first | apply Kd.N_alloc | apply Kd.N_drewN | apply Kd.N_drew)); exact Kd.N_mono a0.out cj_⟩, ⟨bk_ c0⟩, ⟨bk_ e0⟩, ⟨bk_ f0⟩, ⟨bk_ d0⟩, ⟨bl_ HB⟩⟩}
 {
 obtain ⟨w2, i2⟩ : ∃ y_ : List (List Int), y_ = (([Z0, a1] : List (List Int))) := ⟨_, rfl⟩
 first | replace H := by_ H i2 | rw [← i2] at H
 have y3 := a_ i2
 clear i2
 simp only [Option.some.injEq, Prod.mk.injEq] at H
 obtain ⟨rfl, rfl⟩ := H
 obtain ⟨S3, T3, W4⟩ := Kd.R_slice K0.out
 subst W4
 obtain ⟨U3, V3, X4⟩ := Kd.R_slice F0.out
 subst X4
 go_wp2_with (first | ((with_reducible refine gate_dst (N := 96) rfl ?_); refine Kd.N_lit (Kd.slice 2 (Kd.int .i64)) _ 53 ?hg (N' := 96) ?hd (xs := ([Z0, a1] : List (List Int))) (inner := [.slice S3 Z0.length T3, .slice U3 a1.length V3]) (ok := (fun k_ => (w.heap.size ≤ k_) ∧ no_ k_ n0 ∧ no_ k_ m0 ∧ k_ ≠ j0 ∧ k_ ≠ k0 ∧ k_ ≠ i0 ∧ k_ ≠ g0)) (okp := (fun k_ => (w.heap.size ≤ k_) ∧ no_ k_ n0 ∧ no_ k_ m0 ∧ k_ ≠ j0 ∧ k_ ≠ k0 ∧ k_ ≠ i0 ∧ k_ ≠ g0)) ?hr ?hp (fun _ hk => hk) (fr_ (P := (fun k_ => (w.heap.size ≤ k_) ∧ no_ k_ n0 ∧ no_ k_ m0 ∧ k_ ≠ j0 ∧ k_ ≠ k0 ∧ k_ ≠ i0 ∧ k_ ≠ g0)) (fun k_ hk => ⟨(Nat.le_trans (bs_ HB) hk), Kd.fresh' (Kd.N_lt (kN_ b0)) k_ hk, Kd.fresh' (Kd.N_lt (kN_ a0)) k_ hk, Kd.freshB (g := j0) (o := .cells #[.int .i64 G0, .int .i64 H0, .slice M0 C0.length N0, .slice O0 D0.length P0] 31 (0, 0)) (bk_ c0) k_ hk, Kd.freshB (g := k0) (o := .cells #[.slice T1 r0.length Q0] 37 (0, 0)) (bk_ e0) k_ hk, Kd.freshB (g := i0) (o := .cells #[.slice none 0 0, .slice none 0 0] 33 (0, 0)) (bk_ f0) k_ hk, Kd.freshB (g := g0) (o := .cells #[n0, m0] 33 (0, 0)) (bk_ d0) k_ hk⟩)) (Below.refl _ _) (Nat.le_refl _) (by simp) ?_; (case hd => rfl); (case hg => rfl); (case hr => first | (go_simp; done) | (go_simp; rfl)); (case hp => exact (Reps.one (show Kd.FK (Kd.slice 2 (Kd.int .i64)) _ _ Z0 [.slice S3 Z0.length T3] from (Kd.FK_slice_mk (Kd.R_reads' (Kd.R_mono (ok' := (fun k_ => (w.heap.size ≤ k_) ∧ no_ k_ n0 ∧ no_ k_ m0 ∧ k_ ≠ j0 ∧ k_ ≠ k0 ∧ k_ ≠ i0 ∧ k_ ≠ g0)) (Kd.R_types (Kd.R_types (Kd.R_types (Kd.R_types (Kd.R_apart' (Kd.R_apart' (K0.out) (Kd.N_typed b0.out) (by decide)) (Kd.N_typed a0.out) (by decide)) c0.out (by decide)) e0.out (by decide)) f0.out (by decide)) d0.out (by decide)) cj_)).2.1 (Kd.R_F (Kd.R_mono (ok' := (fun k_ => (w.heap.size ≤ k_) ∧ no_ k_ n0 ∧ no_ k_ m0 ∧ k_ ≠ j0 ∧ k_ ≠ k0 ∧ k_ ≠ i0 ∧ k_ ≠ g0)) (Kd.R_types (Kd.R_types (Kd.R_types (Kd.R_types (Kd.R_apart' (Kd.R_apart' (K0.out) (Kd.N_typed b0.out) (by decide)) (Kd.N_typed a0.out) (by decide)) c0.out (by decide)) e0.out (by decide)) f0.out (by decide)) d0.out (by decide)) cj_)))) (Reps.one (show Kd.FK (Kd.slice 2 (Kd.int .i64)) _ _ a1 [.slice U3 a1.length V3] from (Kd.FK_slice_mk (Kd.R_reads' (Kd.R_mono (ok' := (fun k_ => (w.heap.size ≤ k_) ∧ no_ k_ n0 ∧ no_ k_ m0 ∧ k_ ≠ j0 ∧ k_ ≠ k0 ∧ k_ ≠ i0 ∧ k_ ≠ g0)) (Kd.R_types (Kd.R_types (Kd.R_types (Kd.R_types (Kd.R_apart' (Kd.R_apart' (F0.out) (Kd.N_typed b0.out) (by decide)) (Kd.N_typed a0.out) (by decide)) c0.out (by decide)) e0.out (by decide)) f0.out (by decide)) d0.out (by decide)) cj_)).2.1 (Kd.R_F (Kd.R_mono (ok' := (fun k_ => (w.heap.size ≤ k_) ∧ no_ k_ n0 ∧ no_ k_ m0 ∧ k_ ≠ j0 ∧ k_ ≠ k0 ∧ k_ ≠ i0 ∧ k_ ≠ g0)) (Kd.R_types (Kd.R_types (Kd.R_types (Kd.R_types (Kd.R_apart' (Kd.R_apart' (F0.out) (Kd.N_typed b0.out) (by decide)) (Kd.N_typed a0.out) (by decide)) c0.out (by decide)) e0.out (by decide)) f0.out (by decide)) d0.out (by decide)) cj_)))) (Reps.none _ _)))); intro d8 s8 Q1 hb hg_ hnew_; clear hg_ hnew_; (first | rw [← y3.out] at Q1 | (simp only [Int.reduceToNat] at Q1; rw [← y3.out] at Q1)); replace b0 := a_ (Kd.N_elder' (kN_ b0) (Kd.N_base Q1) hb); replace a0 := a_ (Kd.N_elder' (kN_ a0) (Kd.N_base Q1) hb); have z3 := a_ (Kd.N_lower Q1 (bs_ HB)); replace c0 := FB_ c0 hb; replace e0 := FB_ e0 hb; replace f0 := FB_ f0 hb; replace d0 := FB_ d0 hb; replace HB := BS_ HB hb; clear K0 F0; clear hb Q1; obtain ⟨y2, z2, Y4⟩ := Kd.N_slice z3.out; subst Y4; have x7 := e1.out; have y7 := d1.out; have z7 := o1.out; have A7 := n1.out; have B7 := q1.out; have C7 := p1.out; obtain ⟨f6, g6, h6, i6⟩ := e2_ d0; obtain ⟨g3, h3, Z4⟩ := Kd.N_slice b0.out; subst Z4; have D7 := c1.out; have E7 := b1.out; have F7 := Z1.out; have G7 := Y1.out; obtain ⟨j6, k6, l6, m6⟩ := e2_ f0))
 refine bodyPost_ret (results_cell_row rfl _ _ i0 33 #[.slice g3 t0.length h3, .slice y2 w2.length z2] (0, 0) _ rfl (bp_ f0) Try.underlying33 rfl kf_) rfl ?_
 exact ⟨_, _, er_, by (with_reducible repeat (first | apply Kd.N_alloc | apply Kd.N_drewN | apply Kd.N_drew)); exact Kd.N_mono (Kd.N_far (p := ⟨i0, 1, none⟩) (Kd.N_far (p := ⟨i0, 0, none⟩) (Kd.N_far (p := ⟨g0, 1, none⟩) (Kd.N_mono (Kd.N_mono b0.out (fun k_ hk => (⟨hk, hk.1.2.2.2.2.2.2.2⟩ : _ ∧ k_ ≠ g0))) (fun k_ hk => (⟨hk, hk.1.1.2.2.2.2.2.2.1⟩ : _ ∧ k_ ≠ i0))) (fun _ hk => hk.1.2) (.slice y2 w2.length z2)) (fun _ hk => hk.2) (.slice g3 t0.length h3)) (fun _ hk => hk.2) (.slice y2 w2.length z2)) cj_, by (with_reducible repeat (first | apply Kd.N_alloc | apply Kd.N_drewN | apply Kd.N_drew)); exact Kd.N_mono (Kd.N_far (p := ⟨i0, 1, none⟩) (Kd.N_far (p := ⟨i0, 0, none⟩) (Kd.N_far (p := ⟨g0, 1, none⟩) (Kd.N_mono (Kd.N_mono z3.out (fun k_ hk => (⟨hk, hk.2.2.2.2.2.2⟩ : _ ∧ k_ ≠ g0))) (fun k_ hk => (⟨hk, hk.1.2.2.2.2.2.1⟩ : _ ∧ k_ ≠ i0))) (fun _ hk => hk.1.2) (.slice y2 w2.length z2)) (fun _ hk => hk.2) (.slice g3 t0.length h3)) (fun _ hk => hk.2) (.slice y2 w2.length z2)) cj_, bl_ HB⟩}))}
 {
 simp only [Option.some.injEq, Prod.mk.injEq] at H
 obtain ⟨rfl, rfl⟩ := H
 have H7 := j1.out
 have I7 := m1.out
 have J7 := b1.out
 have K7 := c1.out
 have L7 := d1.out
 have M7 := e1.out
 obtain ⟨n6, o6, p6, q6, r6, s6, t6, x6⟩ := e4_ c0
 have N7 := o1.out
 have O7 := n1.out
 have P7 := q1.out
 have Q7 := p1.out
 obtain ⟨a5, b5, c5, d5⟩ := e2_ d0
 obtain ⟨Q2, R2, p4⟩ := Kd.N_slice b0.out
 subst p4
 have G6 := Z1.out
 have H6 := Y1.out
 obtain ⟨e5, f5, g5, h5⟩ := e2_ f0
 obtain ⟨S2, T2, q4⟩ := Kd.N_slice a0.out
 subst q4
 go_wp2
 refine bodyPost_ret (results_cell_row rfl _ _ i0 33 #[.slice Q2 t0.length R2, .slice S2 h0.length T2] (0, 0) _ rfl (bp_ f0) Try.underlying33 rfl kf_) rfl ?_
 exact ⟨_, _, er_, by (with_reducible repeat (first | apply Kd.N_alloc | apply Kd.N_drewN | apply Kd.N_drew)); exact Kd.N_mono (Kd.N_far (p := ⟨i0, 1, none⟩) (Kd.N_far (p := ⟨i0, 0, none⟩) (Kd.N_mono b0.out (fun k_ hk => (⟨hk, hk.2.2.2.2.1⟩ : _ ∧ k_ ≠ i0))) (fun _ hk => hk.2) (.slice Q2 t0.length R2)) (fun _ hk => hk.2) (.slice S2 h0.length T2)) cj_, by (with_reducible repeat (first | apply Kd.N_alloc | apply Kd.N_drewN | apply Kd.N_drew)); exact Kd.N_mono (Kd.N_far (p := ⟨i0, 1, none⟩) (Kd.N_far (p := ⟨i0, 0, none⟩) (Kd.N_mono a0.out (fun k_ hk => (⟨hk, hk.2.2.2.2.1⟩ : _ ∧ k_ ≠ i0))) (fun _ hk => hk.2) (.slice Q2 t0.length R2)) (fun _ hk => hk.2) (.slice S2 h0.length T2)) cj_, bl_ HB⟩}}))
def psalterylaw22_VoiceEncodes.f (k : Nat) (d0 : Int) (e0 : Int) (b0 : List Int) (c0 : List Int) (f0 : List (List Int)) : Option (Bool) := (psalterylaw22_great.f k d0 e0 b0 c0 f0).bind fun k0 => (if k0 = true then ((psalterylaw22_knows.f k).bind fun l0 => (some l0)) else ((vcodec_Encode.f k d0 e0 b0 c0 f0).bind fun a0 => ((psalterylaw16_As.f d0 e0 b0 c0).bind fun g0 => ((psalteryref22_Right.f k g0.1 g0.2 b0 c0 f0).bind fun j0 => ((vcodec_Right.f k d0 e0 b0 c0 f0).bind fun m0 => (if (m0 != j0) = true then (some false) else (if j0 = true then ((psalterylaw17_As.f a0.1 a0.2.1).bind fun _ => ((psalterylaw16_As.f d0 e0 b0 c0).bind fun h0 => ((psalteryref22_Encode.f k h0.1 h0.2 b0 c0 f0).bind fun i0 => ((psalteryref17_Same.f k a0.1 a0.2.1 i0.1 i0.2).bind fun n0 => (if n0 = true then (if a0.2.2 = 0 then ((psalterylaw22_knows.f k).bind fun o0 => (some o0)) else (some false)) else (some false)))))) else ((psalterylaw17_As.f a0.1 a0.2.1).bind fun _ => ((psalteryref17_Same.f k a0.1 a0.2.1 ([] : List (List Int)) ([] : List (List Int))).bind fun p0 => (if p0 = true then (if a0.2.2 = 1 then ((psalterylaw22_knows.f k).bind fun q0 => (some q0)) else (some false)) else (some false)))))))))))
theorem psalterylaw22_VoiceEncodes.mono : ∀ a0 a1 a2 a3 a4 k, LeO (psalterylaw22_VoiceEncodes.f k a0 a1 a2 a3 a4) (psalterylaw22_VoiceEncodes.f (k + 1) a0 a1 a2 a3 a4) := by
  intro a0 a1 a2 a3 a4 k
  unfold psalterylaw22_VoiceEncodes.f
  with_reducible repeat' first
   | apply psalterylaw22_great.mono
   | apply psalterylaw22_knows.mono
   | apply psalteryref17_Same.mono
   | apply psalteryref22_Encode.mono
   | apply psalteryref22_Right.mono
   | apply vcodec_Encode.mono
   | apply vcodec_Right.mono
   | exact LeO.refl _
   | exact LeO.none _
   | refine LeO.ite ?_ ?_
   | refine LeO.bind ?_ (fun _ => ?_)
def psalterylaw22_VoiceEncodes.T9 : Bool × List (List Nat × List Nat) := (true, [([], []), ([0], [0]), ([], []), ([2, 1], [2]), ([], []), ([3, 4, 3], [3, 4]), ([1, 5, 5], [1, 5]), ([6, 6], [6]), ([7], [7]), ([8, 7], [7, 8]), ([7, 9], [7, 9]), ([10, 7], [10]), ([11, 11], [11]), ([11, 12], [11, 12]), ([13, 12, 0, 1, 2, 3, 4, 5, 6, 7, 8, 9, 10, 11, 12, 13], [13])])
def psalterylaw22_VoiceEncodes.B9 : List Nat := [0, 1, 0, 7, 0, 31, 63, 127, 255, 511, 1023, 2047, 4095, 8191, 16383]
theorem psalterylaw22_VoiceEncodes.tab9 : rtab .any (opsOf Try.f5 9) = psalterylaw22_VoiceEncodes.T9 := by kernel_rfl
theorem psalterylaw22_VoiceEncodes.bits9 : waitsOk psalterylaw22_VoiceEncodes.T9.2 psalterylaw22_VoiceEncodes.B9 = true := by kernel_rfl
set_option maxHeartbeats 8000000 in
set_option maxRecDepth 100000 in
theorem psalterylaw22_VoiceEncodes.calls (k : Nat) (j0 : Int) (k0 : Int) (o0 : Option Addr) (p0 : Nat) (g0 : List Int) (q0 : Option Addr) (r0 : Nat) (h0 : List Int) (v0 : Option Addr) (w0 : Nat) (i0 : List (List Int)) (r : Bool) (w : World) (hr0_2 : Kd.C (Kd.int .i64) w o0 g0.length g0) (hc0_2 : g0.length ≤ p0) (hr0_3 : Kd.C (Kd.int .i64) w q0 h0.length h0) (hc0_3 : h0.length ≤ r0) (hr1_0 : Kd.C (Kd.slice 2 (Kd.int .i64)) w v0 i0.length i0) (hc1_0 : i0.length ≤ w0) (h : psalterylaw22_VoiceEncodes.f k j0 k0 g0 h0 i0 = some r) (hT : r = true) :
    Calls Try.prog 5 #[.agg #[.int .i64 j0, .int .i64 k0, .slice o0 g0.length p0, .slice q0 h0.length r0], .agg #[.slice v0 i0.length w0]] w fun e w' => e = .returned (.bool r) ∧ Below w.heap.size w w' := by
 have q4 := Try.underlying24
 have r4 := Try.underlying37
 have t4 := Try.underlying28
 have v4 := Try.underlying33
 have C0 := a_ hr0_2
 have D0 := a_ hc0_2
 clear hr0_2 hc0_2
 have E0 := a_ hr0_3
 have F0 := a_ hc0_3
 clear hr0_3 hc0_3
 have K0 := a_ hr1_0
 have L0 := a_ hc1_0
 clear hr1_0 hc1_0
 have HB := a_ (Below.refl w.heap.size w)
 have H : ((psalterylaw22_great.f k j0 k0 g0 h0 i0).bind fun A1 => (if A1 = true then ((psalterylaw22_knows.f k).bind fun h1 => (some h1)) else ((vcodec_Encode.f k j0 k0 g0 h0 i0).bind fun M0 => ((psalterylaw16_As.f j0 k0 g0 h0).bind fun q1 => ((psalteryref22_Right.f k q1.1 q1.2 g0 h0 i0).bind fun P0 => ((vcodec_Right.f k j0 k0 g0 h0 i0).bind fun Q0 => (if (Q0 != P0) = true then (some false) else (if P0 = true then ((psalterylaw17_As.f M0.1 M0.2.1).bind fun _ => ((psalterylaw16_As.f j0 k0 g0 h0).bind fun r1 => ((psalteryref22_Encode.f k r1.1 r1.2 g0 h0 i0).bind fun t1 => ((psalteryref17_Same.f k M0.1 M0.2.1 t1.1 t1.2).bind fun B1 => (if B1 = true then (if M0.2.2 = 0 then ((psalterylaw22_knows.f k).bind fun i1 => (some i1)) else (some false)) else (some false)))))) else ((psalterylaw17_As.f M0.1 M0.2.1).bind fun _ => ((psalteryref17_Same.f k M0.1 M0.2.1 ([] : List (List Int)) ([] : List (List Int))).bind fun C1 => (if C1 = true then (if M0.2.2 = 1 then ((psalterylaw22_knows.f k).bind fun j1 => (some j1)) else (some false)) else (some false)))))))))))) = some r := h
 clear h
 have HT := a_ hT
 clear hT
 obtain ⟨A1, A3, H⟩ := ob_ H
 (try dsimp only at H)
 replace H := ib_ H
 rcases H with ⟨rfl, H⟩ | ⟨rfl, H⟩
 {
 replace H := Option.bind_eq_some_iff.mp H
 obtain ⟨h1, R1, H⟩ := H
 replace H : (some h1) = some r := H
 have A5 := a_ R1
 clear R1
 obtain rfl := Option.some.inj H
 go_enter Try.func5, Try.ntmps5
 go_wp2_with (first | ((with_reducible refine gate_dst (N := 2) rfl ?_); refine bx_ HB 2 #[.int .i64 j0, .int .i64 k0, .slice o0 g0.length p0, .slice q0 h0.length r0] 24 ?_; clear HB; intro n0 hg w6 hb a0 a1 HB; have v1 := a1; clear hb hg) | ((with_reducible refine gate_dst (N := 3) rfl ?_); refine bx_ HB 3 #[.slice v0 i0.length w0] 37 ?_; clear HB; intro t0 hg w7 hb b0 b1 HB; have y1 := b1; obtain ⟨N0, O0⟩ := NN_ a0 hg; replace a0 := FB_ a0 hb; clear hb hg; have w4 := N0.out; have x4 := O0.out; obtain ⟨K3, L3, M3, N3, O3, P3, Q3, R3⟩ := e4_ a0; obtain ⟨g2, h2⟩ := e1_ b0) | ((with_reducible refine gate_callee (f := 18) rfl ?_); refine gL_ (some 10) Try.func18 #[.agg #[.int .i64 j0, .int .i64 k0, .slice o0 g0.length p0, .slice q0 h0.length r0], .agg #[.slice v0 i0.length w0]] ?_; (with_reducible refine (psalterylaw22_great.calls k j0 k0 _ _ g0 _ _ h0 _ _ i0 true _ ?side1 ?side2 ?side3 ?side4 ?side5 ?side6 A3.out).mono ?_); (case side1 => exact kC_ C0 HB); (case side2 => exact D0.out); (case side3 => exact kC_ E0 HB); (case side4 => exact F0.out); (case side5 => exact kC_ K0 HB); (case side6 => exact L0.out); rintro e y4 ⟨rfl, hb⟩; refine ⟨_, rfl, ?_⟩; replace a0 := FB_ a0 hb; replace b0 := FB_ b0 hb; replace HB := BS_ HB hb; (try clear hb)) | ((with_reducible refine gate_callee (f := 13) rfl ?_); refine gL_ (some 11) Try.func13 #[] ?_; (with_reducible refine (psalterylaw22_knows.calls k  h1 _ A5.out).mono ?_); rintro e z4 ⟨rfl, hb⟩; refine ⟨_, rfl, ?_⟩; replace a0 := FB_ a0 hb; replace b0 := FB_ b0 hb; replace HB := BS_ HB hb; (try clear hb)))
 go_ret
 exact ⟨er_, bl_ HB⟩}
 {
 obtain ⟨⟨l0, m0, D1⟩, S1, H⟩ := ob_ H
 (try dsimp only at H)
 obtain ⟨⟨c1, d1⟩, T1, H⟩ := ob_ H
 (try dsimp only at H)
 obtain ⟨P0, U1, H⟩ := ob_ H
 (try dsimp only at H)
 obtain ⟨Q0, V1, H⟩ := ob_ H
 (try dsimp only at H)
 replace H := ii_ H
 rcases H with ⟨X0, H⟩ | ⟨X0, H⟩
 {
 have I1 : (Q0 != P0) = true := X0
 (try (have J1 : decide (Q0 = P0) = false := by simpa using X0))
 (try (have K1 : (Q0 == P0) = false := by simpa using X0))
 (try (have d4 : ¬ (Q0 = P0) := by simpa using X0))
 clear X0
 exact absurd ((Option.some.inj H).trans HT.out) (by decide)}
 {
 have I1 : (Q0 != P0) = false := by simpa using X0
 (try (have J1 : decide (Q0 = P0) = true := by simpa using X0))
 (try (have K1 : (Q0 == P0) = true := by simpa using X0))
 clear X0
 by_cases z1 : P0 = true
 {
 subst z1
 rw [if_pos rfl] at H
 obtain ⟨_, S3, H⟩ := ob_ H
 (try dsimp only at H)
 obtain ⟨⟨k1, l1⟩, T3, H⟩ := ob_ H
 (try dsimp only at H)
 obtain ⟨⟨m1, n1⟩, U3, H⟩ := ob_ H
 (try dsimp only at H)
 obtain ⟨B1, V3, H⟩ := ob_ H
 (try dsimp only at H)
 replace H := ib_ H
 rcases H with ⟨rfl, H⟩ | ⟨rfl, H⟩
 {
 replace H := ie_ H
 rcases H with ⟨L1, M1, H⟩ | ⟨A4, L1, M1, H⟩
 {
 replace H := Option.bind_eq_some_iff.mp H
 obtain ⟨i1, E1, H⟩ := H
 replace H : (some i1) = some r := H
 have W3 := a_ E1
 clear E1
 obtain rfl := Option.some.inj H
 go_enter Try.func5, Try.ntmps5
 try go_wp2_with (first | ((with_reducible refine gate_dst (N := 2) rfl ?_); refine bx_ HB 2 #[.int .i64 j0, .int .i64 k0, .slice o0 g0.length p0, .slice q0 h0.length r0] 24 ?_; clear HB; intro n0 hg B4 hb a0 a1 HB; have v1 := a1; clear hb hg) | ((with_reducible refine gate_dst (N := 3) rfl ?_); refine bx_ HB 3 #[.slice v0 i0.length w0] 37 ?_; clear HB; intro t0 hg C4 hb b0 b1 HB; have y1 := b1; obtain ⟨N0, O0⟩ := NN_ a0 hg; replace a0 := FB_ a0 hb; clear hb hg; have e4 := N0.out; have f4 := O0.out; obtain ⟨i2, j2, k2, l2, m2, n2, p2, q2⟩ := e4_ a0; obtain ⟨r2, t2⟩ := e1_ b0) | ((with_reducible refine gate_callee (f := 18) rfl ?_); refine gL_ (some 10) Try.func18 #[.agg #[.int .i64 j0, .int .i64 k0, .slice o0 g0.length p0, .slice q0 h0.length r0], .agg #[.slice v0 i0.length w0]] ?_; (with_reducible refine (psalterylaw22_great.calls k j0 k0 _ _ g0 _ _ h0 _ _ i0 false _ ?side1 ?side2 ?side3 ?side4 ?side5 ?side6 A3.out).mono ?_); (case side1 => exact kC_ C0 HB); (case side2 => exact D0.out); (case side3 => exact kC_ E0 HB); (case side4 => exact F0.out); (case side5 => exact kC_ K0 HB); (case side6 => exact L0.out); rintro e D4 ⟨rfl, hb⟩; refine ⟨_, rfl, ?_⟩; replace a0 := FB_ a0 hb; replace b0 := FB_ b0 hb; replace HB := BS_ HB hb; (try clear hb); obtain ⟨v2, w2, y2, z2, A2, B2, C2, D2⟩ := e4_ a0; obtain ⟨E2, F2⟩ := e1_ b0) | ((with_reducible refine gate_callee (f := 15) rfl ?_); refine gL_ (some 15) Try.func15 #[.agg #[.int .i64 j0, .int .i64 k0, .slice o0 g0.length p0, .slice q0 h0.length r0], .agg #[.slice v0 i0.length w0]] ?_; (with_reducible refine (vcodec_Encode.calls k j0 k0 _ _ g0 _ _ h0 _ _ i0 l0 m0 D1 _ ?side1 ?side2 ?side3 ?side4 ?side5 ?side6 S1.out).mono ?_); (case side1 => exact kC_ C0 HB); (case side2 => exact D0.out); (case side3 => exact kC_ E0 HB); (case side4 => exact F0.out); (case side5 => exact kC_ K0 HB); (case side6 => exact L0.out); rintro e E4 ⟨o1, p1, rfl, Y0, Z0, hb⟩; refine ⟨_, rfl, ?_⟩; have d0 := a_ (Kd.N_lower (Kd.N_mono (ok' := fun k_ => no_ k_ p1 ∧ k_ ≠ n0 ∧ k_ ≠ t0) Y0 (fun k_ hk_ => ⟨hk_.2, (Kd.freshB (g := n0) (o := .cells #[.int .i64 j0, .int .i64 k0, .slice o0 g0.length p0, .slice q0 h0.length r0] 24 (0, 0)) (bk_ a0) k_ hk_.1), (Kd.freshB (g := t0) (o := .cells #[.slice v0 i0.length w0] 37 (0, 0)) (bk_ b0) k_ hk_.1)⟩)) (bs_ HB)); have e0 := a_ (Kd.N_lower (Kd.N_mono (ok' := fun k_ => no_ k_ o1 ∧ k_ ≠ n0 ∧ k_ ≠ t0) Z0 (fun k_ hk_ => ⟨hk_.2, (Kd.freshB (g := n0) (o := .cells #[.int .i64 j0, .int .i64 k0, .slice o0 g0.length p0, .slice q0 h0.length r0] 24 (0, 0)) (bk_ a0) k_ hk_.1), (Kd.freshB (g := t0) (o := .cells #[.slice v0 i0.length w0] 37 (0, 0)) (bk_ b0) k_ hk_.1)⟩)) (bs_ HB)); replace a0 := FB_ a0 hb; replace b0 := FB_ b0 hb; replace HB := BS_ HB hb; (try clear hb); (try clear Y0); (try clear Z0)) | ((with_reducible refine gate_dst (N := 5) rfl ?_); refine box_ 5 #[.slice none 0 0, .slice none 0 0] 28 ?_; intro f0 hg e1 hbox hb; replace d0 := a_ (Kd.N_below (Kd.N_elderB (kN_ d0) f0 (Nat.le_of_eq hg.symm)) hb); replace e0 := a_ (Kd.N_below (Kd.N_elderB (kN_ e0) f0 (Nat.le_of_eq hg.symm)) hb); have c0 := a_ (hbox); have N1 := GE_ HB hg; have O1 := GE_ HB hg; replace HB := BS_ HB hb; obtain ⟨T0, U0⟩ := NN_ a0 hg; replace a0 := FB_ a0 hb; obtain ⟨V0, W0⟩ := NN_ b0 hg; replace b0 := FB_ b0 hb; clear hb hbox hg; obtain ⟨y0, z0, W1⟩ := Kd.N_slice d0.out; subst W1; have g4 := U0.out; have h4 := T0.out; have i4 := W0.out; have j4 := V0.out; obtain ⟨G2, H2, I2, J2⟩ := e2_ c0; obtain ⟨A0, B0, X1⟩ := Kd.N_slice e0.out; subst X1))
 have n0_ : Aside0 (Kd.N (Kd.slice 3 (Kd.int .i64)) 22 ((e1.setCell ⟨f0, 0, none⟩ (.slice y0 l0.length z0)).setCell ⟨f0, 1, none⟩ (.slice A0 m0.length B0)) w.heap.size (fun k_ => no_ k_ (.slice A0 m0.length B0) ∧ k_ ≠ n0 ∧ k_ ≠ t0 ∧ k_ ≠ f0) (.slice y0 l0.length z0) l0) := ⟨by (with_reducible repeat (first | apply Kd.N_alloc | apply Kd.N_drewN | apply Kd.N_drew)); exact Kd.N_mono (Kd.N_far (p := ⟨f0, 1, none⟩) (Kd.N_far (p := ⟨f0, 0, none⟩) (Kd.N_mono d0.out (fun k_ hk => (⟨hk, hk.2⟩ : _ ∧ k_ ≠ f0))) (fun _ hk => hk.2) (.slice y0 l0.length z0)) (fun _ hk => hk.2) (.slice A0 m0.length B0)) cj_⟩
 have n1_ : Aside0 (Kd.N (Kd.slice 2 (Kd.int .i64)) 53 ((e1.setCell ⟨f0, 0, none⟩ (.slice y0 l0.length z0)).setCell ⟨f0, 1, none⟩ (.slice A0 m0.length B0)) w.heap.size (fun k_ => no_ k_ (.slice y0 l0.length z0) ∧ k_ ≠ n0 ∧ k_ ≠ t0 ∧ k_ ≠ f0) (.slice A0 m0.length B0) m0) := ⟨by (with_reducible repeat (first | apply Kd.N_alloc | apply Kd.N_drewN | apply Kd.N_drew)); exact Kd.N_mono (Kd.N_far (p := ⟨f0, 1, none⟩) (Kd.N_far (p := ⟨f0, 0, none⟩) (Kd.N_mono e0.out (fun k_ hk => (⟨hk, hk.2⟩ : _ ∧ k_ ≠ f0))) (fun _ hk => hk.2) (.slice y0 l0.length z0)) (fun _ hk => hk.2) (.slice A0 m0.length B0)) cj_⟩
 have n2_ : Aside0 (((e1.setCell ⟨f0, 0, none⟩ (.slice y0 l0.length z0)).setCell ⟨f0, 1, none⟩ (.slice A0 m0.length B0)).heap[n0]? = some (.cells #[.int .i64 j0, .int .i64 k0, .slice o0 g0.length p0, .slice q0 h0.length r0] 24 (0, 0))) := ⟨bk_ a0⟩
 have n3_ : Aside0 (((e1.setCell ⟨f0, 0, none⟩ (.slice y0 l0.length z0)).setCell ⟨f0, 1, none⟩ (.slice A0 m0.length B0)).heap[t0]? = some (.cells #[.slice v0 i0.length w0] 37 (0, 0))) := ⟨bk_ b0⟩
 have n4_ : Aside0 (((e1.setCell ⟨f0, 0, none⟩ (.slice y0 l0.length z0)).setCell ⟨f0, 1, none⟩ (.slice A0 m0.length B0)).heap[f0]? = some (.cells #[.slice y0 l0.length z0, .slice A0 m0.length B0] 28 (0, 0))) := ⟨bp_ c0⟩
 have n5_ : Aside0 (Below w.heap.size w ((e1.setCell ⟨f0, 0, none⟩ (.slice y0 l0.length z0)).setCell ⟨f0, 1, none⟩ (.slice A0 m0.length B0))) := ⟨bl_ HB⟩
 (try clear d0)
 (try clear e0)
 (try clear a0)
 (try clear b0)
 (try clear c0)
 (try clear HB)
 generalize ((e1.setCell ⟨f0, 0, none⟩ (.slice y0 l0.length z0)).setCell ⟨f0, 1, none⟩ (.slice A0 m0.length B0)) = X3 at n0_ n1_ n2_ n3_ n4_ n5_ ⊢
 have d0 := n0_
 have e0 := n1_
 have a0 := n2_
 have b0 := n3_
 have c0 := n4_
 have HB := n5_
 clear n0_ n1_ n2_ n3_ n4_ n5_
 replace d0 := a_ (Kd.N_drew d0.out)
 replace e0 := a_ (Kd.N_drew e0.out)
 replace a0 := a_ (blk_drew a0.out)
 replace b0 := a_ (blk_drew b0.out)
 replace c0 := a_ (blk_drew c0.out)
 replace HB := a_ (below_drew1 HB.out)
 refine start_ (n := 5) (S := fun w' => w'.cell? ⟨n0, 0, none⟩ = some (.int .i64 j0) ∧ w'.cell? ⟨n0, 1, none⟩ = some (.int .i64 k0) ∧ w'.cell? ⟨n0, 2, none⟩ = some (.slice o0 g0.length p0) ∧ w'.cell? ⟨n0, 3, none⟩ = some (.slice q0 h0.length r0) ∧ w'.cell? ⟨t0, 0, none⟩ = some (.slice v0 i0.length w0)) (ds := []) (B_ 5 0) kf_ rfl rfl ⟨ce_ a0 0, ce_ a0 1, ce_ a0 2, ce_ a0 3, ce_ b0 0⟩ (fun hHeld => ?_)
 generalize X3.drew = F4 at d0 e0 a0 b0 c0 HB hHeld ⊢
 refine take_ (i := 0) (N := some 18) (v := ?_) (a' := ?_) (B_ 5 1) rfl rfl kf_ (fun _ _ _ h => h) (Or.inl ⟨by rfl, ?_⟩) hHeld ?_ ?_
 rotate_left
 {
 rintro w' ⟨s0, s1, s2, s3, s4⟩
 go_simp
 with_reducible rfl}
 rotate_left
 {
 exact sp_}
 refine take_ (i := 2) (N := some 20) (v := ?_) (a' := ?_) (B_ 5 5) rfl rfl kf_ (fun _ _ _ h => h) (Or.inl ⟨by rfl, ?_⟩) hHeld ?_ ?_
 rotate_left
 {
 rintro w' ⟨s0, s1, s2, s3, s4⟩
 go_simp
 with_reducible rfl}
 rotate_left
 {
 exact sp_}
 refine one_ (i := 1) (N := some 19) (B_ 5 7) rfl rfl kf_ (by decide) (fun K hK => ?_)
 refine goes_ Try.func11 kf_ rfl #[.agg #[.int .i64 j0, .int .i64 k0, .slice o0 g0.length p0, .slice q0 h0.length r0]] (by rfl) rfl rfl ar_ ?_
 with_reducible refine (psalterylaw16_As.calls j0 k0 _ _ g0 _ _ h0 c1 d1 _ ?side1 ?side2 ?side3 ?side4 T1.out).mono ?_
 (case side1 => exact kC_ C0 HB)
 (case side2 => exact D0.out)
 (case side3 => exact kC_ E0 HB)
 (case side4 => exact F0.out)
 rintro e G4 ⟨rfl, hb⟩
 refine ⟨_, rfl, ?_⟩
 replace d0 := FN_ d0 hb
 replace e0 := FN_ e0 hb
 replace a0 := FB_ a0 hb
 replace b0 := FB_ b0 hb
 replace c0 := FB_ c0 hb
 replace HB := BS_ HB hb
 (try clear hb)
 (try clear hk)
 refine hK.out _ _ ⟨ce_ a0 0, ce_ a0 1, ce_ a0 2, ce_ a0 3, ce_ b0 0⟩ (fun hHeld => ?_)
 clear hK K
 refine norm_ (a' := ?_) ?_ ?_
 rotate_left
 {
 show Act.put _ (some 19) _ = _
 exact sp_}
 refine one_ (i := 3) (N := some 21) (B_ 5 15) rfl rfl kf_ (by decide) (fun K hK => ?_)
 refine goes_ Try.func17 kf_ rfl #[.agg #[.int .i64 c1, .int .i64 d1, .slice o0 g0.length p0, .slice q0 h0.length r0], .agg #[.slice v0 i0.length w0]] (by rfl) rfl rfl ar_ ?_
 with_reducible refine (psalteryref22_Right.calls k c1 d1 _ _ g0 _ _ h0 _ _ i0 true _ ?side1 ?side2 ?side3 ?side4 ?side5 ?side6 U1.out).mono ?_
 (case side1 => exact kC_ C0 HB)
 (case side2 => exact D0.out)
 (case side3 => exact kC_ E0 HB)
 (case side4 => exact F0.out)
 (case side5 => exact kC_ K0 HB)
 (case side6 => exact L0.out)
 rintro e H4 ⟨rfl, hb⟩
 refine ⟨_, rfl, ?_⟩
 replace d0 := FN_ d0 hb
 replace e0 := FN_ e0 hb
 replace a0 := FB_ a0 hb
 replace b0 := FB_ b0 hb
 replace c0 := FB_ c0 hb
 replace HB := BS_ HB hb
 (try clear hb)
 (try clear hk)
 refine hK.out _ _ ⟨ce_ a0 0, ce_ a0 1, ce_ a0 2, ce_ a0 3, ce_ b0 0⟩ (fun hHeld => ?_)
 clear hK K
 refine norm_ (a' := ?_) ?_ ?_
 rotate_left
 {
 show Act.put _ (some 21) _ = _
 exact sp_}
 refine pure_ (i := 4) (N := some 7) (v := ?_) (a' := ?_) (B_ 5 31) rfl rfl kf_ (fun _ _ _ h => h) (Or.inl ⟨by rfl, ?_⟩) ?_ ?_
 rotate_left
 {
 intro w'
 go_simp
 with_reducible rfl}
 rotate_left
 {
 exact sp_}
 refine done_ kf_ ?_
 obtain ⟨K2, L2, M2, N2, O2, P2, Q2, R2⟩ := e4_ a0
 obtain ⟨S2, T2⟩ := e1_ b0
 try go_wp2_with (first | ((with_reducible refine gate_callee (f := 16) rfl ?_); refine gL_ (some 24) Try.func16 #[.agg #[.int .i64 j0, .int .i64 k0, .slice o0 g0.length p0, .slice q0 h0.length r0], .agg #[.slice v0 i0.length w0]] ?_; (with_reducible refine (vcodec_Right.calls k j0 k0 _ _ g0 _ _ h0 _ _ i0 Q0 _ ?side1 ?side2 ?side3 ?side4 ?side5 ?side6 V1.out).mono ?_); (case side1 => exact kC_ C0 HB); (case side2 => exact D0.out); (case side3 => exact kC_ E0 HB); (case side4 => exact F0.out); (case side5 => exact kC_ K0 HB); (case side6 => exact L0.out); rintro e Y3 ⟨rfl, hb⟩; refine ⟨_, rfl, ?_⟩; replace d0 := FN_ d0 hb; replace e0 := FN_ e0 hb; replace a0 := FB_ a0 hb; replace b0 := FB_ b0 hb; replace c0 := FB_ c0 hb; replace HB := BS_ HB hb; (try clear hb)))
 replace d0 := a_ (Kd.N_drew d0.out)
 replace e0 := a_ (Kd.N_drew e0.out)
 replace a0 := a_ (blk_drew a0.out)
 replace b0 := a_ (blk_drew b0.out)
 replace c0 := a_ (blk_drew c0.out)
 replace HB := a_ (below_drew1 HB.out)
 refine start_ (n := 15) (S := fun w' => w'.cell? ⟨f0, 0, none⟩ = some (.slice y0 l0.length z0) ∧ w'.cell? ⟨f0, 1, none⟩ = some (.slice A0 m0.length B0) ∧ w'.cell? ⟨n0, 0, none⟩ = some (.int .i64 j0) ∧ w'.cell? ⟨n0, 1, none⟩ = some (.int .i64 k0) ∧ w'.cell? ⟨n0, 2, none⟩ = some (.slice o0 g0.length p0) ∧ w'.cell? ⟨n0, 3, none⟩ = some (.slice q0 h0.length r0) ∧ w'.cell? ⟨t0, 0, none⟩ = some (.slice v0 i0.length w0)) (ds := []) (B_ 15 0) kf_ rfl rfl ⟨ce_ c0 0, ce_ c0 1, ce_ a0 0, ce_ a0 1, ce_ a0 2, ce_ a0 3, ce_ b0 0⟩ (fun hHeld => ?_); refine with_tabW psalterylaw22_VoiceEncodes.tab9 psalterylaw22_VoiceEncodes.bits9 (fun HT_ HW_ => ?_)
 generalize Y3.drew = I4 at d0 e0 a0 b0 c0 HB hHeld ⊢
 refine take_ (i := 0) (N := some 40) (v := ?_) (a' := ?_) (B_ 15 1) rfl rfl (take_ofW HT_.out HW_.out kf_) (fun _ _ _ h => h) (Or.inl ⟨by rfl, ?_⟩) hHeld ?_ ?_
 rotate_left
 {
 rintro w' ⟨s0, s1, s2, s3, s4, s5, s6⟩
 go_simp
 with_reducible rfl}
 rotate_left
 {
 exact sp_}
 refine take_ (i := 2) (N := some 42) (v := ?_) (a' := ?_) (B_ 15 5) rfl rfl (take_ofW HT_.out HW_.out kf_) (fun _ _ _ h => h) (Or.inl ⟨by rfl, ?_⟩) hHeld ?_ ?_
 rotate_left
 {
 rintro w' ⟨s0, s1, s2, s3, s4, s5, s6⟩
 go_simp
 with_reducible rfl}
 rotate_left
 {
 exact sp_}
 refine take_ (i := 4) (N := some 44) (v := ?_) (a' := ?_) (B_ 15 21) rfl rfl (take_ofW HT_.out HW_.out kf_) (fun _ _ _ h => h) (Or.inl ⟨by rfl, ?_⟩) hHeld ?_ ?_
 rotate_left
 {
 rintro w' ⟨s0, s1, s2, s3, s4, s5, s6⟩
 go_simp
 with_reducible rfl}
 rotate_left
 {
 exact sp_}
 refine one_ (i := 1) (N := some 41) (B_ 15 23) rfl rfl (one_of HT_.out kf_) (by decide) (fun K hK => ?_)
 refine goes_ Try.func12 kf_ rfl #[.agg #[.slice y0 l0.length z0, .slice A0 m0.length B0]] (by rfl) rfl rfl ar_ ?_
 with_reducible refine (psalterylaw17_As.calls _ _ l0 _ _ m0  _ ?side1 ?side2 ?side3 ?side4 S3.out).mono ?_
 (case side1 => repeat (first | exact (Kd.N_reads' d0.out).2.2 | (with_reducible refine Kd.C_alloc ?_ _) | (with_reducible refine Kd.C_drewN ?_ _) | (with_reducible refine Kd.C_drew ?_)))
 (case side2 => exact (Kd.N_reads' d0.out).2.1)
 (case side3 => repeat (first | exact (Kd.N_reads' e0.out).2.2 | (with_reducible refine Kd.C_alloc ?_ _) | (with_reducible refine Kd.C_drewN ?_ _) | (with_reducible refine Kd.C_drew ?_)))
 (case side4 => exact (Kd.N_reads' e0.out).2.1)
 rintro e J4 ⟨rfl, hb⟩
 refine ⟨_, rfl, ?_⟩
 replace d0 := FN_ d0 hb
 replace e0 := FN_ e0 hb
 replace a0 := FB_ a0 hb
 replace b0 := FB_ b0 hb
 replace c0 := FB_ c0 hb
 replace HB := BS_ HB hb
 (try clear hb)
 (try clear hk)
 refine hK.out _ _ ⟨ce_ c0 0, ce_ c0 1, ce_ a0 0, ce_ a0 1, ce_ a0 2, ce_ a0 3, ce_ b0 0⟩ (fun hHeld => ?_)
 clear hK K
 refine norm_ (a' := ?_) ?_ ?_
 rotate_left
 {
 show Act.put _ (some 41) _ = _
 exact sp_}
 refine one_ (i := 3) (N := some 43) (B_ 15 31) rfl rfl (one_of HT_.out kf_) (by decide) (fun K hK => ?_)
 refine goes_ Try.func11 kf_ rfl #[.agg #[.int .i64 j0, .int .i64 k0, .slice o0 g0.length p0, .slice q0 h0.length r0]] (by rfl) rfl rfl ar_ ?_
 with_reducible refine (psalterylaw16_As.calls j0 k0 _ _ g0 _ _ h0 k1 l1 _ ?side1 ?side2 ?side3 ?side4 T3.out).mono ?_
 (case side1 => exact kC_ C0 HB)
 (case side2 => exact D0.out)
 (case side3 => exact kC_ E0 HB)
 (case side4 => exact F0.out)
 rintro e K4 ⟨rfl, hb⟩
 refine ⟨_, rfl, ?_⟩
 replace d0 := FN_ d0 hb
 replace e0 := FN_ e0 hb
 replace a0 := FB_ a0 hb
 replace b0 := FB_ b0 hb
 replace c0 := FB_ c0 hb
 replace HB := BS_ HB hb
 (try clear hb)
 (try clear hk)
 refine hK.out _ _ ⟨ce_ c0 0, ce_ c0 1, ce_ a0 0, ce_ a0 1, ce_ a0 2, ce_ a0 3, ce_ b0 0⟩ (fun hHeld => ?_)
 clear hK K
 refine norm_ (a' := ?_) ?_ ?_
 rotate_left
 {
 show Act.put _ (some 43) _ = _
 exact sp_}
 refine one_ (i := 5) (N := some 45) (B_ 15 63) rfl rfl (one_of HT_.out kf_) (by decide) (fun K hK => ?_)
 refine goes_ Try.func23 kf_ rfl #[.agg #[.int .i64 k1, .int .i64 l1, .slice o0 g0.length p0, .slice q0 h0.length r0], .agg #[.slice v0 i0.length w0]] (by rfl) rfl rfl ar_ ?_
 with_reducible refine (psalteryref22_Encode.calls k k1 l1 _ _ g0 _ _ h0 _ _ i0 m1 n1 _ ?side1 ?side2 ?side3 ?side4 ?side5 ?side6 U3.out).mono ?_
 (case side1 => exact kC_ C0 HB)
 (case side2 => exact D0.out)
 (case side3 => exact kC_ E0 HB)
 (case side4 => exact F0.out)
 (case side5 => exact kC_ K0 HB)
 (case side6 => exact L0.out)
 rintro e L4 ⟨Y1, Z1, rfl, Y0, Z0, hb⟩
 refine ⟨_, rfl, ?_⟩
 have R0 := a_ (Kd.N_lower (Kd.N_mono (ok' := fun k_ => no_ k_ Z1 ∧ no_ k_ (.slice y0 l0.length z0) ∧ no_ k_ (.slice A0 m0.length B0) ∧ k_ ≠ n0 ∧ k_ ≠ t0 ∧ k_ ≠ f0) Y0 (fun k_ hk_ => ⟨hk_.2, (Kd.fresh' (Kd.N_lt (kN_ d0)) k_ hk_.1), (Kd.fresh' (Kd.N_lt (kN_ e0)) k_ hk_.1), (Kd.freshB (g := n0) (o := .cells #[.int .i64 j0, .int .i64 k0, .slice o0 g0.length p0, .slice q0 h0.length r0] 24 (0, 0)) (bk_ a0) k_ hk_.1), (Kd.freshB (g := t0) (o := .cells #[.slice v0 i0.length w0] 37 (0, 0)) (bk_ b0) k_ hk_.1), (Kd.freshB (g := f0) (o := .cells #[.slice y0 l0.length z0, .slice A0 m0.length B0] 28 (0, 0)) (bk_ c0) k_ hk_.1)⟩)) (bs_ HB))
 have S0 := a_ (Kd.N_lower (Kd.N_mono (ok' := fun k_ => no_ k_ Y1 ∧ no_ k_ (.slice y0 l0.length z0) ∧ no_ k_ (.slice A0 m0.length B0) ∧ k_ ≠ n0 ∧ k_ ≠ t0 ∧ k_ ≠ f0) Z0 (fun k_ hk_ => ⟨hk_.2, (Kd.fresh' (Kd.N_lt (kN_ d0)) k_ hk_.1), (Kd.fresh' (Kd.N_lt (kN_ e0)) k_ hk_.1), (Kd.freshB (g := n0) (o := .cells #[.int .i64 j0, .int .i64 k0, .slice o0 g0.length p0, .slice q0 h0.length r0] 24 (0, 0)) (bk_ a0) k_ hk_.1), (Kd.freshB (g := t0) (o := .cells #[.slice v0 i0.length w0] 37 (0, 0)) (bk_ b0) k_ hk_.1), (Kd.freshB (g := f0) (o := .cells #[.slice y0 l0.length z0, .slice A0 m0.length B0] 28 (0, 0)) (bk_ c0) k_ hk_.1)⟩)) (bs_ HB))
 replace d0 := a_ (Kd.N_mono (Kd.N_told (Kd.N_told (Kd.N_old (kN_ d0) hb) (Kd.N_base Y0)) (Kd.N_base Z0)) (fun _ h_ => h_.1))
 replace e0 := a_ (Kd.N_mono (Kd.N_told (Kd.N_told (Kd.N_old (kN_ e0) hb) (Kd.N_base Y0)) (Kd.N_base Z0)) (fun _ h_ => h_.1))
 replace a0 := FB_ a0 hb
 replace b0 := FB_ b0 hb
 replace c0 := FB_ c0 hb
 replace HB := BS_ HB hb
 (try clear hb)
 (try clear hk)
 (try clear Y0)
 (try clear Z0)
 obtain ⟨a2, b2, F1⟩ := Kd.N_slice R0.out
 (first | subst F1 | (injection F1 with f1_ f2_ f3_; have f4_ := f1_.symm; have f5_ := f3_.symm; clear f1_ f2_ f3_; subst f4_; subst f5_))
 obtain ⟨c2, d2, G1⟩ := Kd.N_slice S0.out
 (first | subst G1 | (injection G1 with f1_ f2_ f3_; have f4_ := f1_.symm; have f5_ := f3_.symm; clear f1_ f2_ f3_; subst f4_; subst f5_))
 refine hK.out _ _ ⟨ce_ c0 0, ce_ c0 1, ce_ a0 0, ce_ a0 1, ce_ a0 2, ce_ a0 3, ce_ b0 0⟩ (fun hHeld => ?_)
 clear hK K
 refine norm_ (a' := ?_) ?_ ?_
 rotate_left
 {
 show Act.put _ (some 45) _ = _
 exact sp_}
 refine one_ (i := 6) (N := some 46) (B_ 15 127) rfl rfl (one_of HT_.out kf_) (by decide) (fun K hK => ?_)
 refine goes_ Try.func22 kf_ rfl #[.agg #[.slice y0 l0.length z0, .slice A0 m0.length B0], .agg #[.slice a2 m1.length b2, .slice c2 n1.length d2]] (by rfl) rfl rfl ar_ ?_
 with_reducible refine (psalteryref17_Same.calls k _ _ l0 _ _ m0 _ _ m1 _ _ n1 true _ ?side1 ?side2 ?side3 ?side4 ?side5 ?side6 ?side7 ?side8 V3.out).mono ?_
 (case side1 => repeat (first | exact (Kd.N_reads' d0.out).2.2 | (with_reducible refine Kd.C_alloc ?_ _) | (with_reducible refine Kd.C_drewN ?_ _) | (with_reducible refine Kd.C_drew ?_)))
 (case side2 => exact (Kd.N_reads' d0.out).2.1)
 (case side3 => repeat (first | exact (Kd.N_reads' e0.out).2.2 | (with_reducible refine Kd.C_alloc ?_ _) | (with_reducible refine Kd.C_drewN ?_ _) | (with_reducible refine Kd.C_drew ?_)))
 (case side4 => exact (Kd.N_reads' e0.out).2.1)
 (case side5 => repeat (first | exact (Kd.N_reads' R0.out).2.2 | (with_reducible refine Kd.C_alloc ?_ _) | (with_reducible refine Kd.C_drewN ?_ _) | (with_reducible refine Kd.C_drew ?_)))
 (case side6 => exact (Kd.N_reads' R0.out).2.1)
 (case side7 => repeat (first | exact (Kd.N_reads' S0.out).2.2 | (with_reducible refine Kd.C_alloc ?_ _) | (with_reducible refine Kd.C_drewN ?_ _) | (with_reducible refine Kd.C_drew ?_)))
 (case side8 => exact (Kd.N_reads' S0.out).2.1)
 rintro e M4 ⟨rfl, hb⟩
 refine ⟨_, rfl, ?_⟩
 replace d0 := FN_ d0 hb
 replace e0 := FN_ e0 hb
 replace R0 := FN_ R0 hb
 replace S0 := FN_ S0 hb
 replace a0 := FB_ a0 hb
 replace b0 := FB_ b0 hb
 replace c0 := FB_ c0 hb
 replace HB := BS_ HB hb
 (try clear hb)
 (try clear hk)
 refine hK.out _ _ ⟨ce_ c0 0, ce_ c0 1, ce_ a0 0, ce_ a0 1, ce_ a0 2, ce_ a0 3, ce_ b0 0⟩ (fun hHeld => ?_)
 clear hK K
 refine norm_ (a' := ?_) ?_ ?_
 rotate_left
 {
 show Act.put _ (some 46) _ = _
 exact sp_}
 refine pu_ 7 (some 47) (B_ 15 255) HT_ ?_
 refine pu_ 8 (some 48) (B_ 15 511) HT_ ?_
 refine pu_ 9 (some 49) (B_ 15 1023) HT_ ?_
 refine pu_ 10 (some 50) (B_ 15 2047) HT_ ?_
 refine pu_ 11 (some 51) (B_ 15 4095) HT_ ?_
 refine one_ (i := 12) (N := some 52) (B_ 15 8191) rfl rfl (one_of HT_.out kf_) (by decide) (fun K hK => ?_)
 refine goes_ Try.func13 kf_ rfl #[] (by rfl) rfl rfl ar_ ?_
 with_reducible refine (psalterylaw22_knows.calls k  i1 _ W3.out).mono ?_
 rintro e N4 ⟨rfl, hb⟩
 refine ⟨_, rfl, ?_⟩
 replace d0 := FN_ d0 hb
 replace e0 := FN_ e0 hb
 replace R0 := FN_ R0 hb
 replace S0 := FN_ S0 hb
 replace a0 := FB_ a0 hb
 replace b0 := FB_ b0 hb
 replace c0 := FB_ c0 hb
 replace HB := BS_ HB hb
 (try clear hb)
 (try clear hk)
 refine hK.out _ _ ⟨ce_ c0 0, ce_ c0 1, ce_ a0 0, ce_ a0 1, ce_ a0 2, ce_ a0 3, ce_ b0 0⟩ (fun hHeld => ?_)
 clear hK K
 refine norm_ (a' := ?_) ?_ ?_
 rotate_left
 {
 show Act.put _ (some 52) _ = _
 exact sp_}
 refine pu_ 13 (some 53) (B_ 15 16383) HT_ ?_
 refine pu_ 14 (some 4) (B_ 15 32767) HT_ ?_
 refine done_ (done_of HT_.out kf_) ?_
 try go_wp2
 go_ret
 exact ⟨er_, bl_ HB⟩}
 {
 exact absurd ((Option.some.inj H).trans HT.out) (by decide)}}
 {
 exact absurd ((Option.some.inj H).trans HT.out) (by decide)}}
 {
 replace z1 := Bool.eq_false_iff.mpr z1
 subst z1
 rw [if_neg (show ¬ (false = true) by decide)] at H
 obtain ⟨_, Z3, H⟩ := ob_ H
 (try dsimp only at H)
 obtain ⟨C1, a4, H⟩ := ob_ H
 (try dsimp only at H)
 replace H := ib_ H
 rcases H with ⟨rfl, H⟩ | ⟨rfl, H⟩
 {
 replace H := ie_ H
 rcases H with ⟨P1, Q1, H⟩ | ⟨O4, P1, Q1, H⟩
 {
 replace H := Option.bind_eq_some_iff.mp H
 obtain ⟨j1, H1, H⟩ := H
 replace H : (some j1) = some r := H
 have b4 := a_ H1
 clear H1
 obtain rfl := Option.some.inj H
 go_enter Try.func5, Try.ntmps5
 try go_wp2_with (first | ((with_reducible refine gate_dst (N := 2) rfl ?_); refine bx_ HB 2 #[.int .i64 j0, .int .i64 k0, .slice o0 g0.length p0, .slice q0 h0.length r0] 24 ?_; clear HB; intro n0 hg P4 hb a0 a1 HB; have v1 := a1; clear hb hg) | ((with_reducible refine gate_dst (N := 3) rfl ?_); refine bx_ HB 3 #[.slice v0 i0.length w0] 37 ?_; clear HB; intro t0 hg Q4 hb b0 b1 HB; have y1 := b1; obtain ⟨N0, O0⟩ := NN_ a0 hg; replace a0 := FB_ a0 hb; clear hb hg; have k4 := N0.out; have l4 := O0.out; obtain ⟨U2, V2, W2, X2, Y2, Z2, a3, b3⟩ := e4_ a0; obtain ⟨c3, d3⟩ := e1_ b0) | ((with_reducible refine gate_callee (f := 18) rfl ?_); refine gL_ (some 10) Try.func18 #[.agg #[.int .i64 j0, .int .i64 k0, .slice o0 g0.length p0, .slice q0 h0.length r0], .agg #[.slice v0 i0.length w0]] ?_; (with_reducible refine (psalterylaw22_great.calls k j0 k0 _ _ g0 _ _ h0 _ _ i0 false _ ?side1 ?side2 ?side3 ?side4 ?side5 ?side6 A3.out).mono ?_); (case side1 => exact kC_ C0 HB); (case side2 => exact D0.out); (case side3 => exact kC_ E0 HB); (case side4 => exact F0.out); (case side5 => exact kC_ K0 HB); (case side6 => exact L0.out); rintro e R4 ⟨rfl, hb⟩; refine ⟨_, rfl, ?_⟩; replace a0 := FB_ a0 hb; replace b0 := FB_ b0 hb; replace HB := BS_ HB hb; (try clear hb); obtain ⟨e3, f3, g3, h3, i3, j3, k3, l3⟩ := e4_ a0; obtain ⟨m3, n3⟩ := e1_ b0) | ((with_reducible refine gate_callee (f := 15) rfl ?_); refine gL_ (some 15) Try.func15 #[.agg #[.int .i64 j0, .int .i64 k0, .slice o0 g0.length p0, .slice q0 h0.length r0], .agg #[.slice v0 i0.length w0]] ?_; (with_reducible refine (vcodec_Encode.calls k j0 k0 _ _ g0 _ _ h0 _ _ i0 l0 m0 D1 _ ?side1 ?side2 ?side3 ?side4 ?side5 ?side6 S1.out).mono ?_); (case side1 => exact kC_ C0 HB); (case side2 => exact D0.out); (case side3 => exact kC_ E0 HB); (case side4 => exact F0.out); (case side5 => exact kC_ K0 HB); (case side6 => exact L0.out); rintro e S4 ⟨o1, p1, rfl, Y0, Z0, hb⟩; refine ⟨_, rfl, ?_⟩; have d0 := a_ (Kd.N_lower (Kd.N_mono (ok' := fun k_ => no_ k_ p1 ∧ k_ ≠ n0 ∧ k_ ≠ t0) Y0 (fun k_ hk_ => ⟨hk_.2, (Kd.freshB (g := n0) (o := .cells #[.int .i64 j0, .int .i64 k0, .slice o0 g0.length p0, .slice q0 h0.length r0] 24 (0, 0)) (bk_ a0) k_ hk_.1), (Kd.freshB (g := t0) (o := .cells #[.slice v0 i0.length w0] 37 (0, 0)) (bk_ b0) k_ hk_.1)⟩)) (bs_ HB)); have e0 := a_ (Kd.N_lower (Kd.N_mono (ok' := fun k_ => no_ k_ o1 ∧ k_ ≠ n0 ∧ k_ ≠ t0) Z0 (fun k_ hk_ => ⟨hk_.2, (Kd.freshB (g := n0) (o := .cells #[.int .i64 j0, .int .i64 k0, .slice o0 g0.length p0, .slice q0 h0.length r0] 24 (0, 0)) (bk_ a0) k_ hk_.1), (Kd.freshB (g := t0) (o := .cells #[.slice v0 i0.length w0] 37 (0, 0)) (bk_ b0) k_ hk_.1)⟩)) (bs_ HB)); replace a0 := FB_ a0 hb; replace b0 := FB_ b0 hb; replace HB := BS_ HB hb; (try clear hb); (try clear Y0); (try clear Z0)) | ((with_reducible refine gate_dst (N := 5) rfl ?_); refine box_ 5 #[.slice none 0 0, .slice none 0 0] 28 ?_; intro f0 hg f1 hbox hb; replace d0 := a_ (Kd.N_below (Kd.N_elderB (kN_ d0) f0 (Nat.le_of_eq hg.symm)) hb); replace e0 := a_ (Kd.N_below (Kd.N_elderB (kN_ e0) f0 (Nat.le_of_eq hg.symm)) hb); have c0 := a_ (hbox); have N1 := GE_ HB hg; have O1 := GE_ HB hg; replace HB := BS_ HB hb; obtain ⟨T0, U0⟩ := NN_ a0 hg; replace a0 := FB_ a0 hb; obtain ⟨V0, W0⟩ := NN_ b0 hg; replace b0 := FB_ b0 hb; clear hb hbox hg; obtain ⟨G0, H0, e2⟩ := Kd.N_slice d0.out; subst e2; have m4 := U0.out; have n4 := T0.out; have o4 := W0.out; have p4 := V0.out; obtain ⟨o3, p3, q3, r3⟩ := e2_ c0; obtain ⟨I0, J0, f2⟩ := Kd.N_slice e0.out; subst f2))
 have n0_ : Aside0 (Kd.N (Kd.slice 3 (Kd.int .i64)) 22 ((f1.setCell ⟨f0, 0, none⟩ (.slice G0 l0.length H0)).setCell ⟨f0, 1, none⟩ (.slice I0 m0.length J0)) w.heap.size (fun k_ => no_ k_ (.slice I0 m0.length J0) ∧ k_ ≠ n0 ∧ k_ ≠ t0 ∧ k_ ≠ f0) (.slice G0 l0.length H0) l0) := ⟨by (with_reducible repeat (first | apply Kd.N_alloc | apply Kd.N_drewN | apply Kd.N_drew)); exact Kd.N_mono (Kd.N_far (p := ⟨f0, 1, none⟩) (Kd.N_far (p := ⟨f0, 0, none⟩) (Kd.N_mono d0.out (fun k_ hk => (⟨hk, hk.2⟩ : _ ∧ k_ ≠ f0))) (fun _ hk => hk.2) (.slice G0 l0.length H0)) (fun _ hk => hk.2) (.slice I0 m0.length J0)) cj_⟩
 have n1_ : Aside0 (Kd.N (Kd.slice 2 (Kd.int .i64)) 53 ((f1.setCell ⟨f0, 0, none⟩ (.slice G0 l0.length H0)).setCell ⟨f0, 1, none⟩ (.slice I0 m0.length J0)) w.heap.size (fun k_ => no_ k_ (.slice G0 l0.length H0) ∧ k_ ≠ n0 ∧ k_ ≠ t0 ∧ k_ ≠ f0) (.slice I0 m0.length J0) m0) := ⟨by (with_reducible repeat (first | apply Kd.N_alloc | apply Kd.N_drewN | apply Kd.N_drew)); exact Kd.N_mono (Kd.N_far (p := ⟨f0, 1, none⟩) (Kd.N_far (p := ⟨f0, 0, none⟩) (Kd.N_mono e0.out (fun k_ hk => (⟨hk, hk.2⟩ : _ ∧ k_ ≠ f0))) (fun _ hk => hk.2) (.slice G0 l0.length H0)) (fun _ hk => hk.2) (.slice I0 m0.length J0)) cj_⟩
 have n2_ : Aside0 (((f1.setCell ⟨f0, 0, none⟩ (.slice G0 l0.length H0)).setCell ⟨f0, 1, none⟩ (.slice I0 m0.length J0)).heap[n0]? = some (.cells #[.int .i64 j0, .int .i64 k0, .slice o0 g0.length p0, .slice q0 h0.length r0] 24 (0, 0))) := ⟨bk_ a0⟩
 have n3_ : Aside0 (((f1.setCell ⟨f0, 0, none⟩ (.slice G0 l0.length H0)).setCell ⟨f0, 1, none⟩ (.slice I0 m0.length J0)).heap[t0]? = some (.cells #[.slice v0 i0.length w0] 37 (0, 0))) := ⟨bk_ b0⟩
 have n4_ : Aside0 (((f1.setCell ⟨f0, 0, none⟩ (.slice G0 l0.length H0)).setCell ⟨f0, 1, none⟩ (.slice I0 m0.length J0)).heap[f0]? = some (.cells #[.slice G0 l0.length H0, .slice I0 m0.length J0] 28 (0, 0))) := ⟨bp_ c0⟩
 have n5_ : Aside0 (Below w.heap.size w ((f1.setCell ⟨f0, 0, none⟩ (.slice G0 l0.length H0)).setCell ⟨f0, 1, none⟩ (.slice I0 m0.length J0))) := ⟨bl_ HB⟩
 (try clear d0)
 (try clear e0)
 (try clear a0)
 (try clear b0)
 (try clear c0)
 (try clear HB)
 generalize ((f1.setCell ⟨f0, 0, none⟩ (.slice G0 l0.length H0)).setCell ⟨f0, 1, none⟩ (.slice I0 m0.length J0)) = c4 at n0_ n1_ n2_ n3_ n4_ n5_ ⊢
 have d0 := n0_
 have e0 := n1_
 have a0 := n2_
 have b0 := n3_
 have c0 := n4_
 have HB := n5_
 clear n0_ n1_ n2_ n3_ n4_ n5_
 replace d0 := a_ (Kd.N_drew d0.out)
 replace e0 := a_ (Kd.N_drew e0.out)
 replace a0 := a_ (blk_drew a0.out)
 replace b0 := a_ (blk_drew b0.out)
 replace c0 := a_ (blk_drew c0.out)
 replace HB := a_ (below_drew1 HB.out)
 refine start_ (n := 5) (S := fun w' => w'.cell? ⟨n0, 0, none⟩ = some (.int .i64 j0) ∧ w'.cell? ⟨n0, 1, none⟩ = some (.int .i64 k0) ∧ w'.cell? ⟨n0, 2, none⟩ = some (.slice o0 g0.length p0) ∧ w'.cell? ⟨n0, 3, none⟩ = some (.slice q0 h0.length r0) ∧ w'.cell? ⟨t0, 0, none⟩ = some (.slice v0 i0.length w0)) (ds := []) (B_ 5 0) kf_ rfl rfl ⟨ce_ a0 0, ce_ a0 1, ce_ a0 2, ce_ a0 3, ce_ b0 0⟩ (fun hHeld => ?_)
 generalize c4.drew = T4 at d0 e0 a0 b0 c0 HB hHeld ⊢
 refine take_ (i := 0) (N := some 18) (v := ?_) (a' := ?_) (B_ 5 1) rfl rfl kf_ (fun _ _ _ h => h) (Or.inl ⟨by rfl, ?_⟩) hHeld ?_ ?_
 rotate_left
 {
 rintro w' ⟨s0, s1, s2, s3, s4⟩
 go_simp
 with_reducible rfl}
 rotate_left
 {
 exact sp_}
 refine take_ (i := 2) (N := some 20) (v := ?_) (a' := ?_) (B_ 5 5) rfl rfl kf_ (fun _ _ _ h => h) (Or.inl ⟨by rfl, ?_⟩) hHeld ?_ ?_
 rotate_left
 {
 rintro w' ⟨s0, s1, s2, s3, s4⟩
 go_simp
 with_reducible rfl}
 rotate_left
 {
 exact sp_}
 refine one_ (i := 1) (N := some 19) (B_ 5 7) rfl rfl kf_ (by decide) (fun K hK => ?_)
 refine goes_ Try.func11 kf_ rfl #[.agg #[.int .i64 j0, .int .i64 k0, .slice o0 g0.length p0, .slice q0 h0.length r0]] (by rfl) rfl rfl ar_ ?_
 with_reducible refine (psalterylaw16_As.calls j0 k0 _ _ g0 _ _ h0 c1 d1 _ ?side1 ?side2 ?side3 ?side4 T1.out).mono ?_
 (case side1 => exact kC_ C0 HB)
 (case side2 => exact D0.out)
 (case side3 => exact kC_ E0 HB)
 (case side4 => exact F0.out)
 rintro e U4 ⟨rfl, hb⟩
 refine ⟨_, rfl, ?_⟩
 replace d0 := FN_ d0 hb
 replace e0 := FN_ e0 hb
 replace a0 := FB_ a0 hb
 replace b0 := FB_ b0 hb
 replace c0 := FB_ c0 hb
 replace HB := BS_ HB hb
 (try clear hb)
 (try clear hk)
 refine hK.out _ _ ⟨ce_ a0 0, ce_ a0 1, ce_ a0 2, ce_ a0 3, ce_ b0 0⟩ (fun hHeld => ?_)
 clear hK K
 refine norm_ (a' := ?_) ?_ ?_
 rotate_left
 {
 show Act.put _ (some 19) _ = _
 exact sp_}
 refine one_ (i := 3) (N := some 21) (B_ 5 15) rfl rfl kf_ (by decide) (fun K hK => ?_)
 refine goes_ Try.func17 kf_ rfl #[.agg #[.int .i64 c1, .int .i64 d1, .slice o0 g0.length p0, .slice q0 h0.length r0], .agg #[.slice v0 i0.length w0]] (by rfl) rfl rfl ar_ ?_
 with_reducible refine (psalteryref22_Right.calls k c1 d1 _ _ g0 _ _ h0 _ _ i0 false _ ?side1 ?side2 ?side3 ?side4 ?side5 ?side6 U1.out).mono ?_
 (case side1 => exact kC_ C0 HB)
 (case side2 => exact D0.out)
 (case side3 => exact kC_ E0 HB)
 (case side4 => exact F0.out)
 (case side5 => exact kC_ K0 HB)
 (case side6 => exact L0.out)
 rintro e V4 ⟨rfl, hb⟩
 refine ⟨_, rfl, ?_⟩
 replace d0 := FN_ d0 hb
 replace e0 := FN_ e0 hb
 replace a0 := FB_ a0 hb
 replace b0 := FB_ b0 hb
 replace c0 := FB_ c0 hb
 replace HB := BS_ HB hb
 (try clear hb)
 (try clear hk)
 refine hK.out _ _ ⟨ce_ a0 0, ce_ a0 1, ce_ a0 2, ce_ a0 3, ce_ b0 0⟩ (fun hHeld => ?_)
 clear hK K
 refine norm_ (a' := ?_) ?_ ?_
 rotate_left
 {
 show Act.put _ (some 21) _ = _
 exact sp_}
 refine pure_ (i := 4) (N := some 7) (v := ?_) (a' := ?_) (B_ 5 31) rfl rfl kf_ (fun _ _ _ h => h) (Or.inl ⟨by rfl, ?_⟩) ?_ ?_
 rotate_left
 {
 intro w'
 go_simp
 with_reducible rfl}
 rotate_left
 {
 exact sp_}
 refine done_ kf_ ?_
 obtain ⟨t3, v3, w3, y3, z3, B3, C3, D3⟩ := e4_ a0
 obtain ⟨E3, F3⟩ := e1_ b0
 try go_wp2_with (first | ((with_reducible refine gate_callee (f := 16) rfl ?_); refine gL_ (some 24) Try.func16 #[.agg #[.int .i64 j0, .int .i64 k0, .slice o0 g0.length p0, .slice q0 h0.length r0], .agg #[.slice v0 i0.length w0]] ?_; (with_reducible refine (vcodec_Right.calls k j0 k0 _ _ g0 _ _ h0 _ _ i0 Q0 _ ?side1 ?side2 ?side3 ?side4 ?side5 ?side6 V1.out).mono ?_); (case side1 => exact kC_ C0 HB); (case side2 => exact D0.out); (case side3 => exact kC_ E0 HB); (case side4 => exact F0.out); (case side5 => exact kC_ K0 HB); (case side6 => exact L0.out); rintro e W4 ⟨rfl, hb⟩; refine ⟨_, rfl, ?_⟩; replace d0 := FN_ d0 hb; replace e0 := FN_ e0 hb; replace a0 := FB_ a0 hb; replace b0 := FB_ b0 hb; replace c0 := FB_ c0 hb; replace HB := BS_ HB hb; (try clear hb); obtain ⟨G3, H3, I3, J3⟩ := e2_ c0) | ((with_reducible refine gate_callee (f := 12) rfl ?_); refine gL_ (some 30) Try.func12 #[.agg #[.slice G0 l0.length H0, .slice I0 m0.length J0]] ?_; (with_reducible refine (psalterylaw17_As.calls _ _ l0 _ _ m0  _ ?side1 ?side2 ?side3 ?side4 Z3.out).mono ?_); (case side1 => repeat (first | exact (Kd.N_reads' d0.out).2.2 | (with_reducible refine Kd.C_alloc ?_ _) | (with_reducible refine Kd.C_drewN ?_ _) | (with_reducible refine Kd.C_drew ?_))); (case side2 => exact (Kd.N_reads' d0.out).2.1); (case side3 => repeat (first | exact (Kd.N_reads' e0.out).2.2 | (with_reducible refine Kd.C_alloc ?_ _) | (with_reducible refine Kd.C_drewN ?_ _) | (with_reducible refine Kd.C_drew ?_))); (case side4 => exact (Kd.N_reads' e0.out).2.1); rintro e X4 ⟨rfl, hb⟩; refine ⟨_, rfl, ?_⟩; replace d0 := FN_ d0 hb; replace e0 := FN_ e0 hb; replace a0 := FB_ a0 hb; replace b0 := FB_ b0 hb; replace c0 := FB_ c0 hb; replace HB := BS_ HB hb; (try clear hb)) | ((with_reducible refine gate_callee (f := 22) rfl ?_); refine gL_ (some 32) Try.func22 #[.agg #[.slice G0 l0.length H0, .slice I0 m0.length J0], .agg #[.slice none 0 0, .slice none 0 0]] ?_; (refine (psalteryref17_Same.calls k _ _ l0 _ _ m0 _ _ ([] : List (List Int)) _ _ ([] : List (List Int)) true _ ?side1 ?side2 ?side3 ?side4 ?side5 ?side6 ?side7 ?side8 a4.out).mono ?_); (case side1 => repeat (first | exact (Kd.N_reads' d0.out).2.2 | (with_reducible refine Kd.C_alloc ?_ _) | (with_reducible refine Kd.C_drewN ?_ _) | (with_reducible refine Kd.C_drew ?_))); (case side2 => exact (Kd.N_reads' d0.out).2.1); (case side3 => repeat (first | exact (Kd.N_reads' e0.out).2.2 | (with_reducible refine Kd.C_alloc ?_ _) | (with_reducible refine Kd.C_drewN ?_ _) | (with_reducible refine Kd.C_drew ?_))); (case side4 => exact (Kd.N_reads' e0.out).2.1); (case side5 => exact Kd.C_nil _ _); (case side6 => exact Nat.le_refl _); (case side7 => exact Kd.C_nil _ _); (case side8 => exact Nat.le_refl _); rintro e Y4 ⟨rfl, hb⟩; refine ⟨_, rfl, ?_⟩; replace d0 := FN_ d0 hb; replace e0 := FN_ e0 hb; replace a0 := FB_ a0 hb; replace b0 := FB_ b0 hb; replace c0 := FB_ c0 hb; replace HB := BS_ HB hb; (try clear hb)) | (go_at_call 13; (with_reducible refine (psalterylaw22_knows.calls k  j1 _ b4.out).mono ?_); rintro e Z4 ⟨rfl, hb⟩; replace d0 := FN_ d0 hb; replace e0 := FN_ e0 hb; replace a0 := FB_ a0 hb; replace b0 := FB_ b0 hb; replace c0 := FB_ c0 hb; replace HB := BS_ HB hb; (try clear hb)))
 go_ret
 exact ⟨er_, bl_ HB⟩}
 {
 exact absurd ((Option.some.inj H).trans HT.out) (by decide)}}
 {
 exact absurd ((Option.some.inj H).trans HT.out) (by decide)}}}}
def psalterylaw22_VoiceEncodes.Pure : Prop := ∀ (d0 : Int) (e0 : Int) (a0 : List Int) (b0 : List Int) (c0 : List (List Int)), (Lit.int .i64 d0).wf = true → (Lit.int .i64 e0).wf = true → (a0.length ≤ maxLen ∧ ∀ x0_ ∈ a0, (Lit.int .i64 x0_).wf = true) → (b0.length ≤ maxLen ∧ ∀ x0_ ∈ b0, (Lit.int .i64 x0_).wf = true) → (c0.length ≤ maxLen ∧ ∀ x0_ ∈ c0, (x0_.length ≤ maxLen ∧ ∀ x1_ ∈ x0_, (Lit.int .i64 x1_).wf = true)) → ∃ k, psalterylaw22_VoiceEncodes.f k d0 e0 a0 b0 c0 = some true
theorem psalterylaw22_VoiceEncodes.walk (P : psalterylaw22_VoiceEncodes.Pure) (d0 : Int) (e0 : Int) (f0 : Option Addr) (g0 : Nat) (a0 : List Int) (h0 : Option Addr) (i0 : Nat) (b0 : List Int) (j0 : Option Addr) (k0 : Nat) (c0 : List (List Int)) (w : World) (hr0_2 : Kd.C (Kd.int .i64) w f0 a0.length a0) (hc0_2 : a0.length ≤ g0) (hr0_3 : Kd.C (Kd.int .i64) w h0 b0.length b0) (hc0_3 : b0.length ≤ i0) (hr1_0 : Kd.C (Kd.slice 2 (Kd.int .i64)) w j0 c0.length c0) (hc1_0 : c0.length ≤ k0) (l0 : (Lit.int .i64 d0).wf = true) (m0 : (Lit.int .i64 e0).wf = true) (n0 : (a0.length ≤ maxLen ∧ ∀ x0_ ∈ a0, (Lit.int .i64 x0_).wf = true)) (o0 : (b0.length ≤ maxLen ∧ ∀ x0_ ∈ b0, (Lit.int .i64 x0_).wf = true)) (p0 : (c0.length ≤ maxLen ∧ ∀ x0_ ∈ c0, (x0_.length ≤ maxLen ∧ ∀ x1_ ∈ x0_, (Lit.int .i64 x1_).wf = true))) :
    Calls Try.prog 5 #[.agg #[.int .i64 d0, .int .i64 e0, .slice f0 a0.length g0, .slice h0 b0.length i0], .agg #[.slice j0 c0.length k0]] w fun e w' => e = .returned (.bool true) ∧ Below w.heap.size w w' := by
  obtain ⟨k, h⟩ := P d0 e0 a0 b0 c0 l0 m0 n0 o0 p0
  refine (psalterylaw22_VoiceEncodes.calls k d0 e0 _ _ a0 _ _ b0 _ _ c0 true w hr0_2 hc0_2 hr0_3 hc0_3 hr1_0 hc1_0 h rfl).mono ?_
  rintro e w' ⟨rfl, hd⟩
  exact ⟨rfl, hd⟩
mutual
def psalterylaw22_wide.l0 : Nat → Int → Int → Int → List Int → List Int → List (List Int) → List (List Int) → Option (Bool)
  | 0, _, _, _, _, _, _, _ => none
  | k + 1, x5, b0, c0, d0, e0, a0, f0 => if x5 < (a0.length : Int) then (if 0 ≤ x5 then (if ((rd_L1 a0 x5).length : Int) > 100 then (some true) else (psalterylaw22_wide.l0 k (wrap64 (x5 + 1)) b0 c0 d0 e0 a0 f0)) else (none)) else (psalterylaw22_wide.l1 k 0 b0 c0 d0 e0 a0 f0)
def psalterylaw22_wide.l1 : Nat → Int → Int → Int → List Int → List Int → List (List Int) → List (List Int) → Option (Bool)
  | 0, _, _, _, _, _, _, _ => none
  | k + 1, x6, b0, c0, d0, e0, f0, a0 => if x6 < (a0.length : Int) then (if 0 ≤ x6 then (if ((rd_L2 a0 x6).length : Int) > 100 then (some true) else (psalterylaw22_wide.l1 k (wrap64 (x6 + 1)) b0 c0 d0 e0 f0 a0)) else (none)) else ((psalterylaw16_Great.f b0 c0 d0 e0).bind fun g0 => (if g0 = true then (some true) else (if (f0.length : Int) > 10 then (some true) else (some (decide ((a0.length : Int) > 10))))))
end
def psalterylaw22_wide.f (k : Nat) (a0 : Int) (b0 : Int) (c0 : List Int) (d0 : List Int) (e0 : List (List Int)) (f0 : List (List Int)) : Option (Bool) := psalterylaw22_wide.l0 k 0 a0 b0 c0 d0 e0 f0
theorem psalterylaw22_wide.mono_l : ∀ k, (∀ y0 y1 y2 y3 y4 y5 y6, LeO (psalterylaw22_wide.l0 k y0 y1 y2 y3 y4 y5 y6) (psalterylaw22_wide.l0 (k + 1) y0 y1 y2 y3 y4 y5 y6)) ∧ (∀ y0 y1 y2 y3 y4 y5 y6, LeO (psalterylaw22_wide.l1 k y0 y1 y2 y3 y4 y5 y6) (psalterylaw22_wide.l1 (k + 1) y0 y1 y2 y3 y4 y5 y6))
  | 0 => ⟨fun _ _ _ _ _ _ _ r h => by simp [psalterylaw22_wide.l0] at h, fun _ _ _ _ _ _ _ r h => by simp [psalterylaw22_wide.l1] at h⟩
  | k + 1 => by
    obtain ⟨a0, b0⟩ := psalterylaw22_wide.mono_l k
    refine ⟨?_, ?_⟩
    all_goals (intros; first | unfold psalterylaw22_wide.l0 | unfold psalterylaw22_wide.l1)
    all_goals with_reducible repeat' first
     | apply a0
     | exact b0 _ _ _ _ _ _ _
     | exact LeO.refl _
     | exact LeO.none _
     | refine LeO.ite ?_ ?_
     | refine LeO.bind ?_ (fun _ => ?_)
theorem psalterylaw22_wide.mono : ∀ a0 a1 a2 a3 a4 a5 k, LeO (psalterylaw22_wide.f k a0 a1 a2 a3 a4 a5) (psalterylaw22_wide.f (k + 1) a0 a1 a2 a3 a4 a5) := by
  intro a0 a1 a2 a3 a4 a5 k
  obtain ⟨b0, c0⟩ := psalterylaw22_wide.mono_l k
  unfold psalterylaw22_wide.f
  with_reducible repeat' first
   | apply b0
   | exact c0 _ _ _ _ _ _ _
   | exact LeO.refl _
   | exact LeO.none _
   | refine LeO.ite ?_ ?_
   | refine LeO.bind ?_ (fun _ => ?_)
end Go.Proofs.Ytdajlfijkbafiaa.P
namespace Go.Proofs.Ytdajlfijkbafiaa.LB
open Go.RowKit Go.Proofs.YtdajlfijkbafiaaW.PrintWords Go.Proofs.YtdajlfijkbafiaaW.PrintLast
theorem w64 {x : Int} (h : -9223372036854775808 ≤ x) (h' : x ≤ 9223372036854775807) : wrap64 x = x := by unfold wrap64; omega
theorem u64w {x : Int} (h : 0 ≤ x) (h' : x < 18446744073709551616) : IntKind.u64.wrap x = x := by
  simp only [IntKind.wrap, IntKind.bits, IntKind.signed]; simp; omega
theorem tdiv_nn {a : Int} (b : Int) (h : 0 ≤ a) : Int.tdiv a b = a / b := Int.tdiv_eq_ediv_of_nonneg h
theorem tmod_nn {a : Int} (b : Int) (h : 0 ≤ a) : Int.tmod a b = a % b := Int.tmod_eq_emod_of_nonneg h
theorem u64_eq (x : Int) : IntKind.u64.wrap x = x % 18446744073709551616 := by simp [IntKind.wrap, IntKind.bits, IntKind.signed]
theorem wrap64_eq (x : Int) : wrap64 x = (x + 9223372036854775808) % 18446744073709551616 - 9223372036854775808 := by unfold wrap64; omega
theorem or_join {x y : Int} {i : Nat} (hx : 0 ≤ x) (hx' : x < 18446744073709551616) (hm : x % 2 ^ i = 0) (hy : 0 ≤ y) (hy' : y < 2 ^ i) (hy2 : y < 18446744073709551616) : Go.bits .or .u64 x y = x + y := by
  have hc : ((2 : Int) ^ i) = ((2 ^ i : Nat) : Int) := by simp
  have hp : 0 < 2 ^ i := Nat.pow_pos (n := i) (by omega : 0 < 2)
  rw [u64_or x y hx hx' hy hy2]
  rw [hc] at hm hy'
  have h0 : ((x.toNat % 2 ^ i : Nat) : Int) = 0 := by rw [Int.natCast_emod, Int.toNat_of_nonneg hx]; exact hm
  rw [nat_join i _ _ (by omega) (by omega), Int.natCast_add]; omega
end Go.Proofs.Ytdajlfijkbafiaa.LB
namespace Go.Proofs.Ytdajlfijkbafiaa.LW
open Go.RowKit Go.Proofs.YtdajlfijkbafiaaW.PrintWords Go.Proofs.YtdajlfijkbafiaaW.PrintLast Go.Proofs.YtdajlfijkbafiaaW.PrintMore Go.Proofs.Ytdajlfijkbafiaa.P Go.Proofs.Ytdajlfijkbafiaa.LB
def IsSet (fl : List Int) (g s : Int) : Prop := 0 ≤ s ∧ s < (fl.length : Int) ∧ 0 < rd fl s ∧ ((s ≤ g ∧ ∀ t : Int, s < t → t ≤ g → t < (fl.length : Int) → ¬ 0 < rd fl t) ∨ (g < s ∧ ∀ t : Int, 0 ≤ t → t < s → ¬ 0 < rd fl t))
theorem isSet_unique {fl : List Int} {g s t : Int} (h : IsSet fl g s) (h' : IsSet fl g t) : s = t := by
  obtain ⟨a1, a2, a3, a4⟩ := h
  obtain ⟨b1, b2, b3, b4⟩ := h'
  rcases Int.lt_trichotomy s t with c | c | c
  · exfalso
    rcases a4 with ⟨a4, a5⟩ | ⟨a4, a5⟩
    · rcases b4 with ⟨b4, b5⟩ | ⟨b4, b5⟩
      · exact a5 t c b4 b2 b3
      · exact b5 s a1 c a3
    · rcases b4 with ⟨b4, b5⟩ | ⟨b4, b5⟩
      · omega
      · exact b5 s a1 c a3
  · exact c
  · exfalso
    rcases b4 with ⟨b4, b5⟩ | ⟨b4, b5⟩
    · rcases a4 with ⟨a4, a5⟩ | ⟨a4, a5⟩
      · exact b5 s c a4 a2 a3
      · exact a5 t b1 c b3
    · rcases a4 with ⟨a4, a5⟩ | ⟨a4, a5⟩
      · omega
      · exact a5 t b1 c b3
def Way (fl : List Int) (g i out : Int) : Prop := (out = -1 ∧ ∀ t : Int, 0 ≤ t → t < i → ¬ 0 < rd fl t) ∨ (0 ≤ out ∧ out < i ∧ 0 < rd fl out ∧ ((out ≤ g ∧ ∀ t : Int, out < t → t ≤ g → t < i → ¬ 0 < rd fl t) ∨ (g < out ∧ ∀ t : Int, 0 ≤ t → t < out → ¬ 0 < rd fl t)))
theorem settled_loop (fl : List Int) (g : Int) (hl : fl.length ≤ 1000) (d : Nat) : ∀ (i k : Nat) (out : Int), i + d = fl.length → d < k → Way fl g i out → ∃ s, vcodec_codec_settled.l0 k g out fl (fl.length : Int) (i : Int) = some s ∧ Way fl g (fl.length : Int) s := by
  induction d with
  | zero =>
    intro i k out hi hk hw
    obtain ⟨k, rfl⟩ : ∃ j, k = j + 1 := ⟨k - 1, by omega⟩
    refine ⟨out, ?_, by rwa [show (fl.length : Int) = (i : Int) by omega]⟩
    simp only [vcodec_codec_settled.l0]
    rw [if_neg (by omega)]
  | succ d ih =>
    intro i k out hi hk hw
    obtain ⟨k, rfl⟩ : ∃ j, k = j + 1 := ⟨k - 1, by omega⟩
    have nx := fun out => ih (i + 1) k out (by omega) (by omega)
    simp only [vcodec_codec_settled.l0]
    rw [if_pos (by omega), if_pos (by omega), if_pos (by omega), w64 (x := (i : Int) + 1) (by omega) (by omega), show (i : Int) + 1 = ((i + 1 : Nat) : Int) by omega]
    by_cases c : rd fl (i : Int) > 0
    · rw [if_pos c]
      rcases hw with ⟨h1, h2⟩ | ⟨h0, h1, h2, h3⟩
      · rw [if_pos (by omega)]
        refine nx (i : Int) (.inr ⟨by omega, by omega, c, ?_⟩)
        by_cases e : (i : Int) ≤ g
        · exact .inl ⟨e, fun t ht _ ht' => by omega⟩
        · exact .inr ⟨by omega, h2⟩
      · rw [if_neg (by omega)]
        by_cases e : (i : Int) ≤ g
        · rw [if_pos e]
          exact nx (i : Int) (.inr ⟨by omega, by omega, c, .inl ⟨e, fun t ht _ ht' => by omega⟩⟩)
        · rw [if_neg e]
          refine nx out (.inr ⟨h0, by omega, h2, ?_⟩)
          rcases h3 with ⟨h3, h4⟩ | h3
          · exact .inl ⟨h3, fun t ht ht' _ => h4 t ht ht' (by omega)⟩
          · exact .inr h3
    · rw [if_neg c]
      have hz : ∀ t : Int, t = (i : Int) → ¬ 0 < rd fl t := fun t e => by rw [e]; exact c
      refine nx out ?_
      rcases hw with ⟨h1, h2⟩ | ⟨h0, h1, h2, h3⟩
      · refine .inl ⟨h1, fun t ht ht' => ?_⟩
        by_cases e : t = (i : Int)
        · exact hz t e
        · exact h2 t ht (by omega)
      · refine .inr ⟨h0, by omega, h2, ?_⟩
        rcases h3 with ⟨h3, h4⟩ | h3
        · refine .inl ⟨h3, fun t ht ht' ht2 => ?_⟩
          by_cases e : t = (i : Int)
          · exact hz t e
          · exact h4 t ht ht' (by omega)
        · exact .inr h3
theorem settled_is (c q : Int) (fl rs : List Int) (g : Int) (hl : fl.length ≤ 1000) (hu : ∃ u : Nat, u < fl.length ∧ 0 < rd fl (u : Int)) (k : Nat) (hk : fl.length < k) : ∃ s, vcodec_codec_settled.f k c q fl rs g = some s ∧ IsSet fl g s := by
  unfold vcodec_codec_settled.f
  obtain ⟨s, h1, h2⟩ := settled_loop fl g hl fl.length 0 k (-1) (by omega) hk (.inl ⟨rfl, fun t ht ht' => by omega⟩)
  refine ⟨s, h1, ?_⟩
  obtain ⟨u, u1, u2⟩ := hu
  rcases h2 with ⟨_, h2⟩ | ⟨a, b, c, d⟩
  · exact absurd u2 (h2 (u : Int) (by omega) (by omega))
  · exact ⟨a, b, c, d⟩
theorem refSettled_l1 (fl : List Int) (g : Int) (hl : fl.length ≤ 1000) (hg : ∀ t : Int, 0 ≤ t → t ≤ g → ¬ 0 < rd fl t) (hu : ∃ u : Nat, u < fl.length ∧ 0 < rd fl (u : Int)) (d : Nat) : ∀ (i k : Nat), i + d = fl.length → d < k → (∀ t : Int, 0 ≤ t → t < (i : Int) → ¬ 0 < rd fl t) → ∃ s, psalteryref22_Settled.l1 k fl (i : Int) = some s ∧ IsSet fl g s := by
  obtain ⟨u, u1, u2⟩ := hu
  induction d with
  | zero =>
    intro i k hi hk hn
    exact absurd u2 (hn (u : Int) (by omega) (by omega))
  | succ d ih =>
    intro i k hi hk hn
    obtain ⟨k, rfl⟩ : ∃ j, k = j + 1 := ⟨k - 1, by omega⟩
    simp only [psalteryref22_Settled.l1]
    rw [if_pos (by omega), if_pos (by omega), w64 (x := (i : Int) + 1) (by omega) (by omega), show (i : Int) + 1 = ((i + 1 : Nat) : Int) by omega]
    by_cases c : rd fl (i : Int) > 0
    · rw [if_pos c]
      refine ⟨(i : Int), rfl, by omega, by omega, c, .inr ⟨?_, hn⟩⟩
      by_cases e : (i : Int) ≤ g
      · exact absurd c (hg (i : Int) (by omega) e)
      · omega
    · rw [if_neg c]
      refine ih (i + 1) k (by omega) (by omega) (fun t ht ht' => ?_)
      by_cases e : t = (i : Int)
      · rw [e]; exact c
      · exact hn t ht (by omega)
theorem refSettled_l0 (fl : List Int) (g : Int) (hl : fl.length ≤ 1000) (hg : g < (fl.length : Int)) (hu : ∃ u : Nat, u < fl.length ∧ 0 < rd fl (u : Int)) (d : Nat) : ∀ (i : Int) (k : Nat), i + 1 = (d : Int) → i ≤ g → d + fl.length + 2 < k → (∀ t : Int, i < t → t ≤ g → ¬ 0 < rd fl t) → ∃ s, psalteryref22_Settled.l0 k fl i = some s ∧ IsSet fl g s := by
  induction d with
  | zero =>
    intro i k hi hig hk hn
    obtain ⟨k, rfl⟩ : ∃ j, k = j + 1 := ⟨k - 1, by omega⟩
    simp only [psalteryref22_Settled.l0]
    rw [if_neg (by omega)]
    exact refSettled_l1 fl g hl (fun t ht ht' => hn t (by omega) ht') hu fl.length 0 k (by omega) (by omega) (fun t ht ht' => by omega)
  | succ d ih =>
    intro i k hi hig hk hn
    obtain ⟨k, rfl⟩ : ∃ j, k = j + 1 := ⟨k - 1, by omega⟩
    simp only [psalteryref22_Settled.l0]
    rw [if_pos (by omega), if_pos (by omega), if_pos (by omega), w64 (x := i - 1) (by omega) (by omega)]
    by_cases c : rd fl i > 0
    · rw [if_pos c]
      exact ⟨i, rfl, by omega, by omega, c, .inl ⟨hig, fun t ht ht' _ => hn t ht ht'⟩⟩
    · rw [if_neg c]
      refine ih (i - 1) k (by omega) (by omega) (by omega) (fun t ht ht' => ?_)
      by_cases e : t = i
      · rw [e]; exact c
      · exact hn t (by omega) ht'
theorem refSettled_is (fl : List Int) (g : Int) (hl : fl.length ≤ 1000) (h0 : 0 ≤ g) (hg : g < (fl.length : Int)) (hu : ∃ u : Nat, u < fl.length ∧ 0 < rd fl (u : Int)) (k : Nat) (hk : 2 * fl.length + 5 < k) : ∃ s, psalteryref22_Settled.f k fl g = some s ∧ IsSet fl g s :=
  refSettled_l0 fl g hl hg hu (g + 1).toNat g k (by omega) (Int.le_refl _) (by omega) (fun t ht ht' => by omega)
def setl (fl : List Int) (g : Int) : Int := (vcodec_codec_settled.f 2000 0 0 fl [] g).getD 0
theorem setl_is {fl : List Int} (g : Int) (hl : fl.length ≤ 1000) (hu : ∃ u : Nat, u < fl.length ∧ 0 < rd fl (u : Int)) : IsSet fl g (setl fl g) := by
  obtain ⟨s, h1, h2⟩ := settled_is 0 0 fl [] g hl hu 2000 (by omega)
  unfold setl
  rw [h1]; exact h2
theorem settled_eq (c q : Int) (fl rs : List Int) (g : Int) (hl : fl.length ≤ 1000) (hu : ∃ u : Nat, u < fl.length ∧ 0 < rd fl (u : Int)) (k : Nat) (hk : fl.length < k) : vcodec_codec_settled.f k c q fl rs g = some (setl fl g) := by
  obtain ⟨s, h1, h2⟩ := settled_is c q fl rs g hl hu k hk
  rw [h1, isSet_unique h2 (setl_is g hl hu)]
theorem refSettled_eq (fl : List Int) (g : Int) (hl : fl.length ≤ 1000) (h0 : 0 ≤ g) (hg : g < (fl.length : Int)) (hu : ∃ u : Nat, u < fl.length ∧ 0 < rd fl (u : Int)) (k : Nat) (hk : 2 * fl.length + 5 < k) : psalteryref22_Settled.f k fl g = some (setl fl g) := by
  obtain ⟨s, h1, h2⟩ := refSettled_is fl g hl h0 hg hu k hk
  rw [h1, isSet_unique h2 (setl_is g hl hu)]
end Go.Proofs.Ytdajlfijkbafiaa.LW
namespace Go.Proofs.Ytdajlfijkbafiaa.NT
def IsRoot (n s : Int) : Prop := 0 ≤ s ∧ s * s ≤ n ∧ n < (s + 1) * (s + 1)
theorem sq_mono {x y : Int} (h0 : 0 ≤ x) (h : x ≤ y) : x * x ≤ y * y := Int.mul_le_mul h h h0 (by omega)
theorem root_mono {n m s t : Int} (hs : IsRoot n s) (ht : IsRoot m t) (h : n ≤ m) : s ≤ t := by
  apply Decidable.byContradiction; intro hc
  have := sq_mono (x := t + 1) (y := s) (by have := ht.1; omega) (by omega)
  have h1 := hs.2.1; have h2 := ht.2.2; omega
theorem root_unique {n s t : Int} (hs : IsRoot n s) (ht : IsRoot n t) : s = t :=
  Int.le_antisymm (root_mono hs ht (Int.le_refl _)) (root_mono ht hs (Int.le_refl _))
theorem le_div_iff {t n : Int} (h : 0 < t) : t ≤ n / t ↔ t * t ≤ n := by
  rw [Int.le_ediv_iff_mul_le h]
def lg (n : Nat) : Int := if h : n = 0 then -1 else 1 + lg (n / 2)
theorem lg_zero : lg 0 = -1 := by rw [lg]; simp
theorem lg_pos {n : Nat} (h : 0 < n) : lg n = 1 + lg (n / 2) := by rw [lg, dif_neg (by omega)]
theorem lg_mono (n : Nat) : ∀ m, n ≤ m → lg n ≤ lg m := by
  induction n using Nat.strongRecOn with
  | _ n ih =>
    intro m h
    have hm1 : ∀ m : Nat, -1 ≤ lg m := by
      intro m
      induction m using Nat.strongRecOn with
      | _ m ihm =>
        by_cases e : m = 0
        · subst e; rw [lg_zero]; omega
        · rw [lg_pos (by omega)]; have := ihm (m / 2) (by omega); omega
    by_cases e : n = 0
    · subst e; rw [lg_zero]; exact hm1 m
    · rw [lg_pos (by omega), lg_pos (n := m) (by omega)]
      have := ih (n / 2) (by omega) (m / 2) (by omega); omega
theorem lg_lower (n : Nat) : -1 ≤ lg n := by have := lg_mono 0 n (by omega); rwa [lg_zero] at this
def near (a b : Int) : Int := if 0 ≤ a then (2 * a + b) / (2 * b) else -((2 * (-a) + b) / (2 * b))
theorem fl {x y : Int} (h : 0 < y) : y * (x / y) ≤ x ∧ x < y * (x / y) + y := by
  have h1 := Int.mul_ediv_add_emod x y
  have h2 := Int.emod_nonneg x (show y ≠ 0 by omega)
  have h3 := Int.emod_lt_of_pos x h
  omega
theorem near_pos {a b : Int} (hb : 0 < b) (ha : 0 ≤ a) : near a b = if a % b ≥ b - a % b then a / b + 1 else a / b := by
  unfold near; rw [if_pos ha]
  have h1 := Int.mul_ediv_add_emod a b
  have h2 := Int.emod_nonneg a (show b ≠ 0 by omega)
  have h3 := Int.emod_lt_of_pos a hb
  split
  · apply Int.le_antisymm
    · apply Int.le_of_lt_add_one
      apply Int.ediv_lt_of_lt_mul (by omega)
      rw [show (a / b + 1 + 1) * (2 * b) = 2 * (b * (a / b)) + 4 * b by rw [Int.add_mul, Int.add_mul]; rw [show a / b * (2 * b) = 2 * (b * (a / b)) by rw [Int.mul_comm (a / b), Int.mul_assoc]]; omega]
      omega
    · rw [Int.le_ediv_iff_mul_le (by omega)]
      rw [show (a / b + 1) * (2 * b) = 2 * (b * (a / b)) + 2 * b by rw [Int.add_mul]; rw [show a / b * (2 * b) = 2 * (b * (a / b)) by rw [Int.mul_comm (a / b), Int.mul_assoc]]; omega]
      omega
  · apply Int.le_antisymm
    · apply Int.le_of_lt_add_one
      apply Int.ediv_lt_of_lt_mul (by omega)
      rw [show (a / b + 1) * (2 * b) = 2 * (b * (a / b)) + 2 * b by rw [Int.add_mul]; rw [show a / b * (2 * b) = 2 * (b * (a / b)) by rw [Int.mul_comm (a / b), Int.mul_assoc]]; omega]
      omega
    · rw [Int.le_ediv_iff_mul_le (by omega)]
      rw [show a / b * (2 * b) = 2 * (b * (a / b)) by rw [Int.mul_comm (a / b), Int.mul_assoc]]
      omega
theorem near_neg {a b : Int} (ha : a < 0) : near a b = - near (-a) b := by
  unfold near; rw [if_neg (by omega), if_pos (by omega)]
theorem near_bound {a b : Int} (hb : 0 < b) : (0 ≤ a → 0 ≤ near a b ∧ near a b ≤ a) ∧ (a ≤ 0 → near a b ≤ 0 ∧ a ≤ near a b) := by
  have hp : ∀ x : Int, 0 ≤ x → 0 ≤ (2 * x + b) / (2 * b) ∧ (2 * x + b) / (2 * b) ≤ x := by
    intro x hx
    refine ⟨Int.ediv_nonneg (by omega) (by omega), ?_⟩
    apply Int.le_of_lt_add_one
    apply Int.ediv_lt_of_lt_mul (by omega)
    have : x * 1 ≤ x * b := Int.mul_le_mul_of_nonneg_left (by omega) hx
    rw [show (x + 1) * (2 * b) = 2 * (x * b) + 2 * b by rw [Int.add_mul]; rw [show x * (2 * b) = 2 * (x * b) by rw [Int.mul_left_comm]]; omega]
    omega
  unfold near
  constructor
  · intro h; rw [if_pos h]; exact hp a h
  · intro h; split
    · have : a = 0 := by omega
      subst this; have := hp 0 (by omega); omega
    · have := hp (-a) (by omega); omega
end Go.Proofs.Ytdajlfijkbafiaa.NT
namespace Go.Proofs.Ytdajlfijkbafiaa.LB
open Go.RowKit Go.Proofs.YtdajlfijkbafiaaW.PrintWords Go.Proofs.YtdajlfijkbafiaaW.PrintLast Go.Proofs.Ytdajlfijkbafiaa.P Go.Proofs.Ytdajlfijkbafiaa.NT
theorem pow_succ' (m : Nat) : (2 : Int) ^ (m + 1) = 2 * 2 ^ m := by rw [Int.pow_succ, Int.mul_comm]
theorem sqrt_loop (n : Int) (h0 : 0 ≤ n) (hn : n < 18446744073709551616) (m : Nat) : ∀ (k : Nat) (r a : Int), r = a * 2 ^ m → 0 ≤ a → r * r ≤ n → n < (r + 2 ^ m) * (r + 2 ^ m) → r + 2 ^ m ≤ 4294967296 → m < k →
    ∃ s, num_Sqrt.l0 k n r (if m = 0 then 0 else 2 ^ (m - 1)) = some s ∧ IsRoot n s := by
  induction m with
  | zero =>
    intro k r a hr ha h1 h2 h3 hk
    obtain ⟨k, rfl⟩ : ∃ m, k = m + 1 := ⟨k - 1, by omega⟩
    simp only [num_Sqrt.l0]
    exact ⟨r, by rw [if_neg (by simp)], by simp at hr; omega, h1, by simpa using h2⟩
  | succ m ih =>
    intro k r a hr ha h1 h2 h3 hk
    obtain ⟨k, rfl⟩ : ∃ m, k = m + 1 := ⟨k - 1, by omega⟩
    simp only [num_Sqrt.l0]
    have hq : (0 : Int) < 2 ^ m := Int.pow_pos (by omega)
    have hp := pow_succ' m
    rw [hp] at hr h2 h3
    have hr' : r = (2 * a) * 2 ^ m := by rw [hr, Int.mul_left_comm, ← Int.mul_assoc]
    have hr0 : 0 ≤ r := by rw [hr']; exact Int.mul_nonneg (by omega) (by omega)
    have hor : Go.bits .or .u64 r (2 ^ m) = r + 2 ^ m := by
      refine or_join (i := m + 1) hr0 (by omega) ?_ (by omega) (by omega) (by omega)
      rw [hp, hr]; exact Int.mul_emod_left _ _
    rw [if_neg (Nat.succ_ne_zero m), Nat.add_sub_cancel, if_pos hq, hor, if_neg (by omega), tdiv_nn _ h0]
    have hd0 : 0 ≤ n / (r + 2 ^ m) := Int.ediv_nonneg h0 (by omega)
    have hd1 : n / (r + 2 ^ m) ≤ n := Int.ediv_le_self _ h0
    have hbit : (2 : Int) ^ m / 2 = if m = 0 then 0 else 2 ^ (m - 1) := by
      cases m with
      | zero => simp
      | succ m => rw [if_neg (Nat.succ_ne_zero m), pow_succ' m, Nat.add_sub_cancel]; omega
    rw [u64w hd0 (by omega), hbit]
    by_cases hc : r + 2 ^ m ≤ n / (r + 2 ^ m)
    · rw [if_pos hc]
      rw [le_div_iff (by omega)] at hc
      refine ih k (r + 2 ^ m) (2 * a + 1) (by rw [Int.add_mul, ← hr', Int.one_mul]) (by omega) hc ?_ (by omega) (by omega)
      rwa [show r + 2 ^ m + 2 ^ m = r + 2 * 2 ^ m by omega]
    · rw [if_neg hc]
      rw [le_div_iff (by omega)] at hc
      exact ih k r (2 * a) hr' (by omega) h1 (by omega) (by omega) (by omega)
theorem sqrt_eq {n : Int} (h0 : 0 ≤ n) (hn : n < 18446744073709551616) (k : Nat) (hk : 32 < k) : ∃ s, num_Sqrt.f k n = some s ∧ IsRoot n s := by
  have := sqrt_loop n h0 hn 32 k 0 0 (by simp) (by omega) (by omega) (by simp; omega) (by simp) hk
  unfold num_Sqrt.f
  simpa using this
theorem refSqrt_loop (n : Int) (hn : n < 18446744073709551616) (m : Nat) : ∀ (k : Nat) (low high : Int), 0 ≤ low → low < high → high ≤ 4294967296 → low * low ≤ n → n < high * high → high - low ≤ 2 ^ m → m < k →
    ∃ s, psalteryref03_Sqrt.l0 k n low high = some s ∧ IsRoot n s := by
  have stop : ∀ (low high : Int), 0 ≤ low → low < high → ¬ high - low > 1 → low * low ≤ n → n < high * high → IsRoot n low := by
    intro low high h0 h1 h2 h3 h4
    have : high = low + 1 := by omega
    subst this; exact ⟨h0, h3, h4⟩
  induction m with
  | zero =>
    intro k low high h0 h1 h2 h3 h4 h5 hk
    obtain ⟨k, rfl⟩ : ∃ m, k = m + 1 := ⟨k - 1, by omega⟩
    simp only [psalteryref03_Sqrt.l0]
    simp only [Int.pow_zero] at h5
    rw [u64w (x := high - low) (by omega) (by omega), if_neg (by omega)]
    exact ⟨low, rfl, stop low high h0 h1 (by omega) h3 h4⟩
  | succ m ih =>
    intro k low high h0 h1 h2 h3 h4 h5 hk
    obtain ⟨k, rfl⟩ : ∃ m, k = m + 1 := ⟨k - 1, by omega⟩
    simp only [psalteryref03_Sqrt.l0]
    rw [u64w (x := high - low) (by omega) (by omega)]
    by_cases hc : high - low > 1
    · have hp := pow_succ' m
      rw [if_pos hc, u64w (x := low + high) (by omega) (by omega), tdiv_nn 2 (by omega), u64w (x := (low + high) / 2) (by omega) (by omega)]
      have hmm : (low + high) / 2 * ((low + high) / 2) ≤ 4294967295 * 4294967295 := Int.mul_le_mul (by omega) (by omega) (by omega) (by omega)
      have hm0 : 0 ≤ (low + high) / 2 * ((low + high) / 2) := Int.mul_nonneg (by omega) (by omega)
      rw [u64w hm0 (by omega)]
      by_cases hle : (low + high) / 2 * ((low + high) / 2) ≤ n
      · rw [if_pos hle]; exact ih k _ high (by omega) (by omega) h2 hle h4 (by omega) (by omega)
      · rw [if_neg hle]; exact ih k low _ h0 (by omega) (by omega) h3 (by omega) (by omega) (by omega)
    · rw [if_neg hc]; exact ⟨low, rfl, stop low high h0 h1 hc h3 h4⟩
theorem refSqrt_eq {n : Int} (h0 : 0 ≤ n) (hn : n < 18446744073709551616) (k : Nat) (hk : 32 < k) : ∃ s, psalteryref03_Sqrt.f k n = some s ∧ IsRoot n s :=
  refSqrt_loop n hn 32 k 0 4294967296 (by omega) (by omega) (by omega) (by omega) (by omega) (by simp) hk
end Go.Proofs.Ytdajlfijkbafiaa.LB
namespace Go.Proofs.Ytdajlfijkbafiaa.LF
open Go.RowKit Go.Proofs.YtdajlfijkbafiaaW.PrintWords Go.Proofs.YtdajlfijkbafiaaW.PrintLast Go.Proofs.Ytdajlfijkbafiaa.P Go.Proofs.Ytdajlfijkbafiaa.LB Go.Proofs.Ytdajlfijkbafiaa.NT
theorem pow_lt44 {n : Nat} (h : n ≤ 43) : (2 : Int) ^ n ≤ 8796093022208 ∧ (0 : Int) < 2 ^ n := by
  have h1 : (2 : Nat) ^ n ≤ 2 ^ 43 := Nat.pow_le_pow_right (by omega) h
  have h2 : (0 : Nat) < 2 ^ n := Nat.pow_pos (by omega)
  have e : (2 : Int) ^ n = ((2 ^ n : Nat) : Int) := by rw [Int.natCast_pow]; rfl
  rw [e]; omega
theorem root_le {n s : Int} (h : IsRoot n s) : s ≤ n := by
  obtain ⟨h0, h1, _⟩ := h
  by_cases c : s = 0
  · subst c; omega
  · have : s * 1 ≤ s * s := Int.mul_le_mul_of_nonneg_left (by omega) h0
    omega
theorem value_root (g : Int) (h : 1 ≤ g ∧ g ≤ 44) (k : Nat) (hk : 40 < k) : ∃ s, band_Value.f k g = some s ∧ IsRoot (2 ^ (g - 1).toNat) s := by
  have hp := pow_lt44 (n := (g - 1).toNat) (by omega)
  obtain ⟨s, h1, h2⟩ := sqrt_eq (n := 2 ^ (g - 1).toNat) (by omega) (by omega) k (by omega)
  have h3 := root_le h2
  refine ⟨s, ?_, h2⟩
  unfold band_Value.f
  rw [if_neg (by omega), if_neg (by omega), w64 (x := g - 1) (by omega) (by omega), if_pos (by omega)]
  have e : shl .u64 1 (g - 1) = 2 ^ (g - 1).toNat := by
    unfold shl
    rw [Nat.min_eq_left (by simp [IntKind.bits]; omega), Int.one_mul, u64w (by omega) (by omega)]
  rw [e, h1]
  simp only [Option.bind_some]
  rw [w64 (by have := h2.1; omega) (by omega)]
theorem refValue_loop (g : Int) (h : 1 ≤ g ∧ g ≤ 44) (d : Nat) : ∀ (i : Int) (k : Nat), 1 ≤ i → i + d = g → d + 40 < k → psalteryref10_Value.l0 k g (2 ^ (i - 1).toNat) i = psalteryref10_Value.l0 (k - d) g (2 ^ (g - 1).toNat) g := by
  induction d with
  | zero => intro i k h0 h1 hk; rw [show i = g by omega]; rfl
  | succ d ih =>
    intro i k h0 h1 hk
    obtain ⟨k, rfl⟩ : ∃ j, k = j + 1 := ⟨k - 1, by omega⟩
    have hp := pow_lt44 (n := (i - 1).toNat) (by omega)
    have e := ih (i + 1) k (by omega) (by omega) (by omega)
    have e2 : (2 : Int) ^ (i + 1 - 1).toNat = 2 ^ (i - 1).toNat * 2 := by
      rw [show (i + 1 - 1).toNat = (i - 1).toNat + 1 by omega, Int.pow_succ]
    conv => lhs; unfold psalteryref10_Value.l0
    rw [if_pos (by omega), u64w (by omega) (by omega), w64 (by omega) (by omega), ← e2, e, show k + 1 - (d + 1) = k - d by omega]
theorem refValue_root (g : Int) (h : 1 ≤ g ∧ g ≤ 44) (k : Nat) (hk : 100 < k) : ∃ s, psalteryref10_Value.f k g = some s ∧ IsRoot (2 ^ (g - 1).toNat) s := by
  obtain ⟨k, rfl⟩ : ∃ j, k = j + 1 := ⟨k - 1, by omega⟩
  have hp := pow_lt44 (n := (g - 1).toNat) (by omega)
  obtain ⟨m, hm⟩ : ∃ m, k - (g - 1).toNat = m + 1 := ⟨k - (g - 1).toNat - 1, by omega⟩
  obtain ⟨s, h1, h2⟩ := refSqrt_eq (n := 2 ^ (g - 1).toNat) (by omega) (by omega) m (by omega)
  have h3 := root_le h2
  refine ⟨s, ?_, h2⟩
  unfold psalteryref10_Value.f
  rw [if_neg (by omega), decide_eq_false (by omega)]
  simp only [psalteryref10_Value.j0, Bool.false_eq_true, if_false]
  have e := refValue_loop g h (g - 1).toNat 1 k (by omega) (by omega) (by omega)
  rw [show ((1 : Int) - 1).toNat = 0 from rfl, Int.pow_zero, hm] at e
  rw [e]
  simp only [psalteryref10_Value.l0]
  rw [if_neg (by omega), h1]
  simp only [Option.bind_some]
  rw [w64 (by have := h2.1; omega) (by omega)]
def val (g : Int) : Int := (band_Value.f 100 g).getD 0
theorem val_eq (g : Int) (k : Nat) (hk : 40 < k) : band_Value.f k g = some (val g) := by
  unfold val
  by_cases h : 1 ≤ g ∧ g ≤ 44
  · obtain ⟨s, h1, h2⟩ := value_root g h k hk
    obtain ⟨t, h3, h4⟩ := value_root g h 100 (by omega)
    rw [h1, h3, root_unique h2 h4]; rfl
  · unfold band_Value.f
    by_cases c : g < 1
    · rw [if_pos c, if_pos c]; rfl
    · rw [if_neg c, if_neg c, if_pos (by omega), if_pos (by omega)]; rfl
theorem refVal_eq (g : Int) (k : Nat) (hk : 100 < k) : psalteryref10_Value.f k g = some (val g) := by
  by_cases h : 1 ≤ g ∧ g ≤ 44
  · obtain ⟨s, h1, h2⟩ := refValue_root g h k hk
    obtain ⟨t, h3, h4⟩ := value_root g h 101 (by omega)
    rw [val_eq g 101 (by omega)] at h3
    rw [h1, Option.some.inj h3, root_unique h2 h4]
  · have e := val_eq g 100 (by omega)
    have z : band_Value.f 100 g = some 0 := by
      unfold band_Value.f
      by_cases c : g < 1
      · rw [if_pos c]
      · rw [if_neg c, if_pos (by omega)]
    rw [z] at e
    obtain ⟨k, rfl⟩ : ∃ j, k = j + 1 := ⟨k - 1, by omega⟩
    rw [← e]
    unfold psalteryref10_Value.f
    simp only [psalteryref10_Value.j0, if_true]
    by_cases c : g < 1
    · rw [if_pos c]
    · rw [if_neg c, decide_eq_true (by omega), if_pos rfl]
theorem val_zero (g : Int) (h : g < 1) : val g = 0 := by unfold val band_Value.f; rw [if_pos h]; rfl
theorem val_nonneg (g : Int) : 0 ≤ val g := by
  by_cases h : 1 ≤ g ∧ g ≤ 44
  · obtain ⟨t, h3, h4⟩ := value_root g h 101 (by omega)
    rw [val_eq g 101 (by omega)] at h3
    rw [Option.some.inj h3]; exact h4.1
  · unfold val band_Value.f
    by_cases c : g < 1
    · rw [if_pos c]; exact Int.le_refl _
    · rw [if_neg c, if_pos (by omega)]; exact Int.le_refl _
theorem val_mono {g h : Int} (h0 : g ≤ h) (h1 : h ≤ 44) : val g ≤ val h := by
  by_cases c : g < 1
  · rw [val_zero g c]; exact val_nonneg h
  obtain ⟨s, a1, a2⟩ := value_root g (by omega) 101 (by omega)
  obtain ⟨t, b1, b2⟩ := value_root h (by omega) 101 (by omega)
  rw [val_eq g 101 (by omega)] at a1
  rw [val_eq h 101 (by omega)] at b1
  rw [Option.some.inj a1, Option.some.inj b1]
  refine root_mono a2 b2 ?_
  have : (2 : Nat) ^ (g - 1).toNat ≤ 2 ^ (h - 1).toNat := Nat.pow_le_pow_right (by omega) (by omega)
  have e : ∀ n : Nat, (2 : Int) ^ n = ((2 ^ n : Nat) : Int) := fun n => by rw [Int.natCast_pow]; rfl
  rw [e, e]; omega
end Go.Proofs.Ytdajlfijkbafiaa.LF
namespace Go.Proofs.Ytdajlfijkbafiaa.LB
open Go.RowKit Go.Proofs.YtdajlfijkbafiaaW.PrintWords Go.Proofs.YtdajlfijkbafiaaW.PrintLast Go.Proofs.Ytdajlfijkbafiaa.P Go.Proofs.Ytdajlfijkbafiaa.NT
theorem log_loop (m : Nat) : ∀ (k : Nat) (n c : Int), 0 ≤ n → n < 2 ^ m → -1 ≤ c → c + m ≤ 1000 → m < k → num_Log2.l0 k n c = some (c + 1 + lg n.toNat) := by
  induction m with
  | zero =>
    intro k n c h0 h1 h2 h3 hk
    obtain ⟨k, rfl⟩ : ∃ m, k = m + 1 := ⟨k - 1, by omega⟩
    simp only [num_Log2.l0]
    simp only [Int.pow_zero] at h1
    rw [if_neg (by omega), show n.toNat = 0 by omega, lg_zero]; congr 1; omega
  | succ m ih =>
    intro k n c h0 h1 h2 h3 hk
    obtain ⟨k, rfl⟩ : ∃ m, k = m + 1 := ⟨k - 1, by omega⟩
    simp only [num_Log2.l0]
    rw [pow_succ'] at h1
    by_cases h : n > 0
    · rw [if_pos h, w64 (by omega) (by omega), ih k (n / 2) (c + 1) (by omega) (by omega) (by omega) (by omega) (by omega), lg_pos (n := n.toNat) (by omega), show (n / 2).toNat = n.toNat / 2 by omega]
      congr 1; omega
    · rw [if_neg h, show n.toNat = 0 by omega, lg_zero]; congr 1; omega
theorem log_eq {n : Int} (h0 : 0 ≤ n) (hn : n < 18446744073709551616) (k : Nat) (hk : 64 < k) : num_Log2.f k n = some (lg n.toNat) := by
  unfold num_Log2.f
  rw [log_loop 64 k n (-1) h0 (by simpa using hn) (by omega) (by omega) hk]; congr 1; omega
theorem lg_upper (m : Nat) : ∀ n : Nat, n < 2 ^ m → lg n < m := by
  induction m with
  | zero => intro n h; simp at h; subst h; rw [lg_zero]; omega
  | succ m ih =>
    intro n h
    by_cases e : n = 0
    · subst e; rw [lg_zero]; omega
    · rw [lg_pos (by omega)]; rw [Nat.pow_succ] at h; have := ih (n / 2) (by omega); omega
end Go.Proofs.Ytdajlfijkbafiaa.LB
namespace Go.Proofs.Ytdajlfijkbafiaa.LQ
open Go.RowKit Go.Proofs.YtdajlfijkbafiaaW.PrintWords Go.Proofs.YtdajlfijkbafiaaW.PrintLast Go.Proofs.YtdajlfijkbafiaaW.PrintMore Go.Proofs.Ytdajlfijkbafiaa.P Go.Proofs.Ytdajlfijkbafiaa.LB Go.Proofs.Ytdajlfijkbafiaa.NT Go.Proofs.Ytdajlfijkbafiaa.LF
theorem rd_mid (l r : List Int) (x : Int) : rd (l ++ x :: r) (l.length : Int) = x := by simp [rd]
def inc : List Int → Bool
  | [] => true
  | v :: l => decide (-1048576 ≤ v ∧ v ≤ 1048576) && inc l
theorem inc_mem : ∀ {l : List Int}, inc l = true → ∀ x ∈ l, -1048576 ≤ x ∧ x ≤ 1048576
  | [], _, x, hx => by cases hx
  | v :: l, h, x, hx => by
    simp only [inc, Bool.and_eq_true, decide_eq_true_eq] at h
    rcases List.mem_cons.1 hx with rfl | hx
    · exact h.1
    · exact inc_mem h.2 x hx
theorem inc_of : ∀ {l : List Int}, (∀ x ∈ l, -1048576 ≤ x ∧ x ≤ 1048576) → inc l = true
  | [], _ => rfl
  | v :: l, h => by
    simp only [inc, Bool.and_eq_true, decide_eq_true_eq]
    exact ⟨h v (List.mem_cons_self ..), inc_of fun x hx => h x (List.mem_cons_of_mem _ hx)⟩
def fairL (l : List Int) : Bool := inc l && decide (1 ≤ l.length ∧ l.length ≤ 16)
def sq : List Int → Int
  | [] => 0
  | v :: l => v * v + sq l
theorem sq_one {v : Int} (h : -1048576 ≤ v ∧ v ≤ 1048576) : 0 ≤ v * v ∧ v * v ≤ 1099511627776 := by
  constructor
  · rcases Int.le_total 0 v with c | c
    · exact Int.mul_nonneg c c
    · rw [← Int.neg_mul_neg]; exact Int.mul_nonneg (by omega) (by omega)
  · rcases Int.le_total 0 v with c | c
    · have := sq_mono (x := v) (y := 1048576) c h.2; omega
    · have := sq_mono (x := -v) (y := 1048576) (by omega) (by omega); rw [Int.neg_mul_neg] at this; omega
theorem sq_bound : ∀ {l : List Int}, inc l = true → 0 ≤ sq l ∧ sq l ≤ 1099511627776 * (l.length : Int)
  | [], _ => ⟨Int.le_refl _, Int.le_refl _⟩
  | v :: l, h => by
    simp only [inc, Bool.and_eq_true, decide_eq_true_eq] at h
    have h1 := sq_one h.1
    have h2 := sq_bound h.2
    simp only [sq, List.length_cons]; omega
theorem fair_loop (whole : List Int) : ∀ (s p : List Int) (k : Nat), p.length + s.length ≤ maxLen → s.length < k →
    pvq_fair.l0 k whole (p ++ s) ((p ++ s).length : Int) (p.length : Int) = some (inc s && decide (1 ≤ whole.length ∧ whole.length ≤ 16))
  | [], p, k, hn, hk => by
    obtain ⟨k, rfl⟩ : ∃ j, k = j + 1 := ⟨k - 1, by omega⟩
    simp only [pvq_fair.l0, List.append_nil, inc, Bool.true_and]
    rw [if_neg (by omega)]
    by_cases c : 1 ≤ whole.length
    · rw [if_pos (by omega)]; congr 1; rw [decide_eq_decide]; omega
    · rw [if_neg (by omega), decide_eq_false (by omega)]
  | v :: s, p, k, hn, hk => by
    have hM : (maxLen : Int) = 9223372036854775807 := rfl
    obtain ⟨k, rfl⟩ : ∃ j, k = j + 1 := ⟨k - 1, by omega⟩
    simp only [List.length_cons] at hn hk
    have hlen : ((p ++ v :: s).length : Int) = p.length + s.length + 1 := by simp only [List.length_append, List.length_cons]; omega
    simp only [pvq_fair.l0]
    rw [if_pos (by omega), if_pos (by omega), if_pos (by omega), rd_mid]
    unfold num_Clamp.f
    by_cases c : -1048576 ≤ v ∧ v ≤ 1048576
    · rw [if_neg (by omega), if_neg (by omega), show inc (v :: s) = inc s by simp only [inc, decide_eq_true c, Bool.true_and]]
      simp only [Option.bind_some, if_true]
      rw [w64 (by omega) (by omega)]
      have ih := fair_loop whole s (p ++ [v]) k (by simp only [List.length_append, List.length_cons, List.length_nil]; omega) (by omega)
      simp only [List.append_assoc, List.singleton_append] at ih
      rw [show (((p ++ [v]).length : Nat) : Int) = (p.length : Int) + 1 by simp only [List.length_append, List.length_cons, List.length_nil]; omega] at ih
      exact ih
    · rw [show inc (v :: s) = false by simp only [inc, decide_eq_false c, Bool.false_and], Bool.false_and]
      by_cases c1 : v < -1048576
      · rw [if_pos c1]; simp only [Option.bind_some]; rw [if_neg (by omega)]
      · rw [if_neg c1, if_pos (by omega)]; simp only [Option.bind_some]; rw [if_neg (by omega)]
theorem fair_eq (l : List Int) (hl : l.length ≤ maxLen) (k : Nat) (hk : l.length < k) : pvq_fair.f k l = some (fairL l) := by
  unfold pvq_fair.f
  have := fair_loop l l [] k (by simpa using hl) hk
  simp only [List.nil_append, List.length_nil] at this
  rw [show ((0 : Nat) : Int) = 0 from rfl] at this
  exact this
theorem square_loop : ∀ (s p : List Int) (a : Int) (k : Nat), inc s = true → p.length + s.length ≤ 16 → 0 ≤ a → a ≤ 1099511627776 * (p.length : Int) → s.length < k →
    pvq_Square.l0 k a (p ++ s) ((p ++ s).length : Int) (p.length : Int) = some (a + sq s, 0)
  | [], p, a, k, hc, hn, h0, h1, hk => by
    obtain ⟨k, rfl⟩ : ∃ j, k = j + 1 := ⟨k - 1, by omega⟩
    simp only [pvq_Square.l0, List.append_nil, sq]
    rw [if_neg (by omega), Int.add_zero]
  | v :: s, p, a, k, hc, hn, h0, h1, hk => by
    obtain ⟨k, rfl⟩ : ∃ j, k = j + 1 := ⟨k - 1, by omega⟩
    simp only [List.length_cons] at hn hk
    simp only [inc, Bool.and_eq_true, decide_eq_true_eq] at hc
    have hv := sq_one hc.1
    have hlen : ((p ++ v :: s).length : Int) = p.length + s.length + 1 := by simp only [List.length_append, List.length_cons]; omega
    simp only [pvq_Square.l0]
    rw [if_pos (by omega), if_pos (by omega), if_pos (by omega), rd_mid, w64 (x := v * v) (by omega) (by omega), u64w (x := v * v) (by omega) (by omega), u64w (by omega) (by omega), w64 (by omega) (by omega)]
    have ih := square_loop s (p ++ [v]) (a + v * v) k hc.2 (by simp only [List.length_append, List.length_cons, List.length_nil]; omega) (by omega) (by simp only [List.length_append, List.length_cons, List.length_nil]; omega) (by omega)
    simp only [List.append_assoc, List.singleton_append] at ih
    rw [show (((p ++ [v]).length : Nat) : Int) = (p.length : Int) + 1 by simp only [List.length_append, List.length_cons, List.length_nil]; omega] at ih
    rw [ih, sq, Int.add_assoc]
theorem square_eq (l : List Int) (hl : l.length ≤ maxLen) (k : Nat) (hk : l.length < k) : pvq_Square.f k l = some (if fairL l = true then (sq l, 0) else (0, 1)) := by
  unfold pvq_Square.f
  rw [fair_eq l hl k hk]
  simp only [Option.bind_some]
  by_cases c : fairL l = true
  · rw [if_pos c, if_pos c]
    have c' := c
    simp only [fairL, Bool.and_eq_true, decide_eq_true_eq] at c'
    have := square_loop l [] 0 k c'.1 (by simp only [List.length_nil]; omega) (Int.le_refl _) (by simp) hk
    simp only [List.nil_append, List.length_nil, Int.zero_add] at this
    rw [show ((0 : Nat) : Int) = 0 from rfl] at this
    exact this
  · rw [if_neg c, if_neg c]
theorem refFair_loop : ∀ (s p : List Int) (ok : Bool) (k : Nat), p.length + s.length ≤ maxLen → s.length < k →
    psalteryref07_Fair.l0 k (p ++ s) ok (p.length : Int) = some (ok && inc s)
  | [], p, ok, k, hn, hk => by
    obtain ⟨k, rfl⟩ : ∃ j, k = j + 1 := ⟨k - 1, by omega⟩
    simp only [psalteryref07_Fair.l0, List.append_nil, inc, Bool.and_true]
    rw [if_neg (by omega)]
  | v :: s, p, ok, k, hn, hk => by
    have hM : (maxLen : Int) = 9223372036854775807 := rfl
    obtain ⟨k, rfl⟩ : ∃ j, k = j + 1 := ⟨k - 1, by omega⟩
    simp only [List.length_cons] at hn hk
    have hlen : ((p ++ v :: s).length : Int) = p.length + s.length + 1 := by simp only [List.length_append, List.length_cons]; omega
    have ih := fun ok => refFair_loop s (p ++ [v]) ok k (by simp only [List.length_append, List.length_cons, List.length_nil]; omega) (by omega)
    simp only [List.append_assoc, List.singleton_append] at ih
    rw [show (((p ++ [v]).length : Nat) : Int) = (p.length : Int) + 1 by simp only [List.length_append, List.length_cons, List.length_nil]; omega] at ih
    simp only [psalteryref07_Fair.l0]
    rw [if_pos (by omega), w64 (by omega) (by omega), rd_mid, ih, ih]
    cases ok
    · rw [if_neg (by simp)]; simp
    · rw [if_pos rfl, if_pos (by omega)]
      by_cases c1 : v ≥ -1048576
      · rw [if_pos c1]
        congr 1
        simp only [inc, Bool.true_and]
        by_cases c2 : v ≤ 1048576
        · rw [decide_eq_true c2, decide_eq_true (by omega)]
        · rw [decide_eq_false c2, decide_eq_false (by omega)]
      · rw [if_neg c1]; simp only [inc]; rw [decide_eq_false (by omega)]; rfl
theorem refFair_eq (l : List Int) (hl : l.length ≤ maxLen) (k : Nat) (hk : l.length + 1 < k) : psalteryref07_Fair.f k l = some (fairL l) := by
  obtain ⟨k, rfl⟩ : ∃ j, k = j + 1 := ⟨k - 1, by omega⟩
  unfold psalteryref07_Fair.f fairL
  have := fun ok => refFair_loop l [] ok k (by simpa using hl) (by omega)
  simp only [List.nil_append, List.length_nil] at this
  rw [show ((0 : Nat) : Int) = 0 from rfl] at this
  simp only [psalteryref07_Fair.j0]
  rw [this, this, Bool.and_comm (inc l)]
  by_cases c : l.length > 0
  · rw [if_pos (by omega)]; congr 2; rw [decide_eq_decide]; omega
  · rw [if_neg (by omega), decide_eq_false (by omega)]
theorem refSize (v : Int) (h : -1048576 ≤ v ∧ v ≤ 1048576) : ∃ n, psalteryref07_size.f v = some n ∧ 0 ≤ n ∧ n * n = v * v ∧ n ≤ 1048576 := by
  unfold psalteryref07_size.f
  by_cases c : v < 0
  · rw [if_pos c, w64 (by omega) (by omega)]; exact ⟨_, rfl, by omega, Int.neg_mul_neg _ _, by omega⟩
  · rw [if_neg c]; exact ⟨_, rfl, by omega, rfl, h.2⟩
theorem refSquare_loop : ∀ (s p : List Int) (a : Int) (k : Nat), inc s = true → p.length + s.length ≤ 16 → 0 ≤ a → a ≤ 1099511627776 * (p.length : Int) → s.length < k →
    psalteryref07_Square.l0 k (p ++ s) a (p.length : Int) = some (a + sq s)
  | [], p, a, k, hc, hn, h0, h1, hk => by
    obtain ⟨k, rfl⟩ : ∃ j, k = j + 1 := ⟨k - 1, by omega⟩
    simp only [psalteryref07_Square.l0, List.append_nil, sq]
    rw [if_neg (by omega), Int.add_zero]
  | v :: s, p, a, k, hc, hn, h0, h1, hk => by
    obtain ⟨k, rfl⟩ : ∃ j, k = j + 1 := ⟨k - 1, by omega⟩
    simp only [List.length_cons] at hn hk
    simp only [inc, Bool.and_eq_true, decide_eq_true_eq] at hc
    have hv := sq_one hc.1
    obtain ⟨n, hn1, hn2, hn3, hn4⟩ := refSize v hc.1
    have hlen : ((p ++ v :: s).length : Int) = p.length + s.length + 1 := by simp only [List.length_append, List.length_cons]; omega
    simp only [psalteryref07_Square.l0]
    rw [if_pos (by omega), if_pos (by omega), rd_mid, hn1]
    simp only [Option.bind_some]
    rw [u64w (x := n) (by omega) (by omega), hn3, u64w (x := v * v) (by omega) (by omega), u64w (by omega) (by omega), w64 (by omega) (by omega)]
    have ih := refSquare_loop s (p ++ [v]) (a + v * v) k hc.2 (by simp only [List.length_append, List.length_cons, List.length_nil]; omega) (by omega) (by simp only [List.length_append, List.length_cons, List.length_nil]; omega) (by omega)
    simp only [List.append_assoc, List.singleton_append] at ih
    rw [show (((p ++ [v]).length : Nat) : Int) = (p.length : Int) + 1 by simp only [List.length_append, List.length_cons, List.length_nil]; omega] at ih
    rw [ih, sq, Int.add_assoc]
theorem refSquare_eq (l : List Int) (h : inc l = true) (hl : l.length ≤ 16) (k : Nat) (hk : 16 < k) : psalteryref07_Square.f k l = some (sq l) := by
  unfold psalteryref07_Square.f
  have := refSquare_loop l [] 0 k h (by simp only [List.length_nil]; omega) (Int.le_refl _) (by simp) (by omega)
  simp only [List.nil_append, List.length_nil, Int.zero_add] at this
  rw [show ((0 : Nat) : Int) = 0 from rfl] at this
  exact this
def gn (l : List Int) : Int := lg (sq l).toNat + 1
theorem gn_bound (l : List Int) (h : inc l = true) (hl : l.length ≤ 8) : 0 ≤ gn l ∧ gn l ≤ 44 := by
  have h1 := sq_bound h
  have h2 := lg_lower (sq l).toNat
  have h3 := lg_upper 44 (sq l).toNat (by have : (2 : Nat) ^ 44 = 17592186044416 := by decide
                                          omega)
  unfold gn; omega
theorem gain_eq (l : List Int) (hl : l.length ≤ maxLen) (k : Nat) (hk : l.length + 100 < k) : band_Gain.f k l = some (if fairL l = true ∧ l.length ≤ 8 then (gn l, 0) else (0, 1)) := by
  unfold band_Gain.f
  rw [square_eq l hl k (by omega)]
  simp only [Option.bind_some]
  by_cases c : fairL l = true
  · rw [if_pos c]
    simp only [if_true]
    by_cases c1 : l.length ≤ 8
    · rw [if_neg (by omega), if_pos ⟨c, c1⟩]
      have c' := c
      simp only [fairL, Bool.and_eq_true, decide_eq_true_eq] at c'
      have hb := sq_bound c'.1
      have hg := gn_bound l c'.1 c1
      unfold band_gain.f
      rw [log_eq hb.1 (by omega) k (by omega)]
      simp only [Option.bind_some]
      unfold gn at hg ⊢
      rw [w64 (by omega) (by omega)]
    · rw [if_pos (by omega), if_neg (fun h => c1 h.2)]
  · rw [if_neg c]
    rw [if_neg (show ¬ ((0 : Int), (1 : Int)).2 = 0 by decide), if_neg (fun h => c h.1)]
theorem refGain_loop (m : Nat) : ∀ (k : Nat) (n c : Int), 0 ≤ n → n < 2 ^ m → 0 ≤ c → c + m ≤ 1000 → m ≤ 64 → m < k → psalteryref10_Gain.l0 k n c = some (c + 1 + lg n.toNat) := by
  induction m with
  | zero =>
    intro k n c h0 h1 h2 h3 hm hk
    obtain ⟨k, rfl⟩ : ∃ m, k = m + 1 := ⟨k - 1, by omega⟩
    simp only [psalteryref10_Gain.l0]
    simp only [Int.pow_zero] at h1
    rw [if_neg (by omega), show n.toNat = 0 by omega, lg_zero]; congr 1; omega
  | succ m ih =>
    intro k n c h0 h1 h2 h3 hm hk
    obtain ⟨k, rfl⟩ : ∃ m, k = m + 1 := ⟨k - 1, by omega⟩
    have hb : (2 : Int) ^ (m + 1) ≤ 18446744073709551616 := by
      have : (2 : Nat) ^ (m + 1) ≤ 2 ^ 64 := Nat.pow_le_pow_right (by omega) hm
      have := Int.ofNat_le.2 this; simpa using this
    simp only [psalteryref10_Gain.l0]
    by_cases h : n > 0
    · rw [if_pos h, tdiv_nn 2 h0, u64w (by omega) (by omega), w64 (by omega) (by omega), ih k (n / 2) (c + 1) (by omega) (by rw [pow_succ'] at h1; omega) (by omega) (by omega) (by omega) (by omega), lg_pos (n := n.toNat) (by omega), show (n / 2).toNat = n.toNat / 2 by omega]
      congr 1; omega
    · rw [if_neg h, show n.toNat = 0 by omega, lg_zero]; congr 1; omega
theorem refGain_eq (l : List Int) (h : inc l = true) (hl : l.length ≤ 16) (k : Nat) (hk : 100 < k) : psalteryref10_Gain.f k l = some (gn l) := by
  unfold psalteryref10_Gain.f
  have hb := sq_bound h
  rw [refSquare_eq l h hl k (by omega)]
  simp only [Option.bind_some]
  have e : (2 : Int) ^ 50 = 1125899906842624 := by decide
  rw [refGain_loop 50 k (sq l) 0 hb.1 (by omega) (Int.le_refl _) (by omega) (by omega) (by omega)]
  unfold gn; congr 1; omega
def frm (b : Int) : Int := if b = 1 then 1 else if b = 2 then 2 else if b = 3 then 4 else if b = 4 then 8 else 0
def wid (b : Int) : Int := if b = 0 then 1 else if b = 1 then 1 else if b = 2 then 2 else if b = 3 then 4 else if b = 4 then 8 else 0
theorem refFrom_eq (b : Int) : psalteryref10_From.f b = some (frm b) := by
  unfold psalteryref10_From.f frm; repeat' split
  all_goals first | rfl | omega
theorem refWidth_eq (b : Int) (k : Nat) (hk : 0 < k) : psalteryref10_Width.f k b = some (wid b) := by
  obtain ⟨k, rfl⟩ : ∃ j, k = j + 1 := ⟨k - 1, by omega⟩
  unfold psalteryref10_Width.f wid
  simp only [psalteryref10_Width.j0]
  by_cases h0 : b = 0
  · subst h0; rfl
  by_cases h1 : b = 1
  · subst h1; rfl
  rw [if_neg h0, if_neg h0, if_neg h1, if_neg (by simpa using h1)]
  repeat' split
  all_goals first | rfl | omega
theorem there_eq (b : Int) : band_there.f b = some (decide (0 ≤ b ∧ b < 5)) := by
  unfold band_there.f
  by_cases c : b ≥ 0
  · rw [if_pos c]; congr 1; rw [decide_eq_decide]; omega
  · rw [if_neg c]; congr 1; rw [decide_eq_false (by omega)]
theorem from_eq (b : Int) : band_From.f b = some (frm b) := by
  by_cases c : 0 ≤ b ∧ b < 5
  · have : b = 0 ∨ b = 1 ∨ b = 2 ∨ b = 3 ∨ b = 4 := by omega
    rcases this with rfl | rfl | rfl | rfl | rfl <;> decide +kernel
  · unfold band_From.f frm
    rw [there_eq, decide_eq_false c]
    simp only [Option.bind_some]
    rw [if_neg (by simp), if_neg (by omega), if_neg (by omega), if_neg (by omega), if_neg (by omega)]
theorem width_eq (b : Int) : band_Width.f b = some (wid b) := by
  by_cases c : 0 ≤ b ∧ b < 5
  · have : b = 0 ∨ b = 1 ∨ b = 2 ∨ b = 3 ∨ b = 4 := by omega
    rcases this with rfl | rfl | rfl | rfl | rfl <;> decide +kernel
  · unfold band_Width.f wid
    rw [there_eq, decide_eq_false c]
    simp only [Option.bind_some]
    rw [if_neg (by simp), if_neg (by omega), if_neg (by omega), if_neg (by omega), if_neg (by omega), if_neg (by omega)]
end Go.Proofs.Ytdajlfijkbafiaa.LQ
namespace Go.Proofs.Ytdajlfijkbafiaa.LQ
open Go.RowKit Go.Proofs.YtdajlfijkbafiaaW.PrintWords Go.Proofs.YtdajlfijkbafiaaW.PrintLast Go.Proofs.YtdajlfijkbafiaaW.PrintMore Go.Proofs.Ytdajlfijkbafiaa.P Go.Proofs.Ytdajlfijkbafiaa.LB Go.Proofs.Ytdajlfijkbafiaa.LF
def fN (b : Nat) : Nat := if b = 0 then 0 else if b = 1 then 1 else if b = 2 then 2 else if b = 3 then 4 else 8
def wN (b : Nat) : Nat := if b = 0 then 1 else if b = 1 then 1 else if b = 2 then 2 else if b = 3 then 4 else 8
def bnd (l : List Int) (b : Nat) : List Int := (l.drop (fN b)).take (wN b)
theorem fw_facts (b : Nat) (h : b < 5) : frm (b : Int) = (fN b : Int) ∧ wid (b : Int) = (wN b : Int) ∧ fN b + wN b ≤ 16 ∧ 1 ≤ wN b ∧ wN b ≤ 8 := by
  have : b = 0 ∨ b = 1 ∨ b = 2 ∨ b = 3 ∨ b = 4 := by omega
  rcases this with rfl | rfl | rfl | rfl | rfl <;> decide
theorem bnd_length (l : List Int) (hl : l.length = 16) (b : Nat) (h : b < 5) : (bnd l b).length = wN b := by
  have := fw_facts b h
  unfold bnd; rw [List.length_take, List.length_drop]; omega
theorem bnd_inc {l : List Int} (h : inc l = true) (b : Nat) : inc (bnd l b) = true :=
  inc_of fun x hx => inc_mem h x (List.mem_of_mem_drop (List.mem_of_mem_take hx))
theorem split_step (l : List Int) (hl : l.length = 16) (b : Nat) (h : b < 5) (acc : List (List Int)) (ha : acc.length ≤ 10) (k : Nat) :
    band_Split.l0 (k + 1) l acc (b : Int) = band_Split.l0 k l (acc ++ [bnd l b]) ((b + 1 : Nat) : Int) := by
  obtain ⟨e1, e2, e3, e4, e5⟩ := fw_facts b h
  conv => lhs; unfold band_Split.l0
  rw [if_pos (by omega), from_eq, width_eq]
  simp only [Option.bind_some]
  rw [e1, e2, w64 (x := (fN b : Int) + (wN b : Int)) (by omega) (by omega), if_pos (by omega), if_pos (by omega), if_pos (by omega), if_pos (by omega), w64 (by omega) (by omega), show (b : Int) + 1 = ((b + 1 : Nat) : Int) by omega]
  congr 2
  unfold bnd
  rw [show ((fN b : Int) + (wN b : Int)).toNat = fN b + wN b by omega, Int.toNat_natCast, List.drop_take, show fN b + wN b - fN b = wN b by omega]
def bands (l : List Int) : List (List Int) := [bnd l 0, bnd l 1, bnd l 2, bnd l 3, bnd l 4]
theorem split_all (l : List Int) (hl : l.length = 16) (k : Nat) : band_Split.l0 (k + 6) l [] 0 = some (bands l, 0) := by
  have s0 := split_step l hl 0 (by omega) [] (by simp) (k + 5)
  have s1 := split_step l hl 1 (by omega) [bnd l 0] (by simp) (k + 4)
  have s2 := split_step l hl 2 (by omega) [bnd l 0, bnd l 1] (by simp) (k + 3)
  have s3 := split_step l hl 3 (by omega) [bnd l 0, bnd l 1, bnd l 2] (by simp) (k + 2)
  have s4 := split_step l hl 4 (by omega) [bnd l 0, bnd l 1, bnd l 2, bnd l 3] (by simp) (k + 1)
  simp only [List.nil_append, List.cons_append] at s0 s1 s2 s3 s4
  refine s0.trans (s1.trans (s2.trans (s3.trans (s4.trans ?_))))
  simp only [band_Split.l0]
  rw [if_neg (by omega)]; rfl
theorem split_eq (l : List Int) (hl : l.length ≤ maxLen) (hm : l.length * 8 ≤ 140737488351232) (k : Nat) (hk : l.length + 100 < k) : band_Split.f k l = some (if fairL l = true ∧ l.length = 16 then (bands l, 0) else ([], 1)) := by
  obtain ⟨k, rfl⟩ : ∃ j, k = j + 7 := ⟨k - 7, by omega⟩
  unfold band_Split.f
  rw [square_eq l hl (k + 7) (by omega)]
  simp only [Option.bind_some]
  have bad : band_Split.j0 (k + 7) l true = some ([], 1) := by simp only [band_Split.j0, if_true]
  by_cases c : fairL l = true
  · rw [if_pos c]
    simp only [if_true]
    by_cases c1 : l.length = 16
    · rw [if_pos ⟨c, c1⟩, show ((l.length : Int) != 16) = false by rw [c1]; rfl]
      simp only [band_Split.j0, Bool.false_eq_true, if_false, Option.bind_some, List.nil_append, List.length_nil]
      rw [if_pos (by omega)]
      exact split_all l c1 k
    · rw [if_neg (fun h => c1 h.2), show ((l.length : Int) != 16) = true by rw [bne_iff_ne]; omega]; exact bad
  · rw [if_neg c, if_neg (show ¬ ((0 : Int), (1 : Int)).2 = 0 by decide), if_neg (fun h => c h.1)]; exact bad
def gns (l : List Int) : List Int := [gn (bnd l 0), gn (bnd l 1), gn (bnd l 2), gn (bnd l 3), gn (bnd l 4)]
theorem gain_band {l : List Int} (h : inc l = true) (hl : l.length = 16) (b : Nat) (hb : b < 5) (k : Nat) (hk : 200 < k) : band_Gain.f k (bnd l b) = some (gn (bnd l b), 0) := by
  obtain ⟨e1, e2, e3, e4, e5⟩ := fw_facts b hb
  have e6 := bnd_length l hl b hb
  rw [gain_eq _ (by rw [e6]; unfold maxLen; omega) k (by omega), if_pos ⟨by simp only [fairL, Bool.and_eq_true, decide_eq_true_eq]; exact ⟨bnd_inc h b, by omega⟩, by omega⟩]
theorem gains_step {l : List Int} (h : inc l = true) (hl : l.length = 16) (b : Nat) (hb : b < 5) (acc : List Int) (ha : acc.length ≤ 10) (k : Nat) (hk : 200 < k) :
    band_Gains.l0 (k + 1) acc (bands l) 5 (b : Int) = band_Gains.l0 k (acc ++ [gn (bnd l b)]) (bands l) 5 ((b + 1 : Nat) : Int) := by
  conv => lhs; unfold band_Gains.l0
  have e : rd_L2 (bands l) (b : Int) = bnd l b := by
    have : b = 0 ∨ b = 1 ∨ b = 2 ∨ b = 3 ∨ b = 4 := by omega
    rcases this with rfl | rfl | rfl | rfl | rfl <;> rfl
  rw [if_pos (by omega), if_pos (by omega), if_pos (by simp only [bands, List.length_cons, List.length_nil]; omega), e, gain_band h hl b hb k hk]
  simp only [Option.bind_some]
  rw [if_pos (by omega), w64 (by omega) (by omega), show (b : Int) + 1 = ((b + 1 : Nat) : Int) by omega]
theorem gains_all {l : List Int} (h : inc l = true) (hl : l.length = 16) (k : Nat) (hk : 200 < k) : band_Gains.l0 (k + 6) [] (bands l) 5 0 = some (gns l, 0) := by
  have s0 := gains_step h hl 0 (by omega) [] (by simp) (k + 5) (by omega)
  have s1 := gains_step h hl 1 (by omega) [gn (bnd l 0)] (by simp) (k + 4) (by omega)
  have s2 := gains_step h hl 2 (by omega) [gn (bnd l 0), gn (bnd l 1)] (by simp) (k + 3) (by omega)
  have s3 := gains_step h hl 3 (by omega) [gn (bnd l 0), gn (bnd l 1), gn (bnd l 2)] (by simp) (k + 2) (by omega)
  have s4 := gains_step h hl 4 (by omega) [gn (bnd l 0), gn (bnd l 1), gn (bnd l 2), gn (bnd l 3)] (by simp) (k + 1) (by omega)
  simp only [List.nil_append, List.cons_append] at s0 s1 s2 s3 s4
  refine s0.trans (s1.trans (s2.trans (s3.trans (s4.trans ?_))))
  simp only [band_Gains.l0]
  rw [if_neg (by omega)]; rfl
theorem gains_pos {l : List Int} (h : inc l = true) (hl : l.length = 16) (k : Nat) (hk : 400 < k) (e : band_Split.f (k + 6) l = some (bands l, 0)) : band_Gains.f (k + 6) l = some (gns l, 0) := by
  unfold band_Gains.f
  rw [e, Option.bind_some]
  generalize hb : bands l = bl
  have h5 : (bl.length : Int) = 5 := by rw [← hb]; rfl
  show (if (0 : Int) = 0 then band_Gains.l0 (k + 6) [] bl (bl.length : Int) 0 else _) = _
  rw [if_pos rfl, h5, ← hb]
  exact gains_all h hl k (by omega)
theorem gains_neg {l : List Int} (k : Nat) (e : band_Split.f k l = some ([], 1)) : band_Gains.f k l = some ([], 1) := by
  unfold band_Gains.f
  rw [e, Option.bind_some]
  rw [if_neg (show ¬ (([] : List (List Int)), (1 : Int)).2 = 0 by decide)]
theorem gains_eq (l : List Int) (hl : l.length ≤ maxLen) (hm : l.length * 8 ≤ 140737488351232) (k : Nat) (hk : l.length + 500 < k) : band_Gains.f k l = some (if fairL l = true ∧ l.length = 16 then (gns l, 0) else ([], 1)) := by
  have e := split_eq l hl hm k (by omega)
  by_cases c : fairL l = true ∧ l.length = 16
  · rw [if_pos c] at e ⊢
    have c' := c.1
    simp only [fairL, Bool.and_eq_true, decide_eq_true_eq] at c'
    obtain ⟨k, rfl⟩ : ∃ j, k = j + 6 := ⟨k - 6, by omega⟩
    exact gains_pos c'.1 c.2 k (by omega) e
  · rw [if_neg c] at e ⊢
    exact gains_neg k e
theorem band_loop (l : List Int) (hl : l.length = 16) (b : Nat) (hb : b < 5) (d : Nat) : ∀ (i k : Nat), i + d = wN b → d + 1 < k → psalteryref10_Band.l0 k l (b : Int) ((l.drop (fN b)).take i) (i : Int) = some (bnd l b) := by
  obtain ⟨e1, e2, e3, e4, e5⟩ := fw_facts b hb
  induction d with
  | zero =>
    intro i k hi hk
    obtain ⟨k, rfl⟩ : ∃ j, k = j + 1 := ⟨k - 1, by omega⟩
    conv => lhs; unfold psalteryref10_Band.l0
    rw [refWidth_eq _ k (by omega), e2]
    simp only [Option.bind_some]
    rw [if_neg (by omega), show i = wN b by omega]; rfl
  | succ d ih =>
    intro i k hi hk
    obtain ⟨k, rfl⟩ : ∃ j, k = j + 1 := ⟨k - 1, by omega⟩
    have nx := ih (i + 1) k (by omega) (by omega)
    conv => lhs; unfold psalteryref10_Band.l0
    rw [refWidth_eq _ k (by omega), e2, Option.bind_some, refFrom_eq, e1, Option.bind_some]
    have ht : ((l.drop (fN b)).take i).length = i := by rw [List.length_take, List.length_drop]; omega
    have hs : (l.drop (fN b)).take (i + 1) = (l.drop (fN b)).take i ++ [rd l ((fN b : Int) + (i : Int))] := by
      have h1 : i < (l.drop (fN b)).length := by rw [List.length_drop]; omega
      have h2 : fN b + i < l.length := by omega
      rw [List.take_succ_eq_append_getElem h1]
      have h3 : rd l ((fN b : Int) + (i : Int)) = l[fN b + i] := by
        rw [show ((fN b : Int) + (i : Int)) = ((fN b + i : Nat) : Int) by omega]
        simp only [rd, List.getD_eq_getElem?_getD, Int.toNat_natCast]
        rw [List.getElem?_eq_getElem h2]; rfl
      rw [h3, List.getElem_drop]
    rw [if_pos (by omega), w64 (x := (fN b : Int) + (i : Int)) (by omega) (by omega), if_pos (by omega), if_pos (by omega), if_pos (by omega), w64 (by omega) (by omega), ← hs, show (i : Int) + 1 = ((i + 1 : Nat) : Int) by omega]
    exact nx
theorem band_eq (l : List Int) (hl : l.length = 16) (b : Nat) (hb : b < 5) (k : Nat) (hk : 20 < k) : psalteryref10_Band.f k l (b : Int) = some (bnd l b) := by
  obtain ⟨e1, e2, e3, e4, e5⟩ := fw_facts b hb
  have := band_loop l hl b hb (wN b) 0 k (by omega) (by omega)
  simpa [psalteryref10_Band.f] using this
theorem refGains_step {l : List Int} (h : inc l = true) (hl : l.length = 16) (b : Nat) (hb : b < 5) (acc : List Int) (ha : acc.length ≤ 10) (k : Nat) (hk : 200 < k) :
    psalteryref10_Gains.l0 (k + 1) l acc (b : Int) = psalteryref10_Gains.l0 k l (acc ++ [gn (bnd l b)]) ((b + 1 : Nat) : Int) := by
  obtain ⟨e1, e2, e3, e4, e5⟩ := fw_facts b hb
  conv => lhs; unfold psalteryref10_Gains.l0
  rw [if_pos (by omega), band_eq l hl b hb k (by omega)]
  simp only [Option.bind_some]
  rw [refGain_eq _ (bnd_inc h b) (by rw [bnd_length l hl b hb]; omega) k (by omega)]
  simp only [Option.bind_some]
  rw [if_pos (by omega), w64 (by omega) (by omega), show (b : Int) + 1 = ((b + 1 : Nat) : Int) by omega]
theorem refGains_eq {l : List Int} (h : inc l = true) (hl : l.length = 16) (k : Nat) (hk : 300 < k) : psalteryref10_Gains.f k l = some (gns l) := by
  obtain ⟨k, rfl⟩ : ∃ j, k = j + 6 := ⟨k - 6, by omega⟩
  have s0 := refGains_step h hl 0 (by omega) [] (by simp) (k + 5) (by omega)
  have s1 := refGains_step h hl 1 (by omega) [gn (bnd l 0)] (by simp) (k + 4) (by omega)
  have s2 := refGains_step h hl 2 (by omega) [gn (bnd l 0), gn (bnd l 1)] (by simp) (k + 3) (by omega)
  have s3 := refGains_step h hl 3 (by omega) [gn (bnd l 0), gn (bnd l 1), gn (bnd l 2)] (by simp) (k + 2) (by omega)
  have s4 := refGains_step h hl 4 (by omega) [gn (bnd l 0), gn (bnd l 1), gn (bnd l 2), gn (bnd l 3)] (by simp) (k + 1) (by omega)
  simp only [List.nil_append, List.cons_append] at s0 s1 s2 s3 s4
  unfold psalteryref10_Gains.f
  refine s0.trans (s1.trans (s2.trans (s3.trans (s4.trans ?_))))
  simp only [psalteryref10_Gains.l0]
  rw [if_neg (by omega)]; rfl
end Go.Proofs.Ytdajlfijkbafiaa.LQ
namespace Go.Proofs.Ytdajlfijkbafiaa.P
open Go.RowKit Go.Proofs.YtdajlfijkbafiaaW.PrintWords Go.Proofs.YtdajlfijkbafiaaW.PrintLast Go.Proofs.YtdajlfijkbafiaaW.PrintMore
attribute [local go_sem] max2_int min2_int max_two min_two max_three min_three max_four min_four
def psalteryref14_Right.l0 : Nat → List Int → Bool → Int → Option (Bool)
  | 0, _, _, _ => none
  | k + 1, x0, x3, x4 => if x4 < (x0.length : Int) then (if x3 = true then (if 0 ≤ x4 then (if (rd x0 x4) ≥ 0 then (psalteryref14_Right.l0 k x0 (decide ((rd x0 x4) ≤ 44)) (wrap64 (x4 + 1))) else (psalteryref14_Right.l0 k x0 false (wrap64 (x4 + 1)))) else (none)) else (psalteryref14_Right.l0 k x0 false (wrap64 (x4 + 1)))) else (some x3)
def psalteryref14_Right.f (k : Nat) (l0 : List Int) : Option (Bool) := psalteryref14_Right.l0 k l0 ((l0.length : Int) == 6) 0
theorem psalteryref14_Right.mono_l : ∀ k, (∀ y0 y1 y2, LeO (psalteryref14_Right.l0 k y0 y1 y2) (psalteryref14_Right.l0 (k + 1) y0 y1 y2))
  | 0 => fun _ _ _ r h => by simp [psalteryref14_Right.l0] at h
  | k + 1 => by
    have a0 := psalteryref14_Right.mono_l k
    · intro y0 y1 y2
      unfold psalteryref14_Right.l0
      with_reducible repeat' first
   | apply a0
   | exact LeO.refl _
   | exact LeO.none _
   | refine LeO.ite ?_ ?_
   | refine LeO.bind ?_ (fun _ => ?_)
theorem psalteryref14_Right.mono : ∀ a0 k, LeO (psalteryref14_Right.f k a0) (psalteryref14_Right.f (k + 1) a0) := by
  intro a0 k
  have b0 := psalteryref14_Right.mono_l k
  unfold psalteryref14_Right.f
  with_reducible repeat' first
   | apply b0
   | exact LeO.refl _
   | exact LeO.none _
   | refine LeO.ite ?_ ?_
   | refine LeO.bind ?_ (fun _ => ?_)
end Go.Proofs.Ytdajlfijkbafiaa.P
namespace Go.Proofs.Ytdajlfijkbafiaa.LF
open Go.RowKit Go.Proofs.YtdajlfijkbafiaaW.PrintWords Go.Proofs.YtdajlfijkbafiaaW.PrintLast Go.Proofs.YtdajlfijkbafiaaW.PrintMore Go.Proofs.Ytdajlfijkbafiaa.P Go.Proofs.Ytdajlfijkbafiaa.LB
def inr (lo hi : Int) : List Int → Bool
  | [] => true
  | v :: l => decide (lo ≤ v ∧ v ≤ hi) && inr lo hi l
def okl (n : Nat) (l : List Int) : Bool := inr 0 44 l && l.length == n
theorem inr_mem {lo hi : Int} : ∀ {l : List Int}, inr lo hi l = true → ∀ x ∈ l, lo ≤ x ∧ x ≤ hi
  | [], _, x, hx => by cases hx
  | v :: l, h, x, hx => by
    simp only [inr, Bool.and_eq_true, decide_eq_true_eq] at h
    rcases List.mem_cons.1 hx with rfl | hx
    · exact h.1
    · exact inr_mem h.2 x hx
theorem inr_of {lo hi : Int} : ∀ {l : List Int}, (∀ x ∈ l, lo ≤ x ∧ x ≤ hi) → inr lo hi l = true
  | [], _ => rfl
  | v :: l, h => by
    simp only [inr, Bool.and_eq_true, decide_eq_true_eq]
    exact ⟨h v (List.mem_cons_self ..), inr_of fun x hx => h x (List.mem_cons_of_mem _ hx)⟩
theorem rd_in {lo hi : Int} {l : List Int} (h : inr lo hi l = true) (i : Nat) (hi' : i < l.length) : lo ≤ rd l i ∧ rd l i ≤ hi := by
  have : rd l i ∈ l := by simp [rd, List.getD_eq_getElem?_getD, hi']
  exact inr_mem h _ this
theorem rd_in' {lo hi : Int} {l : List Int} (h : inr lo hi l = true) (i : Int) (h0 : 0 ≤ i) (hi' : i < l.length) : lo ≤ rd l i ∧ rd l i ≤ hi := by
  have := rd_in h i.toNat (by omega); rwa [show ((i.toNat : Nat) : Int) = i by omega] at this
theorem rd_mid (l r : List Int) (x : Int) : rd (l ++ x :: r) (l.length : Int) = x := by simp [rd]
theorem rd_set (l : List Int) (i : Int) (h0 : 0 ≤ i) (h1 : i < l.length) (v : Int) (j : Nat) : rd (l.set i.toNat v) j = if (j : Int) = i then v else rd l j := by
  by_cases h : (j : Int) = i
  · rw [if_pos h]
    obtain ⟨n, rfl⟩ : ∃ n : Nat, i = n := ⟨i.toNat, by omega⟩
    obtain rfl : j = n := by omega
    have : j < l.length := by omega
    simp [rd, List.getD_eq_getElem?_getD, this]
  · rw [if_neg h]
    have : i.toNat ≠ j := by omega
    simp [rd, List.getD_eq_getElem?_getD, List.getElem?_set_ne this]
def at14 (p : Int) : Int := if p = 0 then 0 else if p = 1 then 1 else if p = 2 then 2 else if p = 3 then 4 else if p = 4 then 8 else if p = 5 then 15 else -1
theorem at_eq (p : Int) : floor_At.f p = some (at14 p) := rfl
theorem refAt_eq (p : Int) (k : Nat) (hk : 0 < k) : psalteryref14_At.f k p = some (at14 p) := by
  obtain ⟨k, rfl⟩ : ∃ j, k = j + 1 := ⟨k - 1, by omega⟩
  unfold psalteryref14_At.f at14
  simp only [psalteryref14_At.j0]
  by_cases h0 : p = 0
  · subst h0; rfl
  by_cases h1 : p = 1
  · subst h1; rfl
  rw [if_neg h0, if_neg h1, if_neg h0, if_neg h1]
  by_cases h2 : p = 2
  · subst h2; rfl
  rw [if_neg h2, if_neg (by simpa using h2)]
  repeat' split
  all_goals rfl
theorem gains_loop (whole : List Int) (many : Int) : ∀ (s p : List Int) (k : Nat), p.length + s.length ≤ maxLen → s.length < k →
    floor_gains.l0 k whole many (p ++ s) ((p ++ s).length : Int) (p.length : Int) = some (if inr 0 44 s = true then ((whole.length : Int) == many) else false)
  | [], p, k, hn, hk => by
    obtain ⟨k, rfl⟩ : ∃ j, k = j + 1 := ⟨k - 1, by omega⟩
    simp only [floor_gains.l0, List.append_nil]
    rw [if_neg (by omega)]; simp [inr]
  | v :: s, p, k, hn, hk => by
    have hM : (maxLen : Int) = 9223372036854775807 := rfl
    obtain ⟨k, rfl⟩ : ∃ j, k = j + 1 := ⟨k - 1, by omega⟩
    simp only [List.length_cons] at hn hk
    have hlen : ((p ++ v :: s).length : Int) = p.length + s.length + 1 := by simp only [List.length_append, List.length_cons]; omega
    simp only [floor_gains.l0]
    rw [if_pos (by omega), if_pos (by omega), if_pos (by omega), rd_mid]
    by_cases c : 0 ≤ v ∧ v ≤ 44
    · rw [if_neg (by omega), if_neg (by omega), w64 (by omega) (by omega), show inr 0 44 (v :: s) = inr 0 44 s by simp only [inr, decide_eq_true c, Bool.true_and]]
      have ih := gains_loop whole many s (p ++ [v]) k (by simp only [List.length_append, List.length_cons, List.length_nil]; omega) (by omega)
      simp only [List.append_assoc, List.singleton_append] at ih
      rw [show (((p ++ [v]).length : Nat) : Int) = (p.length : Int) + 1 by simp only [List.length_append, List.length_cons, List.length_nil]; omega] at ih
      exact ih
    · rw [show inr 0 44 (v :: s) = false by simp only [inr, decide_eq_false c, Bool.false_and]]
      by_cases c1 : v < 0
      · rw [if_pos c1]; rfl
      · rw [if_neg c1, if_pos (by omega)]; rfl
theorem gains_eq (l : List Int) (n : Nat) (hl : l.length ≤ maxLen) (k : Nat) (hk : l.length < k) : floor_gains.f k l (n : Int) = some (okl n l) := by
  unfold floor_gains.f
  have := gains_loop l n l [] k (by simpa using hl) hk
  simp only [List.nil_append, List.length_nil] at this
  rw [show ((0 : Nat) : Int) = 0 from rfl] at this
  rw [this]
  have e : ((l.length : Int) == (n : Int)) = (l.length == n) := by rw [Bool.eq_iff_iff]; simp only [beq_iff_eq]; omega
  unfold okl
  rw [e]; cases inr 0 44 l <;> simp
theorem right_eq (l : List Int) (hl : l.length ≤ maxLen) (k : Nat) (hk : l.length < k) : floor_Right.f k l = some (okl 6 l) := by
  unfold floor_Right.f
  have := gains_eq l 6 hl k hk
  rw [show ((6 : Nat) : Int) = 6 from rfl] at this
  rw [this]; rfl
theorem refRight_loop : ∀ (s p : List Int) (ok : Bool) (k : Nat), p.length + s.length ≤ maxLen → s.length < k →
    psalteryref14_Right.l0 k (p ++ s) ok (p.length : Int) = some (ok && inr 0 44 s)
  | [], p, ok, k, hn, hk => by
    obtain ⟨k, rfl⟩ : ∃ j, k = j + 1 := ⟨k - 1, by omega⟩
    simp only [psalteryref14_Right.l0, List.append_nil]
    rw [if_neg (by omega)]; simp [inr]
  | v :: s, p, ok, k, hn, hk => by
    have hM : (maxLen : Int) = 9223372036854775807 := rfl
    obtain ⟨k, rfl⟩ : ∃ j, k = j + 1 := ⟨k - 1, by omega⟩
    simp only [List.length_cons] at hn hk
    have hlen : ((p ++ v :: s).length : Int) = p.length + s.length + 1 := by simp only [List.length_append, List.length_cons]; omega
    have ih := fun ok => refRight_loop s (p ++ [v]) ok k (by simp only [List.length_append, List.length_cons, List.length_nil]; omega) (by omega)
    simp only [List.append_assoc, List.singleton_append] at ih
    rw [show (((p ++ [v]).length : Nat) : Int) = (p.length : Int) + 1 by simp only [List.length_append, List.length_cons, List.length_nil]; omega] at ih
    simp only [psalteryref14_Right.l0]
    rw [if_pos (by omega), if_pos (by omega : (0 : Int) ≤ (p.length : Int)), rd_mid, w64 (by omega) (by omega), ih, ih]
    cases ok with
    | false => simp
    | true =>
      by_cases c1 : v ≥ 0
      · rw [if_pos rfl, if_pos c1]; by_cases c2 : v ≤ 44
        · simp [inr, c1, c2]
        · simp [inr, c2]
      · rw [if_pos rfl, if_neg c1]; simp only [inr, decide_eq_false (show ¬ (0 ≤ v ∧ v ≤ 44) by omega), Bool.false_and, Bool.and_false]
theorem refRight_eq (l : List Int) (hl : l.length ≤ maxLen) (k : Nat) (hk : l.length < k) : psalteryref14_Right.f k l = some (okl 6 l) := by
  unfold psalteryref14_Right.f
  have := refRight_loop l [] ((l.length : Int) == 6) k (by simpa using hl) hk
  simp only [List.nil_append, List.length_nil] at this
  rw [show ((0 : Nat) : Int) = 0 from rfl] at this
  rw [this]
  have e : ((l.length : Int) == 6) = (l.length == 6) := by rw [Bool.eq_iff_iff]; simp only [beq_iff_eq]; omega
  rw [e, Bool.and_comm]; rfl
def fitv (g q : Int) : Int := if q = 0 then 0 else if g - 13 + q < 0 then 0 else if g - 13 + q > 44 then 44 else g - 13 + q
theorem fitv_in (g q : Int) : 0 ≤ fitv g q ∧ fitv g q ≤ 44 := by
  unfold fitv; repeat' split
  all_goals omega
theorem rd_rep (n j : Nat) : rd (List.replicate n 0) (j : Int) = 0 := by
  simp only [rd, List.getD_eq_getElem?_getD, Int.toNat_natCast, List.getElem?_replicate]; split <;> rfl
theorem fit_loop (l : List Int) (q : Int) (hl : okl 5 l = true) (hq : 0 ≤ q ∧ q ≤ 12) (d : Nat) : ∀ (i k : Nat) (out : List Int), i + d = 6 → d < k → out.length = 6 → (∀ j : Nat, i ≤ j → j < 6 → rd out j = 0) →
    ∃ out' : List Int, floor_Fit.l0 k l q out (i : Int) = some (out', 0) ∧ out'.length = 6 ∧ ∀ j : Nat, j < 6 → rd out' j = if j < i then rd out j else fitv (rd l (min (j : Int) 4)) q := by
  simp only [okl, Bool.and_eq_true, beq_iff_eq] at hl
  induction d with
  | zero =>
    intro i k out hi hk ho hz
    obtain ⟨k, rfl⟩ : ∃ j, k = j + 1 := ⟨k - 1, by omega⟩
    refine ⟨out, ?_, ho, fun j hj => by rw [if_pos (by omega)]⟩
    simp only [floor_Fit.l0]; rw [if_neg (by omega)]
  | succ d ih =>
    intro i k out hi hk ho hz
    obtain ⟨k, rfl⟩ : ∃ j, k = j + 1 := ⟨k - 1, by omega⟩
    simp only [floor_Fit.l0]
    rw [if_pos (by omega), w64 (x := (i : Int) + 1) (by omega) (by omega), show (i : Int) + 1 = ((i + 1 : Nat) : Int) by omega]
    by_cases c : q > 0
    · have em : mn (i : Int) 4 = min (i : Int) 4 := by unfold mn; split <;> omega
      have hb := rd_in' hl.1 (min (i : Int) 4) (by omega) (by omega)
      rw [if_pos c, em, if_pos (by omega), if_pos (by omega), if_pos (by omega), if_pos (by omega), w64 (x := rd l (min (i : Int) 4) - 13) (by omega) (by omega), w64 (x := rd l (min (i : Int) 4) - 13 + q) (by omega) (by omega)]
      have ev : mx 0 (mn (rd l (min (i : Int) 4) - 13 + q) 44) = fitv (rd l (min (i : Int) 4)) q := by
        unfold mx mn fitv
        repeat' split
        all_goals omega
      rw [ev]
      have hs := rd_set out (i : Int) (by omega) (by omega) (fitv (rd l (min (i : Int) 4)) q)
      obtain ⟨out', h1, h2, h3⟩ := ih (i + 1) k (out.set (i : Int).toNat (fitv (rd l (min (i : Int) 4)) q)) (by omega) (by omega) (by rw [List.length_set]; exact ho) (fun j hj hj' => by rw [hs, if_neg (by omega)]; exact hz j (by omega) hj')
      refine ⟨out', h1, h2, fun j hj => ?_⟩
      rw [h3 j hj, hs]
      by_cases e : j < i
      · rw [if_pos (by omega), if_neg (by omega), if_pos e]
      · rw [if_neg e]
        by_cases e' : j = i
        · subst e'; rw [if_pos (by omega), if_pos rfl]
        · rw [if_neg (by omega)]
    · rw [if_neg c]
      obtain ⟨out', h1, h2, h3⟩ := ih (i + 1) k out (by omega) (by omega) ho (fun j hj hj' => hz j (by omega) hj')
      refine ⟨out', h1, h2, fun j hj => ?_⟩
      rw [h3 j hj]
      by_cases e : j < i
      · rw [if_pos (by omega), if_pos e]
      · rw [if_neg e]
        by_cases e' : j = i
        · rw [if_pos (by omega), hz j (by omega) hj]; unfold fitv; rw [if_pos (by omega)]
        · rw [if_neg (by omega)]
theorem fit_eq (l : List Int) (q : Int) (hl : l.length ≤ maxLen) (k : Nat) (hk : l.length + 10 < k) :
    (okl 5 l = true ∧ 0 ≤ q ∧ q ≤ 12 ∧ ∃ out : List Int, floor_Fit.f k l q = some (out, 0) ∧ out.length = 6 ∧ ∀ j : Nat, j < 6 → rd out j = fitv (rd l (min (j : Int) 4)) q) ∨
    (¬ (okl 5 l = true ∧ 0 ≤ q ∧ q ≤ 12) ∧ floor_Fit.f k l q = some ([], 1)) := by
  obtain ⟨k, rfl⟩ : ∃ j, k = j + 1 := ⟨k - 1, by omega⟩
  have hg := gains_eq l 5 hl (k + 1) (by omega)
  rw [show ((5 : Nat) : Int) = 5 from rfl] at hg
  unfold floor_Fit.f
  rw [hg]
  simp only [Option.bind_some, floor_Fit.j0, if_true]
  by_cases h : okl 5 l = true
  · rw [if_pos h]
    by_cases h1 : q < 0
    · rw [if_pos h1]; exact .inr ⟨fun x => by omega, rfl⟩
    rw [if_neg h1]
    by_cases h2 : q > 12
    · rw [if_pos (decide_eq_true h2)]; exact .inr ⟨fun x => by omega, rfl⟩
    · rw [decide_eq_false h2, if_neg (by decide), if_pos (by decide)]
      obtain ⟨out, e1, e2, e3⟩ := fit_loop l q h ⟨by omega, by omega⟩ 6 0 k (List.replicate 6 0) rfl (by omega) (by simp) (fun j _ hj => rd_rep 6 j)
      exact .inl ⟨h, by omega, by omega, out, e1, e2, fun j hj => by rw [e3 j hj, if_neg (by omega)]⟩
  · rw [if_neg h]; exact .inr ⟨fun x => h x.1, rfl⟩
theorem refFit_eq (l : List Int) (q : Int) (hl : okl 5 l = true) (hq : 0 ≤ q ∧ q ≤ 12) (p : Nat) (hp : p < 6) (k : Nat) (hk : 0 < k) : psalteryref14_Fit.f k l q (p : Int) = some (fitv (rd l (min (p : Int) 4)) q) := by
  obtain ⟨k, rfl⟩ : ∃ j, k = j + 1 := ⟨k - 1, by omega⟩
  simp only [okl, Bool.and_eq_true, beq_iff_eq] at hl
  have step : ∀ g : Int, 0 ≤ g → g ≤ 44 → q ≠ 0 → psalteryref14_Fit.j0 (k + 1) q g = some (fitv g q) := by
    intro g h0 h1 hz
    simp only [psalteryref14_Fit.j0]
    rw [w64 (x := g - 13) (by omega) (by omega), w64 (x := g - 13 + q) (by omega) (by omega)]
    unfold fitv; rw [if_neg hz]
    repeat' split
    all_goals rfl
  unfold psalteryref14_Fit.f
  by_cases hz : q = 0
  · rw [if_pos hz]; unfold fitv; rw [if_pos hz]
  have hb := rd_in' hl.1 (min (p : Int) 4) (by omega) (by omega)
  rw [if_neg hz, if_pos (by omega)]
  by_cases c : (p : Int) < 4
  · rw [if_pos c, if_pos (by omega), if_pos (by omega), show min (p : Int) 4 = p by omega] at *
    exact step _ hb.1 hb.2 hz
  · rw [if_neg c, show min (p : Int) 4 = 4 by omega] at *
    exact step _ hb.1 hb.2 hz
end Go.Proofs.Ytdajlfijkbafiaa.LF
namespace Go.Proofs.Ytdajlfijkbafiaa.LW
open Go.RowKit Go.Proofs.YtdajlfijkbafiaaW.PrintWords Go.Proofs.YtdajlfijkbafiaaW.PrintLast Go.Proofs.YtdajlfijkbafiaaW.PrintMore Go.Proofs.Ytdajlfijkbafiaa.P Go.Proofs.Ytdajlfijkbafiaa.LB
def fairB (x : List Int) : Bool := decide (LQ.fairL x = true ∧ x.length = 16)
theorem fairB_parts {x : List Int} (h : fairB x = true) : LQ.fairL x = true ∧ LQ.inc x = true ∧ x.length = 16 := by
  have h1 := of_decide_eq_true h
  have h2 := h1.1
  simp only [LQ.fairL, Bool.and_eq_true] at h2
  exact ⟨h1.1, h2.1, h1.2⟩
theorem gn_in {x : List Int} (h : fairB x = true) (b : Nat) (hb : b < 5) : 0 ≤ LQ.gn (LQ.bnd x b) ∧ LQ.gn (LQ.bnd x b) ≤ 44 := by
  obtain ⟨_, h2, h3⟩ := fairB_parts h
  obtain ⟨e1, e2, e3, e4, e5⟩ := LQ.fw_facts b hb
  have e6 := LQ.bnd_length x h3 b hb
  exact LQ.gn_bound _ (LQ.bnd_inc h2 b) (by omega)
theorem gns_okl {x : List Int} (h : fairB x = true) : LF.okl 5 (LQ.gns x) = true := by
  unfold LF.okl
  rw [Bool.and_eq_true]
  refine ⟨LF.inr_of fun v hv => ?_, rfl⟩
  simp only [LQ.gns, List.mem_cons, List.not_mem_nil, or_false] at hv
  rcases hv with rfl | rfl | rfl | rfl | rfl
  · exact gn_in h 0 (by omega)
  · exact gn_in h 1 (by omega)
  · exact gn_in h 2 (by omega)
  · exact gn_in h 3 (by omega)
  · exact gn_in h 4 (by omega)
def pst (fl : List Int) (q : Int) (x : List Int) (p : Int) : Int := setl fl (LF.fitv (rd (LQ.gns x) (min p 4)) q)
def postL (fl : List Int) (q : Int) (x : List Int) : List Int := [pst fl q x 0, pst fl q x 1, pst fl q x 2, pst fl q x 3, pst fl q x 4, pst fl q x 5]
def Uses (fl : List Int) : Prop := fl.length = 45 ∧ ∃ u : Nat, u < fl.length ∧ 0 < rd fl (u : Int)
theorem pst_in {fl : List Int} (hu : Uses fl) (q : Int) (x : List Int) (p : Int) : 0 ≤ pst fl q x p ∧ pst fl q x p ≤ 44 ∧ 0 < rd fl (pst fl q x p) := by
  have h0 := hu.1
  obtain ⟨a, b, c, _⟩ := setl_is (LF.fitv (rd (LQ.gns x) (min p 4)) q) (by omega) hu.2
  unfold pst
  exact ⟨a, by omega, c⟩
theorem postL_in {fl : List Int} (hu : Uses fl) (q : Int) (x : List Int) : ∀ g ∈ postL fl q x, 0 ≤ g ∧ g ≤ 44 ∧ 0 < rd fl g := by
  intro g hg
  simp only [postL, List.mem_cons, List.not_mem_nil, or_false] at hg
  rcases hg with rfl | rfl | rfl | rfl | rfl | rfl <;> exact pst_in hu q x _
theorem postL_okl {fl : List Int} (hu : Uses fl) (q : Int) (x : List Int) : LF.okl 6 (postL fl q x) = true := by
  unfold LF.okl
  rw [Bool.and_eq_true]
  exact ⟨LF.inr_of fun v hv => ⟨(postL_in hu q x v hv).1, (postL_in hu q x v hv).2.1⟩, rfl⟩
theorem list6 {l : List Int} (h : l.length = 6) : l = [rd l 0, rd l 1, rd l 2, rd l 3, rd l 4, rd l 5] := by
  match l, h with
  | [a, b, c, d, e, f], _ => rfl
theorem set_mid (p s : List Int) (v t : Int) : (p ++ v :: s).set (p.length : Int).toNat t = p ++ t :: s := by
  rw [Int.toNat_natCast, List.set_append, if_neg (by omega), Nat.sub_self]; rfl
theorem posts_loop (c q : Int) {fl : List Int} (rs : List Int) (hu : Uses fl) (n : Nat) (hn : n ≤ 1000) : ∀ (s p : List Int) (k : Nat), p.length + s.length = n → s.length + 50 < k →
    vcodec_codec_posts.l0 k (p ++ s) (n : Int) (p.length : Int) c q fl rs = some (p ++ s.map (setl fl))
  | [], p, k, h, hk => by
    obtain ⟨k, rfl⟩ : ∃ j, k = j + 1 := ⟨k - 1, by omega⟩
    simp only [List.length_nil] at h
    simp only [vcodec_codec_posts.l0]
    rw [if_neg (by omega)]; rfl
  | v :: s, p, k, h, hk => by
    obtain ⟨k, rfl⟩ : ∃ j, k = j + 1 := ⟨k - 1, by omega⟩
    simp only [List.length_cons] at h hk
    have hlen : ((p ++ v :: s).length : Int) = p.length + s.length + 1 := by simp only [List.length_append, List.length_cons]; omega
    have h45 := hu.1
    simp only [vcodec_codec_posts.l0]
    rw [if_pos (by omega), if_pos (by omega), if_pos (by omega), LQ.rd_mid, settled_eq c q fl rs v (by omega) hu.2 k (by omega), Option.bind_some, set_mid, w64 (by omega) (by omega)]
    have ih := posts_loop c q rs hu n hn s (p ++ [setl fl v]) k (by simp only [List.length_append, List.length_cons, List.length_nil]; omega) (by omega)
    simp only [List.append_assoc, List.singleton_append] at ih
    rw [show (((p ++ [setl fl v]).length : Nat) : Int) = (p.length : Int) + 1 by simp only [List.length_append, List.length_cons, List.length_nil]; omega] at ih
    rw [ih, List.map_cons]
theorem posts_eq (c q : Int) {fl : List Int} (rs : List Int) (hu : Uses fl) (hq : 0 ≤ q ∧ q ≤ 12) {x : List Int} (h : fairB x = true) (k : Nat) (hk : 1000 < k) : vcodec_codec_posts.f k c q fl rs x = some (postL fl q x) := by
  obtain ⟨h1, h2, h3⟩ := fairB_parts h
  have hM : (maxLen : Int) = 9223372036854775807 := rfl
  unfold vcodec_codec_posts.f
  rw [LQ.gains_eq x (by omega) (by omega) k (by omega), if_pos ⟨h1, h3⟩, Option.bind_some]
  rcases LF.fit_eq (LQ.gns x) q (show (5 : Nat) ≤ maxLen by omega) k (show (5 : Nat) + 10 < k by omega) with ⟨_, _, _, out, e1, e2, e3⟩ | ⟨hn, _⟩
  · show (floor_Fit.f k (LQ.gns x) q).bind _ = _
    rw [e1, Option.bind_some]
    have e := posts_loop c q rs hu 6 (by omega) out [] k (by simpa using e2) (by omega)
    simp only [List.nil_append, List.length_nil] at e
    show vcodec_codec_posts.l0 k out (out.length : Int) 0 c q fl rs = _
    rw [e2]
    refine Eq.trans e ?_
    have f0 : rd out 0 = LF.fitv (rd (LQ.gns x) (min 0 4)) q := e3 0 (by omega)
    have f1 : rd out 1 = LF.fitv (rd (LQ.gns x) (min 1 4)) q := e3 1 (by omega)
    have f2 : rd out 2 = LF.fitv (rd (LQ.gns x) (min 2 4)) q := e3 2 (by omega)
    have f3 : rd out 3 = LF.fitv (rd (LQ.gns x) (min 3 4)) q := e3 3 (by omega)
    have f4 : rd out 4 = LF.fitv (rd (LQ.gns x) (min 4 4)) q := e3 4 (by omega)
    have f5 : rd out 5 = LF.fitv (rd (LQ.gns x) (min 5 4)) q := e3 5 (by omega)
    rw [list6 e2]
    unfold postL pst
    rw [← f0, ← f1, ← f2, ← f3, ← f4, ← f5]; rfl
  · exact absurd ⟨gns_okl h, hq.1, hq.2⟩ hn
theorem refPosts_step (c q : Int) {fl : List Int} (rs : List Int) (hu : Uses fl) (hq : 0 ≤ q ∧ q ≤ 12) {x : List Int} (h : fairB x = true) (p : Nat) (hp : p < 6) (acc : List Int) (ha : acc.length ≤ 100) (k : Nat) (hk : 400 < k) :
    psalteryref22_Posts.l0 (k + 1) x acc (p : Int) c q fl rs = psalteryref22_Posts.l0 k x (acc ++ [pst fl q x (p : Int)]) ((p + 1 : Nat) : Int) c q fl rs := by
  obtain ⟨h1, h2, h3⟩ := fairB_parts h
  have h45 := hu.1
  have hf := LF.fitv_in (rd (LQ.gns x) (min (p : Int) 4)) q
  conv => lhs; unfold psalteryref22_Posts.l0
  rw [if_pos (by omega), LQ.refGains_eq h2 h3 k (by omega), Option.bind_some, LF.refFit_eq (LQ.gns x) q (gns_okl h) hq p hp k (by omega), Option.bind_some, refSettled_eq fl _ (by omega) hf.1 (by omega) hu.2 k (by omega), Option.bind_some, if_pos (by omega), w64 (by omega) (by omega), show (p : Int) + 1 = ((p + 1 : Nat) : Int) by omega]; rfl
theorem refPosts_eq (c q : Int) {fl : List Int} (rs : List Int) (hu : Uses fl) (hq : 0 ≤ q ∧ q ≤ 12) {x : List Int} (h : fairB x = true) (k : Nat) (hk : 1000 < k) : psalteryref22_Posts.f k c q fl rs x = some (postL fl q x) := by
  obtain ⟨k, rfl⟩ : ∃ j, k = j + 7 := ⟨k - 7, by omega⟩
  have s0 := refPosts_step c q rs hu hq h 0 (by omega) [] (by simp) (k + 6) (by omega)
  have s1 := refPosts_step c q rs hu hq h 1 (by omega) [pst fl q x 0] (by simp) (k + 5) (by omega)
  have s2 := refPosts_step c q rs hu hq h 2 (by omega) [pst fl q x 0, pst fl q x 1] (by simp) (k + 4) (by omega)
  have s3 := refPosts_step c q rs hu hq h 3 (by omega) [pst fl q x 0, pst fl q x 1, pst fl q x 2] (by simp) (k + 3) (by omega)
  have s4 := refPosts_step c q rs hu hq h 4 (by omega) [pst fl q x 0, pst fl q x 1, pst fl q x 2, pst fl q x 3] (by simp) (k + 2) (by omega)
  have s5 := refPosts_step c q rs hu hq h 5 (by omega) [pst fl q x 0, pst fl q x 1, pst fl q x 2, pst fl q x 3, pst fl q x 4] (by simp) (k + 1) (by omega)
  simp only [List.nil_append, List.cons_append] at s0 s1 s2 s3 s4 s5
  unfold psalteryref22_Posts.f
  refine s0.trans (s1.trans (s2.trans (s3.trans (s4.trans (s5.trans ?_)))))
  simp only [psalteryref22_Posts.l0]
  rw [if_neg (by omega)]; rfl
end Go.Proofs.Ytdajlfijkbafiaa.LW
namespace Go.Proofs.Ytdajlfijkbafiaa.LF
open Go.RowKit Go.Proofs.YtdajlfijkbafiaaW.PrintWords Go.Proofs.YtdajlfijkbafiaaW.PrintLast Go.Proofs.YtdajlfijkbafiaaW.PrintMore Go.Proofs.Ytdajlfijkbafiaa.P Go.Proofs.Ytdajlfijkbafiaa.LB
theorem tdiv_neg' {a b : Int} (ha : a < 0) : Int.tdiv a b = -((-a) / b) := by
  have := tdiv_nn (a := -a) b (by omega)
  rw [Int.neg_tdiv] at this; omega
theorem tdiv_in {n d : Int} (hd : 0 < d) : (0 ≤ n → 0 ≤ Int.tdiv n d ∧ Int.tdiv n d ≤ n) ∧ (n ≤ 0 → n ≤ Int.tdiv n d ∧ Int.tdiv n d ≤ 0) := by
  constructor
  · intro h
    rw [tdiv_nn d h]
    exact ⟨Int.ediv_nonneg h (by omega), Int.ediv_le_self _ h⟩
  · intro h
    by_cases h0 : n = 0
    · subst h0; simp
    rw [tdiv_neg' (by omega)]
    have h1 : 0 ≤ (-n) / d := Int.ediv_nonneg (by omega) (by omega)
    have h2 : (-n) / d ≤ -n := Int.ediv_le_self _ (by omega)
    omega
theorem tdiv_frac {D t d : Int} (ht : 0 ≤ t) (htd : t ≤ d) (hd : 0 < d) : (0 ≤ D → 0 ≤ Int.tdiv (D * t) d ∧ Int.tdiv (D * t) d ≤ D) ∧ (D ≤ 0 → D ≤ Int.tdiv (D * t) d ∧ Int.tdiv (D * t) d ≤ 0) := by
  constructor
  · intro h
    have h0 : 0 ≤ D * t := Int.mul_nonneg h ht
    rw [tdiv_nn d h0]
    exact ⟨Int.ediv_nonneg h0 (by omega), Int.ediv_le_of_le_mul hd (Int.mul_le_mul_of_nonneg_left htd h)⟩
  · intro h
    have h0 : 0 ≤ (-D) * t := Int.mul_nonneg (by omega) ht
    have e : D * t = -((-D) * t) := by rw [Int.neg_mul, Int.neg_neg]
    rw [e, Int.neg_tdiv, tdiv_nn d h0]
    have h1 : 0 ≤ (-D) * t / d := Int.ediv_nonneg h0 (by omega)
    have h2 : (-D) * t / d ≤ -D := Int.ediv_le_of_le_mul hd (Int.mul_le_mul_of_nonneg_left htd (by omega))
    omega
def V (l : List Int) (p x w j : Int) : Int := rd l p + Int.tdiv ((rd l (p + 1) - rd l p) * (j - x)) (w - x)
theorem V_in (l : List Int) (p : Int) {x w j : Int} (h : x < w) (h0 : x ≤ j) (h1 : j ≤ w) : min (rd l p) (rd l (p + 1)) ≤ V l p x w j ∧ V l p x w j ≤ max (rd l p) (rd l (p + 1)) := by
  have := tdiv_frac (D := rd l (p + 1) - rd l p) (t := j - x) (d := w - x) (by omega) (by omega) (by omega)
  unfold V; omega
theorem V_right (l : List Int) (p : Int) {x w : Int} (h : x < w) : V l p x w w = rd l (p + 1) := by
  unfold V; rw [Int.mul_tdiv_cancel _ (by omega)]; omega
theorem seg_loop (l : List Int) (hl : okl 6 l = true) (p x w : Int) (hp : 0 ≤ p ∧ p < 5) (hx : 0 ≤ x) (hxw : x < w) (hw : w ≤ 15) (d : Nat) : ∀ (j : Int) (k : Nat) (out : List Int), x ≤ j → j + d = w + 1 → d < k → out.length = 16 →
    ∃ (out' : List Int) (k' : Nat), floor_Line.l1 k l out p x w j p = floor_Line.l0 k' l out' (p + 1) ∧ k' + d + 1 = k ∧ out'.length = 16 ∧ ∀ i : Nat, i < 16 → rd out' i = if j ≤ (i : Int) ∧ (i : Int) ≤ w then V l p x w i else rd out i := by
  simp only [okl, Bool.and_eq_true, beq_iff_eq] at hl
  induction d with
  | zero =>
    intro j k out h0 h1 hk ho
    obtain ⟨k, rfl⟩ : ∃ j, k = j + 1 := ⟨k - 1, by omega⟩
    refine ⟨out, k, ?_, by omega, ho, fun i hi => by rw [if_neg (by omega)]⟩
    simp only [floor_Line.l1]; rw [if_neg (by omega), w64 (by omega) (by omega)]
  | succ d ih =>
    intro j k out h0 h1 hk ho
    obtain ⟨k, rfl⟩ : ∃ j, k = j + 1 := ⟨k - 1, by omega⟩
    have b0 := rd_in' hl.1 p (by omega) (by omega)
    have b1 := rd_in' hl.1 (p + 1) (by omega) (by omega)
    have m1 : (rd l (p + 1) - rd l p) * (j - x) ≤ 44 * (j - x) := Int.mul_le_mul_of_nonneg_right (by omega) (by omega)
    have m2 : -44 * (j - x) ≤ (rd l (p + 1) - rd l p) * (j - x) := Int.mul_le_mul_of_nonneg_right (by omega) (by omega)
    have t := tdiv_in (n := (rd l (p + 1) - rd l p) * (j - x)) (d := w - x) (by omega)
    have eV : V l p x w j = rd l p + Int.tdiv ((rd l (p + 1) - rd l p) * (j - x)) (w - x) := rfl
    simp only [floor_Line.l1]
    rw [if_pos (by omega), if_pos (by omega), if_pos (by omega), w64 (x := p + 1) (by omega) (by omega), if_pos (by omega), if_pos (by omega), w64 (x := w - x) (by omega) (by omega), if_neg (by omega), if_pos (by omega), if_pos (by omega),
      w64 (x := rd l (p + 1) - rd l p) (by omega) (by omega), w64 (x := j - x) (by omega) (by omega), w64 (x := (rd l (p + 1) - rd l p) * (j - x)) (by omega) (by omega), w64 (x := Int.tdiv ((rd l (p + 1) - rd l p) * (j - x)) (w - x)) (by omega) (by omega),
      w64 (x := rd l p + Int.tdiv ((rd l (p + 1) - rd l p) * (j - x)) (w - x)) (by omega) (by omega), ← eV, w64 (x := j + 1) (by omega) (by omega)]
    obtain ⟨out', k', e1, e2, e3, e4⟩ := ih (j + 1) k (out.set j.toNat (V l p x w j)) (by omega) (by omega) (by omega) (by rw [List.length_set]; exact ho)
    refine ⟨out', k', e1, by omega, e3, fun i hi => ?_⟩
    rw [e4 i hi, rd_set out j (by omega) (by omega)]
    by_cases c : (i : Int) = j
    · rw [if_neg (by omega), if_pos c, if_pos (by omega), c]
    · rw [if_neg c]
      by_cases c' : j + 1 ≤ (i : Int) ∧ (i : Int) ≤ w
      · rw [if_pos c', if_pos (by omega)]
      · rw [if_neg c', if_neg (by omega)]
theorem l0_step (l : List Int) (hl : okl 6 l = true) (p x w : Int) (hp : 0 ≤ p ∧ p < 5) (ex : at14 p = x) (ew : at14 (p + 1) = w) (hx : 0 ≤ x) (hxw : x < w) (hw : w ≤ 15) (k : Nat) (out : List Int) (hk : 20 < k) (ho : out.length = 16) :
    ∃ (out' : List Int) (k' : Nat), floor_Line.l0 k l out p = floor_Line.l0 k' l out' (p + 1) ∧ k < k' + 20 ∧ out'.length = 16 ∧ ∀ i : Nat, i < 16 → rd out' i = if x ≤ (i : Int) ∧ (i : Int) ≤ w then V l p x w i else rd out i := by
  obtain ⟨k, rfl⟩ : ∃ j, k = j + 1 := ⟨k - 1, by omega⟩
  obtain ⟨out', k', e1, e2, e3, e4⟩ := seg_loop l hl p x w hp hx hxw hw (w + 1 - x).toNat x k out (Int.le_refl _) (by omega) (by omega) ho
  refine ⟨out', k', ?_, by omega, e3, e4⟩
  simp only [floor_Line.l0]
  rw [if_pos (by omega), w64 (x := p + 1) (by omega) (by omega), at_eq, at_eq, ex, ew]
  exact e1
def lineV (l : List Int) (i : Int) : Int := if i < 1 then V l 0 0 1 i else if i < 2 then V l 1 1 2 i else if i < 4 then V l 2 2 4 i else if i < 8 then V l 3 4 8 i else V l 4 8 15 i
theorem line_eq (l : List Int) (hl : l.length ≤ maxLen) (k : Nat) (hk : l.length + 200 < k) :
    (okl 6 l = true ∧ ∃ out : List Int, floor_Line.f k l = some (out, 0) ∧ out.length = 16 ∧ ∀ i : Nat, i < 16 → rd out i = lineV l i) ∨ (okl 6 l = false ∧ floor_Line.f k l = some ([], 1)) := by
  unfold floor_Line.f
  rw [right_eq l hl k (by omega)]
  simp only [Option.bind_some]
  cases h : okl 6 l with
  | false => exact .inr ⟨rfl, rfl⟩
  | true =>
    refine .inl ⟨rfl, ?_⟩
    rw [if_pos rfl, if_pos (by decide)]
    obtain ⟨o1, k1, a1, b1, c1, d1⟩ := l0_step l h 0 0 1 (by omega) rfl rfl (by omega) (by omega) (by omega) k (List.replicate 16 0) (by omega) (by simp)
    obtain ⟨o2, k2, a2, b2, c2, d2⟩ := l0_step l h 1 1 2 (by omega) rfl rfl (by omega) (by omega) (by omega) k1 o1 (by omega) c1
    obtain ⟨o3, k3, a3, b3, c3, d3⟩ := l0_step l h 2 2 4 (by omega) rfl rfl (by omega) (by omega) (by omega) k2 o2 (by omega) c2
    obtain ⟨o4, k4, a4, b4, c4, d4⟩ := l0_step l h 3 4 8 (by omega) rfl rfl (by omega) (by omega) (by omega) k3 o3 (by omega) c3
    obtain ⟨o5, k5, a5, b5, c5, d5⟩ := l0_step l h 4 8 15 (by omega) rfl rfl (by omega) (by omega) (by omega) k4 o4 (by omega) c4
    refine ⟨o5, ?_, c5, fun i hi => ?_⟩
    · obtain ⟨k5, rfl⟩ : ∃ j, k5 = j + 1 := ⟨k5 - 1, by omega⟩
      rw [a1]; erw [a2]; erw [a3]; erw [a4]; erw [a5]
      simp only [floor_Line.l0]; rw [if_neg (by omega)]
    · rw [d5 i hi, d4 i hi, d3 i hi, d2 i hi, d1 i hi]
      unfold lineV
      by_cases q5 : (8 : Int) ≤ i
      · rw [if_pos (by omega), if_neg (by omega), if_neg (by omega), if_neg (by omega), if_neg (by omega)]
      rw [if_neg (by omega)]
      by_cases q4 : (4 : Int) ≤ i
      · rw [if_pos (by omega), if_neg (by omega), if_neg (by omega), if_neg (by omega), if_pos (by omega)]
      rw [if_neg (by omega)]
      by_cases q3 : (2 : Int) ≤ i
      · rw [if_pos (by omega), if_neg (by omega), if_neg (by omega), if_pos (by omega)]
      rw [if_neg (by omega)]
      by_cases q2 : (1 : Int) ≤ i
      · rw [if_pos (by omega), if_neg (by omega), if_pos (by omega)]
      rw [if_neg (by omega), if_pos (by omega), if_pos (by omega)]
end Go.Proofs.Ytdajlfijkbafiaa.LF
namespace Go.Proofs.Ytdajlfijkbafiaa.LF
open Go.RowKit Go.Proofs.YtdajlfijkbafiaaW.PrintWords Go.Proofs.YtdajlfijkbafiaaW.PrintLast Go.Proofs.YtdajlfijkbafiaaW.PrintMore Go.Proofs.Ytdajlfijkbafiaa.P Go.Proofs.Ytdajlfijkbafiaa.LB Go.Proofs.Ytdajlfijkbafiaa.NT
def flv (g : Int) : Int := if val g < 1 then 1 else val g
theorem flv_mx (g : Int) : mx 1 (val g) = flv g := by
  unfold mx flv; repeat' split
  all_goals omega
theorem floor_loop : ∀ (s p out : List Int) (k : Nat), p.length + s.length = 16 → out.length ≤ p.length → s.length + 100 < k →
    floor_Floor.l0 k out (p ++ s) ((p ++ s).length : Int) (p.length : Int) = some (out ++ s.map flv, 0)
  | [], p, out, k, hn, ho, hk => by
    obtain ⟨k, rfl⟩ : ∃ j, k = j + 1 := ⟨k - 1, by omega⟩
    simp only [floor_Floor.l0, List.append_nil]
    rw [if_neg (by omega)]; simp
  | v :: s, p, out, k, hn, ho, hk => by
    obtain ⟨k, rfl⟩ : ∃ j, k = j + 1 := ⟨k - 1, by omega⟩
    simp only [List.length_cons] at hn hk
    have hlen : ((p ++ v :: s).length : Int) = p.length + s.length + 1 := by simp only [List.length_append, List.length_cons]; omega
    simp only [floor_Floor.l0]
    rw [if_pos (by omega), if_pos (by omega), if_pos (by omega), rd_mid, val_eq v k (by omega)]
    simp only [Option.bind_some]
    rw [if_pos (by omega), flv_mx, w64 (by omega) (by omega)]
    have ih := floor_loop s (p ++ [v]) (out ++ [flv v]) k (by simp only [List.length_append, List.length_cons, List.length_nil]; omega) (by simp only [List.length_append, List.length_cons, List.length_nil]; omega) (by omega)
    simp only [List.append_assoc, List.singleton_append] at ih
    rw [show (((p ++ [v]).length : Nat) : Int) = (p.length : Int) + 1 by simp only [List.length_append, List.length_cons, List.length_nil]; omega] at ih
    exact ih
theorem floor_eq (l : List Int) (hl : l.length ≤ maxLen) (k : Nat) (hk : l.length + 300 < k) :
    (okl 6 l = true ∧ ∃ out : List Int, floor_Floor.f k l = some (out, 0) ∧ out.length = 16 ∧ ∀ i : Nat, i < 16 → rd out i = flv (lineV l i)) ∨ (okl 6 l = false ∧ floor_Floor.f k l = some ([], 1)) := by
  unfold floor_Floor.f
  rcases line_eq l hl k (by omega) with ⟨h, out, e1, e2, e3⟩ | ⟨h, e1⟩
  · refine .inl ⟨h, out.map flv, ?_, by rw [List.length_map]; exact e2, fun i hi => ?_⟩
    · rw [e1]
      simp only [Option.bind_some, if_true]
      have := floor_loop out [] [] k (by simpa using e2) (Nat.le_refl _) (by omega)
      simp only [List.nil_append, List.length_nil] at this
      rw [show ((0 : Nat) : Int) = 0 from rfl] at this
      exact this
    · rw [← e3 i hi]
      have : i < out.length := by omega
      simp [rd, List.getD_eq_getElem?_getD, this]
  · refine .inr ⟨h, ?_⟩
    rw [e1]; rfl
theorem post_yes (i p q q' a : Int) (m : Nat) (hm : 0 < m) (h0 : 0 ≤ q) (h1 : q < 6) (hq : q + 1 = q') (ha : at14 q = a) (h : a ≤ i) : psalteryref14_post.l0 (m + 1) i p q = psalteryref14_post.l0 m i q q' := by
  conv => lhs; unfold psalteryref14_post.l0
  rw [if_pos h1, refAt_eq q m hm, ha, w64 (by omega) (by omega), hq]
  simp only [Option.bind_some]
  rw [if_pos h]
theorem post_no (i p q q' a : Int) (m : Nat) (hm : 0 < m) (h0 : 0 ≤ q) (h1 : q < 6) (hq : q + 1 = q') (ha : at14 q = a) (h : ¬ a ≤ i) : psalteryref14_post.l0 (m + 1) i p q = psalteryref14_post.l0 m i p q' := by
  conv => lhs; unfold psalteryref14_post.l0
  rw [if_pos h1, refAt_eq q m hm, ha, w64 (by omega) (by omega), hq]
  simp only [Option.bind_some]
  rw [if_neg h]
theorem post_end (i p : Int) (m : Nat) : psalteryref14_post.l0 (m + 1) i p 6 = some p := by
  conv => lhs; unfold psalteryref14_post.l0
  rw [if_neg (by omega)]
theorem post_eq (i : Int) (hi : 0 ≤ i ∧ i < 16) (k : Nat) (hk : 20 < k) : psalteryref14_post.f k i = some (if i < 1 then 0 else if i < 2 then 1 else if i < 4 then 2 else if i < 8 then 3 else if i < 15 then 4 else 5) := by
  obtain ⟨k, rfl⟩ : ∃ j, k = j + 1 + 1 + 1 + 1 + 1 + 1 + 1 := ⟨k - 7, by omega⟩
  unfold psalteryref14_post.f
  by_cases c0 : i < 1
  · rw [if_pos (show i < 1 by omega), post_yes i 0 0 1 0 _ (by omega) (by omega) (by omega) rfl rfl (by omega), post_no i 0 1 2 1 _ (by omega) (by omega) (by omega) rfl rfl (by omega), post_no i 0 2 3 2 _ (by omega) (by omega) (by omega) rfl rfl (by omega), post_no i 0 3 4 4 _ (by omega) (by omega) (by omega) rfl rfl (by omega), post_no i 0 4 5 8 _ (by omega) (by omega) (by omega) rfl rfl (by omega), post_no i 0 5 6 15 _ (by omega) (by omega) (by omega) rfl rfl (by omega), post_end i 0 _]
  by_cases c1 : i < 2
  · rw [if_neg (show ¬ i < 1 by omega), if_pos (show i < 2 by omega), post_yes i 0 0 1 0 _ (by omega) (by omega) (by omega) rfl rfl (by omega), post_yes i 0 1 2 1 _ (by omega) (by omega) (by omega) rfl rfl (by omega), post_no i 1 2 3 2 _ (by omega) (by omega) (by omega) rfl rfl (by omega), post_no i 1 3 4 4 _ (by omega) (by omega) (by omega) rfl rfl (by omega), post_no i 1 4 5 8 _ (by omega) (by omega) (by omega) rfl rfl (by omega), post_no i 1 5 6 15 _ (by omega) (by omega) (by omega) rfl rfl (by omega), post_end i 1 _]
  by_cases c2 : i < 4
  · rw [if_neg (show ¬ i < 1 by omega), if_neg (show ¬ i < 2 by omega), if_pos (show i < 4 by omega), post_yes i 0 0 1 0 _ (by omega) (by omega) (by omega) rfl rfl (by omega), post_yes i 0 1 2 1 _ (by omega) (by omega) (by omega) rfl rfl (by omega), post_yes i 1 2 3 2 _ (by omega) (by omega) (by omega) rfl rfl (by omega), post_no i 2 3 4 4 _ (by omega) (by omega) (by omega) rfl rfl (by omega), post_no i 2 4 5 8 _ (by omega) (by omega) (by omega) rfl rfl (by omega), post_no i 2 5 6 15 _ (by omega) (by omega) (by omega) rfl rfl (by omega), post_end i 2 _]
  by_cases c3 : i < 8
  · rw [if_neg (show ¬ i < 1 by omega), if_neg (show ¬ i < 2 by omega), if_neg (show ¬ i < 4 by omega), if_pos (show i < 8 by omega), post_yes i 0 0 1 0 _ (by omega) (by omega) (by omega) rfl rfl (by omega), post_yes i 0 1 2 1 _ (by omega) (by omega) (by omega) rfl rfl (by omega), post_yes i 1 2 3 2 _ (by omega) (by omega) (by omega) rfl rfl (by omega), post_yes i 2 3 4 4 _ (by omega) (by omega) (by omega) rfl rfl (by omega), post_no i 3 4 5 8 _ (by omega) (by omega) (by omega) rfl rfl (by omega), post_no i 3 5 6 15 _ (by omega) (by omega) (by omega) rfl rfl (by omega), post_end i 3 _]
  by_cases c4 : i < 15
  · rw [if_neg (show ¬ i < 1 by omega), if_neg (show ¬ i < 2 by omega), if_neg (show ¬ i < 4 by omega), if_neg (show ¬ i < 8 by omega), if_pos (show i < 15 by omega), post_yes i 0 0 1 0 _ (by omega) (by omega) (by omega) rfl rfl (by omega), post_yes i 0 1 2 1 _ (by omega) (by omega) (by omega) rfl rfl (by omega), post_yes i 1 2 3 2 _ (by omega) (by omega) (by omega) rfl rfl (by omega), post_yes i 2 3 4 4 _ (by omega) (by omega) (by omega) rfl rfl (by omega), post_yes i 3 4 5 8 _ (by omega) (by omega) (by omega) rfl rfl (by omega), post_no i 4 5 6 15 _ (by omega) (by omega) (by omega) rfl rfl (by omega), post_end i 4 _]
  rw [if_neg (show ¬ i < 1 by omega), if_neg (show ¬ i < 2 by omega), if_neg (show ¬ i < 4 by omega), if_neg (show ¬ i < 8 by omega), if_neg (show ¬ i < 15 by omega), post_yes i 0 0 1 0 _ (by omega) (by omega) (by omega) rfl rfl (by omega), post_yes i 0 1 2 1 _ (by omega) (by omega) (by omega) rfl rfl (by omega), post_yes i 1 2 3 2 _ (by omega) (by omega) (by omega) rfl rfl (by omega), post_yes i 2 3 4 4 _ (by omega) (by omega) (by omega) rfl rfl (by omega), post_yes i 3 4 5 8 _ (by omega) (by omega) (by omega) rfl rfl (by omega), post_yes i 4 5 6 15 _ (by omega) (by omega) (by omega) rfl rfl (by omega), post_end i 5 _]
theorem seg_eq (l : List Int) (hl : okl 6 l = true) (i : Int) (k : Nat) (hk : 0 < k) (p x w : Int) (hp : 0 ≤ p ∧ p < 5) (ex : at14 p = x) (ew : at14 (p + 1) = w) (hx : 0 ≤ x) (hxw : x < w) (hw : w ≤ 15) (h0 : x ≤ i) (h1 : i ≤ w) (hpost : psalteryref14_post.f k i = some p) :
    psalteryref14_Line.f k l i = some (V l p x w i) := by
  simp only [okl, Bool.and_eq_true, beq_iff_eq] at hl
  have b0 := rd_in' hl.1 p (by omega) (by omega)
  have b1 := rd_in' hl.1 (p + 1) (by omega) (by omega)
  have m1 : (rd l (p + 1) - rd l p) * (i - x) ≤ 44 * (i - x) := Int.mul_le_mul_of_nonneg_right (by omega) (by omega)
  have m2 : -44 * (i - x) ≤ (rd l (p + 1) - rd l p) * (i - x) := Int.mul_le_mul_of_nonneg_right (by omega) (by omega)
  have t := tdiv_in (n := (rd l (p + 1) - rd l p) * (i - x)) (d := w - x) (by omega)
  unfold psalteryref14_Line.f
  rw [hpost]
  simp only [Option.bind_some]
  rw [if_neg (by omega), w64 (x := p + 1) (by omega) (by omega), if_pos (by omega), if_pos (by omega), if_pos (by omega), if_pos (by omega), refAt_eq p k hk, refAt_eq (p + 1) k hk, ex, ew]
  simp only [Option.bind_some]
  rw [w64 (x := rd l (p + 1) - rd l p) (by omega) (by omega), w64 (x := i - x) (by omega) (by omega), w64 (x := w - x) (by omega) (by omega)]
  unfold V
  generalize (rd l (p + 1) - rd l p) * (i - x) = n at *
  rw [w64 (x := n) (by omega) (by omega)]
  by_cases c : n < 0
  · rw [if_pos c, if_neg (by omega), w64 (x := -n) (by omega) (by omega), Int.neg_tdiv]
    generalize Int.tdiv n (w - x) = q at *
    rw [w64 (x := -q) (by omega) (by omega), w64 (by omega) (by omega)]
    congr 1; omega
  · rw [if_neg c, if_neg (by omega)]
    generalize Int.tdiv n (w - x) = q at *
    rw [w64 (x := q) (by omega) (by omega), w64 (by omega) (by omega)]
theorem refLine_eq (l : List Int) (hl : okl 6 l = true) (i : Int) (hi : 0 ≤ i ∧ i < 16) (k : Nat) (hk : 20 < k) : psalteryref14_Line.f k l i = some (lineV l i) := by
  have hpost := post_eq i hi k hk
  unfold lineV
  by_cases c1 : i < 1
  · rw [if_pos c1] at hpost ⊢
    exact seg_eq l hl i k (by omega) 0 0 1 (by omega) rfl rfl (by omega) (by omega) (by omega) (by omega) (by omega) hpost
  rw [if_neg c1] at hpost ⊢
  by_cases c2 : i < 2
  · rw [if_pos c2] at hpost ⊢
    exact seg_eq l hl i k (by omega) 1 1 2 (by omega) rfl rfl (by omega) (by omega) (by omega) (by omega) (by omega) hpost
  rw [if_neg c2] at hpost ⊢
  by_cases c3 : i < 4
  · rw [if_pos c3] at hpost ⊢
    exact seg_eq l hl i k (by omega) 2 2 4 (by omega) rfl rfl (by omega) (by omega) (by omega) (by omega) (by omega) hpost
  rw [if_neg c3] at hpost ⊢
  by_cases c4 : i < 8
  · rw [if_pos c4] at hpost ⊢
    exact seg_eq l hl i k (by omega) 3 4 8 (by omega) rfl rfl (by omega) (by omega) (by omega) (by omega) (by omega) hpost
  rw [if_neg c4] at hpost ⊢
  by_cases c5 : i < 15
  · rw [if_pos c5] at hpost
    exact seg_eq l hl i k (by omega) 4 8 15 (by omega) rfl rfl (by omega) (by omega) (by omega) (by omega) (by omega) hpost
  rw [if_neg c5] at hpost
  obtain rfl : i = 15 := by omega
  simp only [okl, Bool.and_eq_true, beq_iff_eq] at hl
  unfold psalteryref14_Line.f
  rw [hpost]
  simp only [Option.bind_some, if_true]
  rw [if_pos (by omega), V_right l 4 (by omega)]
  rfl
theorem refFloor_eq (l : List Int) (hl : okl 6 l = true) (i : Int) (hi : 0 ≤ i ∧ i < 16) (k : Nat) (hk : 200 < k) : psalteryref14_Floor.f k l i = some (flv (lineV l i)) := by
  unfold psalteryref14_Floor.f
  rw [refLine_eq l hl i hi k (by omega)]
  simp only [Option.bind_some]
  rw [refVal_eq _ k (by omega)]
  simp only [Option.bind_some]
  unfold flv; split <;> rfl
end Go.Proofs.Ytdajlfijkbafiaa.LF
namespace Go.Proofs.Ytdajlfijkbafiaa.P
open Go.RowKit Go.Proofs.YtdajlfijkbafiaaW.PrintWords Go.Proofs.YtdajlfijkbafiaaW.PrintLast Go.Proofs.YtdajlfijkbafiaaW.PrintMore
attribute [local go_sem] max2_int min2_int max_two min_two max_three min_three max_four min_four
def psalteryref03_Clamp.f (a0 : Int) (a1 : Int) (a2 : Int) : Option (Int) := if a0 < a1 then (some a1) else (if a0 > a2 then (some a2) else (some a0))
def psalteryref21_Restore.l0 : Nat → List Int → List Int → List Int → Int → Option (List Int)
  | 0, _, _, _, _ => none
  | k + 1, x0, x1, x5, x6 => if x6 < 16 then (if 0 ≤ x6 then (if x6 < (x0.length : Int) then (if x6 < (x1.length : Int) then ((psalteryref03_Clamp.f (wrap64 ((rd x0 x6) * (rd x1 x6))) (-1048576) 1048576).bind fun a0 => (if x5.length < 17592186044416 then (psalteryref21_Restore.l0 k x0 x1 (x5 ++ [a0]) (wrap64 (x6 + 1))) else (none))) else (none)) else (none)) else (none)) else (some x5)
def psalteryref21_Restore.f (k : Nat) (l0 : List Int) (l1 : List Int) : Option (List Int) := psalteryref21_Restore.l0 k l0 l1 ([] : List Int) 0
theorem psalteryref21_Restore.mono_l : ∀ k, (∀ y0 y1 y2 y3, LeO (psalteryref21_Restore.l0 k y0 y1 y2 y3) (psalteryref21_Restore.l0 (k + 1) y0 y1 y2 y3))
  | 0 => fun _ _ _ _ r h => by simp [psalteryref21_Restore.l0] at h
  | k + 1 => by
    have a0 := psalteryref21_Restore.mono_l k
    · intro y0 y1 y2 y3
      unfold psalteryref21_Restore.l0
      with_reducible repeat' first
   | apply a0
   | exact LeO.refl _
   | exact LeO.none _
   | refine LeO.ite ?_ ?_
   | refine LeO.bind ?_ (fun _ => ?_)
theorem psalteryref21_Restore.mono : ∀ a0 a1 k, LeO (psalteryref21_Restore.f k a0 a1) (psalteryref21_Restore.f (k + 1) a0 a1) := by
  intro a0 a1 k
  have b0 := psalteryref21_Restore.mono_l k
  unfold psalteryref21_Restore.f
  with_reducible repeat' first
   | apply b0
   | exact LeO.refl _
   | exact LeO.none _
   | refine LeO.ite ?_ ?_
   | refine LeO.bind ?_ (fun _ => ?_)
end Go.Proofs.Ytdajlfijkbafiaa.P
