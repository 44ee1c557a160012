/- Words, walks and what they compute, as the law's proof needs them. -/
import Derived.WalkMore
import Derived.Test.YtdajlfijkbafiaaW3
import Derived.Test.YtdajlfijkbafiaaW6
import Derived.Test.YtdajlfijkbafiaaW4
import Derived.Test.YtdajlfijkbafiaaW5
import Derived.Test.YtdajlfijkbafiaaW2
import Derived.Laws.BitsAllLaws
set_option linter.unusedVariables false
set_option linter.unusedSimpArgs false
set_option maxHeartbeats 8000000
set_option maxRecDepth 100000
namespace Go.Proofs.Ytdajlfijkbafiaa.P
open Go.RowKit Go.Proofs.YtdajlfijkbafiaaW.PrintWords Go.Proofs.YtdajlfijkbafiaaW.PrintLast Go.Proofs.YtdajlfijkbafiaaW.PrintMore
attribute [local go_sem] max2_int min2_int max_two min_two max_three min_three max_four min_four
theorem scope_straight83_ {P : Program} {fn : Func} {R : Ending → World → Prop} {c : Code} {a : Act} {w : World} (h : c.wp P (bodyPost P fn R) a w) : (Code.scope c).wp P (bodyPost P fn R) a w := wp_scope_straight (wp_mono h (fun e a w q => by cases e <;> first | exact q | exact (q : False).elim))
mutual
def Fb_.j3 : Nat → Int → Int → Int → List Int → List Int → List Int → Int → List (List Int) → Option ((List (List Int)) × (List (List Int)) × Int)
  | 0, _, _, _, _, _, _, _, _ => none
  | k + 1, x8, a0, b0, c0, d0, e0, f0, g0 => Fb_.l2 k x8 0 a0 b0 c0 d0 e0 f0 g0 ([] : List (List Int))
def Fb_.l2 : Nat → Int → Int → Int → Int → List Int → List Int → List Int → Int → List (List Int) → List (List Int) → Option ((List (List Int)) × (List (List Int)) × Int)
  | 0, _, _, _, _, _, _, _, _, _, _ => none
  | k + 1, x8, i0, b0, c0, d0, e0, f0, g0, a0, h0 => if i0 < (a0.length : Int) then (Fb_.j5 k x8 i0 (x8 == 0) b0 c0 d0 e0 f0 g0 a0 h0) else (Fb_.j5 k x8 i0 false b0 c0 d0 e0 f0 g0 a0 h0)
def Fb_.j5 : Nat → Int → Int → Bool → Int → Int → List Int → List Int → List Int → Int → List (List Int) → List (List Int) → Option ((List (List Int)) × (List (List Int)) × Int)
  | 0, _, _, _, _, _, _, _, _, _, _, _ => none
  | k + 1, x8, k0, l0, e0, f0, g0, h0, a0, b0, c0, d0 => if l0 = true then (Fb_.l3 k x8 k0 ([] : List Int) e0 f0 g0 h0 a0 b0 c0 d0) else (if x8 = 0 then ((GL_.f a0 b0).bind fun i0 => (if i0 ≥ 8 then (some (([] : List (List Int)), ([] : List (List Int)), 2)) else ((Fp_.f k a0 b0 i0).bind fun j0 => (if j0.2.1 = 0 then (some (c0, d0, 0)) else (some (([] : List (List Int)), ([] : List (List Int)), 2)))))) else (some (([] : List (List Int)), ([] : List (List Int)), x8)))
def Fb_.l3 : Nat → Int → Int → List Int → Int → Int → List Int → List Int → List Int → Int → List (List Int) → List (List Int) → Option ((List (List Int)) × (List (List Int)) × Int)
  | 0, _, _, _, _, _, _, _, _, _, _, _ => none
  | k + 1, x8, i0, j0, e0, f0, g0, c0, d0, h0, b0, a0 => if (j0.length : Int) < 16 then (if 0 ≤ i0 then (if i0 < (b0.length : Int) then (if ((rd_L1 b0 i0).length : Int) > 0 then (if x8 = 0 then ((FE_.f k d0 h0 c0).bind fun k0 => (if j0.length < 17592186044416 then (Fb_.l3 k k0.2.2 i0 (j0 ++ [k0.2.1]) e0 f0 g0 c0 d0 k0.1 b0 a0) else (none))) else (if a0.length < 5864062014805 then (Fb_.l2 k x8 (wrap64 (i0 + 1)) e0 f0 g0 c0 d0 h0 b0 (a0 ++ [j0])) else (none))) else (if a0.length < 5864062014805 then (Fb_.l2 k x8 (wrap64 (i0 + 1)) e0 f0 g0 c0 d0 h0 b0 (a0 ++ [j0])) else (none))) else (none)) else (none)) else (if a0.length < 5864062014805 then (Fb_.l2 k x8 (wrap64 (i0 + 1)) e0 f0 g0 c0 d0 h0 b0 (a0 ++ [j0])) else (none))
def Fb_.l0 : Nat → Int → Int → Int → Int → Int → List Int → List Int → List Int → Int → List (List Int) → Option ((List (List Int)) × (List (List Int)) × Int)
  | 0, _, _, _, _, _, _, _, _, _, _ => none
  | k + 1, x8, i0, j0, c0, d0, e0, f0, a0, h0, g0 => if j0 < i0 then ((Fp_.f k a0 h0 1).bind fun b0 => (if b0.2.2 = 0 then (Fb_.l1 k b0.2.2 b0.2.1 ([] : List Int) i0 j0 c0 d0 e0 f0 a0 b0.1 g0) else (Fb_.j3 k b0.2.2 c0 d0 e0 f0 a0 b0.1 g0))) else (Fb_.j3 k x8 c0 d0 e0 f0 a0 h0 g0)
def Fb_.l1 : Nat → Int → Int → List Int → Int → Int → Int → Int → List Int → List Int → List Int → Int → List (List Int) → Option ((List (List Int)) × (List (List Int)) × Int)
  | 0, _, _, _, _, _, _, _, _, _, _, _, _ => none
  | k + 1, x8, h0, i0, j0, k0, a0, b0, c0, d0, e0, f0, g0 => if (i0.length : Int) < 6 then (Fb_.j2 k x8 h0 i0 j0 k0 (h0 == 1) a0 b0 c0 d0 e0 f0 g0) else (Fb_.j2 k x8 h0 i0 j0 k0 false a0 b0 c0 d0 e0 f0 g0)
def Fb_.j2 : Nat → Int → Int → List Int → Int → Int → Bool → Int → Int → List Int → List Int → List Int → Int → List (List Int) → Option ((List (List Int)) × (List (List Int)) × Int)
  | 0, _, _, _, _, _, _, _, _, _, _, _, _, _ => none
  | k + 1, x8, m0, i0, j0, k0, n0, e0, f0, a0, g0, b0, h0, c0 => if n0 = true then ((Fa_.f k b0 h0 a0).bind fun d0 => (if i0.length < 17592186044416 then (if d0.2.2 = 0 then (Fb_.l1 k d0.2.2 m0 (i0 ++ [d0.2.1]) j0 k0 e0 f0 a0 g0 b0 d0.1 c0) else (Fb_.j3 k d0.2.2 e0 f0 a0 g0 b0 d0.1 c0)) else (none))) else (if c0.length < 5864062014805 then (Fb_.l0 k x8 j0 (wrap64 (k0 + 1)) e0 f0 a0 g0 b0 h0 (c0 ++ [i0])) else (none))
end
def Fb_.f (k : Nat) (a0 : Int) (b0 : Int) (c0 : List Int) (d0 : List Int) (l1 : List Int) : Option ((List (List Int)) × (List (List Int)) × Int) := (Gg_.f k a0 b0 c0 d0).bind fun e0 => (if e0 = true then (Fb_.l0 k 0 a0 0 a0 b0 c0 d0 l1 0 ([] : List (List Int))) else (some (([] : List (List Int)), ([] : List (List Int)), 1)))
theorem Fb_.mono_l : ∀ k, (∀ y0 y1 y2 y3 y4 y5 y6 y7, LeO (Fb_.j3 k y0 y1 y2 y3 y4 y5 y6 y7) (Fb_.j3 (k + 1) y0 y1 y2 y3 y4 y5 y6 y7)) ∧ (∀ y0 y1 y2 y3 y4 y5 y6 y7 y8 y9, LeO (Fb_.l2 k y0 y1 y2 y3 y4 y5 y6 y7 y8 y9) (Fb_.l2 (k + 1) y0 y1 y2 y3 y4 y5 y6 y7 y8 y9)) ∧ (∀ y0 y1 y2 y3 y4 y5 y6 y7 y8 y9 a0, LeO (Fb_.j5 k y0 y1 y2 y3 y4 y5 y6 y7 y8 y9 a0) (Fb_.j5 (k + 1) y0 y1 y2 y3 y4 y5 y6 y7 y8 y9 a0)) ∧ (∀ y0 y1 y2 y3 y4 y5 y6 y7 y8 y9 a0, LeO (Fb_.l3 k y0 y1 y2 y3 y4 y5 y6 y7 y8 y9 a0) (Fb_.l3 (k + 1) y0 y1 y2 y3 y4 y5 y6 y7 y8 y9 a0)) ∧ (∀ y0 y1 y2 y3 y4 y5 y6 y7 y8 y9, LeO (Fb_.l0 k y0 y1 y2 y3 y4 y5 y6 y7 y8 y9) (Fb_.l0 (k + 1) y0 y1 y2 y3 y4 y5 y6 y7 y8 y9)) ∧ (∀ y0 y1 y2 y3 y4 y5 y6 y7 y8 y9 a0 b0, LeO (Fb_.l1 k y0 y1 y2 y3 y4 y5 y6 y7 y8 y9 a0 b0) (Fb_.l1 (k + 1) y0 y1 y2 y3 y4 y5 y6 y7 y8 y9 a0 b0)) ∧ (∀ y0 y1 y2 y3 y4 y5 y6 y7 y8 y9 a0 b0 c0, LeO (Fb_.j2 k y0 y1 y2 y3 y4 y5 y6 y7 y8 y9 a0 b0 c0) (Fb_.j2 (k + 1) y0 y1 y2 y3 y4 y5 y6 y7 y8 y9 a0 b0 c0))
  | 0 => ⟨fun _ _ _ _ _ _ _ _ r h => by simp [Fb_.j3] at h, fun _ _ _ _ _ _ _ _ _ _ r h => by simp [Fb_.l2] at h, fun _ _ _ _ _ _ _ _ _ _ _ r h => by simp [Fb_.j5] at h, fun _ _ _ _ _ _ _ _ _ _ _ r h => by simp [Fb_.l3] at h, fun _ _ _ _ _ _ _ _ _ _ r h => by simp [Fb_.l0] at h, fun _ _ _ _ _ _ _ _ _ _ _ _ r h => by simp [Fb_.l1] at h, fun _ _ _ _ _ _ _ _ _ _ _ _ _ r h => by simp [Fb_.j2] at h⟩
  | k + 1 => by
    obtain ⟨d0, e0, f0, g0, h0, i0, j0⟩ := Fb_.mono_l k
    refine ⟨?_, ?_, ?_, ?_, ?_, ?_, ?_⟩
    all_goals (intros; first | unfold Fb_.j3 | unfold Fb_.l2 | unfold Fb_.j5 | unfold Fb_.l3 | unfold Fb_.l0 | unfold Fb_.l1 | unfold Fb_.j2)
    all_goals with_reducible repeat' first
     | apply d0
     | exact e0 _ _ _ _ _ _ _ _ _ _
     | exact f0 _ _ _ _ _ _ _ _ _ _ _
     | exact g0 _ _ _ _ _ _ _ _ _ _ _
     | exact h0 _ _ _ _ _ _ _ _ _ _
     | exact i0 _ _ _ _ _ _ _ _ _ _ _ _
     | exact j0 _ _ _ _ _ _ _ _ _ _ _ _ _
     | apply Fp_.mono
     | apply Fa_.mono
     | apply Gg_.mono
     | apply FE_.mono
     | exact LeO.refl _
     | exact LeO.none _
     | refine LeO.ite ?_ ?_
     | refine LeO.bind ?_ (fun _ => ?_)
theorem Fb_.mono : ∀ a0 a1 a2 a3 a4 k, LeO (Fb_.f k a0 a1 a2 a3 a4) (Fb_.f (k + 1) a0 a1 a2 a3 a4) := by
  intro a0 a1 a2 a3 a4 k
  obtain ⟨b0, c0, d0, e0, f0, g0, h0⟩ := Fb_.mono_l k
  unfold Fb_.f
  with_reducible repeat' first
   | apply b0
   | exact c0 _ _ _ _ _ _ _ _ _ _
   | exact d0 _ _ _ _ _ _ _ _ _ _ _
   | exact e0 _ _ _ _ _ _ _ _ _ _ _
   | exact f0 _ _ _ _ _ _ _ _ _ _
   | exact g0 _ _ _ _ _ _ _ _ _ _ _ _
   | exact h0 _ _ _ _ _ _ _ _ _ _ _ _ _
   | apply Fp_.mono
   | apply Fa_.mono
   | apply Gg_.mono
   | apply FE_.mono
   | exact LeO.refl _
   | exact LeO.none _
   | refine LeO.ite ?_ ?_
   | refine LeO.bind ?_ (fun _ => ?_)
def Fb_.T14 : Bool × List (List Nat × List Nat) := (true, [([], []), ([], []), ([], []), ([], []), ([3], [3]), ([2, 4], [2, 4]), ([0, 5, 0], [0]), ([1, 6, 0, 1, 6], [1]), ([5, 7, 0, 1, 2, 3, 4, 5, 6, 7], [2, 5])])
def Fb_.B14 : List Nat := [0, 0, 0, 0, 8, 28, 61, 127, 255]
theorem Fb_.tab14 : rtab .any (opsOf Try.f20 14) = Fb_.T14 := by kernel_rfl
theorem Fb_.bits14 : waitsOk Fb_.T14.2 Fb_.B14 = true := by kernel_rfl
def Fb_.T24 : Bool × List (List Nat × List Nat) := (true, [([], []), ([], []), ([], []), ([], []), ([3], [3]), ([2, 4], [2, 4]), ([0, 5, 0], [0]), ([1, 6, 0, 1, 6], [1]), ([5, 7, 0, 1, 2, 3, 4, 5, 6, 7], [2, 5])])
def Fb_.B24 : List Nat := [0, 0, 0, 0, 8, 28, 61, 127, 255]
theorem Fb_.tab24 : rtab .any (opsOf Try.f20 24) = Fb_.T24 := by kernel_rfl
theorem Fb_.bits24 : waitsOk Fb_.T24.2 Fb_.B24 = true := by kernel_rfl
theorem Fb_.calls (k : Nat) (L0 : Int) (M0 : Int) (b1 : Option Addr) (d1 : Nat) (F0 : List Int) (e1 : Option Addr) (f1 : Nat) (J0 : List Int) (A1 : Option Addr) (c1 : Nat) (l1 : List Int) (r1 : List (List Int)) (r2 : List (List Int)) (r3 : Int) (w : World) (hr0_2 : Kd.C (Kd.int .i64) w b1 F0.length F0) (hc0_2 : F0.length ≤ d1) (hr0_3 : Kd.C (Kd.int .i64) w e1 J0.length J0) (hc0_3 : J0.length ≤ f1) (hr1 : Kd.C (Kd.int .u8) w A1 l1.length l1) (hc1 : l1.length ≤ c1) (h : Fb_.f k L0 M0 F0 J0 l1 = some (r1, r2, r3)) :
    Calls Try.prog 20 #[.agg #[.int .i64 L0, .int .i64 M0, .slice b1 F0.length d1, .slice e1 J0.length f1], .slice A1 l1.length c1] w fun e w' => ∃ v0_ v1_ : Value, e = .returned (.tuple #[.agg #[v0_, v1_], .int .i64 r3]) ∧ Kd.S (Kd.slice 3 (Kd.int .i64)) 22 w' w.heap.size (fun _ => True) v0_ r1 ∧ Kd.S (Kd.slice 2 (Kd.int .i64)) 53 w' w.heap.size (fun _ => True) v1_ r2 ∧ Below w.heap.size w w' := by
 have Q03 := Try.underlying24
 have R03 := Try.underlying28
 have S03 := Try.underlying81
 have T2 := a_ hr0_2
 have U2 := a_ hc0_2
 clear hr0_2 hc0_2
 have C3 := a_ hr0_3
 have D3 := a_ hc0_3
 clear hr0_3 hc0_3
 have H2 := a_ hr1
 have I2 := a_ hc1
 clear hr1 hc1
 have HB := a_ (Below.refl w.heap.size w)
 have H : ((Gg_.f k L0 M0 F0 J0).bind fun I4 => (if I4 = true then (Fb_.l0 k 0 L0 0 L0 M0 F0 J0 l1 0 ([] : List (List Int))) else (some (([] : List (List Int)), ([] : List (List Int)), 1)))) = some (r1, r2, r3) := h
 clear h
 obtain ⟨I4, A3, H⟩ := ob_ H
 (try dsimp only at H)
 replace H := ib_ H
 rcases H with ⟨rfl, H⟩ | ⟨rfl, H⟩
 {
 have J4 := a_ H
 clear H
 go_enter Try.func20, Try.ntmps20
 go_upto_block 0 with (first | (with_reducible refine scope_straight83_ ?_) | (with_reducible refine wp_label ?_) | ((with_reducible refine gate_dst (N := 2) rfl ?_); (try (refine gate_guard (by rfl) ?_; dsimp only)); refine bx_ HB 2 #[.int .i64 L0, .int .i64 M0, .slice b1 F0.length d1, .slice e1 J0.length f1] 24 ?_; clear HB; intro o1 hg w6 hb c0 E3 HB; have n5 := E3; clear hb hg) | ((with_reducible refine gate_dst (N := 4) rfl ?_); (try (refine gate_guard (by rfl) ?_; dsimp only)); refine bx_ HB 4 #[.slice none 0 0, .slice none 0 0] 28 ?_; clear HB; intro R0 hg w7 hb d0 F3 HB; have o5 := F3; obtain ⟨T0, U0⟩ := NN_ c0 hg; replace c0 := FB_ c0 hb; clear hb hg; have T03 := T0.out; have U03 := U0.out; obtain ⟨P1, Q1, R1, S1, T1, U1, V1, W1⟩ := e4_ c0) | ((with_reducible refine gate_callee (f := 41) rfl ?_); refine gL_ (some 26) Try.func41 #[.agg #[.int .i64 L0, .int .i64 M0, .slice b1 F0.length d1, .slice e1 J0.length f1]] ?_; (with_reducible refine (Gg_.calls k L0 M0 _ _ F0 _ _ J0 true _ ?side1 ?side2 ?side3 ?side4 A3.out).mono ?_); (case side1 => exact kC_ T2 HB); (case side2 => exact U2.out); (case side3 => exact kC_ C3 HB); (case side4 => exact D3.out); rintro e w10 ⟨rfl, hb⟩; refine ⟨_, rfl, ?_⟩; replace c0 := FB_ c0 hb; replace d0 := FB_ d0 hb; replace HB := BS_ HB hb; (try clear hb)) | ((with_reducible refine gate_dst (N := 6) rfl ?_); (try (refine gate_guard (by rfl) ?_; dsimp only)); refine bx_ HB 6 #[.slice none 0 0, .int .i64 0] 81 ?_; clear HB; intro j0 hg w11 hb b0 p5 HB; have X01 := p5; obtain ⟨B0, C0⟩ := NN_ c0 hg; replace c0 := FB_ c0 hb; obtain ⟨y0, z0⟩ := NN_ d0 hg; replace d0 := FB_ d0 hb; clear hb hg; have Y01 := C0.out; have Z01 := B0.out; have a02 := z0.out; have b02 := y0.out; obtain ⟨v1, y1, z1, B1⟩ := e2_ b0) | ((with_reducible refine gate_dst (N := 7) rfl ?_); (try (refine gate_guard (by rfl) ?_; dsimp only)); refine bx_ HB 7 #[.slice none 0 0, .slice none 0 0] 28 ?_; clear HB; intro W0 hg w15 hb e0 q5 HB; have c02 := q5; obtain ⟨N0, O0⟩ := NN_ c0 hg; replace c0 := FB_ c0 hb; obtain ⟨P0, Q0⟩ := NN_ d0 hg; replace d0 := FB_ d0 hb; obtain ⟨p0, q0⟩ := NP_ (.cells #[.slice A1 l1.length c1, .int .i64 0] 81 (0, 0)) b0 hg; replace b0 := a_ (blk_below (g := j0) (o := .cells #[.slice A1 l1.length c1, .int .i64 0] 81 (0, 0)) (bp_ b0) hb); clear hb hg; have d02 := N0.out; have e02 := O0.out; obtain ⟨C1, D1, E1, F1, G1, H1, I1, J1⟩ := e4_ c0))
 (try simp only [Act.put, List.setIfInBounds_toArray, List.set_cons_zero, List.set_cons_succ])
 go_cut [8] (fun v8 wc => ∃ (kq : Nat) (X1 : Int) (D0 : Int) (h0 : List (List Int)) (n0 : Value), v8 = .int .i64 X1 ∧ Aside0 (Fb_.j3 kq X1 L0 M0 F0 J0 l1 D0 h0 = some (r1, r2, r3)) ∧ Aside0 (kq ≤ k) ∧ Aside0 (Kd.S (Kd.slice 3 (Kd.int .i64)) 22 wc w.heap.size (fun _ => True) n0 h0) ∧ Aside0 (wc.heap[o1]? = some (.cells #[.int .i64 L0, .int .i64 M0, (.slice b1 F0.length d1), (.slice e1 J0.length f1)] 24 (0, 0))) ∧ Aside0 (wc.heap[R0]? = some (.cells #[(.slice none 0 0), (.slice none 0 0)] 28 (0, 0))) ∧ Aside0 (wc.heap[j0]? = some (.cells #[(.slice A1 l1.length c1), .int .i64 D0] 81 (0, 0))) ∧ Aside0 (wc.heap[W0]? = some (.cells #[n0, (.slice none 0 0)] 28 (0, 0))) ∧ Aside0 (Below w.heap.size w wc))
 case first => (
 have H := J4.out
 clear J4
 have H' := a_ H
 clear H
 go_wp2
 go_loopg [8, 33] k (fun kq v8 C9 w' => ∃ (G3 : Int) (F2 : Int) (a1 : Int) (H0 : List (List Int)) (n0 : Value), v8 = .int .i64 G3 ∧ C9 = .int .i64 F2 ∧ Aside0 (Fb_.l0 kq G3 L0 F2 L0 M0 F0 J0 l1 a1 H0 = some (r1, r2, r3)) ∧ Aside0 (kq ≤ k) ∧ Aside0 (Kd.S (Kd.slice 3 (Kd.int .i64)) 22 w' w.heap.size (fun _ => True) n0 H0) ∧ Aside0 (w'.heap[o1]? = some (.cells #[.int .i64 L0, .int .i64 M0, (.slice b1 F0.length d1), (.slice e1 J0.length f1)] 24 (0, 0))) ∧ Aside0 (w'.heap[R0]? = some (.cells #[(.slice none 0 0), (.slice none 0 0)] 28 (0, 0))) ∧ Aside0 (w'.heap[j0]? = some (.cells #[(.slice A1 l1.length c1), .int .i64 a1] 81 (0, 0))) ∧ Aside0 (w'.heap[W0]? = some (.cells #[n0, (.slice none 0 0)] 28 (0, 0))) ∧ Aside0 (Below w.heap.size w w'))
 case atStart => exact ⟨(0), (0), (0), (([] : List (List Int))), (.slice none 0 0), rs_, rs_, H', ⟨Nat.le_refl _⟩, ⟨kn_⟩, ⟨bk_ c0⟩, ⟨bk_ d0⟩, ⟨bk_ b0⟩, ⟨bk_ e0⟩, ⟨bl_ HB⟩⟩
 case round => (
 clear H'
 try clear c1
 try clear c4
 try clear v1 y1 z1 B1
 try clear C1 D1 E1 F1 G1 H1 I1 J1
 try clear P1 Q1 R1 S1 T1 U1 V1 W1
 obtain ⟨G3, F2, a1, H0, n0, rfl, rfl, HA, M2, a0, c0, d0, b0, e0, HB⟩ := hrel
 cases gk with
 | zero => exact absurd HA.out (by simp [Fb_.l0])
 | succ k1 => (
 have H := HA.out
 clear HA
 simp only [Fb_.l0] at H
 replace H := id_ H
 rcases H with ⟨c2, H⟩ | ⟨c2, H⟩
 {
 (first | rw [c2] | (simp only [i64_w, i32_w]; rw [c2]) | skip)
 obtain ⟨⟨M1, b3, H3⟩, T5, H⟩ := ob_ H
 (try dsimp only at H)
 replace H := ie_ H
 rcases H with ⟨I3, J3, H⟩ | ⟨U5, I3, J3, H⟩
 {
 have H' := a_ H
 clear H
 have f02 := C0.out
 have g02 := B0.out
 have h02 := z0.out
 have i02 := y0.out
 have j02 := p0.out
 have k02 := q0.out
 obtain ⟨k3, m3, n3, o3⟩ := e2_ b0
 go_wp2_with (first | (with_reducible refine scope_straight83_ ?_) | (with_reducible refine wp_label ?_) | ((with_reducible refine gate_callee (f := 47) rfl ?_); refine gL_ (some 37) Try.func47 #[.agg #[.slice A1 l1.length c1, .int .i64 a1], .int .i64 1] ?_; (with_reducible refine (Fp_.calls k1 _ _ l1 a1 1 M1 b3 H3 _ ?side1 ?side2 T5.out).mono ?_); (case side1 => exact kC_ H2 HB); (case side2 => exact I2.out); rintro e w25 ⟨rfl, hb⟩; refine ⟨_, rfl, ?_⟩; replace a0 := FS_ a0 hb; replace c0 := FB_ c0 hb; replace d0 := FB_ d0 hb; replace b0 := FB_ b0 hb; replace e0 := FB_ e0 hb; replace HB := BS_ HB hb; (try clear hb)) | ((with_reducible refine gate_dst (N := 9) rfl ?_); (try (refine gate_guard (by rfl) ?_; dsimp only)); refine bx_ HB 9 #[.slice none 0 0, .int .i64 0] 81 ?_; clear HB; intro O1 hg w26 hb m0 K3 HB; have r5 := K3; replace a0 := FS_ a0 hb; obtain ⟨K1, L1⟩ := NN_ c0 hg; replace c0 := FB_ c0 hb; obtain ⟨e2, f2⟩ := NN_ d0 hg; replace d0 := FB_ d0 hb; obtain ⟨X0, Y0⟩ := NN_ b0 hg; replace b0 := FB_ b0 hb; obtain ⟨Z1, a2⟩ := NN_ e0 hg; replace e0 := FB_ e0 hb; clear hb hg; have l02 := L1.out; have m02 := K1.out; have n02 := f2.out; have o02 := e2.out; have p02 := Y0.out; have q02 := X0.out; have r02 := a2.out; have s02 := Z1.out; obtain ⟨p3, q3, s3, t3⟩ := e2_ m0; obtain ⟨v3, w3, y3, z3⟩ := e2_ b0))
 go_loopg [8, 12] k1 (fun kq v8 V5 w' => ∃ (N1 : Int) (V0 : List Int) (g0 : Int), v8 = .int .i64 N1 ∧ Aside0 (Fb_.l1 kq N1 b3 V0 L0 F2 L0 M0 F0 J0 l1 g0 H0 = some (r1, r2, r3)) ∧ Aside0 (kq ≤ k1) ∧ Aside0 (Kd.R (Kd.int .i64) 3 w' w.heap.size (fun _ => True) V5 V0) ∧ Aside0 (Kd.S (Kd.slice 3 (Kd.int .i64)) 22 w' w.heap.size (fun k_ => no_ k_ V5) n0 H0) ∧ Aside0 (w'.heap[o1]? = some (.cells #[.int .i64 L0, .int .i64 M0, (.slice b1 F0.length d1), (.slice e1 J0.length f1)] 24 (0, 0))) ∧ Aside0 (w'.heap[R0]? = some (.cells #[(.slice none 0 0), (.slice none 0 0)] 28 (0, 0))) ∧ Aside0 (w'.heap[j0]? = some (.cells #[(.slice A1 l1.length c1), .int .i64 g0] 81 (0, 0))) ∧ Aside0 (w'.heap[W0]? = some (.cells #[n0, (.slice none 0 0)] 28 (0, 0))) ∧ Aside0 (w'.heap[O1]? = some (.cells #[(.slice A1 l1.length c1), .int .i64 M1] 81 (0, 0))) ∧ Aside0 (Below w.heap.size w w'))
 case atStart => exact ⟨(H3), (([] : List Int)), (M1), rs_, H', ⟨Nat.le_refl _⟩, ⟨kn_⟩, ⟨by (with_reducible repeat (first | apply Kd.S_alloc | apply Kd.S_drewN | apply Kd.S_drew)); exact Kd.S_mono (Kd.S_far (p := ⟨j0, 1, none⟩) (Kd.S_far (p := ⟨j0, 0, none⟩) (Kd.S_far (p := ⟨O1, 1, none⟩) (Kd.S_far (p := ⟨O1, 0, none⟩) (Kd.S_types (Kd.S_types a0.out m0.out (by decide)) b0.out (by decide)) (fun _ hk => hk.1.2) (.slice A1 l1.length c1)) (fun _ hk => hk.1.2) (.int .i64 M1)) (fun _ hk => hk.2) (.slice A1 l1.length c1)) (fun _ hk => hk.2) (.int .i64 M1)) (fun _ hk => (by simp [Value.ownBlock]))⟩, ⟨bk_ c0⟩, ⟨bk_ d0⟩, ⟨bp_ b0⟩, ⟨bk_ e0⟩, ⟨bp_ m0⟩, ⟨bl_ HB⟩⟩
 case round => (
 clear H'
 try clear c1
 try clear c4
 try clear D9
 try clear c2
 try clear U5
 try clear I3
 try clear J3
 try clear v1 y1 z1 B1
 try clear C1 D1 E1 F1 G1 H1 I1 J1
 try clear k3 m3 n3 o3
 try clear p3 q3 s3 t3
 try clear v3 w3 y3 z3
 try clear P1 Q1 R1 S1 T1 U1 V1 W1
 obtain ⟨N1, V0, g0, rfl, HA, t1, k0, a0, c0, d0, b0, e0, m0, HB⟩ := hrel
 cases gk with
 | zero => exact absurd HA.out (by simp [Fb_.l1])
 | succ k2 => (
 have H := HA.out
 clear HA
 simp only [Fb_.l1] at H
 have q4 := a_ H
 clear H
 go_upto_region 12 with (first | (with_reducible refine scope_straight83_ ?_) | (with_reducible refine wp_label ?_))
 go_cut [51] (fun E9 wc => ∃ (kq : Nat) (N2 : Bool), E9 = .bool N2 ∧ Aside0 (Fb_.j2 kq N1 b3 V0 L0 F2 N2 L0 M0 F0 J0 l1 g0 H0 = some (r1, r2, r3)) ∧ Aside0 (kq ≤ k2) ∧ Aside0 (Kd.R (Kd.int .i64) 3 wc w.heap.size (fun _ => True) u12 V0) ∧ Aside0 (Kd.S (Kd.slice 3 (Kd.int .i64)) 22 wc w.heap.size (fun k_ => no_ k_ u12) n0 H0) ∧ Aside0 (wc.heap[o1]? = some (.cells #[.int .i64 L0, .int .i64 M0, (.slice b1 F0.length d1), (.slice e1 J0.length f1)] 24 (0, 0))) ∧ Aside0 (wc.heap[R0]? = some (.cells #[(.slice none 0 0), (.slice none 0 0)] 28 (0, 0))) ∧ Aside0 (wc.heap[j0]? = some (.cells #[(.slice A1 l1.length c1), .int .i64 g0] 81 (0, 0))) ∧ Aside0 (wc.heap[W0]? = some (.cells #[n0, (.slice none 0 0)] 28 (0, 0))) ∧ Aside0 (wc.heap[O1]? = some (.cells #[(.slice A1 l1.length c1), .int .i64 M1] 81 (0, 0))) ∧ Aside0 (Below w.heap.size w wc))
 case first => (
 have H := q4.out
 clear q4
 replace H := ii_ H
 rcases H with ⟨i4, H⟩ | ⟨i4, H⟩
 {
 have O2 : decide ((V0.length : Int) < 6) = true := decide_eq_true i4
 have s5 : decide (V0.length < 6) = true := decide_eq_true (by omega)
 clear i4
 (first | rw [O2] | (simp only [i64_w, i32_w]; rw [O2]) | skip)
 have H' := a_ H
 clear H
 obtain ⟨V03, W03, c6⟩ := Kd.R_slice k0.out
 subst c6
 go_wp2
 go_meet
 case rel => exact ⟨_, ((b3 == 1)), rs_, H', ⟨by have := M2.out; have := t1.out; first | omega | exact Nat.le_refl _⟩, ⟨kR_ k0⟩, ⟨kS_ a0⟩, ⟨bk_ c0⟩, ⟨bk_ d0⟩, ⟨bk_ b0⟩, ⟨bk_ e0⟩, ⟨bk_ m0⟩, ⟨bl_ HB⟩⟩}
 {
 have O2 : decide ((V0.length : Int) < 6) = false := decide_eq_false i4
 have s5 : decide (V0.length < 6) = false := decide_eq_false (by omega)
 clear i4
 (first | rw [O2] | (simp only [i64_w, i32_w]; rw [O2]) | skip)
 have H' := a_ H
 clear H
 obtain ⟨X03, Y03, d6⟩ := Kd.R_slice k0.out
 subst d6
 go_wp2
 go_meet
 case rel => exact ⟨_, (false), rs_, H', ⟨by have := M2.out; have := t1.out; first | omega | exact Nat.le_refl _⟩, ⟨kR_ k0⟩, ⟨kS_ a0⟩, ⟨bk_ c0⟩, ⟨bk_ d0⟩, ⟨bk_ b0⟩, ⟨bk_ e0⟩, ⟨bk_ m0⟩, ⟨bl_ HB⟩⟩})
 case rest => (
 clear q4
 try clear c1
 try clear c4
 try clear D9
 try clear c2
 try clear U5
 try clear I3
 try clear J3
 try clear v1 y1 z1 B1
 try clear C1 D1 E1 F1 G1 H1 I1 J1
 try clear k3 m3 n3 o3
 try clear p3 q3 s3 t3
 try clear v3 w3 y3 z3
 try clear P1 Q1 R1 S1 T1 U1 V1 W1
 obtain ⟨kq, N2, rfl, HA, HJ32, k0, a0, c0, d0, b0, e0, m0, HB⟩ := hcut
 cases kq with
 | zero => exact absurd HA.out (by simp [Fb_.j2])
 | succ kj32 => (
 have H := HA.out
 clear HA
 simp only [Fb_.j2] at H
 by_cases t4 : N2 = true
 {
 subst t4
 rw [if_pos rfl] at H
 obtain ⟨⟨G0, L2, L3⟩, W5, H⟩ := ob_ H
 (try dsimp only at H)
 replace H := gt_ H
 obtain ⟨X5, H⟩ := H
 have v4 := a_ X5
 clear X5
 obtain ⟨e6, V2⟩ : ∃ y_ : List Int, y_ = (V0 ++ [L2]) := ⟨_, rfl⟩
 first | replace H := by_ H V2 | rw [← V2] at H
 have w4 := a_ V2
 clear V2
 replace H := ie_ H
 rcases H with ⟨t5, v5, H⟩ | ⟨c40, t5, v5, H⟩
 {
 have H' := a_ H
 clear H
 have t02 := C0.out
 have v02 := B0.out
 have w02 := z0.out
 have x02 := y0.out
 have y02 := p0.out
 have z02 := q0.out
 have A02 := X0.out
 have B02 := Y0.out
 obtain ⟨J8, K8, L8, M8⟩ := e2_ b0
 have C02 := T0.out
 have D02 := U0.out
 have E02 := N0.out
 have F02 := O0.out
 have G02 := K1.out
 have H02 := L1.out
 obtain ⟨N8, O8, P8, Q8, R8, S8, T8, U8⟩ := e4_ c0
 try go_wp2_with (first | (with_reducible refine scope_straight83_ ?_) | (with_reducible refine wp_label ?_) | ((with_reducible refine gate_callee (f := 48) rfl ?_); refine gL_ (some 56) Try.func48 #[.agg #[.slice A1 l1.length c1, .int .i64 g0], .slice b1 F0.length d1] ?_; (with_reducible refine (Fa_.calls kj32 _ _ l1 g0 _ _ F0 G0 L2 L3 _ ?side1 ?side2 ?side3 ?side4 W5.out).mono ?_); (case side1 => exact kC_ H2 HB); (case side2 => exact I2.out); (case side3 => exact kC_ T2 HB); (case side4 => exact U2.out); rintro e w50 ⟨rfl, hb⟩; refine ⟨_, rfl, ?_⟩; replace k0 := FR_ k0 hb; replace a0 := FS_ a0 hb; replace c0 := FB_ c0 hb; replace d0 := FB_ d0 hb; replace b0 := FB_ b0 hb; replace e0 := FB_ e0 hb; replace m0 := FB_ m0 hb; replace HB := BS_ HB hb; (try clear hb)) | ((with_reducible refine gate_dst (N := 13) rfl ?_); (try (refine gate_guard (by rfl) ?_; dsimp only)); refine bx_ HB 13 #[.slice none 0 0, .int .i64 0] 81 ?_; clear HB; intro i0 hg J2 hb o0 M3 HB; have w5 := M3; replace k0 := FR_ k0 hb; replace a0 := FS_ a0 hb; obtain ⟨g2, h2⟩ := NN_ c0 hg; replace c0 := FB_ c0 hb; obtain ⟨i2, m2⟩ := NN_ d0 hg; replace d0 := FB_ d0 hb; obtain ⟨h1, E0⟩ := NN_ b0 hg; replace b0 := FB_ b0 hb; obtain ⟨n2, p2⟩ := NN_ e0 hg; replace e0 := FB_ e0 hb; obtain ⟨q2, s2⟩ := NN_ m0 hg; replace m0 := FB_ m0 hb; clear hb hg; have I02 := h2.out; have J02 := g2.out; have K02 := m2.out; have L02 := i2.out; have M02 := E0.out; have N02 := h1.out; have O02 := p2.out; have P02 := n2.out; have Q02 := s2.out; have R02 := q2.out; obtain ⟨V8, W8, X8, Y8⟩ := e2_ o0))
 have n0_ : Aside0 (Kd.R (Kd.int .i64) 3 ((J2.setCell ⟨i0, 0, none⟩ (.slice A1 l1.length c1)).setCell ⟨i0, 1, none⟩ (.int .i64 G0)) w.heap.size (fun _ => True) u12 V0) := ⟨by (with_reducible repeat (first | apply Kd.R_alloc | apply Kd.R_drewN | apply Kd.R_drew)); exact Kd.R_mono (Kd.R_far (p := ⟨i0, 1, none⟩) (Kd.R_far (p := ⟨i0, 0, none⟩) (Kd.R_types k0.out o0.out (by decide)) (fun _ hk => hk.2) (.slice A1 l1.length c1)) (fun _ hk => hk.2) (.int .i64 G0)) (fun _ hk => trivial)⟩
 have n1_ : Aside0 (Kd.S (Kd.slice 3 (Kd.int .i64)) 22 ((J2.setCell ⟨i0, 0, none⟩ (.slice A1 l1.length c1)).setCell ⟨i0, 1, none⟩ (.int .i64 G0)) w.heap.size (fun k_ => no_ k_ u12) n0 H0) := ⟨kSk_ a0 o0⟩
 have n2_ : Aside0 (((J2.setCell ⟨i0, 0, none⟩ (.slice A1 l1.length c1)).setCell ⟨i0, 1, none⟩ (.int .i64 G0)).heap[o1]? = some (.cells #[.int .i64 L0, .int .i64 M0, .slice b1 F0.length d1, .slice e1 J0.length f1] 24 (0, 0))) := ⟨bk_ c0⟩
 have n3_ : Aside0 (((J2.setCell ⟨i0, 0, none⟩ (.slice A1 l1.length c1)).setCell ⟨i0, 1, none⟩ (.int .i64 G0)).heap[R0]? = some (.cells #[.slice none 0 0, .slice none 0 0] 28 (0, 0))) := ⟨bk_ d0⟩
 have n4_ : Aside0 (((J2.setCell ⟨i0, 0, none⟩ (.slice A1 l1.length c1)).setCell ⟨i0, 1, none⟩ (.int .i64 G0)).heap[j0]? = some (.cells #[.slice A1 l1.length c1, .int .i64 g0] 81 (0, 0))) := ⟨bk_ b0⟩
 have n5_ : Aside0 (((J2.setCell ⟨i0, 0, none⟩ (.slice A1 l1.length c1)).setCell ⟨i0, 1, none⟩ (.int .i64 G0)).heap[W0]? = some (.cells #[n0, .slice none 0 0] 28 (0, 0))) := ⟨bk_ e0⟩
 have n6_ : Aside0 (((J2.setCell ⟨i0, 0, none⟩ (.slice A1 l1.length c1)).setCell ⟨i0, 1, none⟩ (.int .i64 G0)).heap[O1]? = some (.cells #[.slice A1 l1.length c1, .int .i64 M1] 81 (0, 0))) := ⟨bk_ m0⟩
 have n7_ : Aside0 (((J2.setCell ⟨i0, 0, none⟩ (.slice A1 l1.length c1)).setCell ⟨i0, 1, none⟩ (.int .i64 G0)).heap[i0]? = some (.cells #[.slice A1 l1.length c1, .int .i64 G0] 81 (0, 0))) := ⟨bp_ o0⟩
 have n8_ : Aside0 (Below w.heap.size w ((J2.setCell ⟨i0, 0, none⟩ (.slice A1 l1.length c1)).setCell ⟨i0, 1, none⟩ (.int .i64 G0))) := ⟨bl_ HB⟩
 (try clear k0)
 (try clear a0)
 (try clear c0)
 (try clear d0)
 (try clear b0)
 (try clear e0)
 (try clear m0)
 (try clear o0)
 (try clear HB)
 generalize ((J2.setCell ⟨i0, 0, none⟩ (.slice A1 l1.length c1)).setCell ⟨i0, 1, none⟩ (.int .i64 G0)) = F9 at n0_ n1_ n2_ n3_ n4_ n5_ n6_ n7_ n8_ ⊢
 have k0 := n0_
 have a0 := n1_
 have c0 := n2_
 have d0 := n3_
 have b0 := n4_
 have e0 := n5_
 have m0 := n6_
 have o0 := n7_
 have HB := n8_
 clear n0_ n1_ n2_ n3_ n4_ n5_ n6_ n7_ n8_
 replace k0 := a_ (Kd.R_drew k0.out)
 replace a0 := a_ (Kd.S_drew a0.out)
 replace c0 := a_ (blk_drew c0.out)
 replace d0 := a_ (blk_drew d0.out)
 replace b0 := a_ (blk_drew b0.out)
 replace e0 := a_ (blk_drew e0.out)
 replace m0 := a_ (blk_drew m0.out)
 replace o0 := a_ (blk_drew o0.out)
 replace HB := a_ (below_drew1 HB.out)
 refine start_ (n := 9) (S := fun w' => w'.cell? ⟨i0, 0, none⟩ = some (.slice A1 l1.length c1) ∧ w'.cell? ⟨i0, 1, none⟩ = some (.int .i64 G0)) (ds := []) (B_ 9 0) kf_ rfl rfl ⟨ce_ o0 0, ce_ o0 1⟩ (fun hHeld => ?_); refine with_tabW Fb_.tab14 Fb_.bits14 (fun HT_ HW_ => ?_)
 generalize F9.drew = w59 at k0 a0 c0 d0 b0 e0 m0 o0 HB hHeld ⊢
 refine pu_ 1 (some 61) (B_ 9 2) HT_ ?_
 refine pu_ 2 (some 62) (B_ 9 6) HT_ ?_
 refine pu_ 3 (some 63) (B_ 9 14) HT_ ?_
 refine take_ (i := 0) (N := some 60) (v := ?_) (a' := ?_) (B_ 9 15) rfl rfl (take_ofW HT_.out HW_.out kf_) (fun _ _ _ h => h) (Or.inl ⟨by rfl, ?_⟩) hHeld ?_ ?_
 rotate_left
 {
 rintro w' ⟨s0, s1⟩
 go_simp
 with_reducible rfl}
 rotate_left
 {
 exact sp_}
 refine one_ (i := 4) (N := some 64) (B_ 9 31) rfl rfl (one_of HT_.out kf_) (by decide) (fun K hK => ?_)
 refine value_ (w1 := ?_) (v := ?_) (by rfl) rfl ?_ ?_
 rotate_left 2
 {
 go_simp
 constructor
 {
 rfl}
 {
 rfl}}
 refine hK.out _ _ ⟨(blk_cell (blk_alloc o0.out _) 0).trans rfl, (blk_cell (blk_alloc o0.out _) 1).trans rfl⟩ (fun hHeld => ?_)
 clear hK K
 refine norm_ (a' := ?_) ?_ ?_
 rotate_left
 {
 show Act.put _ (some 64) _ = _
 exact sp_}
 refine one_ (i := 5) (N := some 65) (B_ 9 63) rfl rfl (one_of HT_.out kf_) (by decide) (fun K hK => ?_)
 refine Kd.R_append_step (Kd.int .i64) (w0 := w) w.heap.size (by rfl) (.tmp 62) (.tmp 64) 22 3 (.int .i64 0) 8 rfl Try.underlying22 info3 rfl (by decide) (by omega) u12 V0 L2 [.int .i64 L2] (fun _ => True) (fun _ => False) rfl rfl ?aP (fun _ hk => hk.elim) ?aF ?aO ?aB ?aS ?aL ?_
 (case aP => exact rfl)
 (case aB => exact (bl_ HB))
 (case aF => exact (fun _ _ => trivial))
 (case aO => exact (kR_ k0))
 (case aS => exact (bs_ HB))
 (case aL => have := v4.out; omega)
 intro f6 Y5 ho hb hg hat
 rw [← w4.out] at ho
 replace a0 := a_ (Kd.S_after (ok := (fun _ => True)) (by (with_reducible repeat (first | apply Kd.S_alloc | apply Kd.S_drewN | apply Kd.S_drew)); exact Kd.S_mono a0.out (fun _ hk => ⟨trivial, hk⟩)) hg hat)
 replace c0 := (FG_ c0 hg (Kd.R_ne k0.out c0.out (by decide)))
 replace d0 := (FG_ d0 hg (Kd.R_ne k0.out d0.out (by decide)))
 replace b0 := (FG_ b0 hg (Kd.R_ne k0.out b0.out (by decide)))
 replace e0 := (FG_ e0 hg (Kd.R_ne k0.out e0.out (by decide)))
 replace m0 := (FG_ m0 hg (Kd.R_ne k0.out m0.out (by decide)))
 replace o0 := (FG_ o0 hg (Kd.R_ne k0.out o0.out (by decide)))
 replace HB := a_ (hb)
 have x4 := a_ (ho)
 clear k0
 clear ho hb hg hat
 refine hK.out _ _ ⟨ce_ o0 0, ce_ o0 1⟩ (fun hHeld => ?_)
 clear hK K
 refine norm_ (a' := ?_) ?_ ?_
 rotate_left
 {
 show Act.put _ (some 65) _ = _
 exact sp_}
 refine one_ (i := 6) (N := none) (B_ 9 127) rfl rfl (one_of HT_.out kf_) (by decide) (fun K hK => ?_)
 have hs61 : Y5.cell? ⟨j0, 0, none⟩ = some (.slice A1 l1.length c1) := ce_ b0 0
 have hfs61 := blk_frozen b0.out 0
 have hns61_0 := B0.out
 have hns61_1 := y0.out
 have hns61_3 := q0.out
 have hns61_4 := Y0.out
 have hns61_5 := E0.out
 have hms61_0 := C0.out
 have hms61_1 := z0.out
 have hms61_3 := p0.out
 have hms61_4 := X0.out
 have hms61_5 := h1.out
 have hs62 : Y5.cell? ⟨j0, 1, none⟩ = some (.int .i64 g0) := ce_ b0 1
 have hfs62 := blk_frozen b0.out 1
 have hns62_0 := B0.out
 have hns62_1 := y0.out
 have hns62_3 := q0.out
 have hns62_4 := Y0.out
 have hns62_5 := E0.out
 have hms62_0 := C0.out
 have hms62_1 := z0.out
 have hms62_3 := p0.out
 have hms62_4 := X0.out
 have hms62_5 := h1.out
 refine skip_ (w1 := ?_) (by rfl) rfl ?_ ?_
 rotate_left
 {
 go_simp
 rfl}
 refine hK.out _ _ ⟨((cell_far (p := ⟨j0, _, none⟩) E0.out _).trans (((cell_far (p := ⟨j0, _, none⟩) E0.out _).trans (hHeld.1)))), ((cell_far (p := ⟨j0, _, none⟩) E0.out _).trans (((cell_far (p := ⟨j0, _, none⟩) E0.out _).trans (hHeld.2))))⟩ (fun hHeld => ?_)
 clear hK K
 refine pu_ 7 (some 8) (B_ 9 255) HT_ ?_
 refine pu_ 8 (some 12) (B_ 9 511) HT_ ?_
 refine done_ (done_of HT_.out kf_) ?_
 try go_wp2
 go_roundg kj32
 case measure => have := M2.out; have := t1.out; have := HJ32.out; omega
 case rel => exact ⟨(L3), (e6), (G0), rs_, H', ⟨by have := M2.out; have := t1.out; have := HJ32.out; omega⟩, ⟨by (with_reducible repeat (first | apply Kd.R_alloc | apply Kd.R_drewN | apply Kd.R_drew)); exact Kd.R_mono (Kd.R_far (p := ⟨j0, 1, none⟩) (Kd.R_far (p := ⟨j0, 0, none⟩) (Kd.R_types x4.out b0.out (by decide)) (fun _ hk => hk.2) (.slice A1 l1.length c1)) (fun _ hk => hk.2) (.int .i64 G0)) (fun _ hk => trivial)⟩, ⟨by (with_reducible repeat (first | apply Kd.S_alloc | apply Kd.S_drewN | apply Kd.S_drew)); exact Kd.S_mono (Kd.S_far (p := ⟨j0, 1, none⟩) (Kd.S_far (p := ⟨j0, 0, none⟩) (Kd.S_types a0.out b0.out (by decide)) (fun _ hk => hk.2) (.slice A1 l1.length c1)) (fun _ hk => hk.2) (.int .i64 G0)) (fun _ hk => hk.1.2)⟩, ⟨bk_ c0⟩, ⟨bk_ d0⟩, ⟨bp_ b0⟩, ⟨bk_ e0⟩, ⟨bk_ m0⟩, ⟨bl_ HB⟩⟩}
 {
 have H' := a_ H
 clear H
 have S02 := C0.out
 have T02 := B0.out
 have U02 := z0.out
 have V02 := y0.out
 have W02 := p0.out
 have X02 := q0.out
 have Y02 := X0.out
 have Z02 := Y0.out
 obtain ⟨Z8, a9, b9, c9⟩ := e2_ b0
 have a03 := T0.out
 have b03 := U0.out
 have c03 := N0.out
 have d03 := O0.out
 have e03 := K1.out
 have f03 := L1.out
 obtain ⟨d9, e9, f9, g9, h9, i9, j9, k9⟩ := e4_ c0
 try go_wp2_with (first | (with_reducible refine scope_straight83_ ?_) | (with_reducible refine wp_label ?_) | ((with_reducible refine gate_callee (f := 48) rfl ?_); refine gL_ (some 56) Try.func48 #[.agg #[.slice A1 l1.length c1, .int .i64 g0], .slice b1 F0.length d1] ?_; (with_reducible refine (Fa_.calls kj32 _ _ l1 g0 _ _ F0 G0 L2 L3 _ ?side1 ?side2 ?side3 ?side4 W5.out).mono ?_); (case side1 => exact kC_ H2 HB); (case side2 => exact I2.out); (case side3 => exact kC_ T2 HB); (case side4 => exact U2.out); rintro e w72 ⟨rfl, hb⟩; refine ⟨_, rfl, ?_⟩; replace k0 := FR_ k0 hb; replace a0 := FS_ a0 hb; replace c0 := FB_ c0 hb; replace d0 := FB_ d0 hb; replace b0 := FB_ b0 hb; replace e0 := FB_ e0 hb; replace m0 := FB_ m0 hb; replace HB := BS_ HB hb; (try clear hb)) | ((with_reducible refine gate_dst (N := 13) rfl ?_); (try (refine gate_guard (by rfl) ?_; dsimp only)); refine bx_ HB 13 #[.slice none 0 0, .int .i64 0] 81 ?_; clear HB; intro i0 hg K2 hb o0 M3 HB; have w5 := M3; replace k0 := FR_ k0 hb; replace a0 := FS_ a0 hb; obtain ⟨g2, h2⟩ := NN_ c0 hg; replace c0 := FB_ c0 hb; obtain ⟨i2, m2⟩ := NN_ d0 hg; replace d0 := FB_ d0 hb; obtain ⟨h1, E0⟩ := NN_ b0 hg; replace b0 := FB_ b0 hb; obtain ⟨n2, p2⟩ := NN_ e0 hg; replace e0 := FB_ e0 hb; obtain ⟨q2, s2⟩ := NN_ m0 hg; replace m0 := FB_ m0 hb; clear hb hg; have g03 := h2.out; have h03 := g2.out; have i03 := m2.out; have j03 := i2.out; have k03 := E0.out; have l03 := h1.out; have m03 := p2.out; have n03 := n2.out; have o03 := s2.out; have p03 := q2.out; obtain ⟨l9, m9, n9, o9⟩ := e2_ o0))
 have n0_ : Aside0 (Kd.R (Kd.int .i64) 3 ((K2.setCell ⟨i0, 0, none⟩ (.slice A1 l1.length c1)).setCell ⟨i0, 1, none⟩ (.int .i64 G0)) w.heap.size (fun _ => True) u12 V0) := ⟨by (with_reducible repeat (first | apply Kd.R_alloc | apply Kd.R_drewN | apply Kd.R_drew)); exact Kd.R_mono (Kd.R_far (p := ⟨i0, 1, none⟩) (Kd.R_far (p := ⟨i0, 0, none⟩) (Kd.R_types k0.out o0.out (by decide)) (fun _ hk => hk.2) (.slice A1 l1.length c1)) (fun _ hk => hk.2) (.int .i64 G0)) (fun _ hk => trivial)⟩
 have n1_ : Aside0 (Kd.S (Kd.slice 3 (Kd.int .i64)) 22 ((K2.setCell ⟨i0, 0, none⟩ (.slice A1 l1.length c1)).setCell ⟨i0, 1, none⟩ (.int .i64 G0)) w.heap.size (fun k_ => no_ k_ u12) n0 H0) := ⟨kSk_ a0 o0⟩
 have n2_ : Aside0 (((K2.setCell ⟨i0, 0, none⟩ (.slice A1 l1.length c1)).setCell ⟨i0, 1, none⟩ (.int .i64 G0)).heap[o1]? = some (.cells #[.int .i64 L0, .int .i64 M0, .slice b1 F0.length d1, .slice e1 J0.length f1] 24 (0, 0))) := ⟨bk_ c0⟩
 have n3_ : Aside0 (((K2.setCell ⟨i0, 0, none⟩ (.slice A1 l1.length c1)).setCell ⟨i0, 1, none⟩ (.int .i64 G0)).heap[R0]? = some (.cells #[.slice none 0 0, .slice none 0 0] 28 (0, 0))) := ⟨bk_ d0⟩
 have n4_ : Aside0 (((K2.setCell ⟨i0, 0, none⟩ (.slice A1 l1.length c1)).setCell ⟨i0, 1, none⟩ (.int .i64 G0)).heap[j0]? = some (.cells #[.slice A1 l1.length c1, .int .i64 g0] 81 (0, 0))) := ⟨bk_ b0⟩
 have n5_ : Aside0 (((K2.setCell ⟨i0, 0, none⟩ (.slice A1 l1.length c1)).setCell ⟨i0, 1, none⟩ (.int .i64 G0)).heap[W0]? = some (.cells #[n0, .slice none 0 0] 28 (0, 0))) := ⟨bk_ e0⟩
 have n6_ : Aside0 (((K2.setCell ⟨i0, 0, none⟩ (.slice A1 l1.length c1)).setCell ⟨i0, 1, none⟩ (.int .i64 G0)).heap[O1]? = some (.cells #[.slice A1 l1.length c1, .int .i64 M1] 81 (0, 0))) := ⟨bk_ m0⟩
 have n7_ : Aside0 (((K2.setCell ⟨i0, 0, none⟩ (.slice A1 l1.length c1)).setCell ⟨i0, 1, none⟩ (.int .i64 G0)).heap[i0]? = some (.cells #[.slice A1 l1.length c1, .int .i64 G0] 81 (0, 0))) := ⟨bp_ o0⟩
 have n8_ : Aside0 (Below w.heap.size w ((K2.setCell ⟨i0, 0, none⟩ (.slice A1 l1.length c1)).setCell ⟨i0, 1, none⟩ (.int .i64 G0))) := ⟨bl_ HB⟩
 (try clear k0)
 (try clear a0)
 (try clear c0)
 (try clear d0)
 (try clear b0)
 (try clear e0)
 (try clear m0)
 (try clear o0)
 (try clear HB)
 generalize ((K2.setCell ⟨i0, 0, none⟩ (.slice A1 l1.length c1)).setCell ⟨i0, 1, none⟩ (.int .i64 G0)) = G9 at n0_ n1_ n2_ n3_ n4_ n5_ n6_ n7_ n8_ ⊢
 have k0 := n0_
 have a0 := n1_
 have c0 := n2_
 have d0 := n3_
 have b0 := n4_
 have e0 := n5_
 have m0 := n6_
 have o0 := n7_
 have HB := n8_
 clear n0_ n1_ n2_ n3_ n4_ n5_ n6_ n7_ n8_
 replace k0 := a_ (Kd.R_drew k0.out)
 replace a0 := a_ (Kd.S_drew a0.out)
 replace c0 := a_ (blk_drew c0.out)
 replace d0 := a_ (blk_drew d0.out)
 replace b0 := a_ (blk_drew b0.out)
 replace e0 := a_ (blk_drew e0.out)
 replace m0 := a_ (blk_drew m0.out)
 replace o0 := a_ (blk_drew o0.out)
 replace HB := a_ (below_drew1 HB.out)
 refine start_ (n := 9) (S := fun w' => w'.cell? ⟨i0, 0, none⟩ = some (.slice A1 l1.length c1) ∧ w'.cell? ⟨i0, 1, none⟩ = some (.int .i64 G0)) (ds := []) (B_ 9 0) kf_ rfl rfl ⟨ce_ o0 0, ce_ o0 1⟩ (fun hHeld => ?_); refine with_tabW Fb_.tab14 Fb_.bits14 (fun HT_ HW_ => ?_)
 generalize G9.drew = w81 at k0 a0 c0 d0 b0 e0 m0 o0 HB hHeld ⊢
 refine pu_ 1 (some 61) (B_ 9 2) HT_ ?_
 refine pu_ 2 (some 62) (B_ 9 6) HT_ ?_
 refine pu_ 3 (some 63) (B_ 9 14) HT_ ?_
 refine take_ (i := 0) (N := some 60) (v := ?_) (a' := ?_) (B_ 9 15) rfl rfl (take_ofW HT_.out HW_.out kf_) (fun _ _ _ h => h) (Or.inl ⟨by rfl, ?_⟩) hHeld ?_ ?_
 rotate_left
 {
 rintro w' ⟨s0, s1⟩
 go_simp
 with_reducible rfl}
 rotate_left
 {
 exact sp_}
 refine one_ (i := 4) (N := some 64) (B_ 9 31) rfl rfl (one_of HT_.out kf_) (by decide) (fun K hK => ?_)
 refine value_ (w1 := ?_) (v := ?_) (by rfl) rfl ?_ ?_
 rotate_left 2
 {
 go_simp
 constructor
 {
 rfl}
 {
 rfl}}
 refine hK.out _ _ ⟨(blk_cell (blk_alloc o0.out _) 0).trans rfl, (blk_cell (blk_alloc o0.out _) 1).trans rfl⟩ (fun hHeld => ?_)
 clear hK K
 refine norm_ (a' := ?_) ?_ ?_
 rotate_left
 {
 show Act.put _ (some 64) _ = _
 exact sp_}
 refine one_ (i := 5) (N := some 65) (B_ 9 63) rfl rfl (one_of HT_.out kf_) (by decide) (fun K hK => ?_)
 refine Kd.R_append_step (Kd.int .i64) (w0 := w) w.heap.size (by rfl) (.tmp 62) (.tmp 64) 22 3 (.int .i64 0) 8 rfl Try.underlying22 info3 rfl (by decide) (by omega) u12 V0 L2 [.int .i64 L2] (fun _ => True) (fun _ => False) rfl rfl ?aP (fun _ hk => hk.elim) ?aF ?aO ?aB ?aS ?aL ?_
 (case aP => exact rfl)
 (case aB => exact (bl_ HB))
 (case aF => exact (fun _ _ => trivial))
 (case aO => exact (kR_ k0))
 (case aS => exact (bs_ HB))
 (case aL => have := v4.out; omega)
 intro f6 Z5 ho hb hg hat
 rw [← w4.out] at ho
 replace a0 := a_ (Kd.S_after (ok := (fun _ => True)) (by (with_reducible repeat (first | apply Kd.S_alloc | apply Kd.S_drewN | apply Kd.S_drew)); exact Kd.S_mono a0.out (fun _ hk => ⟨trivial, hk⟩)) hg hat)
 replace c0 := (FG_ c0 hg (Kd.R_ne k0.out c0.out (by decide)))
 replace d0 := (FG_ d0 hg (Kd.R_ne k0.out d0.out (by decide)))
 replace b0 := (FG_ b0 hg (Kd.R_ne k0.out b0.out (by decide)))
 replace e0 := (FG_ e0 hg (Kd.R_ne k0.out e0.out (by decide)))
 replace m0 := (FG_ m0 hg (Kd.R_ne k0.out m0.out (by decide)))
 replace o0 := (FG_ o0 hg (Kd.R_ne k0.out o0.out (by decide)))
 replace HB := a_ (hb)
 have x4 := a_ (ho)
 clear k0
 clear ho hb hg hat
 refine hK.out _ _ ⟨ce_ o0 0, ce_ o0 1⟩ (fun hHeld => ?_)
 clear hK K
 refine norm_ (a' := ?_) ?_ ?_
 rotate_left
 {
 show Act.put _ (some 65) _ = _
 exact sp_}
 refine one_ (i := 6) (N := none) (B_ 9 127) rfl rfl (one_of HT_.out kf_) (by decide) (fun K hK => ?_)
 have hs83 : Z5.cell? ⟨j0, 0, none⟩ = some (.slice A1 l1.length c1) := ce_ b0 0
 have hfs83 := blk_frozen b0.out 0
 have hns83_0 := B0.out
 have hns83_1 := y0.out
 have hns83_3 := q0.out
 have hns83_4 := Y0.out
 have hns83_5 := E0.out
 have hms83_0 := C0.out
 have hms83_1 := z0.out
 have hms83_3 := p0.out
 have hms83_4 := X0.out
 have hms83_5 := h1.out
 have hs84 : Z5.cell? ⟨j0, 1, none⟩ = some (.int .i64 g0) := ce_ b0 1
 have hfs84 := blk_frozen b0.out 1
 have hns84_0 := B0.out
 have hns84_1 := y0.out
 have hns84_3 := q0.out
 have hns84_4 := Y0.out
 have hns84_5 := E0.out
 have hms84_0 := C0.out
 have hms84_1 := z0.out
 have hms84_3 := p0.out
 have hms84_4 := X0.out
 have hms84_5 := h1.out
 refine skip_ (w1 := ?_) (by rfl) rfl ?_ ?_
 rotate_left
 {
 go_simp
 rfl}
 refine hK.out _ _ ⟨((cell_far (p := ⟨j0, _, none⟩) E0.out _).trans (((cell_far (p := ⟨j0, _, none⟩) E0.out _).trans (hHeld.1)))), ((cell_far (p := ⟨j0, _, none⟩) E0.out _).trans (((cell_far (p := ⟨j0, _, none⟩) E0.out _).trans (hHeld.2))))⟩ (fun hHeld => ?_)
 clear hK K
 refine pu_ 7 (some 8) (B_ 9 255) HT_ ?_
 refine pu_ 8 (some 12) (B_ 9 511) HT_ ?_
 refine done_ (done_of HT_.out kf_) ?_
 try go_wp2
 go_meet
 case rel => exact ⟨_, (L3), (G0), (H0), (n0), rs_, H', ⟨by have := M2.out; have := t1.out; have := HJ32.out; first | omega | exact Nat.le_refl _⟩, ⟨by (with_reducible repeat (first | apply Kd.S_alloc | apply Kd.S_drewN | apply Kd.S_drew)); exact Kd.S_mono (Kd.S_far (p := ⟨j0, 1, none⟩) (Kd.S_far (p := ⟨j0, 0, none⟩) (Kd.S_types a0.out b0.out (by decide)) (fun _ hk => hk.2) (.slice A1 l1.length c1)) (fun _ hk => hk.2) (.int .i64 G0)) (fun _ hk => trivial)⟩, ⟨bk_ c0⟩, ⟨bk_ d0⟩, ⟨bp_ b0⟩, ⟨bk_ e0⟩, ⟨bl_ HB⟩⟩}}
 {
 replace t4 := Bool.eq_false_iff.mpr t4
 subst t4
 rw [if_neg (show ¬ (false = true) by decide)] at H
 replace H := gt_ H
 obtain ⟨a6, H⟩ := H
 have x5 := a_ a6
 clear a6
 obtain ⟨r4, W2⟩ : ∃ y_ : List (List Int), y_ = (H0 ++ [V0]) := ⟨_, rfl⟩
 first | replace H := by_ H W2 | rw [← W2] at H
 have y5 := a_ W2
 clear W2
 have H' := a_ H
 clear H
 have q03 := O0.out
 have r03 := N0.out
 have s03 := Q0.out
 have t03 := P0.out
 have v03 := q0.out
 have w03 := p0.out
 have x03 := Z1.out
 have y03 := a2.out
 obtain ⟨p9, q9, r9, s9⟩ := e2_ e0
 obtain ⟨K4, L4, g6⟩ := Kd.R_slice k0.out
 subst g6
 go_wp2_with (first | (with_reducible refine scope_straight83_ ?_) | (with_reducible refine wp_label ?_) | ((with_reducible refine gate_builtin (b := .append) (xs := #[.tmp 69, .tmp 71]) rfl ?_); (try (refine gate_guard (by rfl) ?_; dsimp only)); at_builtin; refine Kd.S_append (Kd.slice 3 (Kd.int .i64)) (w0 := w) w.heap.size rfl (.tmp 69) (.tmp 71) 25 22 (.slice none 0 0) 24 rfl Try.underlying25 info22 rfl (by decide) (by omega) n0 H0 V0 [.slice K4 V0.length L4] (fun _ => True) (fun k_ => some k_ = (.slice K4 V0.length L4 : Value).ownBlock) rfl rfl ?aP (fun k_ hk_ => ((Kd.R_mono (ok' := fun k_ => ((fun _ => True)) k_ ∧ no_ k_ n0) (Kd.R_apart' (k0.out) (Kd.S_typed a0.out) (by decide)) (fun k_ hk => ⟨trivial, hk.2⟩))).1 k_ hk_.symm) ?aF ?aO ?aB ?aS ?aL ?_; (case aP => exact Kd.M_row (Kd.R_mono (Kd.R_tight rfl (Kd.R_mono (ok' := fun k_ => ((fun _ => True)) k_ ∧ no_ k_ n0) (Kd.R_apart' (k0.out) (Kd.S_typed a0.out) (by decide)) (fun k_ hk => ⟨trivial, hk.2⟩))) (fun _ h_ => h_))); (case aB => exact (bl_ HB)); (case aF => exact (fun _ _ => trivial)); (case aO => exact (by (with_reducible repeat (first | apply Kd.S_alloc | apply Kd.S_drewN | apply Kd.S_drew)); exact Kd.S_mono a0.out (fun k_ hk => ⟨trivial, fun e_ => hk e_⟩))); (case aS => exact (bs_ HB)); (case aL => have := x5.out; omega); intro Z03 w91 ho hb hg hat; rw [← y5.out] at ho; replace c0 := (FG_ c0 hg (Kd.S_ne a0.out c0.out (by decide))); replace d0 := (FG_ d0 hg (Kd.S_ne a0.out d0.out (by decide))); replace b0 := (FG_ b0 hg (Kd.S_ne a0.out b0.out (by decide))); replace e0 := (FG_ e0 hg (Kd.S_ne a0.out e0.out (by decide))); replace m0 := (FG_ m0 hg (Kd.S_ne a0.out m0.out (by decide))); replace HB := a_ (hb); have y4 := a_ (ho); clear a0 k0; clear ho hb hg hat; obtain ⟨M4, N4, h6⟩ := Kd.S_slice y4.out; subst h6; obtain ⟨t9, v9, w9, x9⟩ := e2_ e0))
 go_roundg kj32
 case measure => have := M2.out; have := t1.out; have := HJ32.out; omega
 case rel => exact ⟨(N1), (wrap64 (F2 + 1)), (g0), (r4), (.slice M4 r4.length N4), rs_, rs_, H', ⟨by have := M2.out; have := t1.out; have := HJ32.out; omega⟩, ⟨by (with_reducible repeat (first | apply Kd.S_alloc | apply Kd.S_drewN | apply Kd.S_drew)); exact Kd.S_mono (Kd.S_far (p := ⟨W0, 0, none⟩) (Kd.S_types y4.out e0.out (by decide)) (fun _ hk => hk.2) (.slice M4 r4.length N4)) (fun _ hk => trivial)⟩, ⟨bk_ c0⟩, ⟨bk_ d0⟩, ⟨bk_ b0⟩, ⟨bp_ e0⟩, ⟨bl_ HB⟩⟩}))))}
 {
 have H' := a_ H
 clear H
 have z03 := C0.out
 have A03 := B0.out
 have B03 := z0.out
 have C03 := y0.out
 have D03 := p0.out
 have E03 := q0.out
 obtain ⟨y9, z9, A9, B9⟩ := e2_ b0
 go_wp2_with (first | (with_reducible refine scope_straight83_ ?_) | (with_reducible refine wp_label ?_) | ((with_reducible refine gate_callee (f := 47) rfl ?_); refine gL_ (some 37) Try.func47 #[.agg #[.slice A1 l1.length c1, .int .i64 a1], .int .i64 1] ?_; (with_reducible refine (Fp_.calls k1 _ _ l1 a1 1 M1 b3 H3 _ ?side1 ?side2 T5.out).mono ?_); (case side1 => exact kC_ H2 HB); (case side2 => exact I2.out); rintro e w99 ⟨rfl, hb⟩; refine ⟨_, rfl, ?_⟩; replace a0 := FS_ a0 hb; replace c0 := FB_ c0 hb; replace d0 := FB_ d0 hb; replace b0 := FB_ b0 hb; replace e0 := FB_ e0 hb; replace HB := BS_ HB hb; (try clear hb)) | ((with_reducible refine gate_dst (N := 9) rfl ?_); (try (refine gate_guard (by rfl) ?_; dsimp only)); refine bx_ HB 9 #[.slice none 0 0, .int .i64 0] 81 ?_; clear HB; intro O1 hg a04 hb m0 K3 HB; have r5 := K3; replace a0 := FS_ a0 hb; obtain ⟨K1, L1⟩ := NN_ c0 hg; replace c0 := FB_ c0 hb; obtain ⟨e2, f2⟩ := NN_ d0 hg; replace d0 := FB_ d0 hb; obtain ⟨X0, Y0⟩ := NN_ b0 hg; replace b0 := FB_ b0 hb; obtain ⟨Z1, a2⟩ := NN_ e0 hg; replace e0 := FB_ e0 hb; clear hb hg; have H9 := L1.out; have I9 := K1.out; have J9 := f2.out; have K9 := e2.out; have L9 := Y0.out; have M9 := X0.out; have N9 := a2.out; have O9 := Z1.out; obtain ⟨i6, j6, k6, l6⟩ := e2_ m0; obtain ⟨m6, n6, o6, p6⟩ := e2_ b0))
 go_meet
 case rel => exact ⟨_, (H3), (M1), (H0), (n0), rs_, H', ⟨by have := M2.out; first | omega | exact Nat.le_refl _⟩, ⟨by (with_reducible repeat (first | apply Kd.S_alloc | apply Kd.S_drewN | apply Kd.S_drew)); exact Kd.S_mono (Kd.S_far (p := ⟨j0, 1, none⟩) (Kd.S_far (p := ⟨j0, 0, none⟩) (Kd.S_far (p := ⟨O1, 1, none⟩) (Kd.S_far (p := ⟨O1, 0, none⟩) (Kd.S_types (Kd.S_types a0.out m0.out (by decide)) b0.out (by decide)) (fun _ hk => hk.1.2) (.slice A1 l1.length c1)) (fun _ hk => hk.1.2) (.int .i64 M1)) (fun _ hk => hk.2) (.slice A1 l1.length c1)) (fun _ hk => hk.2) (.int .i64 M1)) (fun _ hk => trivial)⟩, ⟨bk_ c0⟩, ⟨bk_ d0⟩, ⟨bp_ b0⟩, ⟨bk_ e0⟩, ⟨bl_ HB⟩⟩}}
 {
 (first | rw [c2] | (simp only [i64_w, i32_w]; rw [c2]) | skip)
 have H' := a_ H
 clear H
 go_wp2
 go_meet
 case rel => exact ⟨_, (G3), (a1), (H0), (n0), rs_, H', ⟨by have := M2.out; first | omega | exact Nat.le_refl _⟩, ⟨kS_ a0⟩, ⟨bk_ c0⟩, ⟨bk_ d0⟩, ⟨bk_ b0⟩, ⟨bk_ e0⟩, ⟨bl_ HB⟩⟩})))
 case rest => (
 clear J4
 try clear c1
 try clear c4
 try clear v1 y1 z1 B1
 try clear C1 D1 E1 F1 G1 H1 I1 J1
 try clear P1 Q1 R1 S1 T1 U1 V1 W1
 obtain ⟨kq, X1, D0, h0, n0, rfl, HA, HJ4, a0, c0, d0, b0, e0, HB⟩ := hcut
 cases kq with
 | zero => exact absurd HA.out (by simp [Fb_.j3])
 | succ kj4 => (
 have H := HA.out
 clear HA
 simp only [Fb_.j3] at H
 have H' := a_ H
 clear H
 go_wp2
 go_loopg [8, 16] kj4 (fun kq v8 P9 w' => ∃ (N1 : Int) (A0 : Int) (g0 : Int) (t0 : List (List Int)) (I0 : Value), v8 = .int .i64 N1 ∧ P9 = .int .i64 A0 ∧ Aside0 (Fb_.l2 kq N1 A0 L0 M0 F0 J0 l1 g0 h0 t0 = some (r1, r2, r3)) ∧ Aside0 (kq ≤ kj4) ∧ Aside0 (Kd.S (Kd.slice 3 (Kd.int .i64)) 22 w' w.heap.size (fun _ => True) n0 h0) ∧ Aside0 (Kd.S (Kd.slice 2 (Kd.int .i64)) 53 w' w.heap.size (fun _ => True) I0 t0) ∧ Aside0 (w'.heap[o1]? = some (.cells #[.int .i64 L0, .int .i64 M0, (.slice b1 F0.length d1), (.slice e1 J0.length f1)] 24 (0, 0))) ∧ Aside0 (w'.heap[R0]? = some (.cells #[(.slice none 0 0), (.slice none 0 0)] 28 (0, 0))) ∧ Aside0 (w'.heap[j0]? = some (.cells #[(.slice A1 l1.length c1), .int .i64 g0] 81 (0, 0))) ∧ Aside0 (w'.heap[W0]? = some (.cells #[n0, I0] 28 (0, 0))) ∧ Aside0 (Below w.heap.size w w'))
 case atStart => exact ⟨(X1), (0), (D0), (([] : List (List Int))), (.slice none 0 0), rs_, rs_, H', ⟨Nat.le_refl _⟩, ⟨kS_ a0⟩, ⟨kn_⟩, ⟨bk_ c0⟩, ⟨bk_ d0⟩, ⟨bk_ b0⟩, ⟨bk_ e0⟩, ⟨bl_ HB⟩⟩
 case round => (
 clear H'
 try clear c1
 try clear c4
 try clear v1 y1 z1 B1
 try clear C1 D1 E1 F1 G1 H1 I1 J1
 try clear P1 Q1 R1 S1 T1 U1 V1 W1
 obtain ⟨N1, A0, g0, t0, I0, rfl, rfl, HA, t1, a0, f0, c0, d0, b0, e0, HB⟩ := hrel
 cases gk with
 | zero => exact absurd HA.out (by simp [Fb_.l2])
 | succ k2 => (
 have H := HA.out
 clear HA
 simp only [Fb_.l2] at H
 have N3 := a_ H
 clear H
 go_upto_region 19 with (first | (with_reducible refine scope_straight83_ ?_) | (with_reducible refine wp_label ?_))
 go_cut [83] (fun Q9 wc => ∃ (kq : Nat) (G2 : Bool), Q9 = .bool G2 ∧ Aside0 (Fb_.j5 kq N1 A0 G2 L0 M0 F0 J0 l1 g0 h0 t0 = some (r1, r2, r3)) ∧ Aside0 (kq ≤ k2) ∧ Aside0 (Kd.S (Kd.slice 3 (Kd.int .i64)) 22 wc w.heap.size (fun _ => True) n0 h0) ∧ Aside0 (Kd.S (Kd.slice 2 (Kd.int .i64)) 53 wc w.heap.size (fun _ => True) I0 t0) ∧ Aside0 (wc.heap[o1]? = some (.cells #[.int .i64 L0, .int .i64 M0, (.slice b1 F0.length d1), (.slice e1 J0.length f1)] 24 (0, 0))) ∧ Aside0 (wc.heap[R0]? = some (.cells #[(.slice none 0 0), (.slice none 0 0)] 28 (0, 0))) ∧ Aside0 (wc.heap[j0]? = some (.cells #[(.slice A1 l1.length c1), .int .i64 g0] 81 (0, 0))) ∧ Aside0 (wc.heap[W0]? = some (.cells #[n0, I0] 28 (0, 0))) ∧ Aside0 (Below w.heap.size w wc))
 case first => (
 have H := N3.out
 clear N3
 replace H := id_ H
 rcases H with ⟨t2, H⟩ | ⟨t2, H⟩
 {
 (first | rw [t2] | (simp only [i64_w, i32_w]; rw [t2]) | skip)
 have H' := a_ H
 clear H
 have R9 := O0.out
 have S9 := N0.out
 have T9 := Q0.out
 have U9 := P0.out
 have V9 := q0.out
 have W9 := p0.out
 obtain ⟨q6, r6, s6, t6⟩ := e2_ e0
 obtain ⟨F03, G03, z5⟩ := Kd.S_slice a0.out
 subst z5
 go_wp2
 go_meet
 case rel => exact ⟨_, ((N1 == 0)), rs_, H', ⟨by have := HJ4.out; have := t1.out; first | omega | exact Nat.le_refl _⟩, ⟨kS_ a0⟩, ⟨kS_ f0⟩, ⟨bk_ c0⟩, ⟨bk_ d0⟩, ⟨bk_ b0⟩, ⟨bk_ e0⟩, ⟨bl_ HB⟩⟩}
 {
 (first | rw [t2] | (simp only [i64_w, i32_w]; rw [t2]) | skip)
 have H' := a_ H
 clear H
 have X9 := O0.out
 have Y9 := N0.out
 have Z9 := Q0.out
 have a00 := P0.out
 have b00 := q0.out
 have c00 := p0.out
 obtain ⟨v6, x6, y6, z6⟩ := e2_ e0
 obtain ⟨H03, I03, A5⟩ := Kd.S_slice a0.out
 subst A5
 go_wp2
 go_meet
 case rel => exact ⟨_, (false), rs_, H', ⟨by have := HJ4.out; have := t1.out; first | omega | exact Nat.le_refl _⟩, ⟨kS_ a0⟩, ⟨kS_ f0⟩, ⟨bk_ c0⟩, ⟨bk_ d0⟩, ⟨bk_ b0⟩, ⟨bk_ e0⟩, ⟨bl_ HB⟩⟩})
 case rest => (
 clear N3
 try clear c1
 try clear c4
 try clear v1 y1 z1 B1
 try clear C1 D1 E1 F1 G1 H1 I1 J1
 try clear P1 Q1 R1 S1 T1 U1 V1 W1
 obtain ⟨kq, G2, rfl, HA, HJ106, a0, f0, c0, d0, b0, e0, HB⟩ := hcut
 cases kq with
 | zero => exact absurd HA.out (by simp [Fb_.j5])
 | succ kj106 => (
 have H := HA.out
 clear HA
 simp only [Fb_.j5] at H
 by_cases c3 : G2 = true
 {
 subst c3
 rw [if_pos rfl] at H
 have H' := a_ H
 clear H
 go_wp2
 go_loopg [8, 17] kj106 (fun kq v8 b6 w' => ∃ (X1 : Int) (K0 : List Int) (D0 : Int), v8 = .int .i64 X1 ∧ Aside0 (Fb_.l3 kq X1 A0 K0 L0 M0 F0 J0 l1 D0 h0 t0 = some (r1, r2, r3)) ∧ Aside0 (kq ≤ kj106) ∧ Aside0 (Kd.R (Kd.int .i64) 2 w' w.heap.size (fun _ => True) b6 K0) ∧ Aside0 (Kd.S (Kd.slice 3 (Kd.int .i64)) 22 w' w.heap.size (fun _ => True) n0 h0) ∧ Aside0 (Kd.S (Kd.slice 2 (Kd.int .i64)) 53 w' w.heap.size (fun k_ => no_ k_ b6) I0 t0) ∧ Aside0 (w'.heap[o1]? = some (.cells #[.int .i64 L0, .int .i64 M0, (.slice b1 F0.length d1), (.slice e1 J0.length f1)] 24 (0, 0))) ∧ Aside0 (w'.heap[R0]? = some (.cells #[(.slice none 0 0), (.slice none 0 0)] 28 (0, 0))) ∧ Aside0 (w'.heap[j0]? = some (.cells #[(.slice A1 l1.length c1), .int .i64 D0] 81 (0, 0))) ∧ Aside0 (w'.heap[W0]? = some (.cells #[n0, I0] 28 (0, 0))) ∧ Aside0 (Below w.heap.size w w'))
 case atStart => exact ⟨(N1), (([] : List Int)), (g0), rs_, H', ⟨Nat.le_refl _⟩, ⟨kn_⟩, ⟨kS_ a0⟩, ⟨by (with_reducible repeat (first | apply Kd.S_alloc | apply Kd.S_drewN | apply Kd.S_drew)); exact Kd.S_mono f0.out (fun _ hk => (by simp [Value.ownBlock]))⟩, ⟨bk_ c0⟩, ⟨bk_ d0⟩, ⟨bk_ b0⟩, ⟨bk_ e0⟩, ⟨bl_ HB⟩⟩
 case round => (
 clear H'
 try clear c1
 try clear c4
 try clear c3
 try clear v1 y1 z1 B1
 try clear C1 D1 E1 F1 G1 H1 I1 J1
 try clear P1 Q1 R1 S1 T1 U1 V1 W1
 obtain ⟨X1, K0, D0, rfl, HA, S2, r0, a0, f0, c0, d0, b0, e0, HB⟩ := hrel
 cases gk with
 | zero => exact absurd HA.out (by simp [Fb_.l3])
 | succ k4 => (
 have H := HA.out
 clear HA
 simp only [Fb_.l3] at H
 replace H := ii_ H
 rcases H with ⟨d3, H⟩ | ⟨d3, H⟩
 {
 have O4 : decide ((K0.length : Int) < 16) = true := decide_eq_true d3
 have P4 : decide (K0.length < 16) = true := decide_eq_true (by omega)
 clear d3
 replace H := gd_ H
 obtain ⟨d00, H⟩ := H
 replace H := gd_ H
 obtain ⟨e00, H⟩ := H
 replace H := ii_ H
 rcases H with ⟨e3, H⟩ | ⟨e3, H⟩
 {
 have Q4 : decide (0 < ((rd_L1 h0 A0).length : Int)) = true := decide_eq_true e3
 have R4 : decide (0 < (rd_L1 h0 A0).length) = true := decide_eq_true (by omega)
 clear e3
 replace H := ie_ H
 rcases H with ⟨S4, T4, H⟩ | ⟨b04, S4, T4, H⟩
 {
 obtain ⟨⟨Z0, O3, U4⟩, A6, H⟩ := ob_ H
 (try dsimp only at H)
 replace H := gt_ H
 obtain ⟨V4, H⟩ := H
 have W4 := a_ V4
 clear V4
 obtain ⟨B6, X2⟩ : ∃ y_ : List Int, y_ = (K0 ++ [O3]) := ⟨_, rfl⟩
 first | replace H := by_ H X2 | rw [← X2] at H
 have B5 := a_ X2
 clear X2
 have H' := a_ H
 clear H
 obtain ⟨P3, Q3, C5⟩ := Kd.R_slice r0.out
 subst C5
 have f00 := O0.out
 have g00 := N0.out
 have h00 := Q0.out
 have i00 := P0.out
 have j00 := q0.out
 have k00 := p0.out
 obtain ⟨C6, D6, E6, F6⟩ := e2_ e0
 obtain ⟨J03, R3, D5⟩ := Kd.S_slice a0.out
 subst D5
 have p1 : 0 ≤ (A0 : Int) := dm_
 have q1 : A0 < (h0.length : Int) := dm_
 obtain ⟨P2, f3, g3, h3, b2, j1, m1⟩ := at_L1 (Kd.S_reads' a0.out).2.2 A0 p1 q1
 cases h3
 obtain ⟨ce689, hce689, hMe689, hcc689⟩ := Kd.S_get a0.out [] A0 p1 (by first | exact q1 | exact dm_ | (have e_ := (Kd.S_reads' a0.out).1; omega))
 obtain ⟨ve689_0, rfl, ge689_0⟩ := hMe689
 have hv689_0 := hcc689 0 _ rfl
 rw [Nat.add_zero, show ((Kd.slice 3 (Kd.int .i64))).sz = 1 from rfl, Nat.mul_one] at hv689_0
 replace hv689_0 := Option.some.inj (hv689_0.symm.trans b2)
 rw [hv689_0] at ge689_0
 have HL689_0 := a_ (show Kd.R (Kd.int .i64) 3 _ _ _ _ (rd_L1 h0 A0) from ge689_0)
 clear hv689_0 ge689_0
 clear hcc689 hce689
 have n1 := a_ m1
 have B3 := a_ j1
 clear m1 j1
 replace p1 := eq_true p1
 replace q1 := eq_true q1
 have l00 := C0.out
 have m00 := B0.out
 have n00 := z0.out
 have o00 := y0.out
 obtain ⟨G6, H6, I6, J6⟩ := e2_ b0
 have p00 := T0.out
 have q00 := U0.out
 obtain ⟨K6, L6, M6, N6, O6, P6, Q6, R6⟩ := e4_ c0
 try go_wp2_with (first | (with_reducible refine scope_straight83_ ?_) | (with_reducible refine wp_label ?_) | ((with_reducible refine gate_callee (f := 49) rfl ?_); refine gL_ (some 106) Try.func49 #[.agg #[.slice A1 l1.length c1, .int .i64 D0], .slice e1 J0.length f1] ?_; (with_reducible refine (FE_.calls k4 _ _ l1 D0 _ _ J0 Z0 O3 U4 _ ?side1 ?side2 ?side3 ?side4 A6.out).mono ?_); (case side1 => exact kC_ H2 HB); (case side2 => exact I2.out); (case side3 => exact kC_ C3 HB); (case side4 => exact D3.out); rintro e c04 ⟨rfl, hb⟩; refine ⟨_, rfl, ?_⟩; replace r0 := FR_ r0 hb; replace a0 := FS_ a0 hb; replace f0 := FS_ f0 hb; replace HL689_0 := FR_ HL689_0 hb; replace c0 := FB_ c0 hb; replace d0 := FB_ d0 hb; replace b0 := FB_ b0 hb; replace e0 := FB_ e0 hb; replace n1 := a_ (Kd.C_below (by repeat (first | (with_reducible exact n1.out) | (with_reducible refine Kd.C_alloc ?_ _) | (with_reducible refine Kd.C_drewN ?_ _) | (with_reducible refine Kd.C_drew ?_) | exact n1.out)) hb); replace HB := BS_ HB hb; (try clear hb)) | ((with_reducible refine gate_dst (N := 18) rfl ?_); (try (refine gate_guard (by rfl) ?_; dsimp only)); refine box_ 18 #[.slice none 0 0, .int .i64 0] 81 ?_; intro v0 hg Y1 hbox hb; replace r0 := FR_ r0 hb; replace a0 := FS_ a0 hb; replace f0 := FS_ f0 hb; replace HL689_0 := FR_ HL689_0 hb; replace n1 := a_ (Kd.C_below (by repeat (first | (with_reducible exact n1.out) | (with_reducible refine Kd.C_alloc ?_ _) | (with_reducible refine Kd.C_drewN ?_ _) | (with_reducible refine Kd.C_drew ?_) | exact n1.out)) hb); have S0 := a_ (hbox); have K03 := GE_ HB hg; have L03 := GE_ HB hg; replace HB := BS_ HB hb; obtain ⟨j4, l4⟩ := NN_ c0 hg; replace c0 := FB_ c0 hb; obtain ⟨m4, n4⟩ := NN_ d0 hg; replace d0 := FB_ d0 hb; obtain ⟨v2, i1⟩ := NN_ b0 hg; replace b0 := FB_ b0 hb; obtain ⟨o4, p4⟩ := NN_ e0 hg; replace e0 := FB_ e0 hb; clear hb hbox hg; have r00 := l4.out; have s00 := j4.out; have t00 := n4.out; have v00 := m4.out; have w00 := i1.out; have x00 := v2.out; have y00 := p4.out; have z00 := o4.out; obtain ⟨S6, T6, U6, V6⟩ := e2_ S0))
 have n0_ : Aside0 (Kd.R (Kd.int .i64) 2 ((Y1.setCell ⟨v0, 0, none⟩ (.slice A1 l1.length c1)).setCell ⟨v0, 1, none⟩ (.int .i64 Z0)) w.heap.size (fun _ => True) (.slice P3 K0.length Q3) K0) := ⟨by (with_reducible repeat (first | apply Kd.R_alloc | apply Kd.R_drewN | apply Kd.R_drew)); exact Kd.R_mono (Kd.R_far (p := ⟨v0, 1, none⟩) (Kd.R_far (p := ⟨v0, 0, none⟩) (Kd.R_types r0.out S0.out (by decide)) (fun _ hk => hk.2) (.slice A1 l1.length c1)) (fun _ hk => hk.2) (.int .i64 Z0)) (fun _ hk => trivial)⟩
 have n1_ : Aside0 (Kd.S (Kd.slice 3 (Kd.int .i64)) 22 ((Y1.setCell ⟨v0, 0, none⟩ (.slice A1 l1.length c1)).setCell ⟨v0, 1, none⟩ (.int .i64 Z0)) w.heap.size (fun _ => True) (.slice (some P2) h0.length R3) h0) := ⟨by (with_reducible repeat (first | apply Kd.S_alloc | apply Kd.S_drewN | apply Kd.S_drew)); exact Kd.S_mono (Kd.S_far (p := ⟨v0, 1, none⟩) (Kd.S_far (p := ⟨v0, 0, none⟩) (Kd.S_types a0.out S0.out (by decide)) (fun _ hk => hk.2) (.slice A1 l1.length c1)) (fun _ hk => hk.2) (.int .i64 Z0)) (fun _ hk => trivial)⟩
 have n2_ : Aside0 (Kd.S (Kd.slice 2 (Kd.int .i64)) 53 ((Y1.setCell ⟨v0, 0, none⟩ (.slice A1 l1.length c1)).setCell ⟨v0, 1, none⟩ (.int .i64 Z0)) w.heap.size (fun k_ => no_ k_ (.slice P3 K0.length Q3)) I0 t0) := ⟨kSk_ f0 S0⟩
 have n3_ : Aside0 (Kd.R (Kd.int .i64) 3 ((Y1.setCell ⟨v0, 0, none⟩ (.slice A1 l1.length c1)).setCell ⟨v0, 1, none⟩ (.int .i64 Z0)) w.heap.size (fun k_ => no_ k_ (.slice (some P2) h0.length R3)) (.slice f3 (rd_L1 h0 A0).length g3) (rd_L1 h0 A0)) := ⟨by (with_reducible repeat (first | apply Kd.R_alloc | apply Kd.R_drewN | apply Kd.R_drew)); exact Kd.R_mono (Kd.R_far (p := ⟨v0, 1, none⟩) (Kd.R_far (p := ⟨v0, 0, none⟩) (Kd.R_types HL689_0.out S0.out (by decide)) (fun _ hk => hk.2) (.slice A1 l1.length c1)) (fun _ hk => hk.2) (.int .i64 Z0)) (fun _ hk => hk.1.2)⟩
 have n4_ : Aside0 (((Y1.setCell ⟨v0, 0, none⟩ (.slice A1 l1.length c1)).setCell ⟨v0, 1, none⟩ (.int .i64 Z0)).heap[o1]? = some (.cells #[.int .i64 L0, .int .i64 M0, .slice b1 F0.length d1, .slice e1 J0.length f1] 24 (0, 0))) := ⟨bk_ c0⟩
 have n5_ : Aside0 (((Y1.setCell ⟨v0, 0, none⟩ (.slice A1 l1.length c1)).setCell ⟨v0, 1, none⟩ (.int .i64 Z0)).heap[R0]? = some (.cells #[.slice none 0 0, .slice none 0 0] 28 (0, 0))) := ⟨bk_ d0⟩
 have n6_ : Aside0 (((Y1.setCell ⟨v0, 0, none⟩ (.slice A1 l1.length c1)).setCell ⟨v0, 1, none⟩ (.int .i64 Z0)).heap[j0]? = some (.cells #[.slice A1 l1.length c1, .int .i64 D0] 81 (0, 0))) := ⟨bk_ b0⟩
 have n7_ : Aside0 (((Y1.setCell ⟨v0, 0, none⟩ (.slice A1 l1.length c1)).setCell ⟨v0, 1, none⟩ (.int .i64 Z0)).heap[W0]? = some (.cells #[.slice (some P2) h0.length R3, I0] 28 (0, 0))) := ⟨bk_ e0⟩
 have n8_ : Aside0 (((Y1.setCell ⟨v0, 0, none⟩ (.slice A1 l1.length c1)).setCell ⟨v0, 1, none⟩ (.int .i64 Z0)).heap[v0]? = some (.cells #[.slice A1 l1.length c1, .int .i64 Z0] 81 (0, 0))) := ⟨bp_ S0⟩
 have n9_ : Aside0 (Below w.heap.size w ((Y1.setCell ⟨v0, 0, none⟩ (.slice A1 l1.length c1)).setCell ⟨v0, 1, none⟩ (.int .i64 Z0))) := ⟨bl_ HB⟩
 (try clear r0)
 (try clear a0)
 (try clear f0)
 (try clear HL689_0)
 (try clear c0)
 (try clear d0)
 (try clear b0)
 (try clear e0)
 (try clear S0)
 (try clear HB)
 generalize ((Y1.setCell ⟨v0, 0, none⟩ (.slice A1 l1.length c1)).setCell ⟨v0, 1, none⟩ (.int .i64 Z0)) = W6 at n0_ n1_ n2_ n3_ n4_ n5_ n6_ n7_ n8_ n9_ ⊢
 have r0 := n0_
 have a0 := n1_
 have f0 := n2_
 have HL689_0 := n3_
 have c0 := n4_
 have d0 := n5_
 have b0 := n6_
 have e0 := n7_
 have S0 := n8_
 have HB := n9_
 clear n0_ n1_ n2_ n3_ n4_ n5_ n6_ n7_ n8_ n9_
 replace r0 := a_ (Kd.R_drew r0.out)
 replace a0 := a_ (Kd.S_drew a0.out)
 replace f0 := a_ (Kd.S_drew f0.out)
 replace HL689_0 := a_ (Kd.R_drew HL689_0.out)
 replace c0 := a_ (blk_drew c0.out)
 replace d0 := a_ (blk_drew d0.out)
 replace b0 := a_ (blk_drew b0.out)
 replace e0 := a_ (blk_drew e0.out)
 replace S0 := a_ (blk_drew S0.out)
 replace HB := a_ (below_drew1 HB.out)
 refine start_ (n := 9) (S := fun w' => w'.cell? ⟨v0, 0, none⟩ = some (.slice A1 l1.length c1) ∧ w'.cell? ⟨v0, 1, none⟩ = some (.int .i64 Z0)) (ds := []) (B_ 9 0) kf_ rfl rfl ⟨ce_ S0 0, ce_ S0 1⟩ (fun hHeld => ?_); refine with_tabW Fb_.tab24 Fb_.bits24 (fun HT_ HW_ => ?_)
 generalize W6.drew = d04 at r0 a0 f0 HL689_0 c0 d0 b0 e0 S0 HB hHeld ⊢
 refine pu_ 1 (some 111) (B_ 9 2) HT_ ?_
 refine pu_ 2 (some 112) (B_ 9 6) HT_ ?_
 refine pu_ 3 (some 113) (B_ 9 14) HT_ ?_
 refine take_ (i := 0) (N := some 110) (v := ?_) (a' := ?_) (B_ 9 15) rfl rfl (take_ofW HT_.out HW_.out kf_) (fun _ _ _ h => h) (Or.inl ⟨by rfl, ?_⟩) hHeld ?_ ?_
 rotate_left
 {
 rintro w' ⟨s0, s1⟩
 go_simp
 with_reducible rfl}
 rotate_left
 {
 exact sp_}
 refine one_ (i := 4) (N := some 114) (B_ 9 31) rfl rfl (one_of HT_.out kf_) (by decide) (fun K hK => ?_)
 refine value_ (w1 := ?_) (v := ?_) (by rfl) rfl ?_ ?_
 rotate_left 2
 {
 go_simp
 constructor
 {
 rfl}
 {
 rfl}}
 refine hK.out _ _ ⟨(blk_cell (blk_alloc S0.out _) 0).trans rfl, (blk_cell (blk_alloc S0.out _) 1).trans rfl⟩ (fun hHeld => ?_)
 clear hK K
 refine norm_ (a' := ?_) ?_ ?_
 rotate_left
 {
 show Act.put _ (some 114) _ = _
 exact sp_}
 refine one_ (i := 5) (N := some 115) (B_ 9 63) rfl rfl (one_of HT_.out kf_) (by decide) (fun K hK => ?_)
 refine Kd.R_append_step (Kd.int .i64) (w0 := w) w.heap.size (by rfl) (.tmp 112) (.tmp 114) 53 2 (.int .i64 0) 8 rfl Try.underlying53 info2 rfl (by decide) (by omega) (.slice P3 K0.length Q3) K0 O3 [.int .i64 O3] (fun _ => True) (fun _ => False) rfl rfl ?aP (fun _ hk => hk.elim) ?aF ?aO ?aB ?aS ?aL ?_
 (case aP => exact rfl)
 (case aB => exact (bl_ HB))
 (case aF => exact (fun _ _ => trivial))
 (case aO => exact (kR_ r0))
 (case aS => exact (bs_ HB))
 (case aL => have := W4.out; omega)
 intro e04 X4 ho hb hg hat
 rw [← B5.out] at ho
 replace a0 := a_ (Kd.S_over' (kS_ a0) (Kd.R_typed (kR_ r0)) (by decide) hg)
 replace f0 := a_ (Kd.S_after (ok := (fun _ => True)) (by (with_reducible repeat (first | apply Kd.S_alloc | apply Kd.S_drewN | apply Kd.S_drew)); exact Kd.S_mono f0.out (fun _ hk => ⟨trivial, hk⟩)) hg hat)
 replace c0 := (FG_ c0 hg (Kd.R_ne r0.out c0.out (by decide)))
 replace d0 := (FG_ d0 hg (Kd.R_ne r0.out d0.out (by decide)))
 replace b0 := (FG_ b0 hg (Kd.R_ne r0.out b0.out (by decide)))
 replace e0 := (FG_ e0 hg (Kd.R_ne r0.out e0.out (by decide)))
 replace HL689_0 := a_ (Kd.R_over' (kR_ HL689_0) (Kd.R_typed (kR_ r0)) (by decide) hg)
 replace S0 := (FG_ S0 hg (Kd.R_ne r0.out S0.out (by decide)))
 replace HB := a_ (hb)
 have E5 := a_ (ho)
 clear r0
 clear ho hb hg hat
 refine hK.out _ _ ⟨ce_ S0 0, ce_ S0 1⟩ (fun hHeld => ?_)
 clear hK K
 refine norm_ (a' := ?_) ?_ ?_
 rotate_left
 {
 show Act.put _ (some 115) _ = _
 exact sp_}
 refine one_ (i := 6) (N := none) (B_ 9 127) rfl rfl (one_of HT_.out kf_) (by decide) (fun K hK => ?_)
 have hs148 : X4.cell? ⟨j0, 0, none⟩ = some (.slice A1 l1.length c1) := ce_ b0 0
 have hfs148 := blk_frozen b0.out 0
 have hns148_0 := B0.out
 have hns148_1 := y0.out
 have hns148_3 := q0.out
 have hns148_4 := i1.out
 have hms148_0 := C0.out
 have hms148_1 := z0.out
 have hms148_3 := p0.out
 have hms148_4 := v2.out
 have hs149 : X4.cell? ⟨j0, 1, none⟩ = some (.int .i64 D0) := ce_ b0 1
 have hfs149 := blk_frozen b0.out 1
 have hns149_0 := B0.out
 have hns149_1 := y0.out
 have hns149_3 := q0.out
 have hns149_4 := i1.out
 have hms149_0 := C0.out
 have hms149_1 := z0.out
 have hms149_3 := p0.out
 have hms149_4 := v2.out
 refine skip_ (w1 := ?_) (by rfl) rfl ?_ ?_
 rotate_left
 {
 go_simp
 rfl}
 refine hK.out _ _ ⟨((cell_far (p := ⟨j0, _, none⟩) i1.out _).trans (((cell_far (p := ⟨j0, _, none⟩) i1.out _).trans (hHeld.1)))), ((cell_far (p := ⟨j0, _, none⟩) i1.out _).trans (((cell_far (p := ⟨j0, _, none⟩) i1.out _).trans (hHeld.2))))⟩ (fun hHeld => ?_)
 clear hK K
 refine pu_ 7 (some 8) (B_ 9 255) HT_ ?_
 refine pu_ 8 (some 17) (B_ 9 511) HT_ ?_
 refine done_ (done_of HT_.out kf_) ?_
 try go_wp2
 go_roundg k4
 case measure => have := HJ4.out; have := t1.out; have := HJ106.out; have := S2.out; omega
 case rel => exact ⟨(U4), (B6), (Z0), rs_, H', ⟨by have := HJ4.out; have := t1.out; have := HJ106.out; have := S2.out; omega⟩, ⟨by (with_reducible repeat (first | apply Kd.R_alloc | apply Kd.R_drewN | apply Kd.R_drew)); exact Kd.R_mono (Kd.R_far (p := ⟨j0, 1, none⟩) (Kd.R_far (p := ⟨j0, 0, none⟩) (Kd.R_types E5.out b0.out (by decide)) (fun _ hk => hk.2) (.slice A1 l1.length c1)) (fun _ hk => hk.2) (.int .i64 Z0)) (fun _ hk => trivial)⟩, ⟨by (with_reducible repeat (first | apply Kd.S_alloc | apply Kd.S_drewN | apply Kd.S_drew)); exact Kd.S_mono (Kd.S_far (p := ⟨j0, 1, none⟩) (Kd.S_far (p := ⟨j0, 0, none⟩) (Kd.S_types a0.out b0.out (by decide)) (fun _ hk => hk.2) (.slice A1 l1.length c1)) (fun _ hk => hk.2) (.int .i64 Z0)) (fun _ hk => trivial)⟩, ⟨by (with_reducible repeat (first | apply Kd.S_alloc | apply Kd.S_drewN | apply Kd.S_drew)); exact Kd.S_mono (Kd.S_far (p := ⟨j0, 1, none⟩) (Kd.S_far (p := ⟨j0, 0, none⟩) (Kd.S_types f0.out b0.out (by decide)) (fun _ hk => hk.2) (.slice A1 l1.length c1)) (fun _ hk => hk.2) (.int .i64 Z0)) (fun _ hk => hk.1.2)⟩, ⟨bk_ c0⟩, ⟨bk_ d0⟩, ⟨bp_ b0⟩, ⟨bk_ e0⟩, ⟨bl_ HB⟩⟩}
 {
 replace H := gt_ H
 obtain ⟨Y4, H⟩ := H
 have Z4 := a_ Y4
 clear Y4
 obtain ⟨S3, Y2⟩ : ∃ y_ : List (List Int), y_ = (t0 ++ [K0]) := ⟨_, rfl⟩
 first | replace H := by_ H Y2 | rw [← Y2] at H
 have F5 := a_ Y2
 clear Y2
 have H' := a_ H
 clear H
 obtain ⟨z4, A4, G5⟩ := Kd.R_slice r0.out
 subst G5
 have A00 := O0.out
 have B00 := N0.out
 have C00 := Q0.out
 have D00 := P0.out
 have E00 := q0.out
 have F00 := p0.out
 obtain ⟨X6, Y6, Z6, a7⟩ := e2_ e0
 obtain ⟨M03, N03, H5⟩ := Kd.S_slice a0.out
 subst H5
 have p1 : 0 ≤ (A0 : Int) := dm_
 have q1 : A0 < (h0.length : Int) := dm_
 obtain ⟨P2, f3, g3, h3, b2, j1, m1⟩ := at_L1 (Kd.S_reads' a0.out).2.2 A0 p1 q1
 cases h3
 obtain ⟨ce689, hce689, hMe689, hcc689⟩ := Kd.S_get a0.out [] A0 p1 (by first | exact q1 | exact dm_ | (have e_ := (Kd.S_reads' a0.out).1; omega))
 obtain ⟨ve689_0, rfl, ge689_0⟩ := hMe689
 have hv689_0 := hcc689 0 _ rfl
 rw [Nat.add_zero, show ((Kd.slice 3 (Kd.int .i64))).sz = 1 from rfl, Nat.mul_one] at hv689_0
 replace hv689_0 := Option.some.inj (hv689_0.symm.trans b2)
 rw [hv689_0] at ge689_0
 have HL689_0 := a_ (show Kd.R (Kd.int .i64) 3 _ _ _ _ (rd_L1 h0 A0) from ge689_0)
 clear hv689_0 ge689_0
 clear hcc689 hce689
 have n1 := a_ m1
 have B3 := a_ j1
 clear m1 j1
 replace p1 := eq_true p1
 replace q1 := eq_true q1
 go_wp2_with (first | (with_reducible refine scope_straight83_ ?_) | (with_reducible refine wp_label ?_) | ((with_reducible refine gate_builtin (b := .append) (xs := #[.tmp 117, .tmp 119]) rfl ?_); (try (refine gate_guard (by rfl) ?_; dsimp only)); at_builtin; refine Kd.S_append (Kd.slice 2 (Kd.int .i64)) (w0 := w) w.heap.size rfl (.tmp 117) (.tmp 119) 26 53 (.slice none 0 0) 24 rfl Try.underlying26 info53 rfl (by decide) (by omega) I0 t0 K0 [.slice z4 K0.length A4] (fun _ => True) (fun k_ => some k_ = (.slice z4 K0.length A4 : Value).ownBlock) rfl rfl ?aP (fun k_ hk_ => ((Kd.R_mono (ok' := fun k_ => ((fun _ => True)) k_ ∧ no_ k_ I0) (Kd.R_apart' (r0.out) (Kd.S_typed f0.out) (by decide)) (fun k_ hk => ⟨trivial, hk.2⟩))).1 k_ hk_.symm) ?aF ?aO ?aB ?aS ?aL ?_; (case aP => exact Kd.M_row (Kd.R_mono (Kd.R_tight rfl (Kd.R_mono (ok' := fun k_ => ((fun _ => True)) k_ ∧ no_ k_ I0) (Kd.R_apart' (r0.out) (Kd.S_typed f0.out) (by decide)) (fun k_ hk => ⟨trivial, hk.2⟩))) (fun _ h_ => h_))); (case aB => exact (bl_ HB)); (case aF => exact (fun _ _ => trivial)); (case aO => exact (by (with_reducible repeat (first | apply Kd.S_alloc | apply Kd.S_drewN | apply Kd.S_drew)); exact Kd.S_mono f0.out (fun k_ hk => ⟨trivial, fun e_ => hk e_⟩))); (case aS => exact (bs_ HB)); (case aL => have := Z4.out; omega); intro f04 g04 ho hb hg hat; rw [← F5.out] at ho; replace a0 := a_ (Kd.S_over' (kS_ a0) (Kd.S_typed (kS_ f0)) (by decide) hg); replace c0 := (FG_ c0 hg (Kd.S_ne f0.out c0.out (by decide))); replace d0 := (FG_ d0 hg (Kd.S_ne f0.out d0.out (by decide))); replace b0 := (FG_ b0 hg (Kd.S_ne f0.out b0.out (by decide))); replace e0 := (FG_ e0 hg (Kd.S_ne f0.out e0.out (by decide))); replace HL689_0 := a_ (Kd.R_over' (kR_ HL689_0) (Kd.S_typed (kS_ f0)) (by decide) hg); replace HB := a_ (hb); have B4 := a_ (ho); clear f0 r0; clear ho hb hg hat; obtain ⟨T3, U3, I5⟩ := Kd.S_slice B4.out; subst I5; obtain ⟨b7, c7, d7, e7⟩ := e2_ e0))
 go_roundg k4
 case measure => have := HJ4.out; have := t1.out; have := HJ106.out; have := S2.out; omega
 case rel => exact ⟨(X1), (wrap64 (A0 + 1)), (D0), (S3), (.slice T3 S3.length U3), rs_, rs_, H', ⟨by have := HJ4.out; have := t1.out; have := HJ106.out; have := S2.out; omega⟩, ⟨by (with_reducible repeat (first | apply Kd.S_alloc | apply Kd.S_drewN | apply Kd.S_drew)); exact Kd.S_mono (Kd.S_far (p := ⟨W0, 1, none⟩) (Kd.S_types a0.out e0.out (by decide)) (fun _ hk => hk.2) (.slice T3 S3.length U3)) (fun _ hk => trivial)⟩, ⟨by (with_reducible repeat (first | apply Kd.S_alloc | apply Kd.S_drewN | apply Kd.S_drew)); exact Kd.S_mono (Kd.S_far (p := ⟨W0, 1, none⟩) (Kd.S_types B4.out e0.out (by decide)) (fun _ hk => hk.2) (.slice T3 S3.length U3)) (fun _ hk => trivial)⟩, ⟨bk_ c0⟩, ⟨bk_ d0⟩, ⟨bk_ b0⟩, ⟨bp_ e0⟩, ⟨bl_ HB⟩⟩}}
 {
 have Q4 : decide (0 < ((rd_L1 h0 A0).length : Int)) = false := decide_eq_false e3
 have R4 : decide (0 < (rd_L1 h0 A0).length) = false := decide_eq_false (by omega)
 clear e3
 replace H := gt_ H
 obtain ⟨a5, H⟩ := H
 have b5 := a_ a5
 clear a5
 obtain ⟨V3, Z2⟩ : ∃ y_ : List (List Int), y_ = (t0 ++ [K0]) := ⟨_, rfl⟩
 first | replace H := by_ H Z2 | rw [← Z2] at H
 have J5 := a_ Z2
 clear Z2
 have H' := a_ H
 clear H
 obtain ⟨C4, D4, K5⟩ := Kd.R_slice r0.out
 subst K5
 have G00 := O0.out
 have H00 := N0.out
 have I00 := Q0.out
 have J00 := P0.out
 have K00 := q0.out
 have L00 := p0.out
 obtain ⟨f7, g7, h7, i7⟩ := e2_ e0
 obtain ⟨O03, P03, L5⟩ := Kd.S_slice a0.out
 subst L5
 have p1 : 0 ≤ (A0 : Int) := dm_
 have q1 : A0 < (h0.length : Int) := dm_
 obtain ⟨P2, f3, g3, h3, b2, j1, m1⟩ := at_L1 (Kd.S_reads' a0.out).2.2 A0 p1 q1
 cases h3
 obtain ⟨ce689, hce689, hMe689, hcc689⟩ := Kd.S_get a0.out [] A0 p1 (by first | exact q1 | exact dm_ | (have e_ := (Kd.S_reads' a0.out).1; omega))
 obtain ⟨ve689_0, rfl, ge689_0⟩ := hMe689
 have hv689_0 := hcc689 0 _ rfl
 rw [Nat.add_zero, show ((Kd.slice 3 (Kd.int .i64))).sz = 1 from rfl, Nat.mul_one] at hv689_0
 replace hv689_0 := Option.some.inj (hv689_0.symm.trans b2)
 rw [hv689_0] at ge689_0
 have HL689_0 := a_ (show Kd.R (Kd.int .i64) 3 _ _ _ _ (rd_L1 h0 A0) from ge689_0)
 clear hv689_0 ge689_0
 clear hcc689 hce689
 have n1 := a_ m1
 have B3 := a_ j1
 clear m1 j1
 replace p1 := eq_true p1
 replace q1 := eq_true q1
 go_wp2_with (first | (with_reducible refine scope_straight83_ ?_) | (with_reducible refine wp_label ?_) | ((with_reducible refine gate_builtin (b := .append) (xs := #[.tmp 117, .tmp 119]) rfl ?_); (try (refine gate_guard (by rfl) ?_; dsimp only)); at_builtin; refine Kd.S_append (Kd.slice 2 (Kd.int .i64)) (w0 := w) w.heap.size rfl (.tmp 117) (.tmp 119) 26 53 (.slice none 0 0) 24 rfl Try.underlying26 info53 rfl (by decide) (by omega) I0 t0 K0 [.slice C4 K0.length D4] (fun _ => True) (fun k_ => some k_ = (.slice C4 K0.length D4 : Value).ownBlock) rfl rfl ?aP (fun k_ hk_ => ((Kd.R_mono (ok' := fun k_ => ((fun _ => True)) k_ ∧ no_ k_ I0) (Kd.R_apart' (r0.out) (Kd.S_typed f0.out) (by decide)) (fun k_ hk => ⟨trivial, hk.2⟩))).1 k_ hk_.symm) ?aF ?aO ?aB ?aS ?aL ?_; (case aP => exact Kd.M_row (Kd.R_mono (Kd.R_tight rfl (Kd.R_mono (ok' := fun k_ => ((fun _ => True)) k_ ∧ no_ k_ I0) (Kd.R_apart' (r0.out) (Kd.S_typed f0.out) (by decide)) (fun k_ hk => ⟨trivial, hk.2⟩))) (fun _ h_ => h_))); (case aB => exact (bl_ HB)); (case aF => exact (fun _ _ => trivial)); (case aO => exact (by (with_reducible repeat (first | apply Kd.S_alloc | apply Kd.S_drewN | apply Kd.S_drew)); exact Kd.S_mono f0.out (fun k_ hk => ⟨trivial, fun e_ => hk e_⟩))); (case aS => exact (bs_ HB)); (case aL => have := b5.out; omega); intro h04 i04 ho hb hg hat; rw [← J5.out] at ho; replace a0 := a_ (Kd.S_over' (kS_ a0) (Kd.S_typed (kS_ f0)) (by decide) hg); replace c0 := (FG_ c0 hg (Kd.S_ne f0.out c0.out (by decide))); replace d0 := (FG_ d0 hg (Kd.S_ne f0.out d0.out (by decide))); replace b0 := (FG_ b0 hg (Kd.S_ne f0.out b0.out (by decide))); replace e0 := (FG_ e0 hg (Kd.S_ne f0.out e0.out (by decide))); replace HL689_0 := a_ (Kd.R_over' (kR_ HL689_0) (Kd.S_typed (kS_ f0)) (by decide) hg); replace HB := a_ (hb); have E4 := a_ (ho); clear f0 r0; clear ho hb hg hat; obtain ⟨W3, X3, M5⟩ := Kd.S_slice E4.out; subst M5; obtain ⟨j7, k7, l7, m7⟩ := e2_ e0))
 go_roundg k4
 case measure => have := HJ4.out; have := t1.out; have := HJ106.out; have := S2.out; omega
 case rel => exact ⟨(X1), (wrap64 (A0 + 1)), (D0), (V3), (.slice W3 V3.length X3), rs_, rs_, H', ⟨by have := HJ4.out; have := t1.out; have := HJ106.out; have := S2.out; omega⟩, ⟨by (with_reducible repeat (first | apply Kd.S_alloc | apply Kd.S_drewN | apply Kd.S_drew)); exact Kd.S_mono (Kd.S_far (p := ⟨W0, 1, none⟩) (Kd.S_types a0.out e0.out (by decide)) (fun _ hk => hk.2) (.slice W3 V3.length X3)) (fun _ hk => trivial)⟩, ⟨by (with_reducible repeat (first | apply Kd.S_alloc | apply Kd.S_drewN | apply Kd.S_drew)); exact Kd.S_mono (Kd.S_far (p := ⟨W0, 1, none⟩) (Kd.S_types E4.out e0.out (by decide)) (fun _ hk => hk.2) (.slice W3 V3.length X3)) (fun _ hk => trivial)⟩, ⟨bk_ c0⟩, ⟨bk_ d0⟩, ⟨bk_ b0⟩, ⟨bp_ e0⟩, ⟨bl_ HB⟩⟩}}
 {
 have O4 : decide ((K0.length : Int) < 16) = false := decide_eq_false d3
 have P4 : decide (K0.length < 16) = false := decide_eq_false (by omega)
 clear d3
 replace H := gt_ H
 obtain ⟨c5, H⟩ := H
 have d5 := a_ c5
 clear c5
 obtain ⟨Y3, a3⟩ : ∃ y_ : List (List Int), y_ = (t0 ++ [K0]) := ⟨_, rfl⟩
 first | replace H := by_ H a3 | rw [← a3] at H
 have N5 := a_ a3
 clear a3
 have H' := a_ H
 clear H
 obtain ⟨F4, G4, O5⟩ := Kd.R_slice r0.out
 subst O5
 have M00 := O0.out
 have N00 := N0.out
 have O00 := Q0.out
 have P00 := P0.out
 have Q00 := q0.out
 have R00 := p0.out
 obtain ⟨n7, o7, p7, q7⟩ := e2_ e0
 go_wp2_with (first | (with_reducible refine scope_straight83_ ?_) | (with_reducible refine wp_label ?_) | ((with_reducible refine gate_builtin (b := .append) (xs := #[.tmp 117, .tmp 119]) rfl ?_); (try (refine gate_guard (by rfl) ?_; dsimp only)); at_builtin; refine Kd.S_append (Kd.slice 2 (Kd.int .i64)) (w0 := w) w.heap.size rfl (.tmp 117) (.tmp 119) 26 53 (.slice none 0 0) 24 rfl Try.underlying26 info53 rfl (by decide) (by omega) I0 t0 K0 [.slice F4 K0.length G4] (fun _ => True) (fun k_ => some k_ = (.slice F4 K0.length G4 : Value).ownBlock) rfl rfl ?aP (fun k_ hk_ => ((Kd.R_mono (ok' := fun k_ => ((fun _ => True)) k_ ∧ no_ k_ I0) (Kd.R_apart' (r0.out) (Kd.S_typed f0.out) (by decide)) (fun k_ hk => ⟨trivial, hk.2⟩))).1 k_ hk_.symm) ?aF ?aO ?aB ?aS ?aL ?_; (case aP => exact Kd.M_row (Kd.R_mono (Kd.R_tight rfl (Kd.R_mono (ok' := fun k_ => ((fun _ => True)) k_ ∧ no_ k_ I0) (Kd.R_apart' (r0.out) (Kd.S_typed f0.out) (by decide)) (fun k_ hk => ⟨trivial, hk.2⟩))) (fun _ h_ => h_))); (case aB => exact (bl_ HB)); (case aF => exact (fun _ _ => trivial)); (case aO => exact (by (with_reducible repeat (first | apply Kd.S_alloc | apply Kd.S_drewN | apply Kd.S_drew)); exact Kd.S_mono f0.out (fun k_ hk => ⟨trivial, fun e_ => hk e_⟩))); (case aS => exact (bs_ HB)); (case aL => have := d5.out; omega); intro j04 k04 ho hb hg hat; rw [← N5.out] at ho; replace a0 := a_ (Kd.S_over' (kS_ a0) (Kd.S_typed (kS_ f0)) (by decide) hg); replace c0 := (FG_ c0 hg (Kd.S_ne f0.out c0.out (by decide))); replace d0 := (FG_ d0 hg (Kd.S_ne f0.out d0.out (by decide))); replace b0 := (FG_ b0 hg (Kd.S_ne f0.out b0.out (by decide))); replace e0 := (FG_ e0 hg (Kd.S_ne f0.out e0.out (by decide))); replace HB := a_ (hb); have H4 := a_ (ho); clear f0 r0; clear ho hb hg hat; obtain ⟨Z3, a4, P5⟩ := Kd.S_slice H4.out; subst P5; obtain ⟨r7, s7, t7, v7⟩ := e2_ e0))
 go_roundg k4
 case measure => have := HJ4.out; have := t1.out; have := HJ106.out; have := S2.out; omega
 case rel => exact ⟨(X1), (wrap64 (A0 + 1)), (D0), (Y3), (.slice Z3 Y3.length a4), rs_, rs_, H', ⟨by have := HJ4.out; have := t1.out; have := HJ106.out; have := S2.out; omega⟩, ⟨by (with_reducible repeat (first | apply Kd.S_alloc | apply Kd.S_drewN | apply Kd.S_drew)); exact Kd.S_mono (Kd.S_far (p := ⟨W0, 1, none⟩) (Kd.S_types a0.out e0.out (by decide)) (fun _ hk => hk.2) (.slice Z3 Y3.length a4)) (fun _ hk => trivial)⟩, ⟨by (with_reducible repeat (first | apply Kd.S_alloc | apply Kd.S_drewN | apply Kd.S_drew)); exact Kd.S_mono (Kd.S_far (p := ⟨W0, 1, none⟩) (Kd.S_types H4.out e0.out (by decide)) (fun _ hk => hk.2) (.slice Z3 Y3.length a4)) (fun _ hk => trivial)⟩, ⟨bk_ c0⟩, ⟨bk_ d0⟩, ⟨bk_ b0⟩, ⟨bp_ e0⟩, ⟨bl_ HB⟩⟩}))}
 {
 replace c3 := Bool.eq_false_iff.mpr c3
 subst c3
 rw [if_neg (show ¬ (false = true) by decide)] at H
 replace H := ie_ H
 rcases H with ⟨e5, f5, H⟩ | ⟨l04, e5, f5, H⟩
 {
 obtain ⟨d2, s4, H⟩ := ob_ H
 (try dsimp only at H)
 replace H := ii_ H
 rcases H with ⟨i3, H⟩ | ⟨i3, H⟩
 {
 have g5 : decide (8 ≤ d2) = true := decide_eq_true i3
 clear i3
 simp only [Option.some.injEq, Prod.mk.injEq] at H
 obtain ⟨rfl, rfl, rfl⟩ := H
 have S00 := C0.out
 have T00 := B0.out
 have U00 := z0.out
 have V00 := y0.out
 have W00 := p0.out
 have X00 := q0.out
 obtain ⟨x7, y7, z7, A7⟩ := e2_ b0
 go_wp2_with (first | (with_reducible refine scope_straight83_ ?_) | (with_reducible refine wp_label ?_) | ((with_reducible refine gate_callee (f := 50) rfl ?_); refine gL_ (some 127) Try.func50 #[.agg #[.slice A1 l1.length c1, .int .i64 g0]] ?_; (with_reducible refine (GL_.calls _ _ l1 g0 d2 _ ?side1 ?side2 s4.out).mono ?_); (case side1 => exact kC_ H2 HB); (case side2 => exact I2.out); rintro e m04 ⟨rfl, hb⟩; refine ⟨_, rfl, ?_⟩; replace a0 := FS_ a0 hb; replace f0 := FS_ f0 hb; replace c0 := FB_ c0 hb; replace d0 := FB_ d0 hb; replace b0 := FB_ b0 hb; replace e0 := FB_ e0 hb; replace HB := BS_ HB hb; (try clear hb); have Y00 := U0.out; have Z00 := T0.out; have a01 := P0.out; have b01 := Q0.out; obtain ⟨B7, C7, D7, E7⟩ := e2_ d0))
 refine bodyPost_ret (results_ct rfl _ _ R0 28 #[.slice none 0 0, .slice none 0 0] (0, 0) _ rfl (bp_ d0) Try.underlying28 rfl kf_) rfl ?_
 exact ⟨_, _, er_, by first | exact Kd.S_nil _ _ _ _ _ | exact Kd.N_nil _ _ _ _ _ | exact Kd.V_nil _ _ _ _ _ | exact Kd.Q_nil _ _ _ _ _ | exact Kd.R_nil _ _ _ _ _, by first | exact Kd.S_nil _ _ _ _ _ | exact Kd.N_nil _ _ _ _ _ | exact Kd.V_nil _ _ _ _ _ | exact Kd.Q_nil _ _ _ _ _ | exact Kd.R_nil _ _ _ _ _, bl_ HB⟩}
 {
 have g5 : decide (8 ≤ d2) = false := decide_eq_false i3
 clear i3
 obtain ⟨⟨b4, h5, i5⟩, k5, H⟩ := ob_ H
 (try dsimp only at H)
 replace H := ie_ H
 rcases H with ⟨l5, m5, H⟩ | ⟨n04, l5, m5, H⟩
 {
 simp only [Option.some.injEq, Prod.mk.injEq] at H
 obtain ⟨rfl, rfl, rfl⟩ := H
 have c01 := C0.out
 have d01 := B0.out
 have e01 := z0.out
 have f01 := y0.out
 have g01 := p0.out
 have h01 := q0.out
 obtain ⟨F7, G7, H7, I7⟩ := e2_ b0
 go_wp2_with (first | (with_reducible refine scope_straight83_ ?_) | (with_reducible refine wp_label ?_) | ((with_reducible refine gate_callee (f := 50) rfl ?_); refine gL_ (some 127) Try.func50 #[.agg #[.slice A1 l1.length c1, .int .i64 g0]] ?_; (with_reducible refine (GL_.calls _ _ l1 g0 d2 _ ?side1 ?side2 s4.out).mono ?_); (case side1 => exact kC_ H2 HB); (case side2 => exact I2.out); rintro e o04 ⟨rfl, hb⟩; refine ⟨_, rfl, ?_⟩; replace a0 := FS_ a0 hb; replace f0 := FS_ f0 hb; replace c0 := FB_ c0 hb; replace d0 := FB_ d0 hb; replace b0 := FB_ b0 hb; replace e0 := FB_ e0 hb; replace HB := BS_ HB hb; (try clear hb); obtain ⟨J7, K7, L7, M7⟩ := e2_ b0) | ((with_reducible refine gate_callee (f := 47) rfl ?_); refine gL_ (some 134) Try.func47 #[.agg #[.slice A1 l1.length c1, .int .i64 g0], .int .i64 d2] ?_; (with_reducible refine (Fp_.calls kj106 _ _ l1 g0 d2 b4 h5 i5 _ ?side1 ?side2 k5.out).mono ?_); (case side1 => exact kC_ H2 HB); (case side2 => exact I2.out); rintro e p04 ⟨rfl, hb⟩; refine ⟨_, rfl, ?_⟩; replace a0 := FS_ a0 hb; replace f0 := FS_ f0 hb; replace c0 := FB_ c0 hb; replace d0 := FB_ d0 hb; replace b0 := FB_ b0 hb; replace e0 := FB_ e0 hb; replace HB := BS_ HB hb; (try clear hb)) | ((with_reducible refine gate_dst (N := 22) rfl ?_); (try (refine gate_guard (by rfl) ?_; dsimp only)); refine bx_ HB 22 #[.slice none 0 0, .int .i64 0] 81 ?_; clear HB; intro Q2 hg q04 hb R2 d4 HB; have Q5 := d4; replace a0 := FS_ a0 hb; replace f0 := FS_ f0 hb; obtain ⟨w2, y2⟩ := NN_ c0 hg; replace c0 := FB_ c0 hb; obtain ⟨z2, A2⟩ := NN_ d0 hg; replace d0 := FB_ d0 hb; obtain ⟨B2, C2⟩ := NN_ b0 hg; replace b0 := FB_ b0 hb; obtain ⟨D2, E2⟩ := NN_ e0 hg; replace e0 := FB_ e0 hb; clear hb hg; have i01 := y2.out; have j01 := w2.out; have k01 := A2.out; have l01 := z2.out; have m01 := C2.out; have n01 := B2.out; have o01 := E2.out; have p01 := D2.out; obtain ⟨N7, O7, P7, Q7⟩ := e2_ R2; have q01 := O0.out; have r01 := N0.out; have s01 := Q0.out; have t01 := P0.out; obtain ⟨R7, S7, T7, U7⟩ := e2_ e0; obtain ⟨e4, f4, R5⟩ := Kd.S_slice a0.out; subst R5; have v01 := U0.out; have w01 := T0.out; obtain ⟨V7, W7, X7, Y7⟩ := e2_ d0; obtain ⟨g4, h4, S5⟩ := Kd.S_slice f0.out; subst S5))
 refine bodyPost_ret (results_ct rfl _ _ R0 28 #[.slice e4 h0.length f4, .slice g4 t0.length h4] (0, 0) _ rfl (bp_ d0) Try.underlying28 rfl kf_) rfl ?_
 exact ⟨_, _, er_, by (with_reducible repeat (first | apply Kd.S_alloc | apply Kd.S_drewN | apply Kd.S_drew)); exact Kd.S_mono (Kd.S_far (p := ⟨R0, 1, none⟩) (Kd.S_far (p := ⟨R0, 0, none⟩) (Kd.S_far (p := ⟨Q2, 1, none⟩) (Kd.S_far (p := ⟨Q2, 0, none⟩) (Kd.S_types (Kd.S_types a0.out R2.out (by decide)) d0.out (by decide)) (fun _ hk => hk.1.2) (.slice A1 l1.length c1)) (fun _ hk => hk.1.2) (.int .i64 b4)) (fun _ hk => hk.2) (.slice e4 h0.length f4)) (fun _ hk => hk.2) (.slice g4 t0.length h4)) (fun _ hk => trivial), by (with_reducible repeat (first | apply Kd.S_alloc | apply Kd.S_drewN | apply Kd.S_drew)); exact Kd.S_mono (Kd.S_far (p := ⟨R0, 1, none⟩) (Kd.S_far (p := ⟨R0, 0, none⟩) (Kd.S_far (p := ⟨Q2, 1, none⟩) (Kd.S_far (p := ⟨Q2, 0, none⟩) (Kd.S_types (Kd.S_types f0.out R2.out (by decide)) d0.out (by decide)) (fun _ hk => hk.1.2) (.slice A1 l1.length c1)) (fun _ hk => hk.1.2) (.int .i64 b4)) (fun _ hk => hk.2) (.slice e4 h0.length f4)) (fun _ hk => hk.2) (.slice g4 t0.length h4)) (fun _ hk => trivial), bl_ HB⟩}
 {
 simp only [Option.some.injEq, Prod.mk.injEq] at H
 obtain ⟨rfl, rfl, rfl⟩ := H
 have x01 := C0.out
 have y01 := B0.out
 have z01 := z0.out
 have A01 := y0.out
 have B01 := p0.out
 have C01 := q0.out
 obtain ⟨Z7, a8, b8, c8⟩ := e2_ b0
 go_wp2_with (first | (with_reducible refine scope_straight83_ ?_) | (with_reducible refine wp_label ?_) | ((with_reducible refine gate_callee (f := 50) rfl ?_); refine gL_ (some 127) Try.func50 #[.agg #[.slice A1 l1.length c1, .int .i64 g0]] ?_; (with_reducible refine (GL_.calls _ _ l1 g0 d2 _ ?side1 ?side2 s4.out).mono ?_); (case side1 => exact kC_ H2 HB); (case side2 => exact I2.out); rintro e r04 ⟨rfl, hb⟩; refine ⟨_, rfl, ?_⟩; replace a0 := FS_ a0 hb; replace f0 := FS_ f0 hb; replace c0 := FB_ c0 hb; replace d0 := FB_ d0 hb; replace b0 := FB_ b0 hb; replace e0 := FB_ e0 hb; replace HB := BS_ HB hb; (try clear hb); obtain ⟨d8, e8, g8, h8⟩ := e2_ b0) | ((with_reducible refine gate_callee (f := 47) rfl ?_); refine gL_ (some 134) Try.func47 #[.agg #[.slice A1 l1.length c1, .int .i64 g0], .int .i64 d2] ?_; (with_reducible refine (Fp_.calls kj106 _ _ l1 g0 d2 b4 h5 i5 _ ?side1 ?side2 k5.out).mono ?_); (case side1 => exact kC_ H2 HB); (case side2 => exact I2.out); rintro e s04 ⟨rfl, hb⟩; refine ⟨_, rfl, ?_⟩; replace a0 := FS_ a0 hb; replace f0 := FS_ f0 hb; replace c0 := FB_ c0 hb; replace d0 := FB_ d0 hb; replace b0 := FB_ b0 hb; replace e0 := FB_ e0 hb; replace HB := BS_ HB hb; (try clear hb)) | ((with_reducible refine gate_dst (N := 22) rfl ?_); (try (refine gate_guard (by rfl) ?_; dsimp only)); refine bx_ HB 22 #[.slice none 0 0, .int .i64 0] 81 ?_; clear HB; intro Q2 hg t04 hb R2 d4 HB; have Q5 := d4; replace a0 := FS_ a0 hb; replace f0 := FS_ f0 hb; obtain ⟨w2, y2⟩ := NN_ c0 hg; replace c0 := FB_ c0 hb; obtain ⟨z2, A2⟩ := NN_ d0 hg; replace d0 := FB_ d0 hb; obtain ⟨B2, C2⟩ := NN_ b0 hg; replace b0 := FB_ b0 hb; obtain ⟨D2, E2⟩ := NN_ e0 hg; replace e0 := FB_ e0 hb; clear hb hg; have D01 := y2.out; have E01 := w2.out; have F01 := A2.out; have G01 := z2.out; have H01 := C2.out; have I01 := B2.out; have J01 := E2.out; have K01 := D2.out; obtain ⟨j8, k8, l8, m8⟩ := e2_ R2; have L01 := U0.out; have M01 := T0.out; have N01 := P0.out; have O01 := Q0.out; obtain ⟨n8, o8, p8, q8⟩ := e2_ d0))
 refine bodyPost_ret (results_ct rfl _ _ R0 28 #[.slice none 0 0, .slice none 0 0] (0, 0) _ rfl (bp_ d0) Try.underlying28 rfl kf_) rfl ?_
 exact ⟨_, _, er_, by first | exact Kd.S_nil _ _ _ _ _ | exact Kd.N_nil _ _ _ _ _ | exact Kd.V_nil _ _ _ _ _ | exact Kd.Q_nil _ _ _ _ _ | exact Kd.R_nil _ _ _ _ _, by first | exact Kd.S_nil _ _ _ _ _ | exact Kd.N_nil _ _ _ _ _ | exact Kd.V_nil _ _ _ _ _ | exact Kd.Q_nil _ _ _ _ _ | exact Kd.R_nil _ _ _ _ _, bl_ HB⟩}}}
 {
 simp only [Option.some.injEq, Prod.mk.injEq] at H
 obtain ⟨rfl, rfl, rfl⟩ := H
 have P01 := U0.out
 have Q01 := T0.out
 have R01 := y0.out
 have S01 := z0.out
 have T01 := P0.out
 have U01 := Q0.out
 obtain ⟨r8, s8, t8, w8⟩ := e2_ d0
 go_wp2
 refine bodyPost_ret (results_ct rfl _ _ R0 28 #[.slice none 0 0, .slice none 0 0] (0, 0) _ rfl (bp_ d0) Try.underlying28 rfl kf_) rfl ?_
 exact ⟨_, _, er_, by first | exact Kd.S_nil _ _ _ _ _ | exact Kd.N_nil _ _ _ _ _ | exact Kd.V_nil _ _ _ _ _ | exact Kd.Q_nil _ _ _ _ _ | exact Kd.R_nil _ _ _ _ _, by first | exact Kd.S_nil _ _ _ _ _ | exact Kd.N_nil _ _ _ _ _ | exact Kd.V_nil _ _ _ _ _ | exact Kd.Q_nil _ _ _ _ _ | exact Kd.R_nil _ _ _ _ _, bl_ HB⟩}}))))))}
 {
 simp only [Option.some.injEq, Prod.mk.injEq] at H
 obtain ⟨rfl, rfl, rfl⟩ := H
 go_enter Try.func20, Try.ntmps20
 go_wp2_with (first | (with_reducible refine scope_straight83_ ?_) | (with_reducible refine wp_label ?_) | ((with_reducible refine gate_dst (N := 2) rfl ?_); (try (refine gate_guard (by rfl) ?_; dsimp only)); refine bx_ HB 2 #[.int .i64 L0, .int .i64 M0, .slice b1 F0.length d1, .slice e1 J0.length f1] 24 ?_; clear HB; intro o1 hg v04 hb c0 E3 HB; have n5 := E3; clear hb hg) | ((with_reducible refine gate_dst (N := 4) rfl ?_); (try (refine gate_guard (by rfl) ?_; dsimp only)); refine bx_ HB 4 #[.slice none 0 0, .slice none 0 0] 28 ?_; clear HB; intro R0 hg w04 hb d0 F3 HB; have o5 := F3; obtain ⟨T0, U0⟩ := NN_ c0 hg; replace c0 := FB_ c0 hb; clear hb hg; have V01 := T0.out; have W01 := U0.out; obtain ⟨x8, y8, z8, A8, B8, C8, D8, E8⟩ := e4_ c0) | ((with_reducible refine gate_callee (f := 41) rfl ?_); refine gL_ (some 26) Try.func41 #[.agg #[.int .i64 L0, .int .i64 M0, .slice b1 F0.length d1, .slice e1 J0.length f1]] ?_; (with_reducible refine (Gg_.calls k L0 M0 _ _ F0 _ _ J0 false _ ?side1 ?side2 ?side3 ?side4 A3.out).mono ?_); (case side1 => exact kC_ T2 HB); (case side2 => exact U2.out); (case side3 => exact kC_ C3 HB); (case side4 => exact D3.out); rintro e x04 ⟨rfl, hb⟩; refine ⟨_, rfl, ?_⟩; replace c0 := FB_ c0 hb; replace d0 := FB_ d0 hb; replace HB := BS_ HB hb; (try clear hb); obtain ⟨F8, G8, H8, I8⟩ := e2_ d0))
 refine bodyPost_ret (results_ct rfl _ _ R0 28 #[.slice none 0 0, .slice none 0 0] (0, 0) _ rfl (bp_ d0) Try.underlying28 rfl kf_) rfl ?_
 exact ⟨_, _, er_, by first | exact Kd.S_nil _ _ _ _ _ | exact Kd.N_nil _ _ _ _ _ | exact Kd.V_nil _ _ _ _ _ | exact Kd.Q_nil _ _ _ _ _ | exact Kd.R_nil _ _ _ _ _, by first | exact Kd.S_nil _ _ _ _ _ | exact Kd.N_nil _ _ _ _ _ | exact Kd.V_nil _ _ _ _ _ | exact Kd.Q_nil _ _ _ _ _ | exact Kd.R_nil _ _ _ _ _, bl_ HB⟩}
def Fs_.l0 : Nat → List Int → List Int → Int → Option (Bool)
  | 0, _, _, _ => none
  | k + 1, x0, x1, x5 => if x5 < (x0.length : Int) then (if 0 ≤ x5 then (if x5 < (x1.length : Int) then (if (rd x0 x5) = (rd x1 x5) then (Fs_.l0 k x0 x1 (wrap64 (x5 + 1))) else (some false)) else (none)) else (none)) else (some true)
def Fs_.f (k : Nat) (l0 : List Int) (l1 : List Int) : Option (Bool) := if (l0.length : Int) = (l1.length : Int) then (Fs_.l0 k l0 l1 0) else (some false)
theorem Fs_.mono_l : ∀ k, (∀ y0 y1 y2, LeO (Fs_.l0 k y0 y1 y2) (Fs_.l0 (k + 1) y0 y1 y2))
  | 0 => fun _ _ _ r h => by simp [Fs_.l0] at h
  | k + 1 => by
    have a0 := Fs_.mono_l k
    · intro y0 y1 y2
      unfold Fs_.l0
      with_reducible repeat' first
   | apply a0
   | exact LeO.refl _
   | exact LeO.none _
   | refine LeO.ite ?_ ?_
   | refine LeO.bind ?_ (fun _ => ?_)
theorem Fs_.mono : ∀ a0 a1 k, LeO (Fs_.f k a0 a1) (Fs_.f (k + 1) a0 a1) := by
  intro a0 a1 k
  have b0 := Fs_.mono_l k
  unfold Fs_.f
  with_reducible repeat' first
   | apply b0
   | exact LeO.refl _
   | exact LeO.none _
   | refine LeO.ite ?_ ?_
   | refine LeO.bind ?_ (fun _ => ?_)
theorem Fs_.calls (k : Nat) (A0 : Option Addr) (c0 : Nat) (l0 : List Int) (A1 : Option Addr) (c1 : Nat) (l1 : List Int) (r : Bool) (w : World) (hr0 : Kd.C (Kd.int .i64) w A0 l0.length l0) (hc0 : l0.length ≤ c0) (hr1 : Kd.C (Kd.int .i64) w A1 l1.length l1) (hc1 : l1.length ≤ c1) (h : Fs_.f k l0 l1 = some r) :
    Calls Try.prog 52 #[.slice A0 l0.length c0, .slice A1 l1.length c1] w fun e w' => e = .returned (.bool r) ∧ Drawn0 w w' := by
 have q0 := a_ hr0
 have B0 := a_ hc0
 clear hr0 hc0
 have r0 := a_ hr1
 have C0 := a_ hc1
 clear hr1 hc1
 have H : (if (l0.length : Int) = (l1.length : Int) then (Fs_.l0 k l0 l1 0) else (some false)) = some r := h
 clear h
 replace H := ii_ H
 rcases H with ⟨c3, H⟩ | ⟨c3, H⟩
 {
 have k0 : ((l0.length : Int) == (l1.length : Int)) = true := beq_iff_eq.mpr c3
 have m0 : ((l0.length : Int) != (l1.length : Int)) = false := bne_eq_false_iff_eq.mpr c3
 have n0 : (l0.length == l1.length) = true := by first | simpa using c3 | (simp at c3 ⊢; omega)
 clear c3
 have H' := a_ H
 clear H
 go_enter Try.func52, Try.ntmps52
 go_wp2
 repeat (go_quiet (fail); try go_wp2)
 go_loopg [5] k (fun kq v5 w' => ∃ (a0 : Int), v5 = .int .i64 a0 ∧ Aside0 (Fs_.l0 kq l0 l1 a0 = some r) ∧ Aside0 (kq ≤ k) ∧ Drawn0 w w')
 case atStart => exact ⟨(0), rs_, H', ⟨Nat.le_refl _⟩, dr_⟩
 case round => (
 clear H'
 try clear c3
 try clear k0
 try clear m0
 try clear n0
 obtain ⟨a0, rfl, HA, s0, ⟨m1, rfl⟩⟩ := hrel
 cases gk with
 | zero => exact absurd HA.out (by simp [Fs_.l0])
 | succ k1 => (
 have H := HA.out
 clear HA
 simp only [Fs_.l0] at H
 replace H := id_ H
 rcases H with ⟨t0, H⟩ | ⟨t0, H⟩
 {
 replace H := gd_ H
 obtain ⟨y0, H⟩ := H
 replace H := gd_ H
 obtain ⟨z0, H⟩ := H
 replace H := ie_ H
 rcases H with ⟨v0, w0, H⟩ | ⟨c7, v0, w0, H⟩
 {
 have H' := a_ H
 clear H
 have b0 : 0 ≤ (a0 : Int) := dm_
 have d0 : a0 < (l0.length : Int) := dm_
 obtain ⟨o0, g0, i0⟩ := Kd.at_int q0.out a0 b0 d0
 cases g0
 replace b0 := eq_true b0
 replace d0 := eq_true d0
 have e0 : 0 ≤ (a0 : Int) := dm_
 have f0 : a0 < (l1.length : Int) := dm_
 obtain ⟨p0, h0, j0⟩ := Kd.at_int r0.out a0 e0 f0
 cases h0
 replace e0 := eq_true e0
 replace f0 := eq_true f0
 go_wp2
 repeat (go_quiet (fail); try go_wp2)
 go_roundg k1
 case measure => have := s0.out; omega
 case rel => exact ⟨(wrap64 (a0 + 1)), rs_, H', ⟨by have := s0.out; omega⟩, dr_⟩}
 {
 obtain rfl := Option.some.inj H
 have b0 : 0 ≤ (a0 : Int) := dm_
 have d0 : a0 < (l0.length : Int) := dm_
 obtain ⟨o0, g0, i0⟩ := Kd.at_int q0.out a0 b0 d0
 cases g0
 replace b0 := eq_true b0
 replace d0 := eq_true d0
 have e0 : 0 ≤ (a0 : Int) := dm_
 have f0 : a0 < (l1.length : Int) := dm_
 obtain ⟨p0, h0, j0⟩ := Kd.at_int r0.out a0 e0 f0
 cases h0
 replace e0 := eq_true e0
 replace f0 := eq_true f0
 go_wp2
 repeat (go_quiet (fail); try go_wp2)
 go_ret
 exact ⟨es_, dr_⟩}}
 {
 obtain rfl := Option.some.inj H
 go_wp2
 repeat (go_quiet (fail); try go_wp2)
 go_ret
 exact ⟨es_, dr_⟩}))}
 {
 have k0 : ((l0.length : Int) == (l1.length : Int)) = false := beq_eq_false_iff_ne.mpr c3
 have m0 : ((l0.length : Int) != (l1.length : Int)) = true := bne_iff_ne.mpr c3
 have n0 : (l0.length == l1.length) = false := by first | simpa using c3 | (simp at c3 ⊢; omega)
 obtain rfl := Option.some.inj H
 go_enter Try.func52, Try.ntmps52
 go_wp2
 repeat (go_quiet (fail); try go_wp2)
 go_ret
 exact ⟨es_, dr_⟩}
def Fr_.l0 : Nat → List Int → List Int → Int → Option (Bool)
  | 0, _, _, _ => none
  | k + 1, x0, x1, x5 => if x5 < (x0.length : Int) then (if 0 ≤ x5 then (if x5 < (x1.length : Int) then (if (rd x0 x5) = (rd x1 x5) then (Fr_.l0 k x0 x1 (wrap64 (x5 + 1))) else (some false)) else (none)) else (none)) else (some true)
def Fr_.f (k : Nat) (l0 : List Int) (l1 : List Int) : Option (Bool) := if (l0.length : Int) = (l1.length : Int) then (Fr_.l0 k l0 l1 0) else (some false)
theorem Fr_.mono_l : ∀ k, (∀ y0 y1 y2, LeO (Fr_.l0 k y0 y1 y2) (Fr_.l0 (k + 1) y0 y1 y2))
  | 0 => fun _ _ _ r h => by simp [Fr_.l0] at h
  | k + 1 => by
    have a0 := Fr_.mono_l k
    · intro y0 y1 y2
      unfold Fr_.l0
      with_reducible repeat' first
   | apply a0
   | exact LeO.refl _
   | exact LeO.none _
   | refine LeO.ite ?_ ?_
   | refine LeO.bind ?_ (fun _ => ?_)
theorem Fr_.mono : ∀ a0 a1 k, LeO (Fr_.f k a0 a1) (Fr_.f (k + 1) a0 a1) := by
  intro a0 a1 k
  have b0 := Fr_.mono_l k
  unfold Fr_.f
  with_reducible repeat' first
   | apply b0
   | exact LeO.refl _
   | exact LeO.none _
   | refine LeO.ite ?_ ?_
   | refine LeO.bind ?_ (fun _ => ?_)
theorem Fr_.calls (k : Nat) (A0 : Option Addr) (c0 : Nat) (l0 : List Int) (A1 : Option Addr) (c1 : Nat) (l1 : List Int) (r : Bool) (w : World) (hr0 : Kd.C (Kd.int .i64) w A0 l0.length l0) (hc0 : l0.length ≤ c0) (hr1 : Kd.C (Kd.int .i64) w A1 l1.length l1) (hc1 : l1.length ≤ c1) (h : Fr_.f k l0 l1 = some r) :
    Calls Try.prog 53 #[.slice A0 l0.length c0, .slice A1 l1.length c1] w fun e w' => e = .returned (.bool r) ∧ Drawn0 w w' := by
 have q0 := a_ hr0
 have B0 := a_ hc0
 clear hr0 hc0
 have r0 := a_ hr1
 have C0 := a_ hc1
 clear hr1 hc1
 have H : (if (l0.length : Int) = (l1.length : Int) then (Fr_.l0 k l0 l1 0) else (some false)) = some r := h
 clear h
 replace H := ii_ H
 rcases H with ⟨c3, H⟩ | ⟨c3, H⟩
 {
 have k0 : ((l0.length : Int) == (l1.length : Int)) = true := beq_iff_eq.mpr c3
 have m0 : ((l0.length : Int) != (l1.length : Int)) = false := bne_eq_false_iff_eq.mpr c3
 have n0 : (l0.length == l1.length) = true := by first | simpa using c3 | (simp at c3 ⊢; omega)
 clear c3
 have H' := a_ H
 clear H
 go_enter Try.func53, Try.ntmps53
 go_wp2
 repeat (go_quiet (fail); try go_wp2)
 go_loopg [5] k (fun kq v5 w' => ∃ (a0 : Int), v5 = .int .i64 a0 ∧ Aside0 (Fr_.l0 kq l0 l1 a0 = some r) ∧ Aside0 (kq ≤ k) ∧ Drawn0 w w')
 case atStart => exact ⟨(0), rs_, H', ⟨Nat.le_refl _⟩, dr_⟩
 case round => (
 clear H'
 try clear c3
 try clear k0
 try clear m0
 try clear n0
 obtain ⟨a0, rfl, HA, s0, ⟨m1, rfl⟩⟩ := hrel
 cases gk with
 | zero => exact absurd HA.out (by simp [Fr_.l0])
 | succ k1 => (
 have H := HA.out
 clear HA
 simp only [Fr_.l0] at H
 replace H := id_ H
 rcases H with ⟨t0, H⟩ | ⟨t0, H⟩
 {
 replace H := gd_ H
 obtain ⟨y0, H⟩ := H
 replace H := gd_ H
 obtain ⟨z0, H⟩ := H
 replace H := ie_ H
 rcases H with ⟨v0, w0, H⟩ | ⟨c7, v0, w0, H⟩
 {
 have H' := a_ H
 clear H
 have b0 : 0 ≤ (a0 : Int) := dm_
 have d0 : a0 < (l0.length : Int) := dm_
 obtain ⟨o0, g0, i0⟩ := Kd.at_int q0.out a0 b0 d0
 cases g0
 replace b0 := eq_true b0
 replace d0 := eq_true d0
 have e0 : 0 ≤ (a0 : Int) := dm_
 have f0 : a0 < (l1.length : Int) := dm_
 obtain ⟨p0, h0, j0⟩ := Kd.at_int r0.out a0 e0 f0
 cases h0
 replace e0 := eq_true e0
 replace f0 := eq_true f0
 go_wp2
 repeat (go_quiet (fail); try go_wp2)
 go_roundg k1
 case measure => have := s0.out; omega
 case rel => exact ⟨(wrap64 (a0 + 1)), rs_, H', ⟨by have := s0.out; omega⟩, dr_⟩}
 {
 obtain rfl := Option.some.inj H
 have b0 : 0 ≤ (a0 : Int) := dm_
 have d0 : a0 < (l0.length : Int) := dm_
 obtain ⟨o0, g0, i0⟩ := Kd.at_int q0.out a0 b0 d0
 cases g0
 replace b0 := eq_true b0
 replace d0 := eq_true d0
 have e0 : 0 ≤ (a0 : Int) := dm_
 have f0 : a0 < (l1.length : Int) := dm_
 obtain ⟨p0, h0, j0⟩ := Kd.at_int r0.out a0 e0 f0
 cases h0
 replace e0 := eq_true e0
 replace f0 := eq_true f0
 go_wp2
 repeat (go_quiet (fail); try go_wp2)
 go_ret
 exact ⟨es_, dr_⟩}}
 {
 obtain rfl := Option.some.inj H
 go_wp2
 repeat (go_quiet (fail); try go_wp2)
 go_ret
 exact ⟨es_, dr_⟩}))}
 {
 have k0 : ((l0.length : Int) == (l1.length : Int)) = false := beq_eq_false_iff_ne.mpr c3
 have m0 : ((l0.length : Int) != (l1.length : Int)) = true := bne_iff_ne.mpr c3
 have n0 : (l0.length == l1.length) = false := by first | simpa using c3 | (simp at c3 ⊢; omega)
 obtain rfl := Option.some.inj H
 go_enter Try.func53, Try.ntmps53
 go_wp2
 repeat (go_quiet (fail); try go_wp2)
 go_ret
 exact ⟨es_, dr_⟩}
mutual
def Fg_.j0 : Nat → Bool → List (List Int) → List (List Int) → List (List Int) → List (List Int) → Option (Bool)
  | 0, _, _, _, _, _ => none
  | k + 1, e0, a0, b0, c0, d0 => if e0 = true then (some false) else (Fg_.l0 k 0 a0 b0 c0 d0)
def Fg_.l0 : Nat → Int → List (List Int) → List (List Int) → List (List Int) → List (List Int) → Option (Bool)
  | 0, _, _, _, _, _ => none
  | k + 1, x5, a0, c0, b0, d0 => if x5 < (a0.length : Int) then (if 0 ≤ x5 then (if x5 < (b0.length : Int) then ((Fs_.f k (rd_L1 a0 x5) (rd_L1 b0 x5)).bind fun e0 => (if e0 = true then (Fg_.l0 k (wrap64 (x5 + 1)) a0 c0 b0 d0) else (some false))) else (none)) else (none)) else (Fg_.l1 k 0 a0 c0 b0 d0)
def Fg_.l1 : Nat → Int → List (List Int) → List (List Int) → List (List Int) → List (List Int) → Option (Bool)
  | 0, _, _, _, _, _ => none
  | k + 1, x6, c0, a0, d0, b0 => if x6 < (a0.length : Int) then (if 0 ≤ x6 then (if x6 < (b0.length : Int) then ((Fr_.f k (rd_L2 a0 x6) (rd_L2 b0 x6)).bind fun e0 => (if e0 = true then (Fg_.l1 k (wrap64 (x6 + 1)) c0 a0 d0 b0) else (some false))) else (none)) else (none)) else (some true)
end
def Fg_.f (k : Nat) (a0 : List (List Int)) (b0 : List (List Int)) (c0 : List (List Int)) (d0 : List (List Int)) : Option (Bool) := if (a0.length : Int) = (c0.length : Int) then (Fg_.j0 k ((b0.length : Int) != (d0.length : Int)) a0 b0 c0 d0) else (Fg_.j0 k true a0 b0 c0 d0)
theorem Fg_.mono_l : ∀ k, (∀ y0 y1 y2 y3 y4, LeO (Fg_.j0 k y0 y1 y2 y3 y4) (Fg_.j0 (k + 1) y0 y1 y2 y3 y4)) ∧ (∀ y0 y1 y2 y3 y4, LeO (Fg_.l0 k y0 y1 y2 y3 y4) (Fg_.l0 (k + 1) y0 y1 y2 y3 y4)) ∧ (∀ y0 y1 y2 y3 y4, LeO (Fg_.l1 k y0 y1 y2 y3 y4) (Fg_.l1 (k + 1) y0 y1 y2 y3 y4))
  | 0 => ⟨fun _ _ _ _ _ r h => by simp [Fg_.j0] at h, fun _ _ _ _ _ r h => by simp [Fg_.l0] at h, fun _ _ _ _ _ r h => by simp [Fg_.l1] at h⟩
  | k + 1 => by
    obtain ⟨a0, b0, c0⟩ := Fg_.mono_l k
    refine ⟨?_, ?_, ?_⟩
    all_goals (intros; first | unfold Fg_.j0 | unfold Fg_.l0 | unfold Fg_.l1)
    all_goals with_reducible repeat' first
     | apply a0
     | exact b0 _ _ _ _ _
     | exact c0 _ _ _ _ _
     | apply Fs_.mono
     | apply Fr_.mono
     | exact LeO.refl _
     | exact LeO.none _
     | refine LeO.ite ?_ ?_
     | refine LeO.bind ?_ (fun _ => ?_)
theorem Fg_.mono : ∀ a0 a1 a2 a3 k, LeO (Fg_.f k a0 a1 a2 a3) (Fg_.f (k + 1) a0 a1 a2 a3) := by
  intro a0 a1 a2 a3 k
  obtain ⟨b0, c0, d0⟩ := Fg_.mono_l k
  unfold Fg_.f
  with_reducible repeat' first
   | apply b0
   | exact c0 _ _ _ _ _
   | exact d0 _ _ _ _ _
   | apply Fs_.mono
   | apply Fr_.mono
   | exact LeO.refl _
   | exact LeO.none _
   | refine LeO.ite ?_ ?_
   | refine LeO.bind ?_ (fun _ => ?_)
theorem Fg_.calls (k : Nat) (I0 : Option Addr) (J0 : Nat) (b0 : List (List Int)) (K0 : Option Addr) (L0 : Nat) (f0 : List (List Int)) (M0 : Option Addr) (N0 : Nat) (c0 : List (List Int)) (O0 : Option Addr) (P0 : Nat) (g0 : List (List Int)) (r : Bool) (w : World) (hr0_0 : Kd.C (Kd.slice 3 (Kd.int .i64)) w I0 b0.length b0) (hc0_0 : b0.length ≤ J0) (hr0_1 : Kd.C (Kd.slice 2 (Kd.int .i64)) w K0 f0.length f0) (hc0_1 : f0.length ≤ L0) (hr1_0 : Kd.C (Kd.slice 3 (Kd.int .i64)) w M0 c0.length c0) (hc1_0 : c0.length ≤ N0) (hr1_1 : Kd.C (Kd.slice 2 (Kd.int .i64)) w O0 g0.length g0) (hc1_1 : g0.length ≤ P0) (h : Fg_.f k b0 f0 c0 g0 = some r) :
    Calls Try.prog 22 #[.agg #[.slice I0 b0.length J0, .slice K0 f0.length L0], .agg #[.slice M0 c0.length N0, .slice O0 g0.length P0]] w fun e w' => e = .returned (.bool r) ∧ Below w.heap.size w w' := by
 have w3 := Try.underlying33
 have n1 := a_ hr0_0
 have Y2 := a_ hc0_0
 clear hr0_0 hc0_0
 have o1 := a_ hr0_1
 have Z2 := a_ hc0_1
 clear hr0_1 hc0_1
 have p1 := a_ hr1_0
 have a3 := a_ hc1_0
 clear hr1_0 hc1_0
 have q1 := a_ hr1_1
 have b3 := a_ hc1_1
 clear hr1_1 hc1_1
 have HB := a_ (Below.refl w.heap.size w)
 have H : (if (b0.length : Int) = (c0.length : Int) then (Fg_.j0 k ((f0.length : Int) != (g0.length : Int)) b0 f0 c0 g0) else (Fg_.j0 k true b0 f0 c0 g0)) = some r := h
 clear h
 have C1 := a_ H
 clear H
 go_enter Try.func22, Try.ntmps22
 go_upto_region 1 with (first | ((with_reducible refine gate_dst (N := 2) rfl ?_); (try (refine gate_guard (by rfl) ?_; dsimp only)); refine bx_ HB 2 #[.slice I0 b0.length J0, .slice K0 f0.length L0] 33 ?_; clear HB; intro Y0 hg w4 hb a0 Z0 HB; have r1 := Z0; clear hb hg) | ((with_reducible refine gate_dst (N := 3) rfl ?_); (try (refine gate_guard (by rfl) ?_; dsimp only)); refine bx_ HB 3 #[.slice M0 c0.length N0, .slice O0 g0.length P0] 33 ?_; clear HB; intro a1 hg w5 hb k0 b1 HB; have s1 := b1; obtain ⟨h0, i0⟩ := NN_ a0 hg; replace a0 := FB_ a0 hb; clear hb hg))
 repeat (go_quiet (first | ((with_reducible refine gate_dst (N := 2) rfl ?_); (try (refine gate_guard (by rfl) ?_; dsimp only)); refine bx_ HB 2 #[.slice I0 b0.length J0, .slice K0 f0.length L0] 33 ?_; clear HB; intro Y0 hg w4 hb a0 Z0 HB; have r1 := Z0; clear hb hg) | ((with_reducible refine gate_dst (N := 3) rfl ?_); (try (refine gate_guard (by rfl) ?_; dsimp only)); refine bx_ HB 3 #[.slice M0 c0.length N0, .slice O0 g0.length P0] 33 ?_; clear HB; intro a1 hg w5 hb k0 b1 HB; have s1 := b1; obtain ⟨h0, i0⟩ := NN_ a0 hg; replace a0 := FB_ a0 hb; clear hb hg)); go_upto_region 1 with (first | ((with_reducible refine gate_dst (N := 2) rfl ?_); (try (refine gate_guard (by rfl) ?_; dsimp only)); refine bx_ HB 2 #[.slice I0 b0.length J0, .slice K0 f0.length L0] 33 ?_; clear HB; intro Y0 hg w4 hb a0 Z0 HB; have r1 := Z0; clear hb hg) | ((with_reducible refine gate_dst (N := 3) rfl ?_); (try (refine gate_guard (by rfl) ?_; dsimp only)); refine bx_ HB 3 #[.slice M0 c0.length N0, .slice O0 g0.length P0] 33 ?_; clear HB; intro a1 hg w5 hb k0 b1 HB; have s1 := b1; obtain ⟨h0, i0⟩ := NN_ a0 hg; replace a0 := FB_ a0 hb; clear hb hg)))
 (try simp only [Act.put, List.setIfInBounds_toArray, List.set_cons_zero, List.set_cons_succ])
 go_cut [22] (fun P2 wc => ∃ (kq : Nat) (c1 : Bool), P2 = .bool c1 ∧ Aside0 (Fg_.j0 kq c1 b0 f0 c0 g0 = some r) ∧ Aside0 (kq ≤ k) ∧ Aside0 (wc.heap[Y0]? = some (.cells #[(.slice I0 b0.length J0), (.slice K0 f0.length L0)] 33 (0, 0))) ∧ Aside0 (wc.heap[a1]? = some (.cells #[(.slice M0 c0.length N0), (.slice O0 g0.length P0)] 33 (0, 0))) ∧ Aside0 (Below w.heap.size w wc))
 case first => (
 have H := C1.out
 clear C1
 replace H := ii_ H
 rcases H with ⟨c6, H⟩ | ⟨c6, H⟩
 {
 have d1 : ((b0.length : Int) == (c0.length : Int)) = true := beq_iff_eq.mpr c6
 have R1 : ((b0.length : Int) != (c0.length : Int)) = false := bne_eq_false_iff_eq.mpr c6
 have S1 : (b0.length == c0.length) = true := by first | simpa using c6 | (simp at c6 ⊢; omega)
 clear c6
 (first | rw [d1] | (simp only [i64_w, i32_w]; rw [d1]) | skip)
 have H' := a_ H
 clear H
 have y3 := h0.out
 have z3 := i0.out
 obtain ⟨Q2, R2, S2, T2⟩ := e2_ a0
 obtain ⟨U2, V2, W2, X2⟩ := e2_ k0
 go_wp2
 repeat (go_quiet (fail); try go_wp2)
 go_meet
 case rel => exact ⟨_, (((f0.length : Int) != (g0.length : Int))), rs_, H', ⟨ol_⟩, ⟨bk_ a0⟩, ⟨bk_ k0⟩, ⟨bl_ HB⟩⟩}
 {
 have d1 : ((b0.length : Int) == (c0.length : Int)) = false := beq_eq_false_iff_ne.mpr c6
 have R1 : ((b0.length : Int) != (c0.length : Int)) = true := bne_iff_ne.mpr c6
 have S1 : (b0.length == c0.length) = false := by first | simpa using c6 | (simp at c6 ⊢; omega)
 (first | rw [d1] | (simp only [i64_w, i32_w]; rw [d1]) | skip)
 have H' := a_ H
 clear H
 have c3 := h0.out
 have d3 := i0.out
 obtain ⟨T1, U1, V1, W1⟩ := e2_ a0
 obtain ⟨X1, Y1, Z1, a2⟩ := e2_ k0
 go_wp2
 repeat (go_quiet (fail); try go_wp2)
 go_meet
 case rel => exact ⟨_, (true), rs_, H', ⟨ol_⟩, ⟨bk_ a0⟩, ⟨bk_ k0⟩, ⟨bl_ HB⟩⟩})
 case rest => (
 clear C1
 obtain ⟨kq, c1, rfl, HA, HJ2, a0, k0, HB⟩ := hcut
 cases kq with
 | zero => exact absurd HA.out (by simp [Fg_.j0])
 | succ kj2 => (
 have H := HA.out
 clear HA
 simp only [Fg_.j0] at H
 by_cases e1 : c1 = true
 {
 subst e1
 rw [if_pos rfl] at H
 obtain rfl := Option.some.inj H
 go_wp2
 repeat (go_quiet (fail); try go_wp2)
 go_ret
 exact ⟨er_, bl_ HB⟩}
 {
 replace e1 := Bool.eq_false_iff.mpr e1
 subst e1
 rw [if_neg (show ¬ (false = true) by decide)] at H
 have H' := a_ H
 clear H
 go_wp2
 repeat (go_quiet (fail); try go_wp2)
 go_loopg [5] kj2 (fun kq v5 w' => ∃ (d0 : Int), v5 = .int .i64 d0 ∧ Aside0 (Fg_.l0 kq d0 b0 f0 c0 g0 = some r) ∧ Aside0 (kq ≤ kj2) ∧ Aside0 (w'.heap[Y0]? = some (.cells #[(.slice I0 b0.length J0), (.slice K0 f0.length L0)] 33 (0, 0))) ∧ Aside0 (w'.heap[a1]? = some (.cells #[(.slice M0 c0.length N0), (.slice O0 g0.length P0)] 33 (0, 0))) ∧ Aside0 (Below w.heap.size w w'))
 case atStart => exact ⟨(0), rs_, H', ⟨Nat.le_refl _⟩, ⟨bk_ a0⟩, ⟨bk_ k0⟩, ⟨bl_ HB⟩⟩
 case round => (
 clear H'
 try clear e1
 obtain ⟨d0, rfl, HA, t1, a0, k0, HB⟩ := hrel
 cases gk with
 | zero => exact absurd HA.out (by simp [Fg_.l0])
 | succ k2 => (
 have H := HA.out
 clear HA
 simp only [Fg_.l0] at H
 replace H := id_ H
 rcases H with ⟨v1, H⟩ | ⟨v1, H⟩
 {
 replace H := gd_ H
 obtain ⟨e3, H⟩ := H
 replace H := gd_ H
 obtain ⟨f3, H⟩ := H
 obtain ⟨A3, f1, H⟩ := ob_ H
 (try dsimp only at H)
 replace H := ib_ H
 rcases H with ⟨rfl, H⟩ | ⟨rfl, H⟩
 {
 have H' := a_ H
 clear H
 have g3 := h0.out
 have h3 := i0.out
 obtain ⟨b2, c2, d2, e2⟩ := e2_ a0
 have Q0 : 0 ≤ (d0 : Int) := dm_
 have R0 : d0 < (b0.length : Int) := dm_
 obtain ⟨L1, D1, E1, i1, v0, w0, y0⟩ := at_L1 n1.out d0 Q0 R0
 cases i1
 replace v0 := hc_ HB v0
 have m0 := a_ y0
 have n0 := a_ w0
 clear y0 w0
 replace Q0 := eq_true Q0
 replace R0 := eq_true R0
 obtain ⟨f2, g2, h2, i2⟩ := e2_ k0
 have S0 : 0 ≤ (d0 : Int) := dm_
 have T0 : d0 < (c0.length : Int) := dm_
 obtain ⟨M1, F1, G1, j1, z0, A0, B0⟩ := at_L1 p1.out d0 S0 T0
 cases j1
 replace z0 := hc_ HB z0
 have o0 := a_ B0
 have p0 := a_ A0
 clear B0 A0
 replace S0 := eq_true S0
 replace T0 := eq_true T0
 go_wp2_with (first | (go_at_call 52; (with_reducible refine (Fs_.calls k2 _ _ (rd_L1 b0 d0) _ _ (rd_L1 c0 d0) true _ ?side1 ?side2 ?side3 ?side4 f1.out).mono ?_); (case side1 => exact kC_ m0 HB); (case side2 => exact n0.out); (case side3 => exact kC_ o0 HB); (case side4 => exact p0.out); rintro e w' ⟨rfl, ⟨nd, rfl⟩⟩; (try first | exact ⟨rfl, _, World.drewN_drewN _ _ _⟩ | exact ⟨rfl, _, Eq.trans (World.drewN_drewN _ _ _) (congrArg (World.drewN _) (Nat.add_assoc _ _ _))⟩)))
 repeat (go_quiet (first | (go_at_call 52; (with_reducible refine (Fs_.calls k2 _ _ (rd_L1 b0 d0) _ _ (rd_L1 c0 d0) true _ ?side1 ?side2 ?side3 ?side4 f1.out).mono ?_); (case side1 => exact kC_ m0 HB); (case side2 => exact n0.out); (case side3 => exact kC_ o0 HB); (case side4 => exact p0.out); rintro e w' ⟨rfl, ⟨nd, rfl⟩⟩; (try first | exact ⟨rfl, _, World.drewN_drewN _ _ _⟩ | exact ⟨rfl, _, Eq.trans (World.drewN_drewN _ _ _) (congrArg (World.drewN _) (Nat.add_assoc _ _ _))⟩))); try go_wp2_with (first | (go_at_call 52; (with_reducible refine (Fs_.calls k2 _ _ (rd_L1 b0 d0) _ _ (rd_L1 c0 d0) true _ ?side1 ?side2 ?side3 ?side4 f1.out).mono ?_); (case side1 => exact kC_ m0 HB); (case side2 => exact n0.out); (case side3 => exact kC_ o0 HB); (case side4 => exact p0.out); rintro e w' ⟨rfl, ⟨nd, rfl⟩⟩; (try first | exact ⟨rfl, _, World.drewN_drewN _ _ _⟩ | exact ⟨rfl, _, Eq.trans (World.drewN_drewN _ _ _) (congrArg (World.drewN _) (Nat.add_assoc _ _ _))⟩))))
 go_roundg k2
 case measure => have := HJ2.out; have := t1.out; omega
 case rel => exact ⟨(wrap64 (d0 + 1)), rs_, H', ⟨by have := HJ2.out; have := t1.out; omega⟩, ⟨bk_ a0⟩, ⟨bk_ k0⟩, ⟨bl_ HB⟩⟩}
 {
 obtain rfl := Option.some.inj H
 have i3 := h0.out
 have j3 := i0.out
 obtain ⟨j2, l2, m2, n2⟩ := e2_ a0
 have Q0 : 0 ≤ (d0 : Int) := dm_
 have R0 : d0 < (b0.length : Int) := dm_
 obtain ⟨L1, D1, E1, i1, v0, w0, y0⟩ := at_L1 n1.out d0 Q0 R0
 cases i1
 replace v0 := hc_ HB v0
 have m0 := a_ y0
 have n0 := a_ w0
 clear y0 w0
 replace Q0 := eq_true Q0
 replace R0 := eq_true R0
 obtain ⟨p2, q2, r2, s2⟩ := e2_ k0
 have S0 : 0 ≤ (d0 : Int) := dm_
 have T0 : d0 < (c0.length : Int) := dm_
 obtain ⟨M1, F1, G1, j1, z0, A0, B0⟩ := at_L1 p1.out d0 S0 T0
 cases j1
 replace z0 := hc_ HB z0
 have o0 := a_ B0
 have p0 := a_ A0
 clear B0 A0
 replace S0 := eq_true S0
 replace T0 := eq_true T0
 go_wp2_with (first | (go_at_call 52; (with_reducible refine (Fs_.calls k2 _ _ (rd_L1 b0 d0) _ _ (rd_L1 c0 d0) false _ ?side1 ?side2 ?side3 ?side4 f1.out).mono ?_); (case side1 => exact kC_ m0 HB); (case side2 => exact n0.out); (case side3 => exact kC_ o0 HB); (case side4 => exact p0.out); rintro e w' ⟨rfl, ⟨nd, rfl⟩⟩; (try first | exact ⟨rfl, _, World.drewN_drewN _ _ _⟩ | exact ⟨rfl, _, Eq.trans (World.drewN_drewN _ _ _) (congrArg (World.drewN _) (Nat.add_assoc _ _ _))⟩)))
 repeat (go_quiet (first | (go_at_call 52; (with_reducible refine (Fs_.calls k2 _ _ (rd_L1 b0 d0) _ _ (rd_L1 c0 d0) false _ ?side1 ?side2 ?side3 ?side4 f1.out).mono ?_); (case side1 => exact kC_ m0 HB); (case side2 => exact n0.out); (case side3 => exact kC_ o0 HB); (case side4 => exact p0.out); rintro e w' ⟨rfl, ⟨nd, rfl⟩⟩; (try first | exact ⟨rfl, _, World.drewN_drewN _ _ _⟩ | exact ⟨rfl, _, Eq.trans (World.drewN_drewN _ _ _) (congrArg (World.drewN _) (Nat.add_assoc _ _ _))⟩))); try go_wp2_with (first | (go_at_call 52; (with_reducible refine (Fs_.calls k2 _ _ (rd_L1 b0 d0) _ _ (rd_L1 c0 d0) false _ ?side1 ?side2 ?side3 ?side4 f1.out).mono ?_); (case side1 => exact kC_ m0 HB); (case side2 => exact n0.out); (case side3 => exact kC_ o0 HB); (case side4 => exact p0.out); rintro e w' ⟨rfl, ⟨nd, rfl⟩⟩; (try first | exact ⟨rfl, _, World.drewN_drewN _ _ _⟩ | exact ⟨rfl, _, Eq.trans (World.drewN_drewN _ _ _) (congrArg (World.drewN _) (Nat.add_assoc _ _ _))⟩))))
 go_ret
 exact ⟨er_, bl_ HB⟩}}
 {
 have H' := a_ H
 clear H
 have l3 := h0.out
 have m3 := i0.out
 obtain ⟨y1, z1, A1, B1⟩ := e2_ a0
 go_wp2
 repeat (go_quiet (fail); try go_wp2)
 go_loopg [6] k2 (fun kq v6 w' => ∃ (e0 : Int), v6 = .int .i64 e0 ∧ Aside0 (Fg_.l1 kq e0 b0 f0 c0 g0 = some r) ∧ Aside0 (kq ≤ k2) ∧ Aside0 (w'.heap[Y0]? = some (.cells #[(.slice I0 b0.length J0), (.slice K0 f0.length L0)] 33 (0, 0))) ∧ Aside0 (w'.heap[a1]? = some (.cells #[(.slice M0 c0.length N0), (.slice O0 g0.length P0)] 33 (0, 0))) ∧ Aside0 (Below w.heap.size w w'))
 case atStart => exact ⟨(0), rs_, H', ⟨Nat.le_refl _⟩, ⟨bk_ a0⟩, ⟨bk_ k0⟩, ⟨bl_ HB⟩⟩
 case round => (
 clear H'
 try clear e1
 try clear C3
 try clear v1
 try clear y1 z1 A1 B1
 obtain ⟨e0, rfl, HA, Q1, a0, k0, HB⟩ := hrel
 cases gk with
 | zero => exact absurd HA.out (by simp [Fg_.l1])
 | succ k3 => (
 have H := HA.out
 clear HA
 simp only [Fg_.l1] at H
 replace H := id_ H
 rcases H with ⟨N1, H⟩ | ⟨N1, H⟩
 {
 replace H := gd_ H
 obtain ⟨n3, H⟩ := H
 replace H := gd_ H
 obtain ⟨o3, H⟩ := H
 obtain ⟨B3, h1, H⟩ := ob_ H
 (try dsimp only at H)
 replace H := ib_ H
 rcases H with ⟨rfl, H⟩ | ⟨rfl, H⟩
 {
 have H' := a_ H
 clear H
 have p3 := h0.out
 have q3 := i0.out
 obtain ⟨t2, v2, w2, y2⟩ := e2_ a0
 have U0 : 0 ≤ (e0 : Int) := dm_
 have V0 : e0 < (f0.length : Int) := dm_
 obtain ⟨O1, H1, I1, k1, C0, D0, E0⟩ := at_L2 o1.out e0 U0 V0
 cases k1
 replace C0 := hc_ HB C0
 have q0 := a_ E0
 have r0 := a_ D0
 clear E0 D0
 replace U0 := eq_true U0
 replace V0 := eq_true V0
 obtain ⟨z2, A2, B2, C2⟩ := e2_ k0
 have W0 : 0 ≤ (e0 : Int) := dm_
 have X0 : e0 < (g0.length : Int) := dm_
 obtain ⟨P1, J1, K1, m1, F0, G0, H0⟩ := at_L2 q1.out e0 W0 X0
 cases m1
 replace F0 := hc_ HB F0
 have s0 := a_ H0
 have t0 := a_ G0
 clear H0 G0
 replace W0 := eq_true W0
 replace X0 := eq_true X0
 go_wp2_with (first | (go_at_call 53; (with_reducible refine (Fr_.calls k3 _ _ (rd_L2 f0 e0) _ _ (rd_L2 g0 e0) true _ ?side1 ?side2 ?side3 ?side4 h1.out).mono ?_); (case side1 => exact kC_ q0 HB); (case side2 => exact r0.out); (case side3 => exact kC_ s0 HB); (case side4 => exact t0.out); rintro e w' ⟨rfl, ⟨nd, rfl⟩⟩; (try first | exact ⟨rfl, _, World.drewN_drewN _ _ _⟩ | exact ⟨rfl, _, Eq.trans (World.drewN_drewN _ _ _) (congrArg (World.drewN _) (Nat.add_assoc _ _ _))⟩)))
 repeat (go_quiet (first | (go_at_call 53; (with_reducible refine (Fr_.calls k3 _ _ (rd_L2 f0 e0) _ _ (rd_L2 g0 e0) true _ ?side1 ?side2 ?side3 ?side4 h1.out).mono ?_); (case side1 => exact kC_ q0 HB); (case side2 => exact r0.out); (case side3 => exact kC_ s0 HB); (case side4 => exact t0.out); rintro e w' ⟨rfl, ⟨nd, rfl⟩⟩; (try first | exact ⟨rfl, _, World.drewN_drewN _ _ _⟩ | exact ⟨rfl, _, Eq.trans (World.drewN_drewN _ _ _) (congrArg (World.drewN _) (Nat.add_assoc _ _ _))⟩))); try go_wp2_with (first | (go_at_call 53; (with_reducible refine (Fr_.calls k3 _ _ (rd_L2 f0 e0) _ _ (rd_L2 g0 e0) true _ ?side1 ?side2 ?side3 ?side4 h1.out).mono ?_); (case side1 => exact kC_ q0 HB); (case side2 => exact r0.out); (case side3 => exact kC_ s0 HB); (case side4 => exact t0.out); rintro e w' ⟨rfl, ⟨nd, rfl⟩⟩; (try first | exact ⟨rfl, _, World.drewN_drewN _ _ _⟩ | exact ⟨rfl, _, Eq.trans (World.drewN_drewN _ _ _) (congrArg (World.drewN _) (Nat.add_assoc _ _ _))⟩))))
 go_roundg k3
 case measure => have := HJ2.out; have := t1.out; have := Q1.out; omega
 case rel => exact ⟨(wrap64 (e0 + 1)), rs_, H', ⟨by have := HJ2.out; have := t1.out; have := Q1.out; omega⟩, ⟨bk_ a0⟩, ⟨bk_ k0⟩, ⟨bl_ HB⟩⟩}
 {
 obtain rfl := Option.some.inj H
 have r3 := h0.out
 have s3 := i0.out
 obtain ⟨D2, E2, F2, G2⟩ := e2_ a0
 have U0 : 0 ≤ (e0 : Int) := dm_
 have V0 : e0 < (f0.length : Int) := dm_
 obtain ⟨O1, H1, I1, k1, C0, D0, E0⟩ := at_L2 o1.out e0 U0 V0
 cases k1
 replace C0 := hc_ HB C0
 have q0 := a_ E0
 have r0 := a_ D0
 clear E0 D0
 replace U0 := eq_true U0
 replace V0 := eq_true V0
 obtain ⟨H2, I2, J2, K2⟩ := e2_ k0
 have W0 : 0 ≤ (e0 : Int) := dm_
 have X0 : e0 < (g0.length : Int) := dm_
 obtain ⟨P1, J1, K1, m1, F0, G0, H0⟩ := at_L2 q1.out e0 W0 X0
 cases m1
 replace F0 := hc_ HB F0
 have s0 := a_ H0
 have t0 := a_ G0
 clear H0 G0
 replace W0 := eq_true W0
 replace X0 := eq_true X0
 go_wp2_with (first | (go_at_call 53; (with_reducible refine (Fr_.calls k3 _ _ (rd_L2 f0 e0) _ _ (rd_L2 g0 e0) false _ ?side1 ?side2 ?side3 ?side4 h1.out).mono ?_); (case side1 => exact kC_ q0 HB); (case side2 => exact r0.out); (case side3 => exact kC_ s0 HB); (case side4 => exact t0.out); rintro e w' ⟨rfl, ⟨nd, rfl⟩⟩; (try first | exact ⟨rfl, _, World.drewN_drewN _ _ _⟩ | exact ⟨rfl, _, Eq.trans (World.drewN_drewN _ _ _) (congrArg (World.drewN _) (Nat.add_assoc _ _ _))⟩)))
 repeat (go_quiet (first | (go_at_call 53; (with_reducible refine (Fr_.calls k3 _ _ (rd_L2 f0 e0) _ _ (rd_L2 g0 e0) false _ ?side1 ?side2 ?side3 ?side4 h1.out).mono ?_); (case side1 => exact kC_ q0 HB); (case side2 => exact r0.out); (case side3 => exact kC_ s0 HB); (case side4 => exact t0.out); rintro e w' ⟨rfl, ⟨nd, rfl⟩⟩; (try first | exact ⟨rfl, _, World.drewN_drewN _ _ _⟩ | exact ⟨rfl, _, Eq.trans (World.drewN_drewN _ _ _) (congrArg (World.drewN _) (Nat.add_assoc _ _ _))⟩))); try go_wp2_with (first | (go_at_call 53; (with_reducible refine (Fr_.calls k3 _ _ (rd_L2 f0 e0) _ _ (rd_L2 g0 e0) false _ ?side1 ?side2 ?side3 ?side4 h1.out).mono ?_); (case side1 => exact kC_ q0 HB); (case side2 => exact r0.out); (case side3 => exact kC_ s0 HB); (case side4 => exact t0.out); rintro e w' ⟨rfl, ⟨nd, rfl⟩⟩; (try first | exact ⟨rfl, _, World.drewN_drewN _ _ _⟩ | exact ⟨rfl, _, Eq.trans (World.drewN_drewN _ _ _) (congrArg (World.drewN _) (Nat.add_assoc _ _ _))⟩))))
 go_ret
 exact ⟨er_, bl_ HB⟩}}
 {
 obtain rfl := Option.some.inj H
 have t3 := h0.out
 have v3 := i0.out
 obtain ⟨L2, M2, N2, O2⟩ := e2_ a0
 go_wp2
 repeat (go_quiet (fail); try go_wp2)
 go_ret
 exact ⟨er_, bl_ HB⟩}))}))}))
def Fu_.f (k : Nat) (c0 : Int) (d0 : Int) (e0 : List Int) (f0 : List Int) (h0 : List (List Int)) : Option (Bool) := (Ft_.f k c0 d0 e0 f0 h0).bind fun i0 => (if i0 = true then ((Fw_.f k).bind fun j0 => (some j0)) else ((Fi_.f k c0 d0 e0 f0 h0).bind fun a0 => (if a0.2.2 = 0 then ((Fj_.f k c0 d0 e0 f0 a0.1 a0.2.1).bind fun g0 => ((Fb_.f k c0 d0 e0 f0 g0.1).bind fun b0 => ((Fd_.f k c0 d0 e0 f0 a0.1 a0.2.1).bind fun k0 => (if k0 = true then (if g0.2 = 0 then (if b0.2.2 = 0 then ((Gz_.f a0.1 a0.2.1).bind fun _ => ((Gz_.f b0.1 b0.2.1).bind fun _ => ((Fg_.f k a0.1 a0.2.1 b0.1 b0.2.1).bind fun l0 => (if l0 = true then ((Fw_.f k).bind fun m0 => (some m0)) else (some false))))) else (some false)) else (some false)) else (some false))))) else (if (a0.1.length : Int) = 0 then ((Fw_.f k).bind fun n0 => (some n0)) else (some false)))))
theorem Fu_.mono : ∀ a0 a1 a2 a3 a4 k, LeO (Fu_.f k a0 a1 a2 a3 a4) (Fu_.f (k + 1) a0 a1 a2 a3 a4) := by
  intro a0 a1 a2 a3 a4 k
  unfold Fu_.f
  with_reducible repeat' first
   | apply Ft_.mono
   | apply Fw_.mono
   | apply Fg_.mono
   | apply Fi_.mono
   | apply Fb_.mono
   | apply Fd_.mono
   | apply Fj_.mono
   | exact LeO.refl _
   | exact LeO.none _
   | refine LeO.ite ?_ ?_
   | refine LeO.bind ?_ (fun _ => ?_)
def Fu_.T8 : Bool × List (List Nat × List Nat) := (true, [([], []), ([], []), ([0, 1], [0, 1]), ([2, 2], [2]), ([3], [3]), ([4, 3], [3, 4]), ([3, 5], [3, 5]), ([6, 3], [6]), ([7], [7]), ([8, 7], [7, 8]), ([7, 9], [7, 9]), ([10, 7], [10]), ([11], [11]), ([12, 11, 11], [11, 12]), ([11], [11]), ([14, 13, 11], [11, 14]), ([13, 15, 15, 11], [11, 13, 15]), ([11, 16], [11, 16]), ([17, 16], [17]), ([18, 18], [18]), ([18, 19], [18, 19]), ([20, 19, 0, 1, 2, 3, 4, 5, 6, 7, 8, 9, 10, 11, 12, 13, 14, 15, 16, 17, 18, 19, 20], [20])])
def Fu_.B8 : List Nat := [0, 0, 3, 7, 15, 31, 63, 127, 255, 511, 1023, 2047, 4095, 8191, 4095, 32767, 65535, 131071, 262143, 524287, 1048575, 2097151]
theorem Fu_.tab8 : rtab .any (opsOf Try.f4 8) = Fu_.T8 := by kernel_rfl
theorem Fu_.bits8 : waitsOk Fu_.T8.2 Fu_.B8 = true := by kernel_rfl
theorem Fu_.calls (k : Nat) (n0 : Int) (o0 : Int) (H0 : Option Addr) (I0 : Nat) (i0 : List Int) (J0 : Option Addr) (K0 : Nat) (j0 : List Int) (L0 : Option Addr) (M0 : Nat) (y0 : List (List Int)) (r : Bool) (w : World) (hr0_2 : Kd.C (Kd.int .i64) w H0 i0.length i0) (hc0_2 : i0.length ≤ I0) (hr0_3 : Kd.C (Kd.int .i64) w J0 j0.length j0) (hc0_3 : j0.length ≤ K0) (hr1_0 : Kd.C (Kd.slice 2 (Kd.int .i64)) w L0 y0.length y0) (hc1_0 : y0.length ≤ M0) (h : Fu_.f k n0 o0 i0 j0 y0 = some r) (hT : r = true) :
    Calls Try.prog 4 #[.agg #[.int .i64 n0, .int .i64 o0, .slice H0 i0.length I0, .slice J0 j0.length K0], .agg #[.slice L0 y0.length M0]] w fun e w' => e = .returned (.bool r) ∧ Below w.heap.size w w' := by
 have y4 := Try.underlying24
 have z4 := Try.underlying37
 have A4 := Try.underlying28
 have R0 := a_ hr0_2
 have S0 := a_ hc0_2
 clear hr0_2 hc0_2
 have T0 := a_ hr0_3
 have U0 := a_ hc0_3
 clear hr0_3 hc0_3
 have b1 := a_ hr1_0
 have c1 := a_ hc1_0
 clear hr1_0 hc1_0
 have HB := a_ (Below.refl w.heap.size w)
 have H : ((Ft_.f k n0 o0 i0 j0 y0).bind fun F1 => (if F1 = true then ((Fw_.f k).bind fun j1 => (some j1)) else ((Fi_.f k n0 o0 i0 j0 y0).bind fun N0 => (if N0.2.2 = 0 then ((Fj_.f k n0 o0 i0 j0 N0.1 N0.2.1).bind fun C1 => ((Fb_.f k n0 o0 i0 j0 C1.1).bind fun d1 => ((Fd_.f k n0 o0 i0 j0 N0.1 N0.2.1).bind fun G1 => (if G1 = true then (if C1.2 = 0 then (if d1.2.2 = 0 then ((Gz_.f N0.1 N0.2.1).bind fun _ => ((Gz_.f d1.1 d1.2.1).bind fun _ => ((Fg_.f k N0.1 N0.2.1 d1.1 d1.2.1).bind fun H1 => (if H1 = true then ((Fw_.f k).bind fun k1 => (some k1)) else (some false))))) else (some false)) else (some false)) else (some false))))) else (if (N0.1.length : Int) = 0 then ((Fw_.f k).bind fun l1 => (some l1)) else (some false)))))) = some r := h
 clear h
 have HT := a_ hT
 clear hT
 obtain ⟨F1, A3, H⟩ := ob_ H
 (try dsimp only at H)
 replace H := ib_ H
 rcases H with ⟨rfl, H⟩ | ⟨rfl, H⟩
 {
 replace H := Option.bind_eq_some_iff.mp H
 obtain ⟨j1, X1, H⟩ := H
 replace H : (some j1) = some r := H
 have A5 := a_ X1
 clear X1
 obtain rfl := Option.some.inj H
 go_enter Try.func4, Try.ntmps4
 go_wp2_with (first | ((with_reducible refine gate_dst (N := 2) rfl ?_); refine bx_ HB 2 #[.int .i64 n0, .int .i64 o0, .slice H0 i0.length I0, .slice J0 j0.length K0] 24 ?_; clear HB; intro m0 hg w6 hb a0 e1 HB; have D1 := e1; clear hb hg) | ((with_reducible refine gate_dst (N := 3) rfl ?_); refine bx_ HB 3 #[.slice L0 y0.length M0] 37 ?_; clear HB; intro p0 hg w7 hb b0 f1 HB; have E1 := f1; obtain ⟨O0, P0⟩ := NN_ a0 hg; replace a0 := FB_ a0 hb; clear hb hg; have B4 := O0.out; have C4 := P0.out; obtain ⟨K3, L3, M3, N3, O3, P3, Q3, R3⟩ := e4_ a0; obtain ⟨k2, l2⟩ := e1_ b0) | ((with_reducible refine gate_callee (f := 18) rfl ?_); refine gL_ (some 13) Try.func18 #[.agg #[.int .i64 n0, .int .i64 o0, .slice H0 i0.length I0, .slice J0 j0.length K0], .agg #[.slice L0 y0.length M0]] ?_; (with_reducible refine (Ft_.calls k n0 o0 _ _ i0 _ _ j0 _ _ y0 true _ ?side1 ?side2 ?side3 ?side4 ?side5 ?side6 A3.out).mono ?_); (case side1 => exact kC_ R0 HB); (case side2 => exact S0.out); (case side3 => exact kC_ T0 HB); (case side4 => exact U0.out); (case side5 => exact kC_ b1 HB); (case side6 => exact c1.out); rintro e E4 ⟨rfl, hb⟩; refine ⟨_, rfl, ?_⟩; replace a0 := FB_ a0 hb; replace b0 := FB_ b0 hb; replace HB := BS_ HB hb; (try clear hb)) | ((with_reducible refine gate_callee (f := 13) rfl ?_); refine gL_ (some 14) Try.func13 #[] ?_; (with_reducible refine (Fw_.calls k  j1 _ A5.out).mono ?_); rintro e F4 ⟨rfl, hb⟩; refine ⟨_, rfl, ?_⟩; replace a0 := FB_ a0 hb; replace b0 := FB_ b0 hb; replace HB := BS_ HB hb; (try clear hb)))
 go_ret
 exact ⟨er_, bl_ HB⟩}
 {
 obtain ⟨⟨h0, l0, I1⟩, Y1, H⟩ := ob_ H
 (try dsimp only at H)
 replace H := ie_ H
 rcases H with ⟨N1, O1, H⟩ | ⟨G4, N1, O1, H⟩
 {
 obtain ⟨⟨h1, Z1⟩, S3, H⟩ := ob_ H
 (try dsimp only at H)
 obtain ⟨⟨q0, r0, a2⟩, T3, H⟩ := ob_ H
 (try dsimp only at H)
 obtain ⟨G1, U3, H⟩ := ob_ H
 (try dsimp only at H)
 replace H := ib_ H
 rcases H with ⟨rfl, H⟩ | ⟨rfl, H⟩
 {
 replace H := ie_ H
 rcases H with ⟨P1, Q1, H⟩ | ⟨H4, P1, Q1, H⟩
 {
 replace H := ie_ H
 rcases H with ⟨R1, S1, H⟩ | ⟨I4, R1, S1, H⟩
 {
 obtain ⟨_, V3, H⟩ := ob_ H
 (try dsimp only at H)
 obtain ⟨_, W3, H⟩ := ob_ H
 (try dsimp only at H)
 obtain ⟨H1, X3, H⟩ := ob_ H
 (try dsimp only at H)
 replace H := ib_ H
 rcases H with ⟨rfl, H⟩ | ⟨rfl, H⟩
 {
 replace H := Option.bind_eq_some_iff.mp H
 obtain ⟨k1, J1, H⟩ := H
 replace H : (some k1) = some r := H
 have Y3 := a_ J1
 clear J1
 obtain rfl := Option.some.inj H
 go_enter Try.func4, Try.ntmps4
 try go_wp2_with (first | ((with_reducible refine gate_dst (N := 2) rfl ?_); refine bx_ HB 2 #[.int .i64 n0, .int .i64 o0, .slice H0 i0.length I0, .slice J0 j0.length K0] 24 ?_; clear HB; intro m0 hg J4 hb a0 e1 HB; have D1 := e1; clear hb hg) | ((with_reducible refine gate_dst (N := 3) rfl ?_); refine bx_ HB 3 #[.slice L0 y0.length M0] 37 ?_; clear HB; intro p0 hg K4 hb b0 f1 HB; have E1 := f1; obtain ⟨O0, P0⟩ := NN_ a0 hg; replace a0 := FB_ a0 hb; clear hb hg; have b4 := O0.out; have c4 := P0.out; obtain ⟨m2, n2, p2, q2, r2, t2, v2, w2⟩ := e4_ a0; obtain ⟨y2, z2⟩ := e1_ b0) | ((with_reducible refine gate_callee (f := 18) rfl ?_); refine gL_ (some 13) Try.func18 #[.agg #[.int .i64 n0, .int .i64 o0, .slice H0 i0.length I0, .slice J0 j0.length K0], .agg #[.slice L0 y0.length M0]] ?_; (with_reducible refine (Ft_.calls k n0 o0 _ _ i0 _ _ j0 _ _ y0 false _ ?side1 ?side2 ?side3 ?side4 ?side5 ?side6 A3.out).mono ?_); (case side1 => exact kC_ R0 HB); (case side2 => exact S0.out); (case side3 => exact kC_ T0 HB); (case side4 => exact U0.out); (case side5 => exact kC_ b1 HB); (case side6 => exact c1.out); rintro e L4 ⟨rfl, hb⟩; refine ⟨_, rfl, ?_⟩; replace a0 := FB_ a0 hb; replace b0 := FB_ b0 hb; replace HB := BS_ HB hb; (try clear hb); (try clear hk); obtain ⟨A2, B2, C2, D2, E2, F2, G2, H2⟩ := e4_ a0; obtain ⟨I2, J2⟩ := e1_ b0) | ((with_reducible refine gate_callee (f := 15) rfl ?_); refine gL_ (some 18) Try.func15 #[.agg #[.int .i64 n0, .int .i64 o0, .slice H0 i0.length I0, .slice J0 j0.length K0], .agg #[.slice L0 y0.length M0]] ?_; (with_reducible refine (Fi_.calls k n0 o0 _ _ i0 _ _ j0 _ _ y0 h0 l0 I1 _ ?side1 ?side2 ?side3 ?side4 ?side5 ?side6 Y1.out).mono ?_); (case side1 => exact kC_ R0 HB); (case side2 => exact S0.out); (case side3 => exact kC_ T0 HB); (case side4 => exact U0.out); (case side5 => exact kC_ b1 HB); (case side6 => exact c1.out); rintro e M4 ⟨t1, v1, rfl, Q0, V0, hb⟩; refine ⟨_, rfl, ?_⟩; have f0 := a_ (Kd.N_lower (Kd.N_mono (ok' := fun k_ => no_ k_ v1 ∧ k_ ≠ m0 ∧ k_ ≠ p0) Q0 (fun k_ hk_ => ⟨hk_.2, (Kd.freshB (g := m0) (o := .cells #[.int .i64 n0, .int .i64 o0, .slice H0 i0.length I0, .slice J0 j0.length K0] 24 (0, 0)) (bk_ a0) k_ hk_.1), (Kd.freshB (g := p0) (o := .cells #[.slice L0 y0.length M0] 37 (0, 0)) (bk_ b0) k_ hk_.1)⟩)) (bs_ HB)); have g0 := a_ (Kd.N_lower (Kd.N_mono (ok' := fun k_ => no_ k_ t1 ∧ k_ ≠ m0 ∧ k_ ≠ p0) V0 (fun k_ hk_ => ⟨hk_.2, (Kd.freshB (g := m0) (o := .cells #[.int .i64 n0, .int .i64 o0, .slice H0 i0.length I0, .slice J0 j0.length K0] 24 (0, 0)) (bk_ a0) k_ hk_.1), (Kd.freshB (g := p0) (o := .cells #[.slice L0 y0.length M0] 37 (0, 0)) (bk_ b0) k_ hk_.1)⟩)) (bs_ HB)); replace a0 := FB_ a0 hb; replace b0 := FB_ b0 hb; replace HB := BS_ HB hb; (try clear hb); (try clear hk); (try clear Q0); (try clear V0)) | ((with_reducible refine gate_dst (N := 5) rfl ?_); refine box_ 5 #[.slice none 0 0, .slice none 0 0] 28 ?_; intro d0 hg N4 hbox hb; replace f0 := a_ (Kd.N_below (Kd.N_elderB (kN_ f0) d0 (Nat.le_of_eq hg.symm)) hb); replace g0 := a_ (Kd.N_below (Kd.N_elderB (kN_ g0) d0 (Nat.le_of_eq hg.symm)) hb); have e0 := a_ (hbox); have T1 := GE_ HB hg; have U1 := GE_ HB hg; replace HB := BS_ HB hb; obtain ⟨W0, X0⟩ := NN_ a0 hg; replace a0 := FB_ a0 hb; obtain ⟨Y0, Z0⟩ := NN_ b0 hg; replace b0 := FB_ b0 hb; clear hb hbox hg; obtain ⟨B0, z0, b2⟩ := Kd.N_slice f0.out; subst b2; have d4 := X0.out; have e4 := W0.out; have f4 := Z0.out; have g4 := Y0.out; obtain ⟨K2, L2, M2, N2⟩ := e2_ e0; obtain ⟨C0, A0, c2⟩ := Kd.N_slice g0.out; subst c2; obtain ⟨O2, P2, Q2, R2, S2, T2, U2, V2⟩ := e4_ a0) | ((with_reducible refine gate_callee (f := 19) rfl ?_); refine gL_ (some 33) Try.func19 #[.agg #[.int .i64 n0, .int .i64 o0, .slice H0 i0.length I0, .slice J0 j0.length K0], .agg #[.slice B0 h0.length z0, .slice C0 l0.length A0]] ?_; (with_reducible refine (Fj_.calls k n0 o0 _ _ i0 _ _ j0 _ _ h0 _ _ l0 h1 Z1 _ ?side1 ?side2 ?side3 ?side4 ?side5 ?side6 ?side7 ?side8 S3.out).mono ?_); (case side1 => exact Kd.C_below R0.out (bl_ HB)); (case side2 => exact S0.out); (case side3 => exact Kd.C_below T0.out (bl_ HB)); (case side4 => exact U0.out); (case side5 => refine (Kd.N_reads' (e := 22) (base := w.heap.size) (ok := fun k_ => ((no_ k_ (.slice C0 l0.length A0) ∧ (k_ ≠ m0 ∧ k_ ≠ p0)) ∧ k_ ≠ d0)) (n := h0.length) (c := z0) ?_).2.2; exact (by (with_reducible repeat (first | apply Kd.N_alloc | apply Kd.N_drewN | apply Kd.N_drew)); exact (Kd.N_mono (Kd.N_far (p := ⟨d0, 1, none⟩) (Kd.N_far (p := ⟨d0, 0, none⟩) (Kd.N_mono f0.out (fun k_ hk => (⟨hk, hk.2⟩ : _ ∧ k_ ≠ d0))) (fun _ hk => hk.2) (.slice B0 h0.length z0)) (fun _ hk => hk.2) (.slice C0 l0.length A0)) (fun _ h_ => h_.1)))); (case side6 => exact (Kd.N_reads' f0.out).2.1); (case side7 => refine (Kd.N_reads' (e := 53) (base := w.heap.size) (ok := fun k_ => ((no_ k_ (.slice B0 h0.length z0) ∧ (k_ ≠ m0 ∧ k_ ≠ p0)) ∧ k_ ≠ d0)) (n := l0.length) (c := A0) ?_).2.2; exact (by (with_reducible repeat (first | apply Kd.N_alloc | apply Kd.N_drewN | apply Kd.N_drew)); exact (Kd.N_mono (Kd.N_far (p := ⟨d0, 1, none⟩) (Kd.N_far (p := ⟨d0, 0, none⟩) (Kd.N_mono g0.out (fun k_ hk => (⟨hk, hk.2⟩ : _ ∧ k_ ≠ d0))) (fun _ hk => hk.2) (.slice B0 h0.length z0)) (fun _ hk => hk.2) (.slice C0 l0.length A0)) (fun _ h_ => h_.1)))); (case side8 => exact (Kd.N_reads' g0.out).2.1); rintro e O4 ⟨D4, rfl, Q0, hb⟩; refine ⟨_, rfl, ?_⟩; have t0 := a_ (Kd.V_lower (Kd.V_mono (ok' := fun k_ => no_ k_ (.slice B0 h0.length z0) ∧ no_ k_ (.slice C0 l0.length A0) ∧ k_ ≠ m0 ∧ k_ ≠ p0 ∧ k_ ≠ d0) Q0 (fun k_ hk_ => ⟨(Kd.fresh' (Kd.N_lt (by (with_reducible repeat (first | apply Kd.N_alloc | apply Kd.N_drewN | apply Kd.N_drew)); exact (Kd.N_mono (Kd.N_far (p := ⟨d0, 1, none⟩) (Kd.N_far (p := ⟨d0, 0, none⟩) (Kd.N_mono f0.out (fun k_ hk => (⟨hk, hk.2⟩ : _ ∧ k_ ≠ d0))) (fun _ hk => hk.2) (.slice B0 h0.length z0)) (fun _ hk => hk.2) (.slice C0 l0.length A0)) (fun _ h_ => h_.1)))) k_ hk_), (Kd.fresh' (Kd.N_lt (by (with_reducible repeat (first | apply Kd.N_alloc | apply Kd.N_drewN | apply Kd.N_drew)); exact (Kd.N_mono (Kd.N_far (p := ⟨d0, 1, none⟩) (Kd.N_far (p := ⟨d0, 0, none⟩) (Kd.N_mono g0.out (fun k_ hk => (⟨hk, hk.2⟩ : _ ∧ k_ ≠ d0))) (fun _ hk => hk.2) (.slice B0 h0.length z0)) (fun _ hk => hk.2) (.slice C0 l0.length A0)) (fun _ h_ => h_.1)))) k_ hk_), (Kd.freshB (g := m0) (o := .cells #[.int .i64 n0, .int .i64 o0, .slice H0 i0.length I0, .slice J0 j0.length K0] 24 (0, 0)) (bk_ a0) k_ hk_), (Kd.freshB (g := p0) (o := .cells #[.slice L0 y0.length M0] 37 (0, 0)) (bk_ b0) k_ hk_), (Kd.freshB (g := d0) (o := .cells #[.slice B0 h0.length z0, .slice C0 l0.length A0] 28 (0, 0)) (bp_ e0) k_ hk_)⟩)) (bs_ HB)); replace f0 := a_ (Kd.N_below (by (with_reducible repeat (first | apply Kd.N_alloc | apply Kd.N_drewN | apply Kd.N_drew)); exact (Kd.N_mono (Kd.N_far (p := ⟨d0, 1, none⟩) (Kd.N_far (p := ⟨d0, 0, none⟩) (Kd.N_mono f0.out (fun k_ hk => (⟨hk, hk.2⟩ : _ ∧ k_ ≠ d0))) (fun _ hk => hk.2) (.slice B0 h0.length z0)) (fun _ hk => hk.2) (.slice C0 l0.length A0)) (fun _ h_ => h_.1))) hb); replace g0 := a_ (Kd.N_below (by (with_reducible repeat (first | apply Kd.N_alloc | apply Kd.N_drewN | apply Kd.N_drew)); exact (Kd.N_mono (Kd.N_far (p := ⟨d0, 1, none⟩) (Kd.N_far (p := ⟨d0, 0, none⟩) (Kd.N_mono g0.out (fun k_ hk => (⟨hk, hk.2⟩ : _ ∧ k_ ≠ d0))) (fun _ hk => hk.2) (.slice B0 h0.length z0)) (fun _ hk => hk.2) (.slice C0 l0.length A0)) (fun _ h_ => h_.1))) hb); replace a0 := FB_ a0 hb; replace b0 := FB_ b0 hb; replace e0 := a_ (blk_below (g := d0) (o := .cells #[.slice B0 h0.length z0, .slice C0 l0.length A0] 28 (0, 0)) (bp_ e0) hb); replace HB := BS_ HB hb; (try clear hb); (try clear hk); (try clear Q0); obtain ⟨W2, X2, Y2, Z2, a3, b3, c3, d3⟩ := e4_ a0; obtain ⟨K1, L1, d2⟩ := Kd.V_slice t0.out; subst d2) | ((with_reducible refine gate_callee (f := 20) rfl ?_); refine gL_ (some 39) Try.func20 #[.agg #[.int .i64 n0, .int .i64 o0, .slice H0 i0.length I0, .slice J0 j0.length K0], .slice K1 h1.length L1] ?_; (with_reducible refine (Fb_.calls k n0 o0 _ _ i0 _ _ j0 _ _ h1 q0 r0 a2 _ ?side1 ?side2 ?side3 ?side4 ?side5 ?side6 T3.out).mono ?_); (case side1 => exact kC_ R0 HB); (case side2 => exact S0.out); (case side3 => exact kC_ T0 HB); (case side4 => exact U0.out); (case side5 => exact kCt_ (Kd.V_reads' t0.out).2.2); (case side6 => exact (Kd.V_reads' t0.out).2.1); rintro e P4 ⟨e2, f2, rfl, Q0, V0, hb⟩; refine ⟨_, rfl, ?_⟩; replace t0 := a_ (Kd.V_mono (Kd.V_told (Kd.V_told (Kd.V_old (kV_ t0) hb) (Kd.S_base Q0)) (Kd.S_base V0)) (fun _ h_ => h_.1)); have v0 := a_ (Kd.N_lower (Kd.N_mono (ok' := fun k_ => no_ k_ f2 ∧ no_ k_ (.slice B0 h0.length z0) ∧ no_ k_ (.slice C0 l0.length A0) ∧ k_ ≠ m0 ∧ k_ ≠ p0 ∧ k_ ≠ d0) (Kd.S_N (Kd.S_bound (Kd.S_apart' Q0 (Kd.S_typed V0) (by decide)))) (fun k_ hk_ => ⟨hk_.1.2, (Kd.fresh' (Kd.N_lt (kN_ f0)) k_ hk_.2.1), (Kd.fresh' (Kd.N_lt (kN_ g0)) k_ hk_.2.1), (Kd.freshB (g := m0) (o := .cells #[.int .i64 n0, .int .i64 o0, .slice H0 i0.length I0, .slice J0 j0.length K0] 24 (0, 0)) (bk_ a0) k_ hk_.2.1), (Kd.freshB (g := p0) (o := .cells #[.slice L0 y0.length M0] 37 (0, 0)) (bk_ b0) k_ hk_.2.1), (Kd.freshB (g := d0) (o := .cells #[.slice B0 h0.length z0, .slice C0 l0.length A0] 28 (0, 0)) (bk_ e0) k_ hk_.2.1)⟩)) (bs_ HB)); have w0 := a_ (Kd.N_lower (Kd.N_mono (ok' := fun k_ => no_ k_ e2 ∧ no_ k_ (.slice B0 h0.length z0) ∧ no_ k_ (.slice C0 l0.length A0) ∧ k_ ≠ m0 ∧ k_ ≠ p0 ∧ k_ ≠ d0) (Kd.S_N (Kd.S_bound (Kd.S_apart' V0 (Kd.S_typed Q0) (by decide)))) (fun k_ hk_ => ⟨hk_.1.2, (Kd.fresh' (Kd.N_lt (kN_ f0)) k_ hk_.2.1), (Kd.fresh' (Kd.N_lt (kN_ g0)) k_ hk_.2.1), (Kd.freshB (g := m0) (o := .cells #[.int .i64 n0, .int .i64 o0, .slice H0 i0.length I0, .slice J0 j0.length K0] 24 (0, 0)) (bk_ a0) k_ hk_.2.1), (Kd.freshB (g := p0) (o := .cells #[.slice L0 y0.length M0] 37 (0, 0)) (bk_ b0) k_ hk_.2.1), (Kd.freshB (g := d0) (o := .cells #[.slice B0 h0.length z0, .slice C0 l0.length A0] 28 (0, 0)) (bk_ e0) k_ hk_.2.1)⟩)) (bs_ HB)); replace f0 := a_ (Kd.N_mono (Kd.N_told (Kd.N_told (Kd.N_old (kN_ f0) hb) (Kd.S_base Q0)) (Kd.S_base V0)) (fun _ h_ => h_.1)); replace g0 := a_ (Kd.N_mono (Kd.N_told (Kd.N_told (Kd.N_old (kN_ g0) hb) (Kd.S_base Q0)) (Kd.S_base V0)) (fun _ h_ => h_.1)); replace a0 := FB_ a0 hb; replace b0 := FB_ b0 hb; replace e0 := FB_ e0 hb; replace HB := BS_ HB hb; (try clear hb); (try clear hk); (try clear Q0); (try clear V0)) | ((with_reducible refine gate_dst (N := 9) rfl ?_); refine box_ 9 #[.slice none 0 0, .slice none 0 0] 28 ?_; intro c0 hg a1 hbox hb; replace f0 := a_ (Kd.N_below (Kd.N_elderB (kN_ f0) c0 (Nat.le_of_eq hg.symm)) hb); replace g0 := a_ (Kd.N_below (Kd.N_elderB (kN_ g0) c0 (Nat.le_of_eq hg.symm)) hb); replace t0 := a_ (Kd.V_below (Kd.V_elderB (kV_ t0) c0 (Nat.le_of_eq hg.symm)) hb); replace v0 := a_ (Kd.N_below (Kd.N_elderB (kN_ v0) c0 (Nat.le_of_eq hg.symm)) hb); replace w0 := a_ (Kd.N_below (Kd.N_elderB (kN_ w0) c0 (Nat.le_of_eq hg.symm)) hb); have k0 := a_ (hbox); have h4 := GE_ HB hg; have i4 := GE_ HB hg; replace HB := BS_ HB hb; obtain ⟨m1, n1⟩ := NN_ a0 hg; replace a0 := FB_ a0 hb; obtain ⟨o1, p1⟩ := NN_ b0 hg; replace b0 := FB_ b0 hb; obtain ⟨q1, r1⟩ := NN_ e0 hg; replace e0 := FB_ e0 hb; clear hb hbox hg; obtain ⟨D0, E0, g2⟩ := Kd.N_slice v0.out; subst g2; have j4 := n1.out; have k4 := m1.out; have l4 := p1.out; have m4 := o1.out; have n4 := r1.out; have o4 := q1.out; obtain ⟨e3, f3, g3, h3⟩ := e2_ k0; obtain ⟨F0, G0, h2⟩ := Kd.N_slice w0.out; subst h2))
 have n0_ : Aside0 (Kd.N (Kd.slice 3 (Kd.int .i64)) 22 ((a1.setCell ⟨c0, 0, none⟩ (.slice D0 q0.length E0)).setCell ⟨c0, 1, none⟩ (.slice F0 r0.length G0)) w.heap.size (fun k_ => no_ k_ (.slice C0 l0.length A0) ∧ no_ k_ (.slice D0 q0.length E0) ∧ no_ k_ (.slice F0 r0.length G0) ∧ k_ ≠ m0 ∧ k_ ≠ p0 ∧ k_ ≠ d0 ∧ k_ ≠ c0) (.slice B0 h0.length z0) h0) := ⟨by (with_reducible repeat (first | apply Kd.N_alloc | apply Kd.N_drewN | apply Kd.N_drew)); exact Kd.N_mono (Kd.N_far (p := ⟨c0, 1, none⟩) (Kd.N_far (p := ⟨c0, 0, none⟩) (Kd.N_mono f0.out (fun k_ hk => (⟨hk, hk.2⟩ : _ ∧ k_ ≠ c0))) (fun _ hk => hk.2) (.slice D0 q0.length E0)) (fun _ hk => hk.2) (.slice F0 r0.length G0)) cj_⟩
 have n1_ : Aside0 (Kd.N (Kd.slice 2 (Kd.int .i64)) 53 ((a1.setCell ⟨c0, 0, none⟩ (.slice D0 q0.length E0)).setCell ⟨c0, 1, none⟩ (.slice F0 r0.length G0)) w.heap.size (fun k_ => no_ k_ (.slice B0 h0.length z0) ∧ no_ k_ (.slice D0 q0.length E0) ∧ no_ k_ (.slice F0 r0.length G0) ∧ k_ ≠ m0 ∧ k_ ≠ p0 ∧ k_ ≠ d0 ∧ k_ ≠ c0) (.slice C0 l0.length A0) l0) := ⟨by (with_reducible repeat (first | apply Kd.N_alloc | apply Kd.N_drewN | apply Kd.N_drew)); exact Kd.N_mono (Kd.N_far (p := ⟨c0, 1, none⟩) (Kd.N_far (p := ⟨c0, 0, none⟩) (Kd.N_mono g0.out (fun k_ hk => (⟨hk, hk.2⟩ : _ ∧ k_ ≠ c0))) (fun _ hk => hk.2) (.slice D0 q0.length E0)) (fun _ hk => hk.2) (.slice F0 r0.length G0)) cj_⟩
 have n2_ : Aside0 (Kd.V (Kd.int .u8) 5 ((a1.setCell ⟨c0, 0, none⟩ (.slice D0 q0.length E0)).setCell ⟨c0, 1, none⟩ (.slice F0 r0.length G0)) w.heap.size (fun k_ => no_ k_ (.slice B0 h0.length z0) ∧ no_ k_ (.slice C0 l0.length A0) ∧ no_ k_ (.slice D0 q0.length E0) ∧ no_ k_ (.slice F0 r0.length G0) ∧ k_ ≠ m0 ∧ k_ ≠ p0 ∧ k_ ≠ d0 ∧ k_ ≠ c0) (.slice K1 h1.length L1) h1) := ⟨by (with_reducible repeat (first | apply Kd.V_alloc | apply Kd.V_drewN | apply Kd.V_drew)); exact Kd.V_mono (Kd.V_far (p := ⟨c0, 1, none⟩) (Kd.V_far (p := ⟨c0, 0, none⟩) (Kd.V_mono t0.out (fun k_ hk => (⟨hk, hk.2⟩ : _ ∧ k_ ≠ c0))) (fun _ hk => hk.2) (.slice D0 q0.length E0)) (fun _ hk => hk.2) (.slice F0 r0.length G0)) cj_⟩
 have n3_ : Aside0 (Kd.N (Kd.slice 3 (Kd.int .i64)) 22 ((a1.setCell ⟨c0, 0, none⟩ (.slice D0 q0.length E0)).setCell ⟨c0, 1, none⟩ (.slice F0 r0.length G0)) w.heap.size (fun k_ => no_ k_ (.slice B0 h0.length z0) ∧ no_ k_ (.slice C0 l0.length A0) ∧ no_ k_ (.slice F0 r0.length G0) ∧ k_ ≠ m0 ∧ k_ ≠ p0 ∧ k_ ≠ d0 ∧ k_ ≠ c0) (.slice D0 q0.length E0) q0) := ⟨by (with_reducible repeat (first | apply Kd.N_alloc | apply Kd.N_drewN | apply Kd.N_drew)); exact Kd.N_mono (Kd.N_far (p := ⟨c0, 1, none⟩) (Kd.N_far (p := ⟨c0, 0, none⟩) (Kd.N_mono v0.out (fun k_ hk => (⟨hk, hk.2⟩ : _ ∧ k_ ≠ c0))) (fun _ hk => hk.2) (.slice D0 q0.length E0)) (fun _ hk => hk.2) (.slice F0 r0.length G0)) cj_⟩
 have n4_ : Aside0 (Kd.N (Kd.slice 2 (Kd.int .i64)) 53 ((a1.setCell ⟨c0, 0, none⟩ (.slice D0 q0.length E0)).setCell ⟨c0, 1, none⟩ (.slice F0 r0.length G0)) w.heap.size (fun k_ => no_ k_ (.slice B0 h0.length z0) ∧ no_ k_ (.slice C0 l0.length A0) ∧ no_ k_ (.slice D0 q0.length E0) ∧ k_ ≠ m0 ∧ k_ ≠ p0 ∧ k_ ≠ d0 ∧ k_ ≠ c0) (.slice F0 r0.length G0) r0) := ⟨by (with_reducible repeat (first | apply Kd.N_alloc | apply Kd.N_drewN | apply Kd.N_drew)); exact Kd.N_mono (Kd.N_far (p := ⟨c0, 1, none⟩) (Kd.N_far (p := ⟨c0, 0, none⟩) (Kd.N_mono w0.out (fun k_ hk => (⟨hk, hk.2⟩ : _ ∧ k_ ≠ c0))) (fun _ hk => hk.2) (.slice D0 q0.length E0)) (fun _ hk => hk.2) (.slice F0 r0.length G0)) cj_⟩
 have n5_ : Aside0 (((a1.setCell ⟨c0, 0, none⟩ (.slice D0 q0.length E0)).setCell ⟨c0, 1, none⟩ (.slice F0 r0.length G0)).heap[m0]? = some (.cells #[.int .i64 n0, .int .i64 o0, .slice H0 i0.length I0, .slice J0 j0.length K0] 24 (0, 0))) := ⟨bk_ a0⟩
 have n6_ : Aside0 (((a1.setCell ⟨c0, 0, none⟩ (.slice D0 q0.length E0)).setCell ⟨c0, 1, none⟩ (.slice F0 r0.length G0)).heap[p0]? = some (.cells #[.slice L0 y0.length M0] 37 (0, 0))) := ⟨bk_ b0⟩
 have n7_ : Aside0 (((a1.setCell ⟨c0, 0, none⟩ (.slice D0 q0.length E0)).setCell ⟨c0, 1, none⟩ (.slice F0 r0.length G0)).heap[d0]? = some (.cells #[.slice B0 h0.length z0, .slice C0 l0.length A0] 28 (0, 0))) := ⟨bk_ e0⟩
 have n8_ : Aside0 (((a1.setCell ⟨c0, 0, none⟩ (.slice D0 q0.length E0)).setCell ⟨c0, 1, none⟩ (.slice F0 r0.length G0)).heap[c0]? = some (.cells #[.slice D0 q0.length E0, .slice F0 r0.length G0] 28 (0, 0))) := ⟨bp_ k0⟩
 have n9_ : Aside0 (Below w.heap.size w ((a1.setCell ⟨c0, 0, none⟩ (.slice D0 q0.length E0)).setCell ⟨c0, 1, none⟩ (.slice F0 r0.length G0))) := ⟨bl_ HB⟩
 (try clear f0)
 (try clear g0)
 (try clear t0)
 (try clear v0)
 (try clear w0)
 (try clear a0)
 (try clear b0)
 (try clear e0)
 (try clear k0)
 (try clear HB)
 generalize ((a1.setCell ⟨c0, 0, none⟩ (.slice D0 q0.length E0)).setCell ⟨c0, 1, none⟩ (.slice F0 r0.length G0)) = Z3 at n0_ n1_ n2_ n3_ n4_ n5_ n6_ n7_ n8_ n9_ ⊢
 have f0 := n0_
 have g0 := n1_
 have t0 := n2_
 have v0 := n3_
 have w0 := n4_
 have a0 := n5_
 have b0 := n6_
 have e0 := n7_
 have k0 := n8_
 have HB := n9_
 clear n0_ n1_ n2_ n3_ n4_ n5_ n6_ n7_ n8_ n9_
 replace f0 := a_ (Kd.N_drew f0.out)
 replace g0 := a_ (Kd.N_drew g0.out)
 replace t0 := a_ (Kd.V_drew t0.out)
 replace v0 := a_ (Kd.N_drew v0.out)
 replace w0 := a_ (Kd.N_drew w0.out)
 replace a0 := a_ (blk_drew a0.out)
 replace b0 := a_ (blk_drew b0.out)
 replace e0 := a_ (blk_drew e0.out)
 replace k0 := a_ (blk_drew k0.out)
 replace HB := a_ (below_drew1 HB.out)
 refine start_ (n := 22) (S := fun w' => w'.cell? ⟨m0, 0, none⟩ = some (.int .i64 n0) ∧ w'.cell? ⟨m0, 1, none⟩ = some (.int .i64 o0) ∧ w'.cell? ⟨m0, 2, none⟩ = some (.slice H0 i0.length I0) ∧ w'.cell? ⟨m0, 3, none⟩ = some (.slice J0 j0.length K0) ∧ w'.cell? ⟨d0, 0, none⟩ = some (.slice B0 h0.length z0) ∧ w'.cell? ⟨d0, 1, none⟩ = some (.slice C0 l0.length A0) ∧ w'.cell? ⟨c0, 0, none⟩ = some (.slice D0 q0.length E0) ∧ w'.cell? ⟨c0, 1, none⟩ = some (.slice F0 r0.length G0)) (ds := []) (B_ 22 0) kf_ rfl rfl ⟨ce_ a0 0, ce_ a0 1, ce_ a0 2, ce_ a0 3, ce_ e0 0, ce_ e0 1, ce_ k0 0, ce_ k0 1⟩ (fun hHeld => ?_); refine with_tabW Fu_.tab8 Fu_.bits8 (fun HT_ HW_ => ?_)
 generalize Z3.drew = Q4 at f0 g0 t0 v0 w0 a0 b0 e0 k0 HB hHeld ⊢
 refine take_ (i := 0) (N := some 42) (v := ?_) (a' := ?_) (B_ 22 1) rfl rfl (take_ofW HT_.out HW_.out kf_) (fun _ _ _ h => h) (Or.inl ⟨by rfl, ?_⟩) hHeld ?_ ?_
 rotate_left
 {
 rintro w' ⟨s0, s1, s2, s3, s4, s5, s6, s7⟩
 go_simp
 with_reducible rfl}
 rotate_left
 {
 exact sp_}
 refine take_ (i := 1) (N := some 43) (v := ?_) (a' := ?_) (B_ 22 3) rfl rfl (take_ofW HT_.out HW_.out kf_) (fun _ _ _ h => h) (Or.inl ⟨by rfl, ?_⟩) hHeld ?_ ?_
 rotate_left
 {
 rintro w' ⟨s0, s1, s2, s3, s4, s5, s6, s7⟩
 go_simp
 with_reducible rfl}
 rotate_left
 {
 exact sp_}
 refine one_ (i := 2) (N := some 44) (B_ 22 7) rfl rfl (one_of HT_.out kf_) (by decide) (fun K hK => ?_)
 refine goes_ Try.func21 kf_ rfl #[.agg #[.int .i64 n0, .int .i64 o0, .slice H0 i0.length I0, .slice J0 j0.length K0], .agg #[.slice B0 h0.length z0, .slice C0 l0.length A0]] (by rfl) rfl rfl ar_ ?_
 with_reducible refine (Fd_.calls k n0 o0 _ _ i0 _ _ j0 _ _ h0 _ _ l0 true _ ?side1 ?side2 ?side3 ?side4 ?side5 ?side6 ?side7 ?side8 U3.out).mono ?_
 (case side1 => exact kC_ R0 HB)
 (case side2 => exact S0.out)
 (case side3 => exact kC_ T0 HB)
 (case side4 => exact U0.out)
 (case side5 => repeat (first | exact (Kd.N_reads' f0.out).2.2 | (with_reducible refine Kd.C_alloc ?_ _) | (with_reducible refine Kd.C_drewN ?_ _) | (with_reducible refine Kd.C_drew ?_)))
 (case side6 => exact (Kd.N_reads' f0.out).2.1)
 (case side7 => repeat (first | exact (Kd.N_reads' g0.out).2.2 | (with_reducible refine Kd.C_alloc ?_ _) | (with_reducible refine Kd.C_drewN ?_ _) | (with_reducible refine Kd.C_drew ?_)))
 (case side8 => exact (Kd.N_reads' g0.out).2.1)
 rintro e R4 ⟨rfl, hb⟩
 refine ⟨_, rfl, ?_⟩
 replace f0 := FN_ f0 hb
 replace g0 := FN_ g0 hb
 replace t0 := FV_ t0 hb
 replace v0 := FN_ v0 hb
 replace w0 := FN_ w0 hb
 replace a0 := FB_ a0 hb
 replace b0 := FB_ b0 hb
 replace e0 := FB_ e0 hb
 replace k0 := FB_ k0 hb
 replace HB := BS_ HB hb
 (try clear hb)
 (try clear hk)
 refine hK.out _ _ ⟨ce_ a0 0, ce_ a0 1, ce_ a0 2, ce_ a0 3, ce_ e0 0, ce_ e0 1, ce_ k0 0, ce_ k0 1⟩ (fun hHeld => ?_)
 clear hK K
 refine norm_ (a' := ?_) ?_ ?_
 rotate_left
 {
 show Act.put _ (some 44) _ = _
 exact sp_}
 refine pu_ 3 (some 45) (B_ 22 15) HT_ ?_
 refine pu_ 4 (some 46) (B_ 22 31) HT_ ?_
 refine pu_ 5 (some 47) (B_ 22 63) HT_ ?_
 refine pu_ 6 (some 48) (B_ 22 127) HT_ ?_
 refine pu_ 7 (some 49) (B_ 22 255) HT_ ?_
 refine pu_ 8 (some 50) (B_ 22 511) HT_ ?_
 refine pu_ 9 (some 51) (B_ 22 1023) HT_ ?_
 refine pu_ 10 (some 52) (B_ 22 2047) HT_ ?_
 refine pu_ 11 (some 53) (B_ 22 4095) HT_ ?_
 refine take_ (i := 12) (N := some 54) (v := ?_) (a' := ?_) (B_ 22 8191) rfl rfl (take_ofW HT_.out HW_.out kf_) (fun _ _ _ h => h) (Or.inl ⟨by rfl, ?_⟩) hHeld ?_ ?_
 rotate_left
 {
 rintro w' ⟨s0, s1, s2, s3, s4, s5, s6, s7⟩
 go_simp
 with_reducible rfl}
 rotate_left
 {
 exact sp_}
 refine take_ (i := 14) (N := some 56) (v := ?_) (a' := ?_) (B_ 22 24575) rfl rfl (take_ofW HT_.out HW_.out kf_) (fun _ _ _ h => h) (Or.inl ⟨by rfl, ?_⟩) hHeld ?_ ?_
 rotate_left
 {
 rintro w' ⟨s0, s1, s2, s3, s4, s5, s6, s7⟩
 go_simp
 with_reducible rfl}
 rotate_left
 {
 exact sp_}
 refine one_ (i := 13) (N := some 55) (B_ 22 32767) rfl rfl (one_of HT_.out kf_) (by decide) (fun K hK => ?_)
 refine goes_ Try.func12 kf_ rfl #[.agg #[.slice B0 h0.length z0, .slice C0 l0.length A0]] (by rfl) rfl rfl ar_ ?_
 with_reducible refine (Gz_.calls _ _ h0 _ _ l0  _ ?side1 ?side2 ?side3 ?side4 V3.out).mono ?_
 (case side1 => repeat (first | exact (Kd.N_reads' f0.out).2.2 | (with_reducible refine Kd.C_alloc ?_ _) | (with_reducible refine Kd.C_drewN ?_ _) | (with_reducible refine Kd.C_drew ?_)))
 (case side2 => exact (Kd.N_reads' f0.out).2.1)
 (case side3 => repeat (first | exact (Kd.N_reads' g0.out).2.2 | (with_reducible refine Kd.C_alloc ?_ _) | (with_reducible refine Kd.C_drewN ?_ _) | (with_reducible refine Kd.C_drew ?_)))
 (case side4 => exact (Kd.N_reads' g0.out).2.1)
 rintro e S4 ⟨rfl, hb⟩
 refine ⟨_, rfl, ?_⟩
 replace f0 := FN_ f0 hb
 replace g0 := FN_ g0 hb
 replace t0 := FV_ t0 hb
 replace v0 := FN_ v0 hb
 replace w0 := FN_ w0 hb
 replace a0 := FB_ a0 hb
 replace b0 := FB_ b0 hb
 replace e0 := FB_ e0 hb
 replace k0 := FB_ k0 hb
 replace HB := BS_ HB hb
 (try clear hb)
 (try clear hk)
 refine hK.out _ _ ⟨ce_ a0 0, ce_ a0 1, ce_ a0 2, ce_ a0 3, ce_ e0 0, ce_ e0 1, ce_ k0 0, ce_ k0 1⟩ (fun hHeld => ?_)
 clear hK K
 refine norm_ (a' := ?_) ?_ ?_
 rotate_left
 {
 show Act.put _ (some 55) _ = _
 exact sp_}
 refine one_ (i := 15) (N := some 57) (B_ 22 65535) rfl rfl (one_of HT_.out kf_) (by decide) (fun K hK => ?_)
 refine goes_ Try.func12 kf_ rfl #[.agg #[.slice D0 q0.length E0, .slice F0 r0.length G0]] (by rfl) rfl rfl ar_ ?_
 with_reducible refine (Gz_.calls _ _ q0 _ _ r0  _ ?side1 ?side2 ?side3 ?side4 W3.out).mono ?_
 (case side1 => repeat (first | exact (Kd.N_reads' v0.out).2.2 | (with_reducible refine Kd.C_alloc ?_ _) | (with_reducible refine Kd.C_drewN ?_ _) | (with_reducible refine Kd.C_drew ?_)))
 (case side2 => exact (Kd.N_reads' v0.out).2.1)
 (case side3 => repeat (first | exact (Kd.N_reads' w0.out).2.2 | (with_reducible refine Kd.C_alloc ?_ _) | (with_reducible refine Kd.C_drewN ?_ _) | (with_reducible refine Kd.C_drew ?_)))
 (case side4 => exact (Kd.N_reads' w0.out).2.1)
 rintro e T4 ⟨rfl, hb⟩
 refine ⟨_, rfl, ?_⟩
 replace f0 := FN_ f0 hb
 replace g0 := FN_ g0 hb
 replace t0 := FV_ t0 hb
 replace v0 := FN_ v0 hb
 replace w0 := FN_ w0 hb
 replace a0 := FB_ a0 hb
 replace b0 := FB_ b0 hb
 replace e0 := FB_ e0 hb
 replace k0 := FB_ k0 hb
 replace HB := BS_ HB hb
 (try clear hb)
 (try clear hk)
 refine hK.out _ _ ⟨ce_ a0 0, ce_ a0 1, ce_ a0 2, ce_ a0 3, ce_ e0 0, ce_ e0 1, ce_ k0 0, ce_ k0 1⟩ (fun hHeld => ?_)
 clear hK K
 refine norm_ (a' := ?_) ?_ ?_
 rotate_left
 {
 show Act.put _ (some 57) _ = _
 exact sp_}
 refine one_ (i := 16) (N := some 58) (B_ 22 131071) rfl rfl (one_of HT_.out kf_) (by decide) (fun K hK => ?_)
 refine goes_ Try.func22 kf_ rfl #[.agg #[.slice B0 h0.length z0, .slice C0 l0.length A0], .agg #[.slice D0 q0.length E0, .slice F0 r0.length G0]] (by rfl) rfl rfl ar_ ?_
 with_reducible refine (Fg_.calls k _ _ h0 _ _ l0 _ _ q0 _ _ r0 true _ ?side1 ?side2 ?side3 ?side4 ?side5 ?side6 ?side7 ?side8 X3.out).mono ?_
 (case side1 => repeat (first | exact (Kd.N_reads' f0.out).2.2 | (with_reducible refine Kd.C_alloc ?_ _) | (with_reducible refine Kd.C_drewN ?_ _) | (with_reducible refine Kd.C_drew ?_)))
 (case side2 => exact (Kd.N_reads' f0.out).2.1)
 (case side3 => repeat (first | exact (Kd.N_reads' g0.out).2.2 | (with_reducible refine Kd.C_alloc ?_ _) | (with_reducible refine Kd.C_drewN ?_ _) | (with_reducible refine Kd.C_drew ?_)))
 (case side4 => exact (Kd.N_reads' g0.out).2.1)
 (case side5 => repeat (first | exact (Kd.N_reads' v0.out).2.2 | (with_reducible refine Kd.C_alloc ?_ _) | (with_reducible refine Kd.C_drewN ?_ _) | (with_reducible refine Kd.C_drew ?_)))
 (case side6 => exact (Kd.N_reads' v0.out).2.1)
 (case side7 => repeat (first | exact (Kd.N_reads' w0.out).2.2 | (with_reducible refine Kd.C_alloc ?_ _) | (with_reducible refine Kd.C_drewN ?_ _) | (with_reducible refine Kd.C_drew ?_)))
 (case side8 => exact (Kd.N_reads' w0.out).2.1)
 rintro e U4 ⟨rfl, hb⟩
 refine ⟨_, rfl, ?_⟩
 replace f0 := FN_ f0 hb
 replace g0 := FN_ g0 hb
 replace t0 := FV_ t0 hb
 replace v0 := FN_ v0 hb
 replace w0 := FN_ w0 hb
 replace a0 := FB_ a0 hb
 replace b0 := FB_ b0 hb
 replace e0 := FB_ e0 hb
 replace k0 := FB_ k0 hb
 replace HB := BS_ HB hb
 (try clear hb)
 (try clear hk)
 refine hK.out _ _ ⟨ce_ a0 0, ce_ a0 1, ce_ a0 2, ce_ a0 3, ce_ e0 0, ce_ e0 1, ce_ k0 0, ce_ k0 1⟩ (fun hHeld => ?_)
 clear hK K
 refine norm_ (a' := ?_) ?_ ?_
 rotate_left
 {
 show Act.put _ (some 58) _ = _
 exact sp_}
 refine pu_ 17 (some 59) (B_ 22 262143) HT_ ?_
 refine pu_ 18 (some 60) (B_ 22 524287) HT_ ?_
 refine one_ (i := 19) (N := some 61) (B_ 22 1048575) rfl rfl (one_of HT_.out kf_) (by decide) (fun K hK => ?_)
 refine goes_ Try.func13 kf_ rfl #[] (by rfl) rfl rfl ar_ ?_
 with_reducible refine (Fw_.calls k  k1 _ Y3.out).mono ?_
 rintro e V4 ⟨rfl, hb⟩
 refine ⟨_, rfl, ?_⟩
 replace f0 := FN_ f0 hb
 replace g0 := FN_ g0 hb
 replace t0 := FV_ t0 hb
 replace v0 := FN_ v0 hb
 replace w0 := FN_ w0 hb
 replace a0 := FB_ a0 hb
 replace b0 := FB_ b0 hb
 replace e0 := FB_ e0 hb
 replace k0 := FB_ k0 hb
 replace HB := BS_ HB hb
 (try clear hb)
 (try clear hk)
 refine hK.out _ _ ⟨ce_ a0 0, ce_ a0 1, ce_ a0 2, ce_ a0 3, ce_ e0 0, ce_ e0 1, ce_ k0 0, ce_ k0 1⟩ (fun hHeld => ?_)
 clear hK K
 refine norm_ (a' := ?_) ?_ ?_
 rotate_left
 {
 show Act.put _ (some 61) _ = _
 exact sp_}
 refine pu_ 20 (some 62) (B_ 22 2097151) HT_ ?_
 refine pu_ 21 (some 4) (B_ 22 4194303) HT_ ?_
 refine done_ (done_of HT_.out kf_) ?_
 try go_wp2
 go_ret
 exact ⟨er_, bl_ HB⟩}
 {
 exact absurd ((Option.some.inj H).trans HT.out) (by decide)}}
 {
 exact absurd ((Option.some.inj H).trans HT.out) (by decide)}}
 {
 exact absurd ((Option.some.inj H).trans HT.out) (by decide)}}
 {
 exact absurd ((Option.some.inj H).trans HT.out) (by decide)}}
 {
 replace H := ii_ H
 rcases H with ⟨i1, H⟩ | ⟨i1, H⟩
 {
 have V1 : ((h0.length : Int) == 0) = true := beq_iff_eq.mpr i1
 have W1 : ((h0.length : Int) != 0) = false := bne_eq_false_iff_eq.mpr i1
 clear i1
 replace H := Option.bind_eq_some_iff.mp H
 obtain ⟨l1, M1, H⟩ := H
 replace H : (some l1) = some r := H
 have a4 := a_ M1
 clear M1
 obtain rfl := Option.some.inj H
 go_enter Try.func4, Try.ntmps4
 go_wp2_with (first | ((with_reducible refine gate_dst (N := 2) rfl ?_); refine bx_ HB 2 #[.int .i64 n0, .int .i64 o0, .slice H0 i0.length I0, .slice J0 j0.length K0] 24 ?_; clear HB; intro m0 hg W4 hb a0 e1 HB; have D1 := e1; clear hb hg) | ((with_reducible refine gate_dst (N := 3) rfl ?_); refine bx_ HB 3 #[.slice L0 y0.length M0] 37 ?_; clear HB; intro p0 hg X4 hb b0 f1 HB; have E1 := f1; obtain ⟨O0, P0⟩ := NN_ a0 hg; replace a0 := FB_ a0 hb; clear hb hg; have p4 := O0.out; have q4 := P0.out; obtain ⟨i3, j3, k3, l3, m3, n3, o3, p3⟩ := e4_ a0; obtain ⟨q3, r3⟩ := e1_ b0) | ((with_reducible refine gate_callee (f := 18) rfl ?_); refine gL_ (some 13) Try.func18 #[.agg #[.int .i64 n0, .int .i64 o0, .slice H0 i0.length I0, .slice J0 j0.length K0], .agg #[.slice L0 y0.length M0]] ?_; (with_reducible refine (Ft_.calls k n0 o0 _ _ i0 _ _ j0 _ _ y0 false _ ?side1 ?side2 ?side3 ?side4 ?side5 ?side6 A3.out).mono ?_); (case side1 => exact kC_ R0 HB); (case side2 => exact S0.out); (case side3 => exact kC_ T0 HB); (case side4 => exact U0.out); (case side5 => exact kC_ b1 HB); (case side6 => exact c1.out); rintro e Y4 ⟨rfl, hb⟩; refine ⟨_, rfl, ?_⟩; replace a0 := FB_ a0 hb; replace b0 := FB_ b0 hb; replace HB := BS_ HB hb; (try clear hb); (try clear hk); obtain ⟨t3, v3, w3, y3, z3, B3, C3, D3⟩ := e4_ a0; obtain ⟨E3, F3⟩ := e1_ b0) | ((with_reducible refine gate_callee (f := 15) rfl ?_); refine gL_ (some 18) Try.func15 #[.agg #[.int .i64 n0, .int .i64 o0, .slice H0 i0.length I0, .slice J0 j0.length K0], .agg #[.slice L0 y0.length M0]] ?_; (with_reducible refine (Fi_.calls k n0 o0 _ _ i0 _ _ j0 _ _ y0 h0 l0 I1 _ ?side1 ?side2 ?side3 ?side4 ?side5 ?side6 Y1.out).mono ?_); (case side1 => exact kC_ R0 HB); (case side2 => exact S0.out); (case side3 => exact kC_ T0 HB); (case side4 => exact U0.out); (case side5 => exact kC_ b1 HB); (case side6 => exact c1.out); rintro e Z4 ⟨t1, v1, rfl, Q0, V0, hb⟩; refine ⟨_, rfl, ?_⟩; have f0 := a_ (Kd.N_lower (Kd.N_mono (ok' := fun k_ => no_ k_ v1 ∧ k_ ≠ m0 ∧ k_ ≠ p0) Q0 (fun k_ hk_ => ⟨hk_.2, (Kd.freshB (g := m0) (o := .cells #[.int .i64 n0, .int .i64 o0, .slice H0 i0.length I0, .slice J0 j0.length K0] 24 (0, 0)) (bk_ a0) k_ hk_.1), (Kd.freshB (g := p0) (o := .cells #[.slice L0 y0.length M0] 37 (0, 0)) (bk_ b0) k_ hk_.1)⟩)) (bs_ HB)); have g0 := a_ (Kd.N_lower (Kd.N_mono (ok' := fun k_ => no_ k_ t1 ∧ k_ ≠ m0 ∧ k_ ≠ p0) V0 (fun k_ hk_ => ⟨hk_.2, (Kd.freshB (g := m0) (o := .cells #[.int .i64 n0, .int .i64 o0, .slice H0 i0.length I0, .slice J0 j0.length K0] 24 (0, 0)) (bk_ a0) k_ hk_.1), (Kd.freshB (g := p0) (o := .cells #[.slice L0 y0.length M0] 37 (0, 0)) (bk_ b0) k_ hk_.1)⟩)) (bs_ HB)); replace a0 := FB_ a0 hb; replace b0 := FB_ b0 hb; replace HB := BS_ HB hb; (try clear hb); (try clear hk); (try clear Q0); (try clear V0)) | ((with_reducible refine gate_dst (N := 5) rfl ?_); refine box_ 5 #[.slice none 0 0, .slice none 0 0] 28 ?_; intro d0 hg a5 hbox hb; replace f0 := a_ (Kd.N_below (Kd.N_elderB (kN_ f0) d0 (Nat.le_of_eq hg.symm)) hb); replace g0 := a_ (Kd.N_below (Kd.N_elderB (kN_ g0) d0 (Nat.le_of_eq hg.symm)) hb); have e0 := a_ (hbox); have T1 := GE_ HB hg; have U1 := GE_ HB hg; replace HB := BS_ HB hb; obtain ⟨W0, X0⟩ := NN_ a0 hg; replace a0 := FB_ a0 hb; obtain ⟨Y0, Z0⟩ := NN_ b0 hg; replace b0 := FB_ b0 hb; clear hb hbox hg; obtain ⟨y1, z1, i2⟩ := Kd.N_slice f0.out; subst i2; have r4 := X0.out; have t4 := W0.out; have v4 := Z0.out; have w4 := Y0.out; obtain ⟨G3, H3, I3, J3⟩ := e2_ e0; obtain ⟨A1, B1, j2⟩ := Kd.N_slice g0.out; subst j2) | (go_at_call 13; (with_reducible refine (Fw_.calls k  l1 _ a4.out).mono ?_); rintro e b5 ⟨rfl, hb⟩; replace f0 := a_ (Kd.N_below (by (with_reducible repeat (first | apply Kd.N_alloc | apply Kd.N_drewN | apply Kd.N_drew)); exact (Kd.N_mono (Kd.N_far (p := ⟨d0, 1, none⟩) (Kd.N_far (p := ⟨d0, 0, none⟩) (Kd.N_mono f0.out (fun k_ hk => (⟨hk, hk.2⟩ : _ ∧ k_ ≠ d0))) (fun _ hk => hk.2) (.slice y1 h0.length z1)) (fun _ hk => hk.2) (.slice A1 l0.length B1)) (fun _ h_ => h_.1))) hb); replace g0 := a_ (Kd.N_below (by (with_reducible repeat (first | apply Kd.N_alloc | apply Kd.N_drewN | apply Kd.N_drew)); exact (Kd.N_mono (Kd.N_far (p := ⟨d0, 1, none⟩) (Kd.N_far (p := ⟨d0, 0, none⟩) (Kd.N_mono g0.out (fun k_ hk => (⟨hk, hk.2⟩ : _ ∧ k_ ≠ d0))) (fun _ hk => hk.2) (.slice y1 h0.length z1)) (fun _ hk => hk.2) (.slice A1 l0.length B1)) (fun _ h_ => h_.1))) hb); replace a0 := FB_ a0 hb; replace b0 := FB_ b0 hb; replace e0 := a_ (blk_below (g := d0) (o := .cells #[.slice y1 h0.length z1, .slice A1 l0.length B1] 28 (0, 0)) (bp_ e0) hb); replace HB := BS_ HB hb; (try clear hb); (try clear hk)))
 go_ret
 exact ⟨er_, bl_ HB⟩}
 {
 have V1 : ((h0.length : Int) == 0) = false := beq_eq_false_iff_ne.mpr i1
 have W1 : ((h0.length : Int) != 0) = true := bne_iff_ne.mpr i1
 have x4 : ¬ (h0 = []) := fun h_ => i1 (by rw [h_]; rfl)
 exact absurd ((Option.some.inj H).trans HT.out) (by decide)}}}
def Fu_.Pure : Prop := ∀ (d0 : Int) (e0 : Int) (a0 : List Int) (b0 : List Int) (c0 : List (List Int)), (Lit.int .i64 d0).wf = true → (Lit.int .i64 e0).wf = true → (a0.length ≤ maxLen ∧ ∀ x0_ ∈ a0, (Lit.int .i64 x0_).wf = true) → (b0.length ≤ maxLen ∧ ∀ x0_ ∈ b0, (Lit.int .i64 x0_).wf = true) → (c0.length ≤ maxLen ∧ ∀ x0_ ∈ c0, (x0_.length ≤ maxLen ∧ ∀ x1_ ∈ x0_, (Lit.int .i64 x1_).wf = true)) → ∃ k, Fu_.f k d0 e0 a0 b0 c0 = some true
theorem Fu_.walk (P : Fu_.Pure) (d0 : Int) (e0 : Int) (f0 : Option Addr) (g0 : Nat) (a0 : List Int) (h0 : Option Addr) (i0 : Nat) (b0 : List Int) (j0 : Option Addr) (k0 : Nat) (c0 : List (List Int)) (w : World) (hr0_2 : Kd.C (Kd.int .i64) w f0 a0.length a0) (hc0_2 : a0.length ≤ g0) (hr0_3 : Kd.C (Kd.int .i64) w h0 b0.length b0) (hc0_3 : b0.length ≤ i0) (hr1_0 : Kd.C (Kd.slice 2 (Kd.int .i64)) w j0 c0.length c0) (hc1_0 : c0.length ≤ k0) (l0 : (Lit.int .i64 d0).wf = true) (m0 : (Lit.int .i64 e0).wf = true) (n0 : (a0.length ≤ maxLen ∧ ∀ x0_ ∈ a0, (Lit.int .i64 x0_).wf = true)) (o0 : (b0.length ≤ maxLen ∧ ∀ x0_ ∈ b0, (Lit.int .i64 x0_).wf = true)) (p0 : (c0.length ≤ maxLen ∧ ∀ x0_ ∈ c0, (x0_.length ≤ maxLen ∧ ∀ x1_ ∈ x0_, (Lit.int .i64 x1_).wf = true))) :
    Calls Try.prog 4 #[.agg #[.int .i64 d0, .int .i64 e0, .slice f0 a0.length g0, .slice h0 b0.length i0], .agg #[.slice j0 c0.length k0]] w fun e w' => e = .returned (.bool true) ∧ Below w.heap.size w w' := by
  obtain ⟨k, h⟩ := P d0 e0 a0 b0 c0 l0 m0 n0 o0 p0
  refine (Fu_.calls k d0 e0 _ _ a0 _ _ b0 _ _ c0 true w hr0_2 hc0_2 hr0_3 hc0_3 hr1_0 hc1_0 h rfl).mono ?_
  rintro e w' ⟨rfl, hd⟩
  exact ⟨rfl, hd⟩
mutual
def FX_.l0 : Nat → Int → Int → Int → List Int → List Int → List (List Int) → List (List Int) → Option (Bool)
  | 0, _, _, _, _, _, _, _ => none
  | k + 1, x5, b0, c0, d0, e0, a0, f0 => if x5 < (a0.length : Int) then (if 0 ≤ x5 then (if ((rd_L1 a0 x5).length : Int) > 100 then (some true) else (FX_.l0 k (wrap64 (x5 + 1)) b0 c0 d0 e0 a0 f0)) else (none)) else (FX_.l1 k 0 b0 c0 d0 e0 a0 f0)
def FX_.l1 : Nat → Int → Int → Int → List Int → List Int → List (List Int) → List (List Int) → Option (Bool)
  | 0, _, _, _, _, _, _, _ => none
  | k + 1, x6, b0, c0, d0, e0, f0, a0 => if x6 < (a0.length : Int) then (if 0 ≤ x6 then (if ((rd_L2 a0 x6).length : Int) > 100 then (some true) else (FX_.l1 k (wrap64 (x6 + 1)) b0 c0 d0 e0 f0 a0)) else (none)) else ((Gw_.f b0 c0 d0 e0).bind fun g0 => (if g0 = true then (some true) else (if (f0.length : Int) > 10 then (some true) else (some (decide ((a0.length : Int) > 10))))))
end
def FX_.f (k : Nat) (a0 : Int) (b0 : Int) (c0 : List Int) (d0 : List Int) (e0 : List (List Int)) (f0 : List (List Int)) : Option (Bool) := FX_.l0 k 0 a0 b0 c0 d0 e0 f0
theorem FX_.mono_l : ∀ k, (∀ y0 y1 y2 y3 y4 y5 y6, LeO (FX_.l0 k y0 y1 y2 y3 y4 y5 y6) (FX_.l0 (k + 1) y0 y1 y2 y3 y4 y5 y6)) ∧ (∀ y0 y1 y2 y3 y4 y5 y6, LeO (FX_.l1 k y0 y1 y2 y3 y4 y5 y6) (FX_.l1 (k + 1) y0 y1 y2 y3 y4 y5 y6))
  | 0 => ⟨fun _ _ _ _ _ _ _ r h => by simp [FX_.l0] at h, fun _ _ _ _ _ _ _ r h => by simp [FX_.l1] at h⟩
  | k + 1 => by
    obtain ⟨a0, b0⟩ := FX_.mono_l k
    refine ⟨?_, ?_⟩
    all_goals (intros; first | unfold FX_.l0 | unfold FX_.l1)
    all_goals with_reducible repeat' first
     | apply a0
     | exact b0 _ _ _ _ _ _ _
     | exact LeO.refl _
     | exact LeO.none _
     | refine LeO.ite ?_ ?_
     | refine LeO.bind ?_ (fun _ => ?_)
theorem FX_.mono : ∀ a0 a1 a2 a3 a4 a5 k, LeO (FX_.f k a0 a1 a2 a3 a4 a5) (FX_.f (k + 1) a0 a1 a2 a3 a4 a5) := by
  intro a0 a1 a2 a3 a4 a5 k
  obtain ⟨b0, c0⟩ := FX_.mono_l k
  unfold FX_.f
  with_reducible repeat' first
   | apply b0
   | exact c0 _ _ _ _ _ _ _
   | exact LeO.refl _
   | exact LeO.none _
   | refine LeO.ite ?_ ?_
   | refine LeO.bind ?_ (fun _ => ?_)
def psalterylaw16_As.f (a0 : Int) (b0 : Int) (c0 : List Int) (d0 : List Int) : Option (Int × Int) := some (a0, b0)
def F9_.l0 : Nat → Int → Int → Int → Option (Int)
  | 0, _, _, _ => none
  | k + 1, x0, x3, x4 => if (IntKind.u64.wrap (x4 - x3)) > 1 then (if (IntKind.u64.wrap ((IntKind.u64.wrap (Int.tdiv (IntKind.u64.wrap (x3 + x4)) 2)) * (IntKind.u64.wrap (Int.tdiv (IntKind.u64.wrap (x3 + x4)) 2)))) ≤ x0 then (F9_.l0 k x0 (IntKind.u64.wrap (Int.tdiv (IntKind.u64.wrap (x3 + x4)) 2)) x4) else (F9_.l0 k x0 x3 (IntKind.u64.wrap (Int.tdiv (IntKind.u64.wrap (x3 + x4)) 2)))) else (some x3)
def F9_.f (k : Nat) (a0 : Int) : Option (Int) := F9_.l0 k a0 0 4294967296
theorem F9_.mono_l : ∀ k, (∀ y0 y1 y2, LeO (F9_.l0 k y0 y1 y2) (F9_.l0 (k + 1) y0 y1 y2))
  | 0 => fun _ _ _ r h => by simp [F9_.l0] at h
  | k + 1 => by
    have a0 := F9_.mono_l k
    · intro y0 y1 y2
      unfold F9_.l0
      with_reducible repeat' first
   | apply a0
   | exact LeO.refl _
   | exact LeO.none _
   | refine LeO.ite ?_ ?_
   | refine LeO.bind ?_ (fun _ => ?_)
theorem F9_.mono : ∀ a0 k, LeO (F9_.f k a0) (F9_.f (k + 1) a0) := by
  intro a0 k
  have b0 := F9_.mono_l k
  unfold F9_.f
  with_reducible repeat' first
   | apply b0
   | exact LeO.refl _
   | exact LeO.none _
   | refine LeO.ite ?_ ?_
   | refine LeO.bind ?_ (fun _ => ?_)
mutual
def FJ_.j0 : Nat → Int → Bool → Option (Int)
  | 0, _, _ => none
  | k + 1, x0, a0 => if a0 = true then (some 0) else (FJ_.l0 k x0 1 1)
def FJ_.l0 : Nat → Int → Int → Int → Option (Int)
  | 0, _, _, _ => none
  | k + 1, x0, x3, x4 => if x4 < x0 then (FJ_.l0 k x0 (IntKind.u64.wrap (x3 * 2)) (wrap64 (x4 + 1))) else ((F9_.f k x3).bind fun a0 => (some (wrap64 (a0))))
end
def FJ_.f (k : Nat) (a0 : Int) : Option (Int) := if a0 < 1 then (FJ_.j0 k a0 true) else (FJ_.j0 k a0 (decide (a0 > 44)))
theorem FJ_.mono_l : ∀ k, (∀ y0 y1, LeO (FJ_.j0 k y0 y1) (FJ_.j0 (k + 1) y0 y1)) ∧ (∀ y0 y1 y2, LeO (FJ_.l0 k y0 y1 y2) (FJ_.l0 (k + 1) y0 y1 y2))
  | 0 => ⟨fun _ _ r h => by simp [FJ_.j0] at h, fun _ _ _ r h => by simp [FJ_.l0] at h⟩
  | k + 1 => by
    obtain ⟨a0, b0⟩ := FJ_.mono_l k
    refine ⟨?_, ?_⟩
    all_goals (intros; first | unfold FJ_.j0 | unfold FJ_.l0)
    all_goals with_reducible repeat' first
     | apply a0
     | exact b0 _ _ _
     | apply F9_.mono
     | exact LeO.refl _
     | exact LeO.none _
     | refine LeO.ite ?_ ?_
     | refine LeO.bind ?_ (fun _ => ?_)
theorem FJ_.mono : ∀ a0 k, LeO (FJ_.f k a0) (FJ_.f (k + 1) a0) := by
  intro a0 k
  obtain ⟨b0, c0⟩ := FJ_.mono_l k
  unfold FJ_.f
  with_reducible repeat' first
   | apply b0
   | exact c0 _ _ _
   | apply F9_.mono
   | exact LeO.refl _
   | exact LeO.none _
   | refine LeO.ite ?_ ?_
   | refine LeO.bind ?_ (fun _ => ?_)
def F4_.j0 : Nat → Int → Int → Bool → Option (Int)
  | 0, _, _, _ => none
  | k + 1, x0, x3, x4 => if x4 = true then (some x0) else (if x3 = 3 then (some 4) else (if x3 = 4 then (some 8) else (if x3 = 5 then (some 15) else (some (-1)))))
def F4_.f (k : Nat) (a0 : Int) : Option (Int) := if a0 = 0 then (F4_.j0 k a0 a0 (a0 == 0)) else (if a0 = 1 then (F4_.j0 k a0 a0 (a0 == 1)) else (F4_.j0 k a0 a0 (a0 == 2)))
theorem F4_.mono_l : ∀ k, (∀ y0 y1 y2, LeO (F4_.j0 k y0 y1 y2) (F4_.j0 (k + 1) y0 y1 y2))
  | 0 => fun _ _ _ r h => by simp [F4_.j0] at h
  | k + 1 => by
    have a0 := F4_.mono_l k
    · intro y0 y1 y2
      unfold F4_.j0
      with_reducible repeat' first
   | apply a0
   | exact LeO.refl _
   | exact LeO.none _
   | refine LeO.ite ?_ ?_
   | refine LeO.bind ?_ (fun _ => ?_)
theorem F4_.mono : ∀ a0 k, LeO (F4_.f k a0) (F4_.f (k + 1) a0) := by
  intro a0 k
  have b0 := F4_.mono_l k
  unfold F4_.f
  with_reducible repeat' first
   | apply b0
   | exact LeO.refl _
   | exact LeO.none _
   | refine LeO.ite ?_ ?_
   | refine LeO.bind ?_ (fun _ => ?_)
def Gd_.l0 : Nat → Int → Int → Int → Option (Int)
  | 0, _, _, _ => none
  | k + 1, x0, x3, x4 => if x4 < 6 then ((F4_.f k x4).bind fun a0 => (if a0 ≤ x0 then (Gd_.l0 k x0 x4 (wrap64 (x4 + 1))) else (Gd_.l0 k x0 x3 (wrap64 (x4 + 1))))) else (some x3)
def Gd_.f (k : Nat) (a0 : Int) : Option (Int) := Gd_.l0 k a0 0 0
theorem Gd_.mono_l : ∀ k, (∀ y0 y1 y2, LeO (Gd_.l0 k y0 y1 y2) (Gd_.l0 (k + 1) y0 y1 y2))
  | 0 => fun _ _ _ r h => by simp [Gd_.l0] at h
  | k + 1 => by
    have a0 := Gd_.mono_l k
    · intro y0 y1 y2
      unfold Gd_.l0
      with_reducible repeat' first
   | apply a0
   | apply F4_.mono
   | exact LeO.refl _
   | exact LeO.none _
   | refine LeO.ite ?_ ?_
   | refine LeO.bind ?_ (fun _ => ?_)
theorem Gd_.mono : ∀ a0 k, LeO (Gd_.f k a0) (Gd_.f (k + 1) a0) := by
  intro a0 k
  have b0 := Gd_.mono_l k
  unfold Gd_.f
  with_reducible repeat' first
   | apply b0
   | apply F4_.mono
   | exact LeO.refl _
   | exact LeO.none _
   | refine LeO.ite ?_ ?_
   | refine LeO.bind ?_ (fun _ => ?_)
def GI_.f (k : Nat) (l0 : List Int) (a1 : Int) : Option (Int) := (Gd_.f k a1).bind fun a0 => (if a0 = 5 then (if 5 < (l0.length : Int) then (some (rd l0 5)) else (none)) else (if 0 ≤ (wrap64 (a0 + 1)) then (if (wrap64 (a0 + 1)) < (l0.length : Int) then (if 0 ≤ a0 then (if a0 < (l0.length : Int) then ((F4_.f k a0).bind fun b0 => ((F4_.f k (wrap64 (a0 + 1))).bind fun c0 => (if (wrap64 ((wrap64 ((rd l0 (wrap64 (a0 + 1))) - (rd l0 a0))) * (wrap64 (a1 - b0)))) < 0 then (if (wrap64 (c0 - b0)) = 0 then (none) else (some (wrap64 ((rd l0 a0) - (wrap64 (Int.tdiv (wrap64 (-(wrap64 ((wrap64 ((rd l0 (wrap64 (a0 + 1))) - (rd l0 a0))) * (wrap64 (a1 - b0)))))) (wrap64 (c0 - b0)))))))) else (if (wrap64 (c0 - b0)) = 0 then (none) else (some (wrap64 ((rd l0 a0) + (wrap64 (Int.tdiv (wrap64 ((wrap64 ((rd l0 (wrap64 (a0 + 1))) - (rd l0 a0))) * (wrap64 (a1 - b0)))) (wrap64 (c0 - b0))))))))))) else (none)) else (none)) else (none)) else (none)))
theorem GI_.mono : ∀ a0 a1 k, LeO (GI_.f k a0 a1) (GI_.f (k + 1) a0 a1) := by
  intro a0 a1 k
  unfold GI_.f
  with_reducible repeat' first
   | apply F4_.mono
   | apply Gd_.mono
   | exact LeO.refl _
   | exact LeO.none _
   | refine LeO.ite ?_ ?_
   | refine LeO.bind ?_ (fun _ => ?_)
def GB_.f (k : Nat) (l0 : List Int) (a1 : Int) : Option (Int) := (GI_.f k l0 a1).bind fun b0 => ((FJ_.f k b0).bind fun a0 => (if a0 < 1 then (some 1) else (some a0)))
theorem GB_.mono : ∀ a0 a1 k, LeO (GB_.f k a0 a1) (GB_.f (k + 1) a0 a1) := by
  intro a0 a1 k
  unfold GB_.f
  with_reducible repeat' first
   | apply FJ_.mono
   | apply GI_.mono
   | exact LeO.refl _
   | exact LeO.none _
   | refine LeO.ite ?_ ?_
   | refine LeO.bind ?_ (fun _ => ?_)
def F2_.l0 : Nat → List Int → List Int → Int → Option (List Int)
  | 0, _, _, _ => none
  | k + 1, x0, x3, x4 => if x4 < 16 then ((GB_.f k x0 x4).bind fun a0 => (if x3.length < 17592186044416 then (F2_.l0 k x0 (x3 ++ [a0]) (wrap64 (x4 + 1))) else (none))) else (some x3)
def F2_.f (k : Nat) (l0 : List Int) : Option (List Int) := F2_.l0 k l0 ([] : List Int) 0
theorem F2_.mono_l : ∀ k, (∀ y0 y1 y2, LeO (F2_.l0 k y0 y1 y2) (F2_.l0 (k + 1) y0 y1 y2))
  | 0 => fun _ _ _ r h => by simp [F2_.l0] at h
  | k + 1 => by
    have a0 := F2_.mono_l k
    · intro y0 y1 y2
      unfold F2_.l0
      with_reducible repeat' first
   | apply a0
   | apply GB_.mono
   | exact LeO.refl _
   | exact LeO.none _
   | refine LeO.ite ?_ ?_
   | refine LeO.bind ?_ (fun _ => ?_)
theorem F2_.mono : ∀ a0 k, LeO (F2_.f k a0) (F2_.f (k + 1) a0) := by
  intro a0 k
  have b0 := F2_.mono_l k
  unfold F2_.f
  with_reducible repeat' first
   | apply b0
   | apply GB_.mono
   | exact LeO.refl _
   | exact LeO.none _
   | refine LeO.ite ?_ ?_
   | refine LeO.bind ?_ (fun _ => ?_)
mutual
def FC_.l0 : Nat → List Int → Int → Option (Int)
  | 0, _, _ => none
  | k + 1, x0, x5 => if x5 ≥ 0 then (if 0 ≤ x5 then (if x5 < (x0.length : Int) then (if (rd x0 x5) > 0 then (some x5) else (FC_.l0 k x0 (wrap64 (x5 - 1)))) else (none)) else (none)) else (FC_.l1 k x0 0)
def FC_.l1 : Nat → List Int → Int → Option (Int)
  | 0, _, _ => none
  | k + 1, x0, x6 => if x6 < (x0.length : Int) then (if 0 ≤ x6 then (if (rd x0 x6) > 0 then (some x6) else (FC_.l1 k x0 (wrap64 (x6 + 1)))) else (none)) else (some 0)
end
def FC_.f (k : Nat) (l0 : List Int) (a1 : Int) : Option (Int) := FC_.l0 k l0 a1
theorem FC_.mono_l : ∀ k, (∀ y0 y1, LeO (FC_.l0 k y0 y1) (FC_.l0 (k + 1) y0 y1)) ∧ (∀ y0 y1, LeO (FC_.l1 k y0 y1) (FC_.l1 (k + 1) y0 y1))
  | 0 => ⟨fun _ _ r h => by simp [FC_.l0] at h, fun _ _ r h => by simp [FC_.l1] at h⟩
  | k + 1 => by
    obtain ⟨a0, b0⟩ := FC_.mono_l k
    refine ⟨?_, ?_⟩
    all_goals (intros; first | unfold FC_.l0 | unfold FC_.l1)
    all_goals with_reducible repeat' first
     | apply a0
     | exact b0 _ _
     | exact LeO.refl _
     | exact LeO.none _
     | refine LeO.ite ?_ ?_
     | refine LeO.bind ?_ (fun _ => ?_)
theorem FC_.mono : ∀ a0 a1 k, LeO (FC_.f k a0 a1) (FC_.f (k + 1) a0 a1) := by
  intro a0 a1 k
  obtain ⟨b0, c0⟩ := FC_.mono_l k
  unfold FC_.f
  with_reducible repeat' first
   | apply b0
   | exact c0 _ _
   | exact LeO.refl _
   | exact LeO.none _
   | refine LeO.ite ?_ ?_
   | refine LeO.bind ?_ (fun _ => ?_)
def Gh_.j0 : Nat → Int → Int → Option (Int)
  | 0, _, _ => none
  | k + 1, x1, x7 => if (wrap64 ((wrap64 (x7 - 13)) + x1)) < 0 then (some 0) else (if (wrap64 ((wrap64 (x7 - 13)) + x1)) > 44 then (some 44) else (some (wrap64 ((wrap64 (x7 - 13)) + x1))))
def Gh_.f (k : Nat) (l0 : List Int) (a1 : Int) (a2 : Int) : Option (Int) := if a1 = 0 then (some 0) else (if 4 < (l0.length : Int) then (if a2 < 4 then (if 0 ≤ a2 then (if a2 < (l0.length : Int) then (Gh_.j0 k a1 (rd l0 a2)) else (none)) else (none)) else (Gh_.j0 k a1 (rd l0 4))) else (none))
theorem Gh_.mono_l : ∀ k, (∀ y0 y1, LeO (Gh_.j0 k y0 y1) (Gh_.j0 (k + 1) y0 y1))
  | 0 => fun _ _ r h => by simp [Gh_.j0] at h
  | k + 1 => by
    have a0 := Gh_.mono_l k
    · intro y0 y1
      unfold Gh_.j0
      with_reducible repeat' first
   | apply a0
   | exact LeO.refl _
   | exact LeO.none _
   | refine LeO.ite ?_ ?_
   | refine LeO.bind ?_ (fun _ => ?_)
theorem Gh_.mono : ∀ a0 a1 a2 k, LeO (Gh_.f k a0 a1 a2) (Gh_.f (k + 1) a0 a1 a2) := by
  intro a0 a1 a2 k
  have b0 := Gh_.mono_l k
  unfold Gh_.f
  with_reducible repeat' first
   | apply b0
   | exact LeO.refl _
   | exact LeO.none _
   | refine LeO.ite ?_ ?_
   | refine LeO.bind ?_ (fun _ => ?_)
def G0_.f (a0 : Int) : Option (Int) := if a0 < 0 then (some (wrap64 (-a0))) else (some a0)
def F3_.l0 : Nat → List Int → Int → Int → Option (Int)
  | 0, _, _, _ => none
  | k + 1, x0, x3, x4 => if x4 < (x0.length : Int) then (if 0 ≤ x4 then ((G0_.f (rd x0 x4)).bind fun a0 => (F3_.l0 k x0 (IntKind.u64.wrap (x3 + (IntKind.u64.wrap ((IntKind.u64.wrap (a0)) * (IntKind.u64.wrap (a0)))))) (wrap64 (x4 + 1)))) else (none)) else (some x3)
def F3_.f (k : Nat) (l0 : List Int) : Option (Int) := F3_.l0 k l0 0 0
theorem F3_.mono_l : ∀ k, (∀ y0 y1 y2, LeO (F3_.l0 k y0 y1 y2) (F3_.l0 (k + 1) y0 y1 y2))
  | 0 => fun _ _ _ r h => by simp [F3_.l0] at h
  | k + 1 => by
    have a0 := F3_.mono_l k
    · intro y0 y1 y2
      unfold F3_.l0
      with_reducible repeat' first
   | apply a0
   | exact LeO.refl _
   | exact LeO.none _
   | refine LeO.ite ?_ ?_
   | refine LeO.bind ?_ (fun _ => ?_)
theorem F3_.mono : ∀ a0 k, LeO (F3_.f k a0) (F3_.f (k + 1) a0) := by
  intro a0 k
  have b0 := F3_.mono_l k
  unfold F3_.f
  with_reducible repeat' first
   | apply b0
   | exact LeO.refl _
   | exact LeO.none _
   | refine LeO.ite ?_ ?_
   | refine LeO.bind ?_ (fun _ => ?_)
def Gc_.l0 : Nat → Int → Int → Option (Int)
  | 0, _, _ => none
  | k + 1, x3, x4 => if x3 > 0 then (Gc_.l0 k (IntKind.u64.wrap (Int.tdiv x3 2)) (wrap64 (x4 + 1))) else (some x4)
def Gc_.f (k : Nat) (l0 : List Int) : Option (Int) := (F3_.f k l0).bind fun a0 => (Gc_.l0 k a0 0)
theorem Gc_.mono_l : ∀ k, (∀ y0 y1, LeO (Gc_.l0 k y0 y1) (Gc_.l0 (k + 1) y0 y1))
  | 0 => fun _ _ r h => by simp [Gc_.l0] at h
  | k + 1 => by
    have a0 := Gc_.mono_l k
    · intro y0 y1
      unfold Gc_.l0
      with_reducible repeat' first
   | apply a0
   | apply F3_.mono
   | exact LeO.refl _
   | exact LeO.none _
   | refine LeO.ite ?_ ?_
   | refine LeO.bind ?_ (fun _ => ?_)
theorem Gc_.mono : ∀ a0 k, LeO (Gc_.f k a0) (Gc_.f (k + 1) a0) := by
  intro a0 k
  have b0 := Gc_.mono_l k
  unfold Gc_.f
  with_reducible repeat' first
   | apply b0
   | apply F3_.mono
   | exact LeO.refl _
   | exact LeO.none _
   | refine LeO.ite ?_ ?_
   | refine LeO.bind ?_ (fun _ => ?_)
def F6_.j0 : Nat → Int → Bool → Option (Int)
  | 0, _, _ => none
  | k + 1, x3, x4 => if x4 = true then (some 1) else (if x3 = 2 then (some 2) else (if x3 = 3 then (some 4) else (if x3 = 4 then (some 8) else (some 0))))
def F6_.f (k : Nat) (a0 : Int) : Option (Int) := if a0 = 0 then (F6_.j0 k a0 (a0 == 0)) else (F6_.j0 k a0 (a0 == 1))
theorem F6_.mono_l : ∀ k, (∀ y0 y1, LeO (F6_.j0 k y0 y1) (F6_.j0 (k + 1) y0 y1))
  | 0 => fun _ _ r h => by simp [F6_.j0] at h
  | k + 1 => by
    have a0 := F6_.mono_l k
    · intro y0 y1
      unfold F6_.j0
      with_reducible repeat' first
   | apply a0
   | exact LeO.refl _
   | exact LeO.none _
   | refine LeO.ite ?_ ?_
   | refine LeO.bind ?_ (fun _ => ?_)
theorem F6_.mono : ∀ a0 k, LeO (F6_.f k a0) (F6_.f (k + 1) a0) := by
  intro a0 k
  have b0 := F6_.mono_l k
  unfold F6_.f
  with_reducible repeat' first
   | apply b0
   | exact LeO.refl _
   | exact LeO.none _
   | refine LeO.ite ?_ ?_
   | refine LeO.bind ?_ (fun _ => ?_)
def GZ_.f (a0 : Int) : Option (Int) := if a0 = 1 then (some 1) else (if a0 = 2 then (some 2) else (if a0 = 3 then (some 4) else (if a0 = 4 then (some 8) else (some 0))))
def Gb_.l0 : Nat → List Int → Int → List Int → Int → Option (List Int)
  | 0, _, _, _, _ => none
  | k + 1, x0, x1, x5, x6 => (F6_.f k x1).bind fun b0 => (if x6 < b0 then ((GZ_.f x1).bind fun a0 => (if 0 ≤ (wrap64 (a0 + x6)) then (if (wrap64 (a0 + x6)) < (x0.length : Int) then (if x5.length < 17592186044416 then (Gb_.l0 k x0 x1 (x5 ++ [rd x0 (wrap64 (a0 + x6))]) (wrap64 (x6 + 1))) else (none)) else (none)) else (none))) else (some x5))
def Gb_.f (k : Nat) (l0 : List Int) (a1 : Int) : Option (List Int) := Gb_.l0 k l0 a1 ([] : List Int) 0
theorem Gb_.mono_l : ∀ k, (∀ y0 y1 y2 y3, LeO (Gb_.l0 k y0 y1 y2 y3) (Gb_.l0 (k + 1) y0 y1 y2 y3))
  | 0 => fun _ _ _ _ r h => by simp [Gb_.l0] at h
  | k + 1 => by
    have a0 := Gb_.mono_l k
    · intro y0 y1 y2 y3
      unfold Gb_.l0
      with_reducible repeat' first
   | apply a0
   | apply F6_.mono
   | exact LeO.refl _
   | exact LeO.none _
   | refine LeO.ite ?_ ?_
   | refine LeO.bind ?_ (fun _ => ?_)
theorem Gb_.mono : ∀ a0 a1 k, LeO (Gb_.f k a0 a1) (Gb_.f (k + 1) a0 a1) := by
  intro a0 a1 k
  have b0 := Gb_.mono_l k
  unfold Gb_.f
  with_reducible repeat' first
   | apply b0
   | apply F6_.mono
   | exact LeO.refl _
   | exact LeO.none _
   | refine LeO.ite ?_ ?_
   | refine LeO.bind ?_ (fun _ => ?_)
def F7_.l0 : Nat → List Int → List Int → Int → Option (List Int)
  | 0, _, _, _ => none
  | k + 1, x0, x3, x4 => if x4 < 5 then ((Gb_.f k x0 x4).bind fun a0 => ((Gc_.f k a0).bind fun b0 => (if x3.length < 17592186044416 then (F7_.l0 k x0 (x3 ++ [b0]) (wrap64 (x4 + 1))) else (none)))) else (some x3)
def F7_.f (k : Nat) (l0 : List Int) : Option (List Int) := F7_.l0 k l0 ([] : List Int) 0
theorem F7_.mono_l : ∀ k, (∀ y0 y1 y2, LeO (F7_.l0 k y0 y1 y2) (F7_.l0 (k + 1) y0 y1 y2))
  | 0 => fun _ _ _ r h => by simp [F7_.l0] at h
  | k + 1 => by
    have a0 := F7_.mono_l k
    · intro y0 y1 y2
      unfold F7_.l0
      with_reducible repeat' first
   | apply a0
   | apply Gb_.mono
   | apply Gc_.mono
   | exact LeO.refl _
   | exact LeO.none _
   | refine LeO.ite ?_ ?_
   | refine LeO.bind ?_ (fun _ => ?_)
theorem F7_.mono : ∀ a0 k, LeO (F7_.f k a0) (F7_.f (k + 1) a0) := by
  intro a0 k
  have b0 := F7_.mono_l k
  unfold F7_.f
  with_reducible repeat' first
   | apply b0
   | apply Gb_.mono
   | apply Gc_.mono
   | exact LeO.refl _
   | exact LeO.none _
   | refine LeO.ite ?_ ?_
   | refine LeO.bind ?_ (fun _ => ?_)
def F8_.l0 : Nat → List Int → List Int → Int → Int → Int → List Int → List Int → Option (List Int)
  | 0, _, _, _, _, _, _, _ => none
  | k + 1, x1, x5, x6, c0, a0, b0, d0 => if x6 < 6 then ((F7_.f k x1).bind fun e0 => ((Gh_.f k e0 a0 x6).bind fun f0 => ((FC_.f k b0 f0).bind fun g0 => (if x5.length < 17592186044416 then (F8_.l0 k x1 (x5 ++ [g0]) (wrap64 (x6 + 1)) c0 a0 b0 d0) else (none))))) else (some x5)
def F8_.f (k : Nat) (a0 : Int) (b0 : Int) (c0 : List Int) (d0 : List Int) (l1 : List Int) : Option (List Int) := F8_.l0 k l1 ([] : List Int) 0 a0 b0 c0 d0
theorem F8_.mono_l : ∀ k, (∀ y0 y1 y2 y3 y4 y5 y6, LeO (F8_.l0 k y0 y1 y2 y3 y4 y5 y6) (F8_.l0 (k + 1) y0 y1 y2 y3 y4 y5 y6))
  | 0 => fun _ _ _ _ _ _ _ r h => by simp [F8_.l0] at h
  | k + 1 => by
    have a0 := F8_.mono_l k
    · intro y0 y1 y2 y3 y4 y5 y6
      unfold F8_.l0
      with_reducible repeat' first
   | apply a0
   | apply F7_.mono
   | apply Gh_.mono
   | apply FC_.mono
   | exact LeO.refl _
   | exact LeO.none _
   | refine LeO.ite ?_ ?_
   | refine LeO.bind ?_ (fun _ => ?_)
theorem F8_.mono : ∀ a0 a1 a2 a3 a4 k, LeO (F8_.f k a0 a1 a2 a3 a4) (F8_.f (k + 1) a0 a1 a2 a3 a4) := by
  intro a0 a1 a2 a3 a4 k
  have b0 := F8_.mono_l k
  unfold F8_.f
  with_reducible repeat' first
   | apply b0
   | apply F7_.mono
   | apply Gh_.mono
   | apply FC_.mono
   | exact LeO.refl _
   | exact LeO.none _
   | refine LeO.ite ?_ ?_
   | refine LeO.bind ?_ (fun _ => ?_)
def Gi_.j0 : Nat → Int → Int → Int → Bool → Option (Int)
  | 0, _, _, _, _ => none
  | k + 1, x1, x5, x6, a0 => if a0 = true then (some (wrap64 (x5 + 1))) else (if x6 < 0 then (if (wrap64 (-x6)) ≥ (wrap64 (x1 + x6)) then (some (wrap64 (x5 - 1))) else (some x5)) else (some x5))
def Gi_.f (k : Nat) (a0 : Int) (a1 : Int) : Option (Int) := if a1 = 0 then (none) else (if (wrap64 (a0 - (wrap64 ((wrap64 (Int.tdiv a0 a1)) * a1)))) ≥ 0 then (Gi_.j0 k a1 (wrap64 (Int.tdiv a0 a1)) (wrap64 (a0 - (wrap64 ((wrap64 (Int.tdiv a0 a1)) * a1)))) (decide ((wrap64 (a0 - (wrap64 ((wrap64 (Int.tdiv a0 a1)) * a1)))) ≥ (wrap64 (a1 - (wrap64 (a0 - (wrap64 ((wrap64 (Int.tdiv a0 a1)) * a1))))))))) else (Gi_.j0 k a1 (wrap64 (Int.tdiv a0 a1)) (wrap64 (a0 - (wrap64 ((wrap64 (Int.tdiv a0 a1)) * a1)))) false))
theorem Gi_.mono_l : ∀ k, (∀ y0 y1 y2 y3, LeO (Gi_.j0 k y0 y1 y2 y3) (Gi_.j0 (k + 1) y0 y1 y2 y3))
  | 0 => fun _ _ _ _ r h => by simp [Gi_.j0] at h
  | k + 1 => by
    have a0 := Gi_.mono_l k
    · intro y0 y1 y2 y3
      unfold Gi_.j0
      with_reducible repeat' first
   | apply a0
   | exact LeO.refl _
   | exact LeO.none _
   | refine LeO.ite ?_ ?_
   | refine LeO.bind ?_ (fun _ => ?_)
theorem Gi_.mono : ∀ a0 a1 k, LeO (Gi_.f k a0 a1) (Gi_.f (k + 1) a0 a1) := by
  intro a0 a1 k
  have b0 := Gi_.mono_l k
  unfold Gi_.f
  with_reducible repeat' first
   | apply b0
   | exact LeO.refl _
   | exact LeO.none _
   | refine LeO.ite ?_ ?_
   | refine LeO.bind ?_ (fun _ => ?_)
def FW_.l0 : Nat → List Int → List Int → List Int → Int → Option (List Int)
  | 0, _, _, _, _ => none
  | k + 1, x0, x1, x5, x6 => if x6 < 16 then (if 0 ≤ x6 then (if x6 < (x0.length : Int) then (if x6 < (x1.length : Int) then ((Gi_.f k (rd x0 x6) (rd x1 x6)).bind fun a0 => (if x5.length < 17592186044416 then (FW_.l0 k x0 x1 (x5 ++ [a0]) (wrap64 (x6 + 1))) else (none))) else (none)) else (none)) else (none)) else (some x5)
def FW_.f (k : Nat) (l0 : List Int) (l1 : List Int) : Option (List Int) := FW_.l0 k l0 l1 ([] : List Int) 0
theorem FW_.mono_l : ∀ k, (∀ y0 y1 y2 y3, LeO (FW_.l0 k y0 y1 y2 y3) (FW_.l0 (k + 1) y0 y1 y2 y3))
  | 0 => fun _ _ _ _ r h => by simp [FW_.l0] at h
  | k + 1 => by
    have a0 := FW_.mono_l k
    · intro y0 y1 y2 y3
      unfold FW_.l0
      with_reducible repeat' first
   | apply a0
   | apply Gi_.mono
   | exact LeO.refl _
   | exact LeO.none _
   | refine LeO.ite ?_ ?_
   | refine LeO.bind ?_ (fun _ => ?_)
theorem FW_.mono : ∀ a0 a1 k, LeO (FW_.f k a0 a1) (FW_.f (k + 1) a0 a1) := by
  intro a0 a1 k
  have b0 := FW_.mono_l k
  unfold FW_.f
  with_reducible repeat' first
   | apply b0
   | apply Gi_.mono
   | exact LeO.refl _
   | exact LeO.none _
   | refine LeO.ite ?_ ?_
   | refine LeO.bind ?_ (fun _ => ?_)
def FZ_.l0 : Nat → List Int → Int → Option (Bool)
  | 0, _, _ => none
  | k + 1, x0, x3 => if x3 < (x0.length : Int) then (if 0 ≤ x3 then (if (rd x0 x3) = 0 then (FZ_.l0 k x0 (wrap64 (x3 + 1))) else (some false)) else (none)) else (some true)
def FZ_.f (k : Nat) (l0 : List Int) : Option (Bool) := FZ_.l0 k l0 0
theorem FZ_.mono_l : ∀ k, (∀ y0 y1, LeO (FZ_.l0 k y0 y1) (FZ_.l0 (k + 1) y0 y1))
  | 0 => fun _ _ r h => by simp [FZ_.l0] at h
  | k + 1 => by
    have a0 := FZ_.mono_l k
    · intro y0 y1
      unfold FZ_.l0
      with_reducible repeat' first
   | apply a0
   | exact LeO.refl _
   | exact LeO.none _
   | refine LeO.ite ?_ ?_
   | refine LeO.bind ?_ (fun _ => ?_)
theorem FZ_.mono : ∀ a0 k, LeO (FZ_.f k a0) (FZ_.f (k + 1) a0) := by
  intro a0 k
  have b0 := FZ_.mono_l k
  unfold FZ_.f
  with_reducible repeat' first
   | apply b0
   | exact LeO.refl _
   | exact LeO.none _
   | refine LeO.ite ?_ ?_
   | refine LeO.bind ?_ (fun _ => ?_)
def GW_.f (a0 : Int) : Option (Int) := if a0 < 0 then (some (wrap64 (-a0))) else (some a0)
def GX_.f (a0 : Int) (a1 : Int) : Option (Int × Int) := (GW_.f a0).bind fun b0 => ((GW_.f a1).bind fun c0 => (if b0 > c0 then (if a0 > 0 then (some (a0, wrap64 (a0 - a1))) else (some (a0, wrap64 (a1 - a0)))) else (if a1 > 0 then (some (a1, wrap64 (a0 - a1))) else (some (a1, wrap64 (a1 - a0))))))
mutual
def FH_.l0 : Nat → Int → Int → Int → Int → List Int → List Int → List (List Int) → List (List Int) → List (List Int) → Option ((List (List Int)) × (List (List Int)))
  | 0, _, _, _, _, _, _, _, _, _ => none
  | k + 1, x6, x7, d0, e0, f0, g0, c0, a0, b0 => if x7 < d0 then (if 0 ≤ x7 then (if x7 < (c0.length : Int) then ((F8_.f k d0 e0 f0 g0 (rd_L2 c0 x7)).bind fun h0 => ((F2_.f k h0).bind fun j0 => ((FW_.f k (rd_L2 c0 x7) j0).bind fun i0 => ((FZ_.f k i0).bind fun k0 => (if k0 = true then (if a0.length < 5864062014805 then (if b0.length < 5864062014805 then (FH_.l0 k x6 (wrap64 (x7 + 1)) d0 e0 f0 g0 c0 (a0 ++ [[]]) (b0 ++ [[]])) else (none)) else (none)) else (if a0.length < 5864062014805 then (if b0.length < 5864062014805 then (FH_.l0 k (wrap64 (x6 + 1)) (wrap64 (x7 + 1)) d0 e0 f0 g0 c0 (a0 ++ [h0]) (b0 ++ [i0])) else (none)) else (none))))))) else (none)) else (none)) else (if x6 = 2 then (FH_.l1 k ([] : List Int) ([] : List Int) 0 a0 b0) else (some (a0, b0)))
def FH_.l1 : Nat → List Int → List Int → Int → List (List Int) → List (List Int) → Option ((List (List Int)) × (List (List Int)))
  | 0, _, _, _, _, _ => none
  | k + 1, e0, f0, b0, c0, a0 => if b0 < 16 then (if 0 < (a0.length : Int) then (if 0 ≤ b0 then (if b0 < ((rd_L2 a0 0).length : Int) then (if 1 < (a0.length : Int) then (if b0 < ((rd_L2 a0 1).length : Int) then ((GX_.f (rd (rd_L2 a0 0) b0) (rd (rd_L2 a0 1) b0)).bind fun d0 => (if e0.length < 17592186044416 then (if f0.length < 17592186044416 then (FH_.l1 k (e0 ++ [d0.1]) (f0 ++ [d0.2]) (wrap64 (b0 + 1)) c0 a0) else (none)) else (none))) else (none)) else (none)) else (none)) else (none)) else (none)) else (some (c0, (([e0, f0] : List (List Int)))))
end
def FH_.f (k : Nat) (a0 : Int) (b0 : Int) (c0 : List Int) (d0 : List Int) (e0 : List (List Int)) : Option ((List (List Int)) × (List (List Int))) := FH_.l0 k 0 0 a0 b0 c0 d0 e0 ([] : List (List Int)) ([] : List (List Int))
theorem FH_.mono_l : ∀ k, (∀ y0 y1 y2 y3 y4 y5 y6 y7 y8, LeO (FH_.l0 k y0 y1 y2 y3 y4 y5 y6 y7 y8) (FH_.l0 (k + 1) y0 y1 y2 y3 y4 y5 y6 y7 y8)) ∧ (∀ y0 y1 y2 y3 y4, LeO (FH_.l1 k y0 y1 y2 y3 y4) (FH_.l1 (k + 1) y0 y1 y2 y3 y4))
  | 0 => ⟨fun _ _ _ _ _ _ _ _ _ r h => by simp [FH_.l0] at h, fun _ _ _ _ _ r h => by simp [FH_.l1] at h⟩
  | k + 1 => by
    obtain ⟨a0, b0⟩ := FH_.mono_l k
    refine ⟨?_, ?_⟩
    all_goals (intros; first | unfold FH_.l0 | unfold FH_.l1)
    all_goals with_reducible repeat' first
     | apply a0
     | exact b0 _ _ _ _ _
     | apply FW_.mono
     | apply F2_.mono
     | apply F8_.mono
     | apply FZ_.mono
     | exact LeO.refl _
     | exact LeO.none _
     | refine LeO.ite ?_ ?_
     | refine LeO.bind ?_ (fun _ => ?_)
theorem FH_.mono : ∀ a0 a1 a2 a3 a4 k, LeO (FH_.f k a0 a1 a2 a3 a4) (FH_.f (k + 1) a0 a1 a2 a3 a4) := by
  intro a0 a1 a2 a3 a4 k
  obtain ⟨b0, c0⟩ := FH_.mono_l k
  unfold FH_.f
  with_reducible repeat' first
   | apply b0
   | exact c0 _ _ _ _ _
   | apply FW_.mono
   | apply F2_.mono
   | apply F8_.mono
   | apply FZ_.mono
   | exact LeO.refl _
   | exact LeO.none _
   | refine LeO.ite ?_ ?_
   | refine LeO.bind ?_ (fun _ => ?_)
mutual
def Fl_.j0 : Nat → List Int → Bool → Option (Bool)
  | 0, _, _ => none
  | k + 1, x0, a0 => if a0 = true then (some false) else (Fl_.l0 k x0 0 0 0)
def Fl_.l0 : Nat → List Int → Int → Int → Int → Option (Bool)
  | 0, _, _, _, _ => none
  | k + 1, x0, x3, x4, x5 => if x5 < (x0.length : Int) then (if 0 ≤ x5 then (if (rd x0 x5) < 0 then (Fl_.j2 k x0 x3 x4 x5 true) else (Fl_.j2 k x0 x3 x4 x5 (decide ((rd x0 x5) > 16)))) else (none)) else (if x4 = 1 then (some (x3 == 32768)) else (if x4 > 1 then (some (x3 == 65536)) else (some false)))
def Fl_.j2 : Nat → List Int → Int → Int → Int → Bool → Option (Bool)
  | 0, _, _, _, _, _ => none
  | k + 1, x0, x3, x4, x5, a0 => if a0 = true then (some false) else (if 0 ≤ x5 then (if x5 < (x0.length : Int) then (if (rd x0 x5) > 0 then (Fl_.l1 k x0 x3 (wrap64 (x4 + 1)) x5 65536 0) else (Fl_.l0 k x0 x3 x4 (wrap64 (x5 + 1)))) else (none)) else (none))
def Fl_.l1 : Nat → List Int → Int → Int → Int → Int → Int → Option (Bool)
  | 0, _, _, _, _, _, _ => none
  | k + 1, x0, x3, x4, x5, x6, x7 => if 0 ≤ x5 then (if x5 < (x0.length : Int) then (if x7 < (rd x0 x5) then (Fl_.l1 k x0 x3 x4 x5 (wrap64 (Int.tdiv x6 2)) (wrap64 (x7 + 1))) else (Fl_.l0 k x0 (wrap64 (x3 + x6)) x4 (wrap64 (x5 + 1)))) else (none)) else (none)
end
def Fl_.f (k : Nat) (l0 : List Int) : Option (Bool) := if (l0.length : Int) < 2 then (Fl_.j0 k l0 true) else (Fl_.j0 k l0 (decide ((l0.length : Int) > 64)))
theorem Fl_.mono_l : ∀ k, (∀ y0 y1, LeO (Fl_.j0 k y0 y1) (Fl_.j0 (k + 1) y0 y1)) ∧ (∀ y0 y1 y2 y3, LeO (Fl_.l0 k y0 y1 y2 y3) (Fl_.l0 (k + 1) y0 y1 y2 y3)) ∧ (∀ y0 y1 y2 y3 y4, LeO (Fl_.j2 k y0 y1 y2 y3 y4) (Fl_.j2 (k + 1) y0 y1 y2 y3 y4)) ∧ (∀ y0 y1 y2 y3 y4 y5, LeO (Fl_.l1 k y0 y1 y2 y3 y4 y5) (Fl_.l1 (k + 1) y0 y1 y2 y3 y4 y5))
  | 0 => ⟨fun _ _ r h => by simp [Fl_.j0] at h, fun _ _ _ _ r h => by simp [Fl_.l0] at h, fun _ _ _ _ _ r h => by simp [Fl_.j2] at h, fun _ _ _ _ _ _ r h => by simp [Fl_.l1] at h⟩
  | k + 1 => by
    obtain ⟨a0, b0, c0, d0⟩ := Fl_.mono_l k
    refine ⟨?_, ?_, ?_, ?_⟩
    all_goals (intros; first | unfold Fl_.j0 | unfold Fl_.l0 | unfold Fl_.j2 | unfold Fl_.l1)
    all_goals with_reducible repeat' first
     | apply a0
     | exact b0 _ _ _ _
     | exact c0 _ _ _ _ _
     | exact d0 _ _ _ _ _ _
     | exact LeO.refl _
     | exact LeO.none _
     | refine LeO.ite ?_ ?_
     | refine LeO.bind ?_ (fun _ => ?_)
theorem Fl_.mono : ∀ a0 k, LeO (Fl_.f k a0) (Fl_.f (k + 1) a0) := by
  intro a0 k
  obtain ⟨b0, c0, d0, e0⟩ := Fl_.mono_l k
  unfold Fl_.f
  with_reducible repeat' first
   | apply b0
   | exact c0 _ _ _ _
   | exact d0 _ _ _ _ _
   | exact e0 _ _ _ _ _ _
   | exact LeO.refl _
   | exact LeO.none _
   | refine LeO.ite ?_ ?_
   | refine LeO.bind ?_ (fun _ => ?_)
mutual
def FA_.j0 : Nat → Bool → Int → Int → List Int → List Int → Option (Bool)
  | 0, _, _, _, _, _ => none
  | k + 1, e0, c0, d0, a0, b0 => if e0 = true then (some false) else (if (a0.length : Int) = 45 then (FA_.j1 k ((b0.length : Int) != 16) c0 d0 a0 b0) else (FA_.j1 k true c0 d0 a0 b0))
def FA_.j1 : Nat → Bool → Int → Int → List Int → List Int → Option (Bool)
  | 0, _, _, _, _, _ => none
  | k + 1, g0, e0, f0, b0, a0 => if g0 = true then (some false) else ((Fl_.f k b0).bind fun c0 => (if c0 = true then ((Fl_.f k a0).bind fun d0 => (if d0 = true then (if 15 < (a0.length : Int) then (some ((rd a0 15) != 0)) else (none)) else (some false))) else (some false)))
end
def FA_.f (k : Nat) (b0 : Int) (a0 : Int) (c0 : List Int) (d0 : List Int) : Option (Bool) := if b0 = 1 then (if a0 < 0 then (FA_.j0 k true b0 a0 c0 d0) else (FA_.j0 k (decide (a0 > 12)) b0 a0 c0 d0)) else (if b0 = 2 then (if a0 < 0 then (FA_.j0 k true b0 a0 c0 d0) else (FA_.j0 k (decide (a0 > 12)) b0 a0 c0 d0)) else (FA_.j0 k true b0 a0 c0 d0))
theorem FA_.mono_l : ∀ k, (∀ y0 y1 y2 y3 y4, LeO (FA_.j0 k y0 y1 y2 y3 y4) (FA_.j0 (k + 1) y0 y1 y2 y3 y4)) ∧ (∀ y0 y1 y2 y3 y4, LeO (FA_.j1 k y0 y1 y2 y3 y4) (FA_.j1 (k + 1) y0 y1 y2 y3 y4))
  | 0 => ⟨fun _ _ _ _ _ r h => by simp [FA_.j0] at h, fun _ _ _ _ _ r h => by simp [FA_.j1] at h⟩
  | k + 1 => by
    obtain ⟨a0, b0⟩ := FA_.mono_l k
    refine ⟨?_, ?_⟩
    all_goals (intros; first | unfold FA_.j0 | unfold FA_.j1)
    all_goals with_reducible repeat' first
     | apply a0
     | exact b0 _ _ _ _ _
     | apply Fl_.mono
     | exact LeO.refl _
     | exact LeO.none _
     | refine LeO.ite ?_ ?_
     | refine LeO.bind ?_ (fun _ => ?_)
theorem FA_.mono : ∀ a0 a1 a2 a3 k, LeO (FA_.f k a0 a1 a2 a3) (FA_.f (k + 1) a0 a1 a2 a3) := by
  intro a0 a1 a2 a3 k
  obtain ⟨b0, c0⟩ := FA_.mono_l k
  unfold FA_.f
  with_reducible repeat' first
   | apply b0
   | exact c0 _ _ _ _ _
   | apply Fl_.mono
   | exact LeO.refl _
   | exact LeO.none _
   | refine LeO.ite ?_ ?_
   | refine LeO.bind ?_ (fun _ => ?_)
mutual
def FF_.j0 : Nat → List Int → Bool → Option (Bool)
  | 0, _, _ => none
  | k + 1, x0, x3 => FF_.l0 k x0 x3 0
def FF_.l0 : Nat → List Int → Bool → Int → Option (Bool)
  | 0, _, _, _ => none
  | k + 1, x0, x3, x4 => if x4 < (x0.length : Int) then (if x3 = true then (if 0 ≤ x4 then (if (rd x0 x4) ≥ (-1048576) then (FF_.l0 k x0 (decide ((rd x0 x4) ≤ 1048576)) (wrap64 (x4 + 1))) else (FF_.l0 k x0 false (wrap64 (x4 + 1)))) else (none)) else (FF_.l0 k x0 false (wrap64 (x4 + 1)))) else (some x3)
end
def FF_.f (k : Nat) (l0 : List Int) : Option (Bool) := if (l0.length : Int) > 0 then (FF_.j0 k l0 (decide ((l0.length : Int) ≤ 16))) else (FF_.j0 k l0 false)
theorem FF_.mono_l : ∀ k, (∀ y0 y1, LeO (FF_.j0 k y0 y1) (FF_.j0 (k + 1) y0 y1)) ∧ (∀ y0 y1 y2, LeO (FF_.l0 k y0 y1 y2) (FF_.l0 (k + 1) y0 y1 y2))
  | 0 => ⟨fun _ _ r h => by simp [FF_.j0] at h, fun _ _ _ r h => by simp [FF_.l0] at h⟩
  | k + 1 => by
    obtain ⟨a0, b0⟩ := FF_.mono_l k
    refine ⟨?_, ?_⟩
    all_goals (intros; first | unfold FF_.j0 | unfold FF_.l0)
    all_goals with_reducible repeat' first
     | apply a0
     | exact b0 _ _ _
     | exact LeO.refl _
     | exact LeO.none _
     | refine LeO.ite ?_ ?_
     | refine LeO.bind ?_ (fun _ => ?_)
theorem FF_.mono : ∀ a0 k, LeO (FF_.f k a0) (FF_.f (k + 1) a0) := by
  intro a0 k
  obtain ⟨b0, c0⟩ := FF_.mono_l k
  unfold FF_.f
  with_reducible repeat' first
   | apply b0
   | exact c0 _ _ _
   | exact LeO.refl _
   | exact LeO.none _
   | refine LeO.ite ?_ ?_
   | refine LeO.bind ?_ (fun _ => ?_)
def GC_.f (k : Nat) (l0 : List Int) : Option (Bool) := if (l0.length : Int) = 16 then ((FF_.f k l0).bind fun a0 => (some a0)) else (some false)
theorem GC_.mono : ∀ a0 k, LeO (GC_.f k a0) (GC_.f (k + 1) a0) := by
  intro a0 k
  unfold GC_.f
  with_reducible repeat' first
   | apply FF_.mono
   | exact LeO.refl _
   | exact LeO.none _
   | refine LeO.ite ?_ ?_
   | refine LeO.bind ?_ (fun _ => ?_)
mutual
def FQ_.j0 : Nat → Bool → List (List Int) → Option (Bool)
  | 0, _, _ => none
  | k + 1, b0, a0 => if b0 = true then (some false) else (FQ_.l0 k 0 a0)
def FQ_.l0 : Nat → Int → List (List Int) → Option (Bool)
  | 0, _, _ => none
  | k + 1, x5, a0 => if x5 < (a0.length : Int) then (if 0 ≤ x5 then ((GC_.f k (rd_L2 a0 x5)).bind fun b0 => (if b0 = true then (FQ_.l0 k (wrap64 (x5 + 1)) a0) else (some false))) else (none)) else (some true)
end
def FQ_.f (k : Nat) (b0 : Int) (c0 : Int) (d0 : List Int) (e0 : List Int) (a0 : List (List Int)) : Option (Bool) := (FA_.f k b0 c0 d0 e0).bind fun f0 => (if f0 = true then (FQ_.j0 k ((a0.length : Int) != b0) a0) else (FQ_.j0 k true a0))
theorem FQ_.mono_l : ∀ k, (∀ y0 y1, LeO (FQ_.j0 k y0 y1) (FQ_.j0 (k + 1) y0 y1)) ∧ (∀ y0 y1, LeO (FQ_.l0 k y0 y1) (FQ_.l0 (k + 1) y0 y1))
  | 0 => ⟨fun _ _ r h => by simp [FQ_.j0] at h, fun _ _ r h => by simp [FQ_.l0] at h⟩
  | k + 1 => by
    obtain ⟨a0, b0⟩ := FQ_.mono_l k
    refine ⟨?_, ?_⟩
    all_goals (intros; first | unfold FQ_.j0 | unfold FQ_.l0)
    all_goals with_reducible repeat' first
     | apply a0
     | exact b0 _ _
     | apply GC_.mono
     | apply FA_.mono
     | exact LeO.refl _
     | exact LeO.none _
     | refine LeO.ite ?_ ?_
     | refine LeO.bind ?_ (fun _ => ?_)
theorem FQ_.mono : ∀ a0 a1 a2 a3 a4 k, LeO (FQ_.f k a0 a1 a2 a3 a4) (FQ_.f (k + 1) a0 a1 a2 a3 a4) := by
  intro a0 a1 a2 a3 a4 k
  obtain ⟨b0, c0⟩ := FQ_.mono_l k
  unfold FQ_.f
  with_reducible repeat' first
   | apply b0
   | exact c0 _ _
   | apply GC_.mono
   | apply FA_.mono
   | exact LeO.refl _
   | exact LeO.none _
   | refine LeO.ite ?_ ?_
   | refine LeO.bind ?_ (fun _ => ?_)
end Go.Proofs.Ytdajlfijkbafiaa.P
namespace Go.Proofs.Ytdajlfijkbafiaa.BT
def nth (l : List Int) (i : Nat) : Int := l.getD i 0
theorem nth_lt {l : List Int} {i : Nat} (h : i < l.length) : nth l i = l[i] := by simp [nth, h]
theorem nth_ge {l : List Int} {i : Nat} (h : l.length ≤ i) : nth l i = 0 := by simp [nth, h]
theorem nth_mem {l : List Int} {i : Nat} (h : i < l.length) : nth l i ∈ l := by rw [nth_lt h]; exact List.getElem_mem h
theorem ext_nth {l m : List Int} (hl : l.length = m.length) (h : ∀ i, i < l.length → nth l i = nth m i) : l = m := by
 apply List.ext_getElem hl
 intro i h1 h2
 have := h i h1
 rwa [nth_lt h1, nth_lt h2] at this
theorem nth_append (l m : List Int) (i : Nat) : nth (l ++ m) i = if i < l.length then nth l i else nth m (i - l.length) := by
 unfold nth List.getD; rw [List.getElem?_append]; split <;> rfl
theorem nth_snoc (l : List Int) (b : Int) (i : Nat) : nth (l ++ [b]) i = if i < l.length then nth l i else if i = l.length then b else 0 := by
 rw [nth_append]; split
 ·rfl
 ·split
  ·rename_i e; subst e; simp [nth]
  ·rw [nth_ge]; simp; omega
theorem nth_map_range (f : Nat → Int) (n i : Nat) : nth ((List.range n).map f) i = if i < n then f i else 0 := by
 by_cases h : i < n
 ·rw [if_pos h, nth_lt (by simpa using h)]; simp
 ·rw [if_neg h, nth_ge (by simpa using h)]
theorem nth_take (l : List Int) (n i : Nat) : nth (l.take n) i = if i < n then nth l i else 0 := by
 unfold nth List.getD; rw [List.getElem?_take]; split <;> rfl
theorem nth_set (l : List Int) (j i : Nat) (x : Int) (hj : j < l.length) : nth (l.set j x) i = if i = j then x else nth l i := by
 unfold nth List.getD; rw [List.getElem?_set]
 by_cases e : i = j
 ·subst e; simp [hj]
 ·rw [if_neg (by omega), if_neg e]
def bitN (l : List Int) (i : Nat) : Int := nth l (i / 8) / 2 ^ (i % 8) % 2
def bitsL (l : List Int) : List Int := (List.range (8 * l.length)).map (bitN l)
def byteOf (f : Nat → Int) : Int := f 0 + 2 * f 1 + 4 * f 2 + 8 * f 3 + 16 * f 4 + 32 * f 5 + 64 * f 6 + 128 * f 7
def byteAt (l : List Int) (j : Nat) : Int := byteOf fun k => nth l (8 * j + k)
def pack (l : List Int) : List Int := (List.range ((l.length + 7) / 8)).map (byteAt l)
def IsBit (x : Int) : Prop := x = 0 ∨ x = 1
def Bits01 (l : List Int) : Prop := ∀ x ∈ l, IsBit x
def Bytes (l : List Int) : Prop := ∀ x ∈ l, 0 ≤ x ∧ x < 256
theorem bitN_bit (l : List Int) (i : Nat) : IsBit (bitN l i) := by unfold bitN IsBit; omega
theorem bitsL_length (l : List Int) : (bitsL l).length = 8 * l.length := by simp [bitsL]
theorem bitsL_bits (l : List Int) : Bits01 (bitsL l) := by
 intro x hx; simp only [bitsL, List.mem_map] at hx; obtain ⟨i, _, rfl⟩ := hx; exact bitN_bit l i
theorem bitN_beyond (l : List Int) (i : Nat) (h : 8 * l.length ≤ i) : bitN l i = 0 := by
 unfold bitN; rw [nth_ge (by omega)]; simp
theorem bitsL_nth (l : List Int) (i : Nat) : nth (bitsL l) i = bitN l i := by
 unfold bitsL; rw [nth_map_range]; split
 ·rfl
 ·rw [bitN_beyond l i (by omega)]
theorem pack_length (l : List Int) : (pack l).length = (l.length + 7) / 8 := by simp [pack]
theorem nth_bit {l : List Int} (h : Bits01 l) (i : Nat) : IsBit (nth l i) := by
 by_cases hi : i < l.length
 ·exact h _ (nth_mem hi)
 ·rw [nth_ge (by omega)]; exact .inl rfl
theorem nth_byte {l : List Int} (h : Bytes l) (i : Nat) : 0 ≤ nth l i ∧ nth l i < 256 := by
 by_cases hi : i < l.length
 ·exact h _ (nth_mem hi)
 ·rw [nth_ge (by omega)]; omega
theorem pack_nth (l : List Int) (j : Nat) : nth (pack l) j = byteAt l j := by
 unfold pack; rw [nth_map_range]; split
 ·rfl
 ·unfold byteAt byteOf; simp only
  repeat rw [nth_ge (l := l) (by omega)]
  rfl
theorem byteOf_range {f : Nat → Int} (a : ∀ i, IsBit (f i)) : 0 ≤ byteOf f ∧ byteOf f < 256 := by
 have a0 := a 0; have a1 := a 1; have a2 := a 2; have a3 := a 3
 have a4 := a 4; have a5 := a 5; have a6 := a 6; have a7 := a 7
 unfold byteOf IsBit at *; omega
theorem byteAt_range {l : List Int} (h : Bits01 l) (j : Nat) : 0 ≤ byteAt l j ∧ byteAt l j < 256 := byteOf_range fun _ => nth_bit h _
theorem pack_bytes {l : List Int} (h : Bits01 l) : Bytes (pack l) := by
 intro x hx; simp only [pack, List.mem_map] at hx; obtain ⟨i, _, rfl⟩ := hx; exact byteAt_range h i
theorem byteOf_bit {f : Nat → Int} (a : ∀ i, IsBit (f i)) (i : Nat) (hi : i < 8) : byteOf f / 2 ^ i % 2 = f i := by
 have a0 := a 0; have a1 := a 1; have a2 := a 2; have a3 := a 3
 have a4 := a 4; have a5 := a 5; have a6 := a 6; have a7 := a 7
 have hr : i = 0 ∨ i = 1 ∨ i = 2 ∨ i = 3 ∨ i = 4 ∨ i = 5 ∨ i = 6 ∨ i = 7 := by omega
 have bd : ∀ i, 0 ≤ f i ∧ f i ≤ 1 := fun i => by have := a i; unfold IsBit at this; omega
 clear a a0 a1 a2 a3 a4 a5 a6 a7
 have a0 := bd 0; have a1 := bd 1; have a2 := bd 2; have a3 := bd 3
 have a4 := bd 4; have a5 := bd 5; have a6 := bd 6; have a7 := bd 7
 clear bd
 unfold byteOf
 rcases hr with e | e | e | e | e | e | e | e <;> subst e <;> simp only [Int.reducePow] <;> omega
theorem bitN_pack {l : List Int} (h : Bits01 l) (i : Nat) : bitN (pack l) i = nth l i := by
 unfold bitN; rw [pack_nth]; unfold byteAt
 rw [byteOf_bit (fun k => nth_bit h _) _ (by omega)]
 congr 1; omega
theorem byteOf_bits {x : Int} (h : 0 ≤ x ∧ x < 256) : byteOf (fun k => x / 2 ^ k % 2) = x := by
 unfold byteOf; simp only [Int.reducePow]; omega
theorem byteAt_bitN {B : List Int} (h : Bytes B) (l : List Int) (hl : ∀ i, nth l i = bitN B i) (j : Nat) : byteAt l j = nth B j := by
 rw [← byteOf_bits (nth_byte h j)]
 unfold byteAt byteOf; simp only [hl]; unfold bitN
 simp only [show (8 * j + 0) / 8 = j by omega, show (8 * j + 1) / 8 = j by omega, show (8 * j + 2) / 8 = j by omega, show (8 * j + 3) / 8 = j by omega,
  show (8 * j + 4) / 8 = j by omega, show (8 * j + 5) / 8 = j by omega, show (8 * j + 6) / 8 = j by omega, show (8 * j + 7) / 8 = j by omega,
  show (8 * j + 0) % 8 = 0 by omega, show (8 * j + 1) % 8 = 1 by omega, show (8 * j + 2) % 8 = 2 by omega, show (8 * j + 3) % 8 = 3 by omega,
  show (8 * j + 4) % 8 = 4 by omega, show (8 * j + 5) % 8 = 5 by omega, show (8 * j + 6) % 8 = 6 by omega, show (8 * j + 7) % 8 = 7 by omega]
def RightW (B : List Int) (N : Int) : Prop := 0 ≤ N ∧ N ≤ 32000 ∧ (B.length : Int) = (N + 7) / 8 ∧ ∀ i : Nat, N ≤ i → bitN B i = 0
def bitsTo (B : List Int) (N : Int) : List Int := (bitsL B).take N.toNat
theorem bitsTo_bits (B : List Int) (N : Int) : Bits01 (bitsTo B N) := fun x hx => bitsL_bits B x (List.mem_of_mem_take hx)
theorem bitsTo_length {B : List Int} {N : Int} (h : RightW B N) : (bitsTo B N).length = N.toNat := by
 obtain ⟨h0, h1, h2, h3⟩ := h
 unfold bitsTo; rw [List.length_take, bitsL_length]; omega
theorem pack_bitsTo {B : List Int} {N : Int} (hB : Bytes B) (h : RightW B N) : pack (bitsTo B N) = B := by
 have hl := bitsTo_length h
 have hb : ∀ i, nth (bitsTo B N) i = bitN B i := by
  intro i; unfold bitsTo; rw [nth_take]; split
  ·exact bitsL_nth B i
  ·rw [h.2.2.2 i (by omega)]
 obtain ⟨h0, h1, h2, h3⟩ := h
 apply ext_nth
 ·rw [pack_length, hl]; omega
 ·intro j hj; rw [pack_nth]; exact byteAt_bitN hB _ hb j
theorem right_pack {l : List Int} (h : Bits01 l) (hl : l.length ≤ 32000) : RightW (pack l) l.length := by
 refine ⟨by omega, by omega, by rw [pack_length]; omega, fun i hi => ?_⟩
 rw [bitN_pack h, nth_ge (by omega)]
theorem bitsTo_pack {l : List Int} (h : Bits01 l) : bitsTo (pack l) l.length = l := by
 unfold bitsTo
 apply ext_nth
 ·rw [List.length_take, bitsL_length, pack_length]; simp; omega
 ·intro j hj
  rw [List.length_take] at hj
  rw [nth_take, if_pos (by omega), bitsL_nth, bitN_pack h]
theorem pack_snoc_new {l : List Int} (b : Int) (h : l.length % 8 = 0) : pack (l ++ [b]) = pack l ++ [b] := by
 apply ext_nth
 ·rw [List.length_append, pack_length, pack_length, List.length_append]; simp only [List.length_cons, List.length_nil]; omega
 ·intro j hj
  rw [pack_length, List.length_append] at hj; simp only [List.length_cons, List.length_nil] at hj
  rw [pack_nth, nth_snoc, pack_length, pack_nth]
  by_cases hc : j < (l.length + 7) / 8
  ·rw [if_pos hc]
   unfold byteAt byteOf; simp only [nth_snoc]
   repeat rw [if_pos (by omega)]
  ·rw [if_neg hc, if_pos (by omega)]
   unfold byteAt byteOf; simp only [nth_snoc]
   rw [if_neg (by omega), if_pos (by omega)]
   repeat rw [if_neg (by omega), if_neg (by omega)]
   omega
theorem pack_snoc_in {l : List Int} (b : Int) (h : ¬ l.length % 8 = 0) : pack (l ++ [b]) = (pack l).set (l.length / 8) (byteAt l (l.length / 8) + b * 2 ^ (l.length % 8)) := by
 have hlen : (pack l).length = (l.length + 7) / 8 := pack_length l
 apply ext_nth
 ·rw [List.length_set, pack_length, pack_length, List.length_append]; simp only [List.length_cons, List.length_nil]; omega
 ·intro j hj
  rw [pack_length, List.length_append] at hj; simp only [List.length_cons, List.length_nil] at hj
  rw [nth_set _ _ _ _ (by omega), pack_nth, pack_nth]
  by_cases e : j = l.length / 8
  ·rw [if_pos e, ← e]
   have hr : l.length % 8 = 1 ∨ l.length % 8 = 2 ∨ l.length % 8 = 3 ∨ l.length % 8 = 4 ∨ l.length % 8 = 5 ∨ l.length % 8 = 6 ∨ l.length % 8 = 7 := by omega
   have hn : ∀ k, nth (l ++ [b]) (8 * j + k) = nth l (8 * j + k) + if k = l.length % 8 then b else 0 := by
    intro k; rw [nth_snoc]
    by_cases h1 : 8 * j + k < l.length
    ·rw [if_pos h1, if_neg (by omega)]; omega
    ·rw [if_neg h1, nth_ge (by omega)]
     by_cases h2 : k = l.length % 8
     ·rw [if_pos (by omega), if_pos h2]; omega
     ·rw [if_neg (by omega), if_neg h2]; omega
   unfold byteAt byteOf; simp only [hn]
   rcases hr with e | e | e | e | e | e | e <;> rw [e] <;> simp only [Int.reducePow] <;> simp <;> omega
  ·rw [if_neg e]
   unfold byteAt byteOf; simp only [nth_snoc]
   repeat rw [if_pos (by omega)]
theorem byteAt_low {l : List Int} (h : Bits01 l) (hr : ¬ l.length % 8 = 0) : 0 ≤ byteAt l (l.length / 8) ∧ byteAt l (l.length / 8) < 2 ^ (l.length % 8) := by
 have hz : ∀ k, l.length % 8 ≤ k → nth l (8 * (l.length / 8) + k) = 0 := fun k hk => nth_ge (by omega)
 have a := fun k => nth_bit h (8 * (l.length / 8) + k)
 have a0 := a 0; have a1 := a 1; have a2 := a 2; have a3 := a 3
 have a4 := a 4; have a5 := a 5; have a6 := a 6; have a7 := a 7
 have z1 := hz 1; have z2 := hz 2; have z3 := hz 3; have z4 := hz 4; have z5 := hz 5; have z6 := hz 6; have z7 := hz 7
 unfold byteAt byteOf IsBit at *
 have hr : l.length % 8 = 1 ∨ l.length % 8 = 2 ∨ l.length % 8 = 3 ∨ l.length % 8 = 4 ∨ l.length % 8 = 5 ∨ l.length % 8 = 6 ∨ l.length % 8 = 7 := by omega
 rcases hr with e | e | e | e | e | e | e <;> rw [e] at z1 z2 z3 z4 z5 z6 z7 ⊢ <;> simp only [Int.reducePow] <;> simp only [Nat.reduceLeDiff, Nat.le_refl, forall_const] at z1 z2 z3 z4 z5 z6 z7 <;> omega
def vbits (v : Int) (n : Nat) : List Int := (List.range n).map fun i => v / 2 ^ i % 2
def numOf : List Int → Int
 | [] => 0
 | b :: l => b + 2 * numOf l
theorem vbits_length (v : Int) (n : Nat) : (vbits v n).length = n := by simp [vbits]
theorem vbits_bits (v : Int) (n : Nat) : Bits01 (vbits v n) := by
 intro x hx; simp only [vbits, List.mem_map] at hx; obtain ⟨i, _, rfl⟩ := hx; unfold IsBit; omega
theorem vbits_zero (v : Int) : vbits v 0 = [] := rfl
theorem vbits_succ (v : Int) (n : Nat) : vbits v (n + 1) = vbits v n ++ [v / 2 ^ n % 2] := by simp [vbits, List.range_succ]
theorem vbits_cons (v : Int) (n : Nat) : vbits v (n + 1) = v % 2 :: vbits (v / 2) n := by
 unfold vbits
 rw [List.range_succ_eq_map, List.map_cons, List.map_map]
 congr 1
 ·simp
 ·apply List.map_congr_left; intro i _
  simp only [Function.comp]
  rw [show (2:Int) ^ (i + 1) = 2 * 2 ^ i from by rw [Int.pow_succ, Int.mul_comm], ← Int.ediv_ediv_of_nonneg (by omega)]
theorem numOf_vbits (n : Nat) : ∀ v : Int, numOf (vbits v n) = v % 2 ^ n := by
 induction n with
 | zero => intro v; simp [vbits, numOf]
 | succ n ih =>
  intro v
  rw [vbits_cons, numOf, ih, Int.pow_succ, Int.mul_comm (2 ^ n) 2]
  have hp : (0:Int) < 2 ^ n := Int.pow_pos (by omega)
  have h1 := Int.mul_ediv_add_emod (v / 2) (2 ^ n)
  have h2 := Int.mul_ediv_add_emod v (2 * 2 ^ n)
  rw [← Int.ediv_ediv_of_nonneg (by omega)] at h2
  have h3 : 2 * 2 ^ n * (v / 2 / 2 ^ n) = 2 * (2 ^ n * (v / 2 / 2 ^ n)) := by rw [Int.mul_assoc]
  omega
theorem numOf_range {l : List Int} : Bits01 l → 0 ≤ numOf l ∧ numOf l < 2 ^ l.length := by
 induction l with
 | nil => intro _; simp [numOf]
 | cons b l ih =>
  intro h
  have := ih fun x hx => h x (List.mem_cons_of_mem _ hx)
  have hb := h b (List.mem_cons_self ..)
  rw [numOf, List.length_cons, Int.pow_succ]
  unfold IsBit at hb; omega
theorem numOf_append (l m : List Int) : numOf (l ++ m) = numOf l + 2 ^ l.length * numOf m := by
 induction l with
 | nil => simp [numOf]
 | cons b l ih =>
  rw [List.cons_append, numOf, ih, numOf, List.length_cons, Int.pow_succ, Int.mul_comm (2 ^ l.length) 2, Int.mul_assoc]; omega
theorem numOf_snoc (l : List Int) (b : Int) : numOf (l ++ [b]) = numOf l + b * 2 ^ l.length := by
 rw [numOf_append]; simp [numOf, Int.mul_comm]
theorem bits_append {l m : List Int} (h : Bits01 l) (k : Bits01 m) : Bits01 (l ++ m) := fun x hx => by
 rcases List.mem_append.1 hx with e | e
 ·exact h x e
 ·exact k x e
end Go.Proofs.Ytdajlfijkbafiaa.BT
namespace Go.Proofs.Ytdajlfijkbafiaa
theorem o_ {p : Prop} (c : p := by omega) : p := c
theorem s1_ (k : Nat) (h : 0 < k := by omega) : ∃ j, k = j + 1 := ⟨k - 1, by omega⟩
theorem ln_ {p : Prop} (c : p := by simp only [List.length_append, List.length_cons, List.length_nil]; omega) : p := c
end Go.Proofs.Ytdajlfijkbafiaa
namespace Go.Proofs.Ytdajlfijkbafiaa.LB
open Go.RowKit Go.Proofs.YtdajlfijkbafiaaW.PrintWords Go.Proofs.YtdajlfijkbafiaaW.PrintLast Go.Proofs.Ytdajlfijkbafiaa.BT
theorem w64 {x : Int} (h : -9223372036854775808 ≤ x) (h' : x ≤ 9223372036854775807) : wrap64 x = x := by unfold wrap64; omega
theorem u64w {x : Int} (h : 0 ≤ x) (h' : x < 18446744073709551616) : IntKind.u64.wrap x = x := by
 simp only [IntKind.wrap, IntKind.bits, IntKind.signed]; simp; omega
theorem tdiv_nn {a : Int} (b : Int) (h : 0 ≤ a) : Int.tdiv a b = a / b := Int.tdiv_eq_ediv_of_nonneg h
theorem tmod_nn {a : Int} (b : Int) (h : 0 ≤ a) : Int.tmod a b = a % b := Int.tmod_eq_emod_of_nonneg h
theorem rd_nth (l : List Int) (i : Int) : rd l i = nth l i.toNat := rfl
theorem shr_small' {k : IntKind} {x y : Int} (h : y.toNat ≤ k.bits) : shr k x y = x / 2 ^ y.toNat := by unfold shr; rw [Nat.min_eq_left h]
theorem u64_eq (x : Int) : IntKind.u64.wrap x = x % 18446744073709551616 := by simp [IntKind.wrap, IntKind.bits, IntKind.signed]
theorem wrap64_eq (x : Int) : wrap64 x = (x + 9223372036854775808) % 18446744073709551616 - 9223372036854775808 := by unfold wrap64; omega
theorem pow_le32 {i : Nat} (h : i ≤ 32) : (2 : Int) ^ i ≤ 4294967296 := by
 have : (2 : Nat) ^ i ≤ 2 ^ 32 := Nat.pow_le_pow_right o_ h
 have := Int.ofNat_le.2 this; simpa using this
theorem or_join {x y : Int} {i : Nat} (hx : 0 ≤ x) (hx' : x < 18446744073709551616) (hm : x % 2 ^ i = 0) (hy : 0 ≤ y) (hy' : y < 2 ^ i) (hy2 : y < 18446744073709551616) : Go.bits .or .u64 x y = x + y := by
 have hc : ((2 : Int) ^ i) = ((2 ^ i : Nat) : Int) := by simp
 have hp : 0 < 2 ^ i := Nat.pow_pos (n := i) (by omega : 0 < 2)
 rw [u64_or x y hx hx' hy hy2]
 rw [hc] at hm hy'
 have h0 : ((x.toNat % 2 ^ i : Nat) : Int) = 0 := by rw [Int.natCast_emod, Int.toNat_of_nonneg hx]; exact hm
 rw [nat_join i _ _ o_ o_, Int.natCast_add]; omega
end Go.Proofs.Ytdajlfijkbafiaa.LB
