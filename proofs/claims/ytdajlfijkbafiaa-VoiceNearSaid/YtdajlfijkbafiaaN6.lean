/- Words, walks and what they compute, as the law's proof needs them. -/
import Derived.Test.YtdajlfijkbafiaaN3
import Derived.Test.YtdajlfijkbafiaaN4
import Derived.Test.YtdajlfijkbafiaaN5
set_option linter.unusedVariables false
set_option linter.unusedSimpArgs false
namespace Go.Proofs.Ytdajlfijkbafiaa.P
open Go.RowKit Go.Proofs.YtdajlfijkbafiaaW.PrintWords Go.Proofs.YtdajlfijkbafiaaW.PrintLast Go.Proofs.YtdajlfijkbafiaaW.PrintMore
attribute [local go_sem] max2_int min2_int max_two min_two max_three min_three max_four min_four
def vcodec_Encode.l0 : Nat → List (List Int) → Int → Int → Int → Int → List Int → List Int → List (List Int) → List (List Int) → Option ((List (List Int)) × (List (List Int)) × Int)
  | 0, _, _, _, _, _, _, _, _, _ => none
  | k + 1, x23, x24, x25, x389000, x389001, x389002, x389003, x390000, x390001 => if x25 < x24 then (if 0 ≤ x25 then (if x25 < (x23.length : Int) then ((vcodec_codec_posts.f k x389000 x389001 x389002 x389003 (rd_L2 x23 x25)).bind fun t391 => ((floor_Floor.f k t391).bind fun bt394 => ((remap_Quantize.f k (rd_L2 x23 x25) bt394.1).bind fun bt398 => ((vcodec_silent.f k bt398.1).bind fun t402 => (if t402 = true then ((some (([([] : List Int)] : List (List Int)) : List (List Int))).bind fun y403 => (if x390000.length + y403.length < 5864062014805 then ((some (([([] : List Int)] : List (List Int)) : List (List Int))).bind fun y409 => (if x390001.length + y409.length < 5864062014805 then (vcodec_Encode.l0 k x23 x24 (wrap64 (x25 + 1)) x389000 x389001 x389002 x389003 (x390000 ++ y403) (x390001 ++ y409)) else (none))) else (none))) else ((some (([t391] : List (List Int)) : List (List Int))).bind fun y415 => (if x390000.length + y415.length < 5864062014805 then ((some (([bt398.1] : List (List Int)) : List (List Int))).bind fun y421 => (if x390001.length + y421.length < 5864062014805 then (vcodec_Encode.l0 k x23 x24 (wrap64 (x25 + 1)) x389000 x389001 x389002 x389003 (x390000 ++ y415) (x390001 ++ y421)) else (none))) else (none)))))))) else (none)) else (none)) else ((vcodec_codec_both.f x389000 x389001 x389002 x389003 x390000).bind fun t427 => (if t427 = true then (if 0 < (x390001.length : Int) then (if 1 < (x390001.length : Int) then ((couple_CoupleAll.f k (rd_L2 x390001 0) (rd_L2 x390001 1)).bind fun bt430 => (some (x390000, ((x390001.set (0 : Int).toNat bt430.1).set (1 : Int).toNat bt430.2.1), 0))) else (none)) else (none)) else (some (x390000, x390001, 0))))
def vcodec_Encode.f (k : Nat) (a0_0 : Int) (a0_1 : Int) (l0_2 : List Int) (l0_3 : List Int) (l1_0 : List (List Int)) : Option ((List (List Int)) × (List (List Int)) × Int) := (vcodec_Right.f k a0_0 a0_1 l0_2 l0_3 l1_0).bind fun t387 => (if t387 = true then (vcodec_Encode.l0 k l1_0 (l1_0.length : Int) 0 a0_0 a0_1 l0_2 l0_3 ([] : List (List Int)) ([] : List (List Int))) else (some (([] : List (List Int)), ([] : List (List Int)), 1)))
theorem vcodec_Encode.mono_l : ∀ k, (∀ y0 y1 y2 y3 y4 y5 y6 y7 y8, LeO (vcodec_Encode.l0 k y0 y1 y2 y3 y4 y5 y6 y7 y8) (vcodec_Encode.l0 (k + 1) y0 y1 y2 y3 y4 y5 y6 y7 y8))
  | 0 => fun _ _ _ _ _ _ _ _ _ r h => by simp [vcodec_Encode.l0] at h
  | k + 1 => by
    have ih0 := vcodec_Encode.mono_l k
    · intro y0 y1 y2 y3 y4 y5 y6 y7 y8
      unfold vcodec_Encode.l0
      with_reducible repeat' first
   | exact ih0 _ _ _ _ _ _ _ _ _
   | exact couple_CoupleAll.mono _ _ _
   | exact floor_Floor.mono _ _
   | exact remap_Quantize.mono _ _ _
   | exact vcodec_Right.mono _ _ _ _ _ _
   | exact vcodec_codec_posts.mono _ _ _ _ _ _
   | exact vcodec_silent.mono _ _
   | exact LeO.refl _
   | exact LeO.none _
   | refine LeO.ite ?_ ?_
   | refine LeO.bind ?_ (fun _ => ?_)
theorem vcodec_Encode.mono : ∀ a0 a1 a2 a3 a4 k, LeO (vcodec_Encode.f k a0 a1 a2 a3 a4) (vcodec_Encode.f (k + 1) a0 a1 a2 a3 a4) := by
  intro a0 a1 a2 a3 a4 k
  have ih0 := vcodec_Encode.mono_l k
  unfold vcodec_Encode.f
  with_reducible repeat' first
   | exact ih0 _ _ _ _ _ _ _ _ _
   | exact couple_CoupleAll.mono _ _ _
   | exact floor_Floor.mono _ _
   | exact remap_Quantize.mono _ _ _
   | exact vcodec_Right.mono _ _ _ _ _ _
   | exact vcodec_codec_posts.mono _ _ _ _ _ _
   | exact vcodec_silent.mono _ _
   | exact LeO.refl _
   | exact LeO.none _
   | refine LeO.ite ?_ ?_
   | refine LeO.bind ?_ (fun _ => ?_)
def vcodec_Encode.T13 : Bool × List (List Nat × List Nat) := (true, [([], []), ([0], [0]), ([], []), ([2], [2]), ([1, 3], [1, 3]), ([], []), ([5], [5]), ([], []), ([7], [7]), ([6, 8, 4], [6, 8]), ([0, 1, 2, 3, 4, 5, 6], []), ([10, 4, 9, 0, 1, 2, 3, 4, 5, 6], [4, 10]), ([0, 1, 2, 3, 4, 5, 6, 7, 8, 9, 10, 11], []), ([12, 9, 11, 0, 1, 2, 3, 4, 5, 6, 7, 8, 9, 10, 11], [9, 12])])
def vcodec_Encode.B13 : List Nat := [0, 1, 0, 4, 15, 0, 32, 0, 128, 511, 127, 2047, 4095, 8191]
theorem vcodec_Encode.tab13 : rtab .any (opsOf Try.f15 13) = vcodec_Encode.T13 := by kernel_rfl
theorem vcodec_Encode.bits13 : waitsOk vcodec_Encode.T13.2 vcodec_Encode.B13 = true := by kernel_rfl
def vcodec_Encode.T16 : Bool × List (List Nat × List Nat) := (true, [([], []), ([0], [0]), ([], []), ([2], [2]), ([], []), ([4], [4]), ([5], [5]), ([6], [6]), ([], []), ([8], [8]), ([9], [9]), ([10], [10]), ([7, 11], [7, 11]), ([12], [12]), ([13], [13]), ([13], [13]), ([13], [13]), ([1, 0, 1, 4, 5, 6, 7, 8, 9, 10, 11, 12, 13, 14], [1]), ([17, 14, 12, 0, 1, 4, 5, 6, 7, 8, 9, 10, 11, 12, 13, 14], [14, 17]), ([3, 0, 1, 2, 3, 4, 5, 6, 7, 8, 9, 10, 11, 12, 13, 14, 15, 17, 18], [3]), ([19, 15, 18, 0, 1, 2, 3, 4, 5, 6, 7, 8, 9, 10, 11, 12, 13, 14, 15, 17, 18], [15, 19])])
def vcodec_Encode.B16 : List Nat := [0, 1, 0, 4, 0, 16, 48, 112, 0, 256, 768, 1792, 4080, 8176, 16368, 16368, 16368, 32755, 163827, 458751, 983039]
theorem vcodec_Encode.tab16 : rtab .any (opsOf Try.f15 16) = vcodec_Encode.T16 := by kernel_rfl
theorem vcodec_Encode.bits16 : waitsOk vcodec_Encode.T16.2 vcodec_Encode.B16 = true := by kernel_rfl
set_option maxHeartbeats 8000000 in
set_option maxRecDepth 100000 in
theorem vcodec_Encode.calls (k : Nat) (a0_0 : Int) (a0_1 : Int) (A0_2 : Option Addr) (c0_2 : Nat) (l0_2 : List Int) (A0_3 : Option Addr) (c0_3 : Nat) (l0_3 : List Int) (A1_0 : Option Addr) (c1_0 : Nat) (l1_0 : List (List Int)) (r1 : List (List Int)) (r2 : List (List Int)) (r3 : Int) (w : World) (hr0_2 : Kd.C (Kd.int .i64) w A0_2 l0_2.length l0_2) (hc0_2 : l0_2.length ≤ c0_2) (hr0_3 : Kd.C (Kd.int .i64) w A0_3 l0_3.length l0_3) (hc0_3 : l0_3.length ≤ c0_3) (hr1_0 : Kd.C (Kd.slice 2 (Kd.int .i64)) w A1_0 l1_0.length l1_0) (hc1_0 : l1_0.length ≤ c1_0) (h : vcodec_Encode.f k a0_0 a0_1 l0_2 l0_3 l1_0 = some (r1, r2, r3)) :
    Calls Try.prog 15 #[.agg #[.int .i64 a0_0, .int .i64 a0_1, .slice A0_2 l0_2.length c0_2, .slice A0_3 l0_3.length c0_3], .agg #[.slice A1_0 l1_0.length c1_0]] w fun e w' => ∃ v0_ v1_ : Value, e = .returned (.tuple #[.agg #[v0_, v1_], .int .i64 r3]) ∧ Kd.N (Kd.slice 3 (Kd.int .i64)) 22 w' w.heap.size (fun k_ => (w.heap.size ≤ k_) ∧ some k_ ≠ (v1_ : Value).ownBlock) v0_ r1 ∧ Kd.N (Kd.slice 2 (Kd.int .i64)) 53 w' w.heap.size (fun k_ => (w.heap.size ≤ k_) ∧ some k_ ≠ (v0_ : Value).ownBlock) v1_ r2 ∧ Below w.heap.size w w' := by
 have hu24 := Try.underlying24
 have hu37 := Try.underlying37
 have hu28 := Try.underlying28
 have hu61 := Try.underlying61
 have HR0_2 := Aside0.mk hr0_2
 have HC0_2 := Aside0.mk hc0_2
 clear hr0_2 hc0_2
 have HR0_3 := Aside0.mk hr0_3
 have HC0_3 := Aside0.mk hc0_3
 clear hr0_3 hc0_3
 have HR1_0 := Aside0.mk hr1_0
 have HC1_0 := Aside0.mk hc1_0
 clear hr1_0 hc1_0
 have HB := Aside0.mk (Below.refl w.heap.size w)
 have H : ((vcodec_Right.f k a0_0 a0_1 l0_2 l0_3 l1_0).bind fun t387 => (if t387 = true then (vcodec_Encode.l0 k l1_0 (l1_0.length : Int) 0 a0_0 a0_1 l0_2 l0_3 ([] : List (List Int)) ([] : List (List Int))) else (some (([] : List (List Int)), ([] : List (List Int)), 1)))) = some (r1, r2, r3) := h
 clear h
 obtain ⟨t387, A3, H⟩ := ob_ H
 (try dsimp only at H)
 by_cases c4 : t387 = true
 {
 subst c4
 rw [if_pos rfl] at H
 have H' := Aside0.mk H
 clear H
 go_enter Try.func15, Try.ntmps15
 go_wp2_with (first | ((with_reducible refine gate_dst (N := 2) rfl ?_); refine bx_ HB 2 #[.int .i64 a0_0, .int .i64 a0_1, .slice A0_2 l0_2.length c0_2, .slice A0_3 l0_3.length c0_3] 24 ?_; clear HB; intro gb384 hg w5 hb BK384 GE384 HB; have GW384 := GE384; clear hb hg) | ((with_reducible refine gate_dst (N := 3) rfl ?_); refine bx_ HB 3 #[.slice A1_0 l1_0.length c1_0] 37 ?_; clear HB; intro gb385 hg w6 hb BK385 GE385 HB; have GW385 := GE385; obtain ⟨NB384_385, NB385_384⟩ := NN_ BK384 hg; replace BK384 := FB_ BK384 hb; clear hb hg) | ((with_reducible refine gate_dst (N := 4) rfl ?_); refine bx_ HB 4 #[.slice none 0 0, .slice none 0 0] 28 ?_; clear HB; intro gb386 hg w7 hb BK386 GE386 HB; have GW386 := GE386; obtain ⟨NB384_386, NB386_384⟩ := NN_ BK384 hg; replace BK384 := FB_ BK384 hb; obtain ⟨NB385_386, NB386_385⟩ := NN_ BK385 hg; replace BK385 := FB_ BK385 hb; clear hb hg; have hnb8 := NB384_385.out; have hnc8 := NB385_384.out; have hnb9 := NB384_386.out; have hnc9 := NB386_384.out; obtain ⟨hcz10_0, hcz10_1, hcz10_2, hcz10_3, hfz10_0, hfz10_1, hfz10_2, hfz10_3⟩ := e4_ BK384; have hnb11 := NB385_386.out; have hnc11 := NB386_385.out; obtain ⟨hcz12_0, hfz12_0⟩ := e1_ BK385) | ((with_reducible refine gate_callee (f := 16) rfl ?_); refine gL_ (some 17) Try.func16 #[.agg #[.int .i64 a0_0, .int .i64 a0_1, .slice A0_2 l0_2.length c0_2, .slice A0_3 l0_3.length c0_3], .agg #[.slice A1_0 l1_0.length c1_0]] ?_; (with_reducible refine (vcodec_Right.calls k a0_0 a0_1 _ _ l0_2 _ _ l0_3 _ _ l1_0 true _ ?side1 ?side2 ?side3 ?side4 ?side5 ?side6 A3.out).mono ?_); (case side1 => exact kC_ HR0_2 HB); (case side2 => exact HC0_2.out); (case side3 => exact kC_ HR0_3 HB); (case side4 => exact HC0_3.out); (case side5 => exact kC_ HR1_0 HB); (case side6 => exact HC1_0.out); rintro e w13 ⟨rfl, hb⟩; refine ⟨_, rfl, ?_⟩; replace BK384 := FB_ BK384 hb; replace BK385 := FB_ BK385 hb; replace BK386 := FB_ BK386 hb; replace HB := BS_ HB hb; (try clear hb); obtain ⟨hcz14_0, hcz14_1, hcz14_2, hcz14_3, hfz14_0, hfz14_1, hfz14_2, hfz14_3⟩ := e4_ BK384) | ((with_reducible refine gate_dst (N := 6) rfl ?_); refine bx_ HB 6 #[.int .i64 0, .int .i64 0, .slice none 0 0, .slice none 0 0] 61 ?_; clear HB; intro gb388 hg w15 hb BK388 GE388 HB; have GW388 := GE388; obtain ⟨NB384_388, NB388_384⟩ := NN_ BK384 hg; replace BK384 := FB_ BK384 hb; obtain ⟨NB385_388, NB388_385⟩ := NN_ BK385 hg; replace BK385 := FB_ BK385 hb; obtain ⟨NB386_388, NB388_386⟩ := NN_ BK386 hg; replace BK386 := FB_ BK386 hb; clear hb hg; have hnb16 := NB388_384.out; have hnc16 := NB384_388.out; have hnb17 := NB388_385.out; have hnc17 := NB385_388.out; have hnb18 := NB388_386.out; have hnc18 := NB386_388.out; obtain ⟨hcz19_0, hcz19_1, hcz19_2, hcz19_3, hfz19_0, hfz19_1, hfz19_2, hfz19_3⟩ := e4_ BK388) | ((with_reducible refine gate_dst (N := 7) rfl ?_); refine bx_ HB 7 #[.slice none 0 0, .slice none 0 0] 28 ?_; clear HB; intro gb389 hg w20 hb BK389 GE389 HB; have GW389 := GE389; obtain ⟨NB384_389, NB389_384⟩ := NN_ BK384 hg; replace BK384 := FB_ BK384 hb; obtain ⟨NB385_389, NB389_385⟩ := NN_ BK385 hg; replace BK385 := FB_ BK385 hb; obtain ⟨NB386_389, NB389_386⟩ := NN_ BK386 hg; replace BK386 := FB_ BK386 hb; obtain ⟨NB388_389, NB389_388⟩ := NP_ (.cells #[.int .i64 a0_0, .int .i64 a0_1, .slice A0_2 l0_2.length c0_2, .slice A0_3 l0_3.length c0_3] 61 (0, 0)) BK388 hg; replace BK388 := Aside0.mk (blk_below (g := gb388) (o := .cells #[.int .i64 a0_0, .int .i64 a0_1, .slice A0_2 l0_2.length c0_2, .slice A0_3 l0_3.length c0_3] 61 (0, 0)) (bp_ BK388) hb); clear hb hg; have hnb21 := NB385_389.out; have hnc21 := NB389_385.out; obtain ⟨hcz22_0, hfz22_0⟩ := e1_ BK385))
 go_loopg [25] k (fun kq v25 w' => ∃ (x25_1 : Int) (x390000_1 : List (List Int)) (x390001_1 : List (List Int)) (u390000 : Value) (u390001 : Value), v25 = .int .i64 x25_1 ∧ Aside0 (vcodec_Encode.l0 kq l1_0 (l1_0.length : Int) x25_1 a0_0 a0_1 l0_2 l0_3 x390000_1 x390001_1 = some (r1, r2, r3)) ∧ Aside0 (kq ≤ k) ∧ Aside0 (Kd.N (Kd.slice 3 (Kd.int .i64)) 22 w' w.heap.size (fun k_ => (w.heap.size ≤ k_) ∧ some k_ ≠ (u390001 : Value).ownBlock ∧ k_ ≠ gb384 ∧ k_ ≠ gb385 ∧ k_ ≠ gb386 ∧ k_ ≠ gb388 ∧ k_ ≠ gb389) u390000 x390000_1) ∧ Aside0 (Kd.N (Kd.slice 2 (Kd.int .i64)) 53 w' w.heap.size (fun k_ => (w.heap.size ≤ k_) ∧ some k_ ≠ (u390000 : Value).ownBlock ∧ k_ ≠ gb384 ∧ k_ ≠ gb385 ∧ k_ ≠ gb386 ∧ k_ ≠ gb388 ∧ k_ ≠ gb389) u390001 x390001_1) ∧ Aside0 (w'.heap[gb384]? = some (.cells #[.int .i64 a0_0, .int .i64 a0_1, (.slice A0_2 l0_2.length c0_2), (.slice A0_3 l0_3.length c0_3)] 24 (0, 0))) ∧ Aside0 (w'.heap[gb385]? = some (.cells #[(.slice A1_0 l1_0.length c1_0)] 37 (0, 0))) ∧ Aside0 (w'.heap[gb386]? = some (.cells #[(.slice none 0 0), (.slice none 0 0)] 28 (0, 0))) ∧ Aside0 (w'.heap[gb388]? = some (.cells #[.int .i64 a0_0, .int .i64 a0_1, (.slice A0_2 l0_2.length c0_2), (.slice A0_3 l0_3.length c0_3)] 61 (0, 0))) ∧ Aside0 (w'.heap[gb389]? = some (.cells #[u390000, u390001] 28 (0, 0))) ∧ Aside0 (Below w.heap.size w w'))
 case atStart => exact ⟨(0), (([] : List (List Int))), (([] : List (List Int))), (.slice none 0 0), (.slice none 0 0), rs_, H', ⟨Nat.le_refl _⟩, ⟨kn_⟩, ⟨kn_⟩, ⟨bk_ BK384⟩, ⟨bk_ BK385⟩, ⟨bk_ BK386⟩, ⟨bk_ BK388⟩, ⟨bk_ BK389⟩, ⟨bl_ HB⟩⟩
 case round => (
 clear H'
 try clear c4
 try clear hcz10_0
 try clear hcz10_1
 try clear hcz10_2
 try clear hcz10_3
 try clear hcz12_0
 try clear hcz14_0
 try clear hcz14_1
 try clear hcz14_2
 try clear hcz14_3
 try clear hcz19_0
 try clear hcz19_1
 try clear hcz19_2
 try clear hcz19_3
 try clear hcz22_0
 try clear hfz10_0
 try clear hfz10_1
 try clear hfz10_2
 try clear hfz10_3
 try clear hfz12_0
 try clear hfz14_0
 try clear hfz14_1
 try clear hfz14_2
 try clear hfz14_3
 try clear hfz19_0
 try clear hfz19_1
 try clear hfz19_2
 try clear hfz19_3
 try clear hfz22_0
 obtain ⟨x25_1, x390000_1, x390001_1, u390000, u390001, rfl, HA, HK1, HO_390000, HO_390001, BK384, BK385, BK386, BK388, BK389, HB⟩ := hrel
 cases gk with
 | zero => exact absurd HA.out (by simp [vcodec_Encode.l0])
 | succ k1 => (
 have H := HA.out
 clear HA
 simp only [vcodec_Encode.l0] at H
 by_cases c23 : x25_1 < (l1_0.length : Int)
 {
 rw [if_pos c23] at H
 have c23b0 : decide (x25_1 < (l1_0.length : Int)) = true := decide_eq_true c23
 clear c23
 by_cases c24 : 0 ≤ x25_1
 {
 rw [if_pos c24] at H
 have c24b0 : decide (0 ≤ x25_1) = true := decide_eq_true c24
 clear c24
 by_cases c25 : x25_1 < (l1_0.length : Int)
 {
 rw [if_pos c25] at H
 have c25b0 : decide (x25_1 < (l1_0.length : Int)) = true := decide_eq_true c25
 clear c25
 obtain ⟨t391, A26, H⟩ := ob_ H
 (try dsimp only at H)
 obtain ⟨⟨t394, t395⟩, A27, H⟩ := ob_ H
 (try dsimp only at H)
 obtain ⟨⟨t398, t399⟩, A28, H⟩ := ob_ H
 (try dsimp only at H)
 obtain ⟨t402, A29, H⟩ := ob_ H
 (try dsimp only at H)
 by_cases c30 : t402 = true
 {
 subst c30
 rw [if_pos rfl] at H
 obtain ⟨y403, hy403⟩ : ∃ y_ : List (List Int), y_ = (([([] : List Int)] : List (List Int))) := ⟨_, rfl⟩
 replace H : (if x390000_1.length + y403.length < 5864062014805 then ((some (([([] : List Int)] : List (List Int)) : List (List Int))).bind fun y409 => (if x390001_1.length + y409.length < 5864062014805 then (vcodec_Encode.l0 k1 l1_0 (l1_0.length : Int) (wrap64 (x25_1 + 1)) a0_0 a0_1 l0_2 l0_3 (x390000_1 ++ y403) (x390001_1 ++ y409)) else (none))) else (none)) = some (r1, r2, r3) := by first | (rw [hy403]; with_reducible exact H) | (have H2_ := (Option.bind_some _ _).symm.trans H; rw [hy403]; with_reducible exact H2_) | (have H2_ := (Option.bind_some _ _).symm.trans H; with_reducible exact H2_) | with_reducible exact H | (rw [hy403]; exact H) | exact H
 have Ny403 := Aside0.mk hy403
 clear hy403
 by_cases c31 : x390000_1.length + y403.length < 5864062014805
 {
 rw [if_pos c31] at H
 have LMc31 := Aside0.mk c31
 clear c31
 obtain ⟨y406, hy406⟩ : ∃ y_ : List (List Int), y_ = (x390000_1 ++ y403) := ⟨_, rfl⟩
 replace H : ((some (([([] : List Int)] : List (List Int)) : List (List Int))).bind fun y409 => (if x390001_1.length + y409.length < 5864062014805 then (vcodec_Encode.l0 k1 l1_0 (l1_0.length : Int) (wrap64 (x25_1 + 1)) a0_0 a0_1 l0_2 l0_3 y406 (x390001_1 ++ y409)) else (none))) = some (r1, r2, r3) := by first | (rw [hy406]; with_reducible exact H) | (have H2_ := (Option.bind_some _ _).symm.trans H; rw [hy406]; with_reducible exact H2_) | (have H2_ := (Option.bind_some _ _).symm.trans H; with_reducible exact H2_) | with_reducible exact H | (rw [hy406]; exact H) | exact H
 have Ny406 := Aside0.mk hy406
 clear hy406
 obtain ⟨y409, hy409⟩ : ∃ y_ : List (List Int), y_ = (([([] : List Int)] : List (List Int))) := ⟨_, rfl⟩
 replace H : (if x390001_1.length + y409.length < 5864062014805 then (vcodec_Encode.l0 k1 l1_0 (l1_0.length : Int) (wrap64 (x25_1 + 1)) a0_0 a0_1 l0_2 l0_3 y406 (x390001_1 ++ y409)) else (none)) = some (r1, r2, r3) := by first | (rw [hy409]; with_reducible exact H) | (have H2_ := (Option.bind_some _ _).symm.trans H; rw [hy409]; with_reducible exact H2_) | (have H2_ := (Option.bind_some _ _).symm.trans H; with_reducible exact H2_) | with_reducible exact H | (rw [hy409]; exact H) | exact H
 have Ny409 := Aside0.mk hy409
 clear hy409
 by_cases c32 : x390001_1.length + y409.length < 5864062014805
 {
 rw [if_pos c32] at H
 have LMc32 := Aside0.mk c32
 clear c32
 obtain ⟨y412, hy412⟩ : ∃ y_ : List (List Int), y_ = (x390001_1 ++ y409) := ⟨_, rfl⟩
 replace H : (vcodec_Encode.l0 k1 l1_0 (l1_0.length : Int) (wrap64 (x25_1 + 1)) a0_0 a0_1 l0_2 l0_3 y406 y412) = some (r1, r2, r3) := by first | (rw [hy412]; with_reducible exact H) | (have H2_ := (Option.bind_some _ _).symm.trans H; rw [hy412]; with_reducible exact H2_) | (have H2_ := (Option.bind_some _ _).symm.trans H; with_reducible exact H2_) | with_reducible exact H | (rw [hy412]; exact H) | exact H
 have Ny412 := Aside0.mk hy412
 clear hy412
 have H' := Aside0.mk H
 clear H
 have p390 : 0 ≤ (x25_1 : Int) := of_decide_eq_true am_
 have q390 : x25_1 < (l1_0.length : Int) := of_decide_eq_true am_
 obtain ⟨ad390, A390_0, c390_0, e390, hx390_0, hl390_0, hi390_0⟩ := at_L2 HR1_0.out x25_1 p390 q390
 cases e390
 replace hx390_0 := (HB.out.cell (World.block_lt_of_cell? w _ hx390_0)).trans hx390_0
 have HR390_0 := Aside0.mk hi390_0
 have HC390_0 := Aside0.mk hl390_0
 clear hi390_0 hl390_0
 replace p390 := eq_true p390
 replace q390 := eq_true q390
 have hnb33 := NB388_384.out
 have hnc33 := NB384_388.out
 have hnb34 := NB388_385.out
 have hnc34 := NB385_388.out
 have hnb35 := NB388_386.out
 have hnc35 := NB386_388.out
 have hnb36 := NB388_389.out
 have hnc36 := NB389_388.out
 obtain ⟨hcz37_0, hcz37_1, hcz37_2, hcz37_3, hfz37_0, hfz37_1, hfz37_2, hfz37_3⟩ := e4_ BK388
 try go_wp2_with (first | ((with_reducible refine gate_callee (f := 37) rfl ?_); refine gL_ (some 31) Try.func37 #[.agg #[.int .i64 a0_0, .int .i64 a0_1, .slice A0_2 l0_2.length c0_2, .slice A0_3 l0_3.length c0_3], .slice A390_0 (rd_L2 l1_0 x25_1).length c390_0] ?_; (with_reducible refine (vcodec_codec_posts.calls k1 a0_0 a0_1 _ _ l0_2 _ _ l0_3 _ _ (rd_L2 l1_0 x25_1) t391 _ ?side1 ?side2 ?side3 ?side4 ?side5 ?side6 A26.out).mono ?_); (case side1 => exact kC_ HR0_2 HB); (case side2 => exact HC0_2.out); (case side3 => exact kC_ HR0_3 HB); (case side4 => exact HC0_3.out); (case side5 => exact kC_ HR390_0 HB); (case side6 => exact HC390_0.out); rintro e w38 ⟨v392, rfl, ho0, hb⟩; refine ⟨_, rfl, ?_⟩; replace HO_390000 := Aside0.mk (Kd.N_elder' (kN_ HO_390000) (Kd.R_base ho0) hb); replace HO_390001 := Aside0.mk (Kd.N_elder' (kN_ HO_390001) (Kd.R_base ho0) hb); have HO393 := Aside0.mk (Kd.R_lower (Kd.R_newM (M := fun k_ => (w.heap.size ≤ k_)) ho0 (bs_ HB) (fun k_ h_ => h_)) (bs_ HB)); replace BK384 := FB_ BK384 hb; replace BK385 := FB_ BK385 hb; replace BK386 := FB_ BK386 hb; replace BK388 := FB_ BK388 hb; replace BK389 := FB_ BK389 hb; replace HB := BS_ HB hb; (try clear hb); (try clear ho0); obtain ⟨Ao39, co39, eo39⟩ := Kd.R_slice HO393.out; subst eo39) | ((with_reducible refine gate_callee (f := 34) rfl ?_); refine gL_ (some 34) Try.func34 #[.slice Ao39 t391.length co39] ?_; (with_reducible refine (floor_Floor.calls k1 _ _ t391 t394 t395 _ ?side1 ?side2 A27.out).mono ?_); (case side1 => exact kCt_ (Kd.R_reads' HO393.out).2.2); (case side2 => exact (Kd.R_reads' HO393.out).2.1); rintro e w40 ⟨v396, rfl, ho0, hb⟩; refine ⟨_, rfl, ?_⟩; replace HO_390000 := Aside0.mk (Kd.N_elder' (kN_ HO_390000) (Kd.R_base ho0) hb); replace HO_390001 := Aside0.mk (Kd.N_elder' (kN_ HO_390001) (Kd.R_base ho0) hb); replace HO393 := FR_ HO393 hb; have HO397 := Aside0.mk (Kd.R_lower (Kd.R_newM (M := fun k_ => (w.heap.size ≤ k_)) ho0 (bs_ HB) (fun k_ h_ => h_)) (bs_ HB)); replace BK384 := FB_ BK384 hb; replace BK385 := FB_ BK385 hb; replace BK386 := FB_ BK386 hb; replace BK388 := FB_ BK388 hb; replace BK389 := FB_ BK389 hb; replace HB := BS_ HB hb; (try clear hb); (try clear ho0); obtain ⟨Ao41, co41, eo41⟩ := Kd.R_slice HO397.out; subst eo41) | ((with_reducible refine gate_callee (f := 38) rfl ?_); refine gL_ (some 40) Try.func38 #[.slice A390_0 (rd_L2 l1_0 x25_1).length c390_0, .slice Ao41 t394.length co41] ?_; (with_reducible refine (remap_Quantize.calls k1 _ _ (rd_L2 l1_0 x25_1) _ _ t394 t398 t399 _ ?side1 ?side2 ?side3 ?side4 A28.out).mono ?_); (case side1 => exact kC_ HR390_0 HB); (case side2 => exact HC390_0.out); (case side3 => exact kCt_ (Kd.R_reads' HO397.out).2.2); (case side4 => exact (Kd.R_reads' HO397.out).2.1); rintro e w42 ⟨v400, rfl, ho0, hb⟩; refine ⟨_, rfl, ?_⟩; replace HO_390000 := Aside0.mk (Kd.N_elder' (kN_ HO_390000) (Kd.R_base ho0) hb); replace HO_390001 := Aside0.mk (Kd.N_elder' (kN_ HO_390001) (Kd.R_base ho0) hb); replace HO393 := FR_ HO393 hb; have HO401 := Aside0.mk (Kd.R_lower (Kd.R_new' (Kd.R_newM (M := fun k_ => (w.heap.size ≤ k_)) ho0 (bs_ HB) (fun k_ h_ => h_)) (Kd.R_lt (kR_ HO397))) (bs_ HB)); replace HO397 := Aside0.mk (Kd.R_elder' (kR_ HO397) (Kd.R_base ho0) hb); replace BK384 := FB_ BK384 hb; replace BK385 := FB_ BK385 hb; replace BK386 := FB_ BK386 hb; replace BK388 := FB_ BK388 hb; replace BK389 := FB_ BK389 hb; replace HB := BS_ HB hb; (try clear hb); (try clear ho0); obtain ⟨Ao43, co43, eo43⟩ := Kd.R_slice HO401.out; subst eo43) | ((with_reducible refine gate_callee (f := 39) rfl ?_); refine gL_ (some 44) Try.func39 #[.slice Ao43 t398.length co43] ?_; (with_reducible refine (vcodec_silent.calls k1 _ _ t398 true _ ?side1 ?side2 A29.out).mono ?_); (case side1 => exact kCt_ (Kd.R_reads' HO401.out).2.2); (case side2 => exact (Kd.R_reads' HO401.out).2.1); rintro e w' ⟨rfl, ⟨nd, rfl⟩⟩; refine ⟨_, rfl, ?_⟩; (try (rw [drewN_self w42]; generalize hq_ : World.drewN w42 _ = w42; have n0_ := Aside0.mk (Kd.N_at hq_ HO_390000.out); have n1_ := Aside0.mk (Kd.N_at hq_ HO_390001.out); have n2_ := Aside0.mk (Kd.R_at hq_ HO393.out); have n3_ := Aside0.mk (Kd.R_at hq_ HO397.out); have n4_ := Aside0.mk (Kd.R_at hq_ HO401.out); have n5_ := Aside0.mk (blk_at hq_ BK384.out); have n6_ := Aside0.mk (blk_at hq_ BK385.out); have n7_ := Aside0.mk (blk_at hq_ BK386.out); have n8_ := Aside0.mk (blk_at hq_ BK388.out); have n9_ := Aside0.mk (blk_at hq_ BK389.out); have n10_ := Aside0.mk (below_at hq_ HB.out); clear hq_ HO_390000 HO_390001 HO393 HO397 HO401 BK384 BK385 BK386 BK388 BK389 HB; have HO_390000 := n0_; have HO_390001 := n1_; have HO393 := n2_; have HO397 := n3_; have HO401 := n4_; have BK384 := n5_; have BK385 := n6_; have BK386 := n7_; have BK388 := n8_; have BK389 := n9_; have HB := n10_; clear n0_ n1_ n2_ n3_ n4_ n5_ n6_ n7_ n8_ n9_ n10_)); obtain ⟨Ao44, co44, eo44⟩ := Kd.N_slice HO_390000.out; subst eo44; obtain ⟨Ao45, co45, eo45⟩ := Kd.N_slice HO_390001.out; subst eo45))
 replace HO_390000 := Aside0.mk (Kd.N_drew HO_390000.out)
 replace HO_390001 := Aside0.mk (Kd.N_drew HO_390001.out)
 replace HO393 := Aside0.mk (Kd.R_drew HO393.out)
 replace HO397 := Aside0.mk (Kd.R_drew HO397.out)
 replace HO401 := Aside0.mk (Kd.R_drew HO401.out)
 replace BK384 := Aside0.mk (blk_drew BK384.out)
 replace BK385 := Aside0.mk (blk_drew BK385.out)
 replace BK386 := Aside0.mk (blk_drew BK386.out)
 replace BK388 := Aside0.mk (blk_drew BK388.out)
 replace BK389 := Aside0.mk (blk_drew BK389.out)
 replace HB := Aside0.mk (below_drew1 HB.out)
 refine start_ (n := 14) (S := fun w' => w'.cell? ⟨gb389, 0, none⟩ = some (.slice Ao44 x390000_1.length co44) ∧ w'.cell? ⟨gb389, 1, none⟩ = some (.slice Ao45 x390001_1.length co45)) (ds := [11, 13]) (B_ 14 0) kf_ rfl rfl ⟨ce_ BK389 0, ce_ BK389 1⟩ (fun hHeld => ?_); refine with_tabW vcodec_Encode.tab13 vcodec_Encode.bits13 (fun HT_ HW_ => ?_)
 generalize w42.drew = w46 at HO_390000 HO_390001 HO393 HO397 HO401 BK384 BK385 BK386 BK388 BK389 HB hHeld ⊢
 refine pu_ 0 (some 45) (B_ 14 1) HT_ ?_
 refine pu_ 2 (some 47) (B_ 14 5) HT_ ?_
 refine pu_ 5 (some 50) (B_ 14 37) HT_ ?_
 refine pu_ 7 (some 52) (B_ 14 165) HT_ ?_
 refine take_ (i := 1) (N := some 46) (v := ?_) (a' := ?_) (B_ 14 167) rfl rfl (take_ofW HT_.out HW_.out kf_) (fun _ _ _ h => h) (Or.inl ⟨by rfl, ?_⟩) hHeld ?_ ?_
 rotate_left
 {
 rintro w' ⟨s0, s1⟩
 go_simp
 with_reducible rfl}
 rotate_left
 {
 exact sp_}
 refine take_ (i := 6) (N := some 51) (v := ?_) (a' := ?_) (B_ 14 231) rfl rfl (take_ofW HT_.out HW_.out kf_) (fun _ _ _ h => h) (Or.inl ⟨by rfl, ?_⟩) hHeld ?_ ?_
 rotate_left
 {
 rintro w' ⟨s0, s1⟩
 go_simp
 with_reducible rfl}
 rotate_left
 {
 exact sp_}
 refine join_ (σ := Value × Value × Value) 4 (B_ 14 1535) (fun s_ => [(48, s_.1), (49, s_.2.1), (53, s_.2.2), (55, .pointer (some ⟨gb389, 0, none⟩))]) (fun s_ w' => (w'.cell? ⟨gb389, 0, none⟩ = some (.slice Ao44 x390000_1.length co44) ∧ w'.cell? ⟨gb389, 1, none⟩ = some (.slice Ao45 x390001_1.length co45)) ∧ (Kd.R (Kd.int .i64) 3 w' w.heap.size (fun k_ => (w.heap.size ≤ k_)) (.slice Ao39 t391.length co39) t391) ∧ (Kd.R (Kd.int .i64) 2 w' w.heap.size (fun k_ => (w.heap.size ≤ k_) ∧ some k_ ≠ (.slice Ao43 t398.length co43 : Value).ownBlock) (.slice Ao41 t394.length co41) t394) ∧ (Kd.R (Kd.int .i64) 2 w' w.heap.size (fun k_ => (w.heap.size ≤ k_) ∧ some k_ ≠ (.slice Ao41 t394.length co41 : Value).ownBlock) (.slice Ao43 t398.length co43) t398) ∧ (Kd.N (Kd.slice 3 (Kd.int .i64)) 22 w' w.heap.size (fun k_ => (w.heap.size ≤ k_) ∧ some k_ ≠ (.slice Ao39 t391.length co39 : Value).ownBlock ∧ some k_ ≠ (.slice Ao41 t394.length co41 : Value).ownBlock ∧ some k_ ≠ (.slice Ao43 t398.length co43 : Value).ownBlock ∧ some k_ ≠ (s_.2.1 : Value).ownBlock ∧ some k_ ≠ (s_.2.2 : Value).ownBlock ∧ some k_ ≠ (.slice Ao45 x390001_1.length co45 : Value).ownBlock ∧ k_ ≠ gb384 ∧ k_ ≠ gb385 ∧ k_ ≠ gb386 ∧ k_ ≠ gb388 ∧ k_ ≠ gb389) s_.1 y403) ∧ (Kd.N (Kd.slice 3 (Kd.int .i64)) 22 w' w.heap.size (fun k_ => (w.heap.size ≤ k_) ∧ some k_ ≠ (.slice Ao39 t391.length co39 : Value).ownBlock ∧ some k_ ≠ (.slice Ao41 t394.length co41 : Value).ownBlock ∧ some k_ ≠ (.slice Ao43 t398.length co43 : Value).ownBlock ∧ some k_ ≠ (s_.2.2 : Value).ownBlock ∧ some k_ ≠ (.slice Ao45 x390001_1.length co45 : Value).ownBlock ∧ k_ ≠ gb384 ∧ k_ ≠ gb385 ∧ k_ ≠ gb386 ∧ k_ ≠ gb388 ∧ k_ ≠ gb389) s_.2.1 y406) ∧ (Kd.N (Kd.slice 2 (Kd.int .i64)) 53 w' w.heap.size (fun k_ => (w.heap.size ≤ k_) ∧ some k_ ≠ (.slice Ao39 t391.length co39 : Value).ownBlock ∧ some k_ ≠ (.slice Ao41 t394.length co41 : Value).ownBlock ∧ some k_ ≠ (.slice Ao43 t398.length co43 : Value).ownBlock ∧ some k_ ≠ (s_.1 : Value).ownBlock ∧ some k_ ≠ (s_.2.1 : Value).ownBlock ∧ some k_ ≠ (.slice Ao45 x390001_1.length co45 : Value).ownBlock ∧ k_ ≠ gb384 ∧ k_ ≠ gb385 ∧ k_ ≠ gb386 ∧ k_ ≠ gb388 ∧ k_ ≠ gb389) s_.2.2 y409) ∧ (Kd.N (Kd.slice 2 (Kd.int .i64)) 53 w' w.heap.size (fun k_ => (w.heap.size ≤ k_) ∧ some k_ ≠ (.slice Ao39 t391.length co39 : Value).ownBlock ∧ some k_ ≠ (.slice Ao41 t394.length co41 : Value).ownBlock ∧ some k_ ≠ (.slice Ao43 t398.length co43 : Value).ownBlock ∧ some k_ ≠ (s_.1 : Value).ownBlock ∧ some k_ ≠ (s_.2.1 : Value).ownBlock ∧ some k_ ≠ (s_.2.2 : Value).ownBlock ∧ k_ ≠ gb384 ∧ k_ ≠ gb385 ∧ k_ ≠ gb386 ∧ k_ ≠ gb388 ∧ k_ ≠ gb389) (.slice Ao45 x390001_1.length co45) x390001_1) ∧ (w'.heap[gb384]? = some (.cells #[.int .i64 a0_0, .int .i64 a0_1, .slice A0_2 l0_2.length c0_2, .slice A0_3 l0_3.length c0_3] 24 (0, 0))) ∧ (w'.heap[gb385]? = some (.cells #[.slice (some ad390) l1_0.length c1_0] 37 (0, 0))) ∧ (w'.heap[gb386]? = some (.cells #[.slice none 0 0, .slice none 0 0] 28 (0, 0))) ∧ (w'.heap[gb388]? = some (.cells #[.int .i64 a0_0, .int .i64 a0_1, .slice A0_2 l0_2.length c0_2, .slice A0_3 l0_3.length c0_3] 61 (0, 0))) ∧ (w'.heap[gb389]? = some (.cells #[.slice Ao44 x390000_1.length co44, .slice Ao45 x390001_1.length co45] 28 (0, 0))) ∧ (Below w.heap.size w w')) ?_ ?_
 rotate_left
 {
 intro hCont
 refine two_ (i := 3) (j := 8) (Ni := some 48) (Nj := some 53) (B_ 14 239) (B_ 14 487) rfl rfl rfl rfl (two_of HT_.out kf_) (by decide) (by decide) (fun K hK => ?_) (fun K hK => ?_)
 {
 skip
 refine Kd.N_lit_step (Kd.slice 3 (Kd.int .i64)) _ 22 ?hg (N' := 48) ?hd (xs := ([([] : List Int)] : List (List Int))) (inner := [.slice none 0 0]) (ok := (fun k_ => (w.heap.size ≤ k_) ∧ some k_ ≠ (.slice Ao44 x390000_1.length co44 : Value).ownBlock ∧ some k_ ≠ (.slice Ao45 x390001_1.length co45 : Value).ownBlock ∧ some k_ ≠ (.slice Ao39 t391.length co39 : Value).ownBlock ∧ some k_ ≠ (.slice Ao41 t394.length co41 : Value).ownBlock ∧ some k_ ≠ (.slice Ao43 t398.length co43 : Value).ownBlock ∧ k_ ≠ gb384 ∧ k_ ≠ gb385 ∧ k_ ≠ gb386 ∧ k_ ≠ gb388 ∧ k_ ≠ gb389)) (okp := (fun k_ => (w.heap.size ≤ k_) ∧ some k_ ≠ (.slice Ao44 x390000_1.length co44 : Value).ownBlock ∧ some k_ ≠ (.slice Ao45 x390001_1.length co45 : Value).ownBlock ∧ some k_ ≠ (.slice Ao39 t391.length co39 : Value).ownBlock ∧ some k_ ≠ (.slice Ao41 t394.length co41 : Value).ownBlock ∧ some k_ ≠ (.slice Ao43 t398.length co43 : Value).ownBlock ∧ k_ ≠ gb384 ∧ k_ ≠ gb385 ∧ k_ ≠ gb386 ∧ k_ ≠ gb388 ∧ k_ ≠ gb389)) ?hr ?hp (fun _ hk => hk) (fr_ (P := (fun k_ => (w.heap.size ≤ k_) ∧ some k_ ≠ (.slice Ao44 x390000_1.length co44 : Value).ownBlock ∧ some k_ ≠ (.slice Ao45 x390001_1.length co45 : Value).ownBlock ∧ some k_ ≠ (.slice Ao39 t391.length co39 : Value).ownBlock ∧ some k_ ≠ (.slice Ao41 t394.length co41 : Value).ownBlock ∧ some k_ ≠ (.slice Ao43 t398.length co43 : Value).ownBlock ∧ k_ ≠ gb384 ∧ k_ ≠ gb385 ∧ k_ ≠ gb386 ∧ k_ ≠ gb388 ∧ k_ ≠ gb389)) (fun k_ hk => ⟨(Nat.le_trans (bs_ HB) hk), Kd.fresh' (Kd.N_lt (kN_ HO_390000)) k_ hk, Kd.fresh' (Kd.N_lt (kN_ HO_390001)) k_ hk, Kd.fresh' (Kd.R_lt (kR_ HO393)) k_ hk, Kd.fresh' (Kd.R_lt (kR_ HO397)) k_ hk, Kd.fresh' (Kd.R_lt (kR_ HO401)) k_ hk, Kd.freshB (g := gb384) (o := .cells #[.int .i64 a0_0, .int .i64 a0_1, .slice A0_2 l0_2.length c0_2, .slice A0_3 l0_3.length c0_3] 24 (0, 0)) (bk_ BK384) k_ hk, Kd.freshB (g := gb385) (o := .cells #[.slice (some ad390) l1_0.length c1_0] 37 (0, 0)) (bk_ BK385) k_ hk, Kd.freshB (g := gb386) (o := .cells #[.slice none 0 0, .slice none 0 0] 28 (0, 0)) (bk_ BK386) k_ hk, Kd.freshB (g := gb388) (o := .cells #[.int .i64 a0_0, .int .i64 a0_1, .slice A0_2 l0_2.length c0_2, .slice A0_3 l0_3.length c0_3] 61 (0, 0)) (bk_ BK388) k_ hk, Kd.freshB (g := gb389) (o := .cells #[.slice Ao44 x390000_1.length co44, .slice Ao45 x390001_1.length co45] 28 (0, 0)) (bk_ BK389) k_ hk⟩)) (Below.refl _ _) (Nat.le_refl _) (by simp) ?_; (case hd => rfl); (case hg => rfl); (case hr => first | (go_simp; done) | (go_simp; rfl)); (case hp => exact (Reps.one (show Kd.FK (Kd.slice 3 (Kd.int .i64)) _ _ ([] : List Int) [.slice none 0 0] from (Kd.FK_slice_mk (Nat.le_refl _) (Kd.F_nil _ _ _))) (Reps.none _ _)))
 intro v404 w47 ho48 hb hg_ hnew_
 clear hg_ hnew_
 (first | rw [← Ny403.out] at ho48 | (simp only [Int.reduceToNat] at ho48; rw [← Ny403.out] at ho48))
 replace HO_390000 := Aside0.mk (Kd.N_elder' (kN_ HO_390000) (Kd.N_base ho48) hb)
 replace HO_390001 := Aside0.mk (Kd.N_elder' (kN_ HO_390001) (Kd.N_base ho48) hb)
 replace HO393 := FR_ HO393 hb
 replace HO397 := FR_ HO397 hb
 replace HO401 := FR_ HO401 hb
 have HO405 := Aside0.mk (Kd.N_lower ho48 (bs_ HB))
 replace BK384 := FB_ BK384 hb
 replace BK385 := FB_ BK385 hb
 replace BK386 := FB_ BK386 hb
 replace BK388 := FB_ BK388 hb
 replace BK389 := FB_ BK389 hb
 replace HB := BS_ HB hb
 clear hb ho48
 refine hK.out _ _ ⟨ce_ BK389 0, ce_ BK389 1⟩ (fun hHeld => ?_)
 clear hK K
 refine norm_ (a' := ?_) ?_ ?_
 rotate_left
 {
 show Act.put _ (some 48) _ = _
 exact sp_}
 refine two_ (i := 4) (j := 8) (Ni := some 49) (Nj := some 53) (B_ 14 255) (B_ 14 495) rfl rfl rfl rfl (two_of HT_.out kf_) (by decide) (by decide) (fun K hK => ?_) (fun K hK => ?_)
 {
 skip
 obtain ⟨Ao50, co50, eo50⟩ := Kd.N_slice HO405.out
 (first | subst eo50 | (injection eo50 with f1_ f2_ f3_; have f4_ := f1_.symm; have f5_ := f3_.symm; clear f1_ f2_ f3_; subst f4_; subst f5_))
 refine Kd.N_append_rows_step (Kd.slice 3 (Kd.int .i64)) (w0 := w) w.heap.size (by rfl) (.tmp 46) (.tmp 48) 25 22 (.slice none 0 0) 24 rfl Try.underlying25 info22 rfl (by decide) (by omega) (.slice Ao44 x390000_1.length co44) x390000_1 y403 _ _ _ (fun k_ => (w.heap.size ≤ k_) ∧ some k_ ≠ (.slice Ao45 x390001_1.length co45 : Value).ownBlock ∧ some k_ ≠ (.slice Ao39 t391.length co39 : Value).ownBlock ∧ some k_ ≠ (.slice Ao41 t394.length co41 : Value).ownBlock ∧ some k_ ≠ (.slice Ao43 t398.length co43 : Value).ownBlock ∧ k_ ≠ gb384 ∧ k_ ≠ gb385 ∧ k_ ≠ gb386 ∧ k_ ≠ gb388 ∧ k_ ≠ gb389) (fun k_ => ((fun k_ => (w.heap.size ≤ k_) ∧ some k_ ≠ (.slice Ao45 x390001_1.length co45 : Value).ownBlock ∧ some k_ ≠ (.slice Ao39 t391.length co39 : Value).ownBlock ∧ some k_ ≠ (.slice Ao41 t394.length co41 : Value).ownBlock ∧ some k_ ≠ (.slice Ao43 t398.length co43 : Value).ownBlock ∧ k_ ≠ gb384 ∧ k_ ≠ gb385 ∧ k_ ≠ gb386 ∧ k_ ≠ gb388 ∧ k_ ≠ gb389)) k_ ∧ some k_ ≠ (.slice Ao44 x390000_1.length co44 : Value).ownBlock) rfl rfl ?aO ?aR (fun _ hk => hk) ?aF ?aB ?aS ?aL ?_
 (case aR => exact (by skip; exact Kd.N_F (Kd.N_mono (ok' := (fun k_ => ((fun k_ => (w.heap.size ≤ k_) ∧ some k_ ≠ (.slice Ao45 x390001_1.length co45 : Value).ownBlock ∧ some k_ ≠ (.slice Ao39 t391.length co39 : Value).ownBlock ∧ some k_ ≠ (.slice Ao41 t394.length co41 : Value).ownBlock ∧ some k_ ≠ (.slice Ao43 t398.length co43 : Value).ownBlock ∧ k_ ≠ gb384 ∧ k_ ≠ gb385 ∧ k_ ≠ gb386 ∧ k_ ≠ gb388 ∧ k_ ≠ gb389)) k_ ∧ some k_ ≠ (.slice Ao44 x390000_1.length co44 : Value).ownBlock)) (HO405.out) (fun k_ hk => ⟨⟨hk.1, ⟨hk.2.2.1, ⟨hk.2.2.2.1, ⟨hk.2.2.2.2.1, ⟨hk.2.2.2.2.2.1, ⟨hk.2.2.2.2.2.2.1, ⟨hk.2.2.2.2.2.2.2.1, ⟨hk.2.2.2.2.2.2.2.2.1, ⟨hk.2.2.2.2.2.2.2.2.2.1, hk.2.2.2.2.2.2.2.2.2.2⟩⟩⟩⟩⟩⟩⟩⟩⟩, hk.2.1⟩))))
 (case aB => exact (bl_ HB))
 (case aF => exact (fun k_ hk => ⟨(Nat.le_trans (bs_ HB) hk), Kd.fresh' (Kd.N_lt (kN_ HO_390001)) k_ hk, Kd.fresh' (Kd.R_lt (kR_ HO393)) k_ hk, Kd.fresh' (Kd.R_lt (kR_ HO397)) k_ hk, Kd.fresh' (Kd.R_lt (kR_ HO401)) k_ hk, Kd.freshB (g := gb384) (o := .cells #[.int .i64 a0_0, .int .i64 a0_1, .slice A0_2 l0_2.length c0_2, .slice A0_3 l0_3.length c0_3] 24 (0, 0)) (bk_ BK384) k_ hk, Kd.freshB (g := gb385) (o := .cells #[.slice (some ad390) l1_0.length c1_0] 37 (0, 0)) (bk_ BK385) k_ hk, Kd.freshB (g := gb386) (o := .cells #[.slice none 0 0, .slice none 0 0] 28 (0, 0)) (bk_ BK386) k_ hk, Kd.freshB (g := gb388) (o := .cells #[.int .i64 a0_0, .int .i64 a0_1, .slice A0_2 l0_2.length c0_2, .slice A0_3 l0_3.length c0_3] 61 (0, 0)) (bk_ BK388) k_ hk, Kd.freshB (g := gb389) (o := .cells #[.slice Ao44 x390000_1.length co44, .slice Ao45 x390001_1.length co45] 28 (0, 0)) (bk_ BK389) k_ hk⟩))
 (case aO => exact (by (with_reducible repeat (first | apply Kd.N_alloc | apply Kd.N_drewN | apply Kd.N_drew)); exact Kd.N_mono HO_390000.out (fun _ hk => ⟨hk.1.1.1.1.1, ⟨hk.1.1.1.1.2.1, ⟨hk.1.1.1.2, ⟨hk.1.1.2, ⟨hk.1.2, ⟨hk.1.1.1.1.2.2.1, ⟨hk.1.1.1.1.2.2.2.1, ⟨hk.1.1.1.1.2.2.2.2.1, ⟨hk.1.1.1.1.2.2.2.2.2.1, hk.1.1.1.1.2.2.2.2.2.2⟩⟩⟩⟩⟩⟩⟩⟩⟩)))
 (case aS => exact (bs_ HB))
 (case aL => have := LMc31.out; omega)
 intro v407 w49 ho hb hg hat
 rw [← Ny406.out] at ho
 replace HO_390001 := Aside0.mk (Kd.N_afterv (ok := (fun k_ => (w.heap.size ≤ k_) ∧ some k_ ≠ (.slice Ao39 t391.length co39 : Value).ownBlock ∧ some k_ ≠ (.slice Ao41 t394.length co41 : Value).ownBlock ∧ some k_ ≠ (.slice Ao43 t398.length co43 : Value).ownBlock ∧ some k_ ≠ (.slice Ao50 y403.length co50 : Value).ownBlock ∧ k_ ≠ gb384 ∧ k_ ≠ gb385 ∧ k_ ≠ gb386 ∧ k_ ≠ gb388 ∧ k_ ≠ gb389)) (by (with_reducible repeat (first | apply Kd.N_alloc | apply Kd.N_drewN | apply Kd.N_drew)); exact Kd.N_mono HO_390001.out (fun _ hk => ⟨⟨hk.1.1.1.1.1, ⟨hk.1.1.1.2, ⟨hk.1.1.2, ⟨hk.1.2, ⟨hk.2, ⟨hk.1.1.1.1.2.2.1, ⟨hk.1.1.1.1.2.2.2.1, ⟨hk.1.1.1.1.2.2.2.2.1, ⟨hk.1.1.1.1.2.2.2.2.2.1, hk.1.1.1.1.2.2.2.2.2.2⟩⟩⟩⟩⟩⟩⟩⟩⟩, hk.1.1.1.1.2.1⟩)) hg hat)
 replace BK384 := (FG_ BK384 hg (Kd.N_ne HO_390000.out BK384.out (by decide)))
 replace BK385 := (FG_ BK385 hg (Kd.N_ne HO_390000.out BK385.out (by decide)))
 replace BK386 := (FG_ BK386 hg (Kd.N_ne HO_390000.out BK386.out (by decide)))
 replace BK388 := (FG_ BK388 hg (Kd.N_ne HO_390000.out BK388.out (by decide)))
 replace BK389 := (FG_ BK389 hg (Kd.N_ne HO_390000.out BK389.out (by decide)))
 replace HO393 := Aside0.mk (Kd.R_over' (kR_ HO393) (Kd.N_typed (kN_ HO_390000)) (by decide) hg)
 replace HO397 := Aside0.mk (Kd.R_over' (kR_ HO397) (Kd.N_typed (kN_ HO_390000)) (by decide) hg)
 replace HO401 := Aside0.mk (Kd.R_over' (kR_ HO401) (Kd.N_typed (kN_ HO_390000)) (by decide) hg)
 replace HO405 := Aside0.mk (Kd.N_afterv (ok := (fun k_ => (w.heap.size ≤ k_) ∧ some k_ ≠ (.slice Ao45 x390001_1.length co45 : Value).ownBlock ∧ some k_ ≠ (.slice Ao39 t391.length co39 : Value).ownBlock ∧ some k_ ≠ (.slice Ao41 t394.length co41 : Value).ownBlock ∧ some k_ ≠ (.slice Ao43 t398.length co43 : Value).ownBlock ∧ k_ ≠ gb384 ∧ k_ ≠ gb385 ∧ k_ ≠ gb386 ∧ k_ ≠ gb388 ∧ k_ ≠ gb389)) (by (with_reducible repeat (first | apply Kd.N_alloc | apply Kd.N_drewN | apply Kd.N_drew)); exact Kd.N_mono HO405.out (fun _ hk => ⟨⟨hk.1, ⟨hk.2.2.1, ⟨hk.2.2.2.1, ⟨hk.2.2.2.2.1, ⟨hk.2.2.2.2.2.1, ⟨hk.2.2.2.2.2.2.1, ⟨hk.2.2.2.2.2.2.2.1, ⟨hk.2.2.2.2.2.2.2.2.1, ⟨hk.2.2.2.2.2.2.2.2.2.1, hk.2.2.2.2.2.2.2.2.2.2⟩⟩⟩⟩⟩⟩⟩⟩⟩, hk.2.1⟩)) hg hat)
 replace HB := Aside0.mk (hb)
 have HO408 := Aside0.mk (ho)
 clear HO_390000
 clear ho hb hg hat
 refine hK.out _ _ ⟨ce_ BK389 0, ce_ BK389 1⟩ (fun hHeld => ?_)
 clear hK K
 refine norm_ (a' := ?_) ?_ ?_
 rotate_left
 {
 show Act.put _ (some 49) _ = _
 exact sp_}
 refine pu_ 10 (some 55) (B_ 14 1279) HT_ ?_
 refine one_ (i := 8) (N := some 53) (B_ 14 1535) rfl rfl (one_of HT_.out kf_) (by decide) (fun K hK => ?_)
 refine Kd.N_lit_step (Kd.slice 2 (Kd.int .i64)) _ 53 ?hg (N' := 53) ?hd (xs := ([([] : List Int)] : List (List Int))) (inner := [.slice none 0 0]) (ok := (fun k_ => (w.heap.size ≤ k_) ∧ some k_ ≠ (.slice Ao45 x390001_1.length co45 : Value).ownBlock ∧ some k_ ≠ (.slice Ao39 t391.length co39 : Value).ownBlock ∧ some k_ ≠ (.slice Ao41 t394.length co41 : Value).ownBlock ∧ some k_ ≠ (.slice Ao43 t398.length co43 : Value).ownBlock ∧ some k_ ≠ (.slice Ao50 y403.length co50 : Value).ownBlock ∧ some k_ ≠ (v407 : Value).ownBlock ∧ k_ ≠ gb384 ∧ k_ ≠ gb385 ∧ k_ ≠ gb386 ∧ k_ ≠ gb388 ∧ k_ ≠ gb389)) (okp := (fun k_ => (w.heap.size ≤ k_) ∧ some k_ ≠ (.slice Ao45 x390001_1.length co45 : Value).ownBlock ∧ some k_ ≠ (.slice Ao39 t391.length co39 : Value).ownBlock ∧ some k_ ≠ (.slice Ao41 t394.length co41 : Value).ownBlock ∧ some k_ ≠ (.slice Ao43 t398.length co43 : Value).ownBlock ∧ some k_ ≠ (.slice Ao50 y403.length co50 : Value).ownBlock ∧ some k_ ≠ (v407 : Value).ownBlock ∧ k_ ≠ gb384 ∧ k_ ≠ gb385 ∧ k_ ≠ gb386 ∧ k_ ≠ gb388 ∧ k_ ≠ gb389)) ?hr ?hp (fun _ hk => hk) (fr_ (P := (fun k_ => (w.heap.size ≤ k_) ∧ some k_ ≠ (.slice Ao45 x390001_1.length co45 : Value).ownBlock ∧ some k_ ≠ (.slice Ao39 t391.length co39 : Value).ownBlock ∧ some k_ ≠ (.slice Ao41 t394.length co41 : Value).ownBlock ∧ some k_ ≠ (.slice Ao43 t398.length co43 : Value).ownBlock ∧ some k_ ≠ (.slice Ao50 y403.length co50 : Value).ownBlock ∧ some k_ ≠ (v407 : Value).ownBlock ∧ k_ ≠ gb384 ∧ k_ ≠ gb385 ∧ k_ ≠ gb386 ∧ k_ ≠ gb388 ∧ k_ ≠ gb389)) (fun k_ hk => ⟨(Nat.le_trans (bs_ HB) hk), Kd.fresh' (Kd.N_lt (kN_ HO_390001)) k_ hk, Kd.fresh' (Kd.R_lt (kR_ HO393)) k_ hk, Kd.fresh' (Kd.R_lt (kR_ HO397)) k_ hk, Kd.fresh' (Kd.R_lt (kR_ HO401)) k_ hk, Kd.fresh' (Kd.N_lt (kN_ HO405)) k_ hk, Kd.fresh' (Kd.N_lt (kN_ HO408)) k_ hk, Kd.freshB (g := gb384) (o := .cells #[.int .i64 a0_0, .int .i64 a0_1, .slice A0_2 l0_2.length c0_2, .slice A0_3 l0_3.length c0_3] 24 (0, 0)) (bk_ BK384) k_ hk, Kd.freshB (g := gb385) (o := .cells #[.slice (some ad390) l1_0.length c1_0] 37 (0, 0)) (bk_ BK385) k_ hk, Kd.freshB (g := gb386) (o := .cells #[.slice none 0 0, .slice none 0 0] 28 (0, 0)) (bk_ BK386) k_ hk, Kd.freshB (g := gb388) (o := .cells #[.int .i64 a0_0, .int .i64 a0_1, .slice A0_2 l0_2.length c0_2, .slice A0_3 l0_3.length c0_3] 61 (0, 0)) (bk_ BK388) k_ hk, Kd.freshB (g := gb389) (o := .cells #[.slice Ao44 x390000_1.length co44, .slice Ao45 x390001_1.length co45] 28 (0, 0)) (bk_ BK389) k_ hk⟩)) (Below.refl _ _) (Nat.le_refl _) (by simp) ?_; (case hd => rfl); (case hg => rfl); (case hr => first | (go_simp; done) | (go_simp; rfl)); (case hp => exact (Reps.one (show Kd.FK (Kd.slice 2 (Kd.int .i64)) _ _ ([] : List Int) [.slice none 0 0] from (Kd.FK_slice_mk (Nat.le_refl _) (Kd.F_nil _ _ _))) (Reps.none _ _)))
 intro v410 w51 ho52 hb hg_ hnew_
 clear hg_ hnew_
 (first | rw [← Ny409.out] at ho52 | (simp only [Int.reduceToNat] at ho52; rw [← Ny409.out] at ho52))
 replace HO_390001 := Aside0.mk (Kd.N_elder' (kN_ HO_390001) (Kd.N_base ho52) hb)
 replace HO393 := FR_ HO393 hb
 replace HO397 := FR_ HO397 hb
 replace HO401 := FR_ HO401 hb
 replace HO405 := Aside0.mk (Kd.N_elder' (kN_ HO405) (Kd.N_base ho52) hb)
 replace HO408 := Aside0.mk (Kd.N_elder' (kN_ HO408) (Kd.N_base ho52) hb)
 have HO411 := Aside0.mk (Kd.N_lower ho52 (bs_ HB))
 replace BK384 := FB_ BK384 hb
 replace BK385 := FB_ BK385 hb
 replace BK386 := FB_ BK386 hb
 replace BK388 := FB_ BK388 hb
 replace BK389 := FB_ BK389 hb
 replace HB := BS_ HB hb
 clear hb ho52
 refine hK.out _ _ ⟨ce_ BK389 0, ce_ BK389 1⟩ (fun hHeld => ?_)
 clear hK K
 refine norm_ (a' := ?_) ?_ ?_
 rotate_left
 {
 show Act.put _ (some 53) _ = _
 exact sp_}
 exact norm_ pa_ (hCont (.slice Ao50 y403.length co50, v407, v410) _ ⟨hHeld, (by (with_reducible repeat (first | apply Kd.R_alloc | apply Kd.R_drewN | apply Kd.R_drew)); exact Kd.R_mono HO393.out (fun _ hk => hk.1)), (by (with_reducible repeat (first | apply Kd.R_alloc | apply Kd.R_drewN | apply Kd.R_drew)); exact Kd.R_mono HO397.out (fun _ hk => ⟨hk.1.1, hk.2⟩)), (by (with_reducible repeat (first | apply Kd.R_alloc | apply Kd.R_drewN | apply Kd.R_drew)); exact Kd.R_mono HO401.out (fun _ hk => ⟨hk.1.1, hk.2⟩)), (by (with_reducible repeat (first | apply Kd.N_alloc | apply Kd.N_drewN | apply Kd.N_drew)); exact Kd.N_mono HO405.out (fun _ hk => ⟨hk.1.1.1, ⟨hk.1.1.2.2.1, ⟨hk.1.1.2.2.2.1, ⟨hk.1.1.2.2.2.2.1, ⟨hk.1.2, ⟨hk.2, ⟨hk.1.1.2.1, ⟨hk.1.1.2.2.2.2.2.1, ⟨hk.1.1.2.2.2.2.2.2.1, ⟨hk.1.1.2.2.2.2.2.2.2.1, ⟨hk.1.1.2.2.2.2.2.2.2.2.1, hk.1.1.2.2.2.2.2.2.2.2.2⟩⟩⟩⟩⟩⟩⟩⟩⟩⟩⟩)), (by (with_reducible repeat (first | apply Kd.N_alloc | apply Kd.N_drewN | apply Kd.N_drew)); exact Kd.N_mono HO408.out (fun _ hk => ⟨hk.1.1, ⟨hk.1.2.2.1, ⟨hk.1.2.2.2.1, ⟨hk.1.2.2.2.2.1, ⟨hk.2, ⟨hk.1.2.1, ⟨hk.1.2.2.2.2.2.1, ⟨hk.1.2.2.2.2.2.2.1, ⟨hk.1.2.2.2.2.2.2.2.1, ⟨hk.1.2.2.2.2.2.2.2.2.1, hk.1.2.2.2.2.2.2.2.2.2⟩⟩⟩⟩⟩⟩⟩⟩⟩⟩)), (by (with_reducible repeat (first | apply Kd.N_alloc | apply Kd.N_drewN | apply Kd.N_drew)); exact Kd.N_mono HO411.out (fun _ hk => ⟨hk.1, ⟨hk.2.2.1, ⟨hk.2.2.2.1, ⟨hk.2.2.2.2.1, ⟨hk.2.2.2.2.2.1, ⟨hk.2.2.2.2.2.2.1, ⟨hk.2.1, ⟨hk.2.2.2.2.2.2.2.1, ⟨hk.2.2.2.2.2.2.2.2.1, ⟨hk.2.2.2.2.2.2.2.2.2.1, ⟨hk.2.2.2.2.2.2.2.2.2.2.1, hk.2.2.2.2.2.2.2.2.2.2.2⟩⟩⟩⟩⟩⟩⟩⟩⟩⟩⟩)), (by (with_reducible repeat (first | apply Kd.N_alloc | apply Kd.N_drewN | apply Kd.N_drew)); exact Kd.N_mono HO_390001.out (fun _ hk => ⟨hk.1.1.1, ⟨hk.1.1.2.1, ⟨hk.1.1.2.2.1, ⟨hk.1.1.2.2.2.1, ⟨hk.1.1.2.2.2.2.1, ⟨hk.1.2, ⟨hk.2, ⟨hk.1.1.2.2.2.2.2.1, ⟨hk.1.1.2.2.2.2.2.2.1, ⟨hk.1.1.2.2.2.2.2.2.2.1, ⟨hk.1.1.2.2.2.2.2.2.2.2.1, hk.1.1.2.2.2.2.2.2.2.2.2⟩⟩⟩⟩⟩⟩⟩⟩⟩⟩⟩)), (bk_ BK384), (bk_ BK385), (bk_ BK386), (bk_ BK388), (bk_ BK389), (bl_ HB)⟩)}
 {
 skip
 refine Kd.N_lit_step (Kd.slice 2 (Kd.int .i64)) _ 53 ?hg (N' := 53) ?hd (xs := ([([] : List Int)] : List (List Int))) (inner := [.slice none 0 0]) (ok := (fun k_ => (w.heap.size ≤ k_) ∧ some k_ ≠ (.slice Ao44 x390000_1.length co44 : Value).ownBlock ∧ some k_ ≠ (.slice Ao45 x390001_1.length co45 : Value).ownBlock ∧ some k_ ≠ (.slice Ao39 t391.length co39 : Value).ownBlock ∧ some k_ ≠ (.slice Ao41 t394.length co41 : Value).ownBlock ∧ some k_ ≠ (.slice Ao43 t398.length co43 : Value).ownBlock ∧ some k_ ≠ (v404 : Value).ownBlock ∧ k_ ≠ gb384 ∧ k_ ≠ gb385 ∧ k_ ≠ gb386 ∧ k_ ≠ gb388 ∧ k_ ≠ gb389)) (okp := (fun k_ => (w.heap.size ≤ k_) ∧ some k_ ≠ (.slice Ao44 x390000_1.length co44 : Value).ownBlock ∧ some k_ ≠ (.slice Ao45 x390001_1.length co45 : Value).ownBlock ∧ some k_ ≠ (.slice Ao39 t391.length co39 : Value).ownBlock ∧ some k_ ≠ (.slice Ao41 t394.length co41 : Value).ownBlock ∧ some k_ ≠ (.slice Ao43 t398.length co43 : Value).ownBlock ∧ some k_ ≠ (v404 : Value).ownBlock ∧ k_ ≠ gb384 ∧ k_ ≠ gb385 ∧ k_ ≠ gb386 ∧ k_ ≠ gb388 ∧ k_ ≠ gb389)) ?hr ?hp (fun _ hk => hk) (fr_ (P := (fun k_ => (w.heap.size ≤ k_) ∧ some k_ ≠ (.slice Ao44 x390000_1.length co44 : Value).ownBlock ∧ some k_ ≠ (.slice Ao45 x390001_1.length co45 : Value).ownBlock ∧ some k_ ≠ (.slice Ao39 t391.length co39 : Value).ownBlock ∧ some k_ ≠ (.slice Ao41 t394.length co41 : Value).ownBlock ∧ some k_ ≠ (.slice Ao43 t398.length co43 : Value).ownBlock ∧ some k_ ≠ (v404 : Value).ownBlock ∧ k_ ≠ gb384 ∧ k_ ≠ gb385 ∧ k_ ≠ gb386 ∧ k_ ≠ gb388 ∧ k_ ≠ gb389)) (fun k_ hk => ⟨(Nat.le_trans (bs_ HB) hk), Kd.fresh' (Kd.N_lt (kN_ HO_390000)) k_ hk, Kd.fresh' (Kd.N_lt (kN_ HO_390001)) k_ hk, Kd.fresh' (Kd.R_lt (kR_ HO393)) k_ hk, Kd.fresh' (Kd.R_lt (kR_ HO397)) k_ hk, Kd.fresh' (Kd.R_lt (kR_ HO401)) k_ hk, Kd.fresh' (Kd.N_lt (kN_ HO405)) k_ hk, Kd.freshB (g := gb384) (o := .cells #[.int .i64 a0_0, .int .i64 a0_1, .slice A0_2 l0_2.length c0_2, .slice A0_3 l0_3.length c0_3] 24 (0, 0)) (bk_ BK384) k_ hk, Kd.freshB (g := gb385) (o := .cells #[.slice (some ad390) l1_0.length c1_0] 37 (0, 0)) (bk_ BK385) k_ hk, Kd.freshB (g := gb386) (o := .cells #[.slice none 0 0, .slice none 0 0] 28 (0, 0)) (bk_ BK386) k_ hk, Kd.freshB (g := gb388) (o := .cells #[.int .i64 a0_0, .int .i64 a0_1, .slice A0_2 l0_2.length c0_2, .slice A0_3 l0_3.length c0_3] 61 (0, 0)) (bk_ BK388) k_ hk, Kd.freshB (g := gb389) (o := .cells #[.slice Ao44 x390000_1.length co44, .slice Ao45 x390001_1.length co45] 28 (0, 0)) (bk_ BK389) k_ hk⟩)) (Below.refl _ _) (Nat.le_refl _) (by simp) ?_; (case hd => rfl); (case hg => rfl); (case hr => first | (go_simp; done) | (go_simp; rfl)); (case hp => exact (Reps.one (show Kd.FK (Kd.slice 2 (Kd.int .i64)) _ _ ([] : List Int) [.slice none 0 0] from (Kd.FK_slice_mk (Nat.le_refl _) (Kd.F_nil _ _ _))) (Reps.none _ _)))
 intro v410 w49 ho50 hb hg_ hnew_
 clear hg_ hnew_
 (first | rw [← Ny409.out] at ho50 | (simp only [Int.reduceToNat] at ho50; rw [← Ny409.out] at ho50))
 replace HO_390000 := Aside0.mk (Kd.N_elder' (kN_ HO_390000) (Kd.N_base ho50) hb)
 replace HO_390001 := Aside0.mk (Kd.N_elder' (kN_ HO_390001) (Kd.N_base ho50) hb)
 replace HO393 := FR_ HO393 hb
 replace HO397 := FR_ HO397 hb
 replace HO401 := FR_ HO401 hb
 replace HO405 := Aside0.mk (Kd.N_elder' (kN_ HO405) (Kd.N_base ho50) hb)
 have HO411 := Aside0.mk (Kd.N_lower ho50 (bs_ HB))
 replace BK384 := FB_ BK384 hb
 replace BK385 := FB_ BK385 hb
 replace BK386 := FB_ BK386 hb
 replace BK388 := FB_ BK388 hb
 replace BK389 := FB_ BK389 hb
 replace HB := BS_ HB hb
 clear hb ho50
 obtain ⟨Ao52, co52, eo52⟩ := Kd.N_slice HO405.out
 (first | subst eo52 | (injection eo52 with f1_ f2_ f3_; have f4_ := f1_.symm; have f5_ := f3_.symm; clear f1_ f2_ f3_; subst f4_; subst f5_))
 refine hK.out _ _ ⟨ce_ BK389 0, ce_ BK389 1⟩ (fun hHeld => ?_)
 clear hK K
 refine norm_ (a' := ?_) ?_ ?_
 rotate_left
 {
 show Act.put _ (some 53) _ = _
 exact sp_}
 refine one_ (i := 4) (N := some 49) (B_ 14 511) rfl rfl (one_of HT_.out kf_) (by decide) (fun K hK => ?_)
 refine Kd.N_append_rows_step (Kd.slice 3 (Kd.int .i64)) (w0 := w) w.heap.size (by rfl) (.tmp 46) (.tmp 48) 25 22 (.slice none 0 0) 24 rfl Try.underlying25 info22 rfl (by decide) (by omega) (.slice Ao44 x390000_1.length co44) x390000_1 y403 _ _ _ (fun k_ => (w.heap.size ≤ k_) ∧ some k_ ≠ (.slice Ao45 x390001_1.length co45 : Value).ownBlock ∧ some k_ ≠ (.slice Ao39 t391.length co39 : Value).ownBlock ∧ some k_ ≠ (.slice Ao41 t394.length co41 : Value).ownBlock ∧ some k_ ≠ (.slice Ao43 t398.length co43 : Value).ownBlock ∧ some k_ ≠ (v410 : Value).ownBlock ∧ k_ ≠ gb384 ∧ k_ ≠ gb385 ∧ k_ ≠ gb386 ∧ k_ ≠ gb388 ∧ k_ ≠ gb389) (fun k_ => ((fun k_ => (w.heap.size ≤ k_) ∧ some k_ ≠ (.slice Ao45 x390001_1.length co45 : Value).ownBlock ∧ some k_ ≠ (.slice Ao39 t391.length co39 : Value).ownBlock ∧ some k_ ≠ (.slice Ao41 t394.length co41 : Value).ownBlock ∧ some k_ ≠ (.slice Ao43 t398.length co43 : Value).ownBlock ∧ some k_ ≠ (v410 : Value).ownBlock ∧ k_ ≠ gb384 ∧ k_ ≠ gb385 ∧ k_ ≠ gb386 ∧ k_ ≠ gb388 ∧ k_ ≠ gb389)) k_ ∧ some k_ ≠ (.slice Ao44 x390000_1.length co44 : Value).ownBlock) rfl rfl ?aO ?aR (fun _ hk => hk) ?aF ?aB ?aS ?aL ?_
 (case aR => exact (by skip; exact Kd.N_F (Kd.N_mono (ok' := (fun k_ => ((fun k_ => (w.heap.size ≤ k_) ∧ some k_ ≠ (.slice Ao45 x390001_1.length co45 : Value).ownBlock ∧ some k_ ≠ (.slice Ao39 t391.length co39 : Value).ownBlock ∧ some k_ ≠ (.slice Ao41 t394.length co41 : Value).ownBlock ∧ some k_ ≠ (.slice Ao43 t398.length co43 : Value).ownBlock ∧ some k_ ≠ (v410 : Value).ownBlock ∧ k_ ≠ gb384 ∧ k_ ≠ gb385 ∧ k_ ≠ gb386 ∧ k_ ≠ gb388 ∧ k_ ≠ gb389)) k_ ∧ some k_ ≠ (.slice Ao44 x390000_1.length co44 : Value).ownBlock)) (HO405.out) (fun k_ hk => ⟨⟨hk.1.1, ⟨hk.1.2.2.1, ⟨hk.1.2.2.2.1, ⟨hk.1.2.2.2.2.1, ⟨hk.1.2.2.2.2.2.1, ⟨hk.2, ⟨hk.1.2.2.2.2.2.2.1, ⟨hk.1.2.2.2.2.2.2.2.1, ⟨hk.1.2.2.2.2.2.2.2.2.1, ⟨hk.1.2.2.2.2.2.2.2.2.2.1, hk.1.2.2.2.2.2.2.2.2.2.2⟩⟩⟩⟩⟩⟩⟩⟩⟩⟩, hk.1.2.1⟩))))
 (case aB => exact (bl_ HB))
 (case aF => exact (fun k_ hk => ⟨(Nat.le_trans (bs_ HB) hk), Kd.fresh' (Kd.N_lt (kN_ HO_390001)) k_ hk, Kd.fresh' (Kd.R_lt (kR_ HO393)) k_ hk, Kd.fresh' (Kd.R_lt (kR_ HO397)) k_ hk, Kd.fresh' (Kd.R_lt (kR_ HO401)) k_ hk, Kd.fresh' (Kd.N_lt (kN_ HO411)) k_ hk, Kd.freshB (g := gb384) (o := .cells #[.int .i64 a0_0, .int .i64 a0_1, .slice A0_2 l0_2.length c0_2, .slice A0_3 l0_3.length c0_3] 24 (0, 0)) (bk_ BK384) k_ hk, Kd.freshB (g := gb385) (o := .cells #[.slice (some ad390) l1_0.length c1_0] 37 (0, 0)) (bk_ BK385) k_ hk, Kd.freshB (g := gb386) (o := .cells #[.slice none 0 0, .slice none 0 0] 28 (0, 0)) (bk_ BK386) k_ hk, Kd.freshB (g := gb388) (o := .cells #[.int .i64 a0_0, .int .i64 a0_1, .slice A0_2 l0_2.length c0_2, .slice A0_3 l0_3.length c0_3] 61 (0, 0)) (bk_ BK388) k_ hk, Kd.freshB (g := gb389) (o := .cells #[.slice Ao44 x390000_1.length co44, .slice Ao45 x390001_1.length co45] 28 (0, 0)) (bk_ BK389) k_ hk⟩))
 (case aO => exact (by (with_reducible repeat (first | apply Kd.N_alloc | apply Kd.N_drewN | apply Kd.N_drew)); exact Kd.N_mono HO_390000.out (fun _ hk => ⟨hk.1.1.1.1.1.1, ⟨hk.1.1.1.1.1.2.1, ⟨hk.1.1.1.1.2, ⟨hk.1.1.1.2, ⟨hk.1.1.2, ⟨hk.2, ⟨hk.1.1.1.1.1.2.2.1, ⟨hk.1.1.1.1.1.2.2.2.1, ⟨hk.1.1.1.1.1.2.2.2.2.1, ⟨hk.1.1.1.1.1.2.2.2.2.2.1, hk.1.1.1.1.1.2.2.2.2.2.2⟩⟩⟩⟩⟩⟩⟩⟩⟩⟩)))
 (case aS => exact (bs_ HB))
 (case aL => have := LMc31.out; omega)
 intro v407 w51 ho hb hg hat
 rw [← Ny406.out] at ho
 replace HO_390001 := Aside0.mk (Kd.N_afterv (ok := (fun k_ => (w.heap.size ≤ k_) ∧ some k_ ≠ (.slice Ao39 t391.length co39 : Value).ownBlock ∧ some k_ ≠ (.slice Ao41 t394.length co41 : Value).ownBlock ∧ some k_ ≠ (.slice Ao43 t398.length co43 : Value).ownBlock ∧ some k_ ≠ (.slice Ao52 y403.length co52 : Value).ownBlock ∧ some k_ ≠ (v410 : Value).ownBlock ∧ k_ ≠ gb384 ∧ k_ ≠ gb385 ∧ k_ ≠ gb386 ∧ k_ ≠ gb388 ∧ k_ ≠ gb389)) (by (with_reducible repeat (first | apply Kd.N_alloc | apply Kd.N_drewN | apply Kd.N_drew)); exact Kd.N_mono HO_390001.out (fun _ hk => ⟨⟨hk.1.1.1.1.1.1, ⟨hk.1.1.1.1.2, ⟨hk.1.1.1.2, ⟨hk.1.1.2, ⟨hk.1.2, ⟨hk.2, ⟨hk.1.1.1.1.1.2.2.1, ⟨hk.1.1.1.1.1.2.2.2.1, ⟨hk.1.1.1.1.1.2.2.2.2.1, ⟨hk.1.1.1.1.1.2.2.2.2.2.1, hk.1.1.1.1.1.2.2.2.2.2.2⟩⟩⟩⟩⟩⟩⟩⟩⟩⟩, hk.1.1.1.1.1.2.1⟩)) hg hat)
 replace BK384 := (FG_ BK384 hg (Kd.N_ne HO_390000.out BK384.out (by decide)))
 replace BK385 := (FG_ BK385 hg (Kd.N_ne HO_390000.out BK385.out (by decide)))
 replace BK386 := (FG_ BK386 hg (Kd.N_ne HO_390000.out BK386.out (by decide)))
 replace BK388 := (FG_ BK388 hg (Kd.N_ne HO_390000.out BK388.out (by decide)))
 replace BK389 := (FG_ BK389 hg (Kd.N_ne HO_390000.out BK389.out (by decide)))
 replace HO393 := Aside0.mk (Kd.R_over' (kR_ HO393) (Kd.N_typed (kN_ HO_390000)) (by decide) hg)
 replace HO397 := Aside0.mk (Kd.R_over' (kR_ HO397) (Kd.N_typed (kN_ HO_390000)) (by decide) hg)
 replace HO401 := Aside0.mk (Kd.R_over' (kR_ HO401) (Kd.N_typed (kN_ HO_390000)) (by decide) hg)
 replace HO405 := Aside0.mk (Kd.N_afterv (ok := (fun k_ => (w.heap.size ≤ k_) ∧ some k_ ≠ (.slice Ao45 x390001_1.length co45 : Value).ownBlock ∧ some k_ ≠ (.slice Ao39 t391.length co39 : Value).ownBlock ∧ some k_ ≠ (.slice Ao41 t394.length co41 : Value).ownBlock ∧ some k_ ≠ (.slice Ao43 t398.length co43 : Value).ownBlock ∧ some k_ ≠ (v410 : Value).ownBlock ∧ k_ ≠ gb384 ∧ k_ ≠ gb385 ∧ k_ ≠ gb386 ∧ k_ ≠ gb388 ∧ k_ ≠ gb389)) (by (with_reducible repeat (first | apply Kd.N_alloc | apply Kd.N_drewN | apply Kd.N_drew)); exact Kd.N_mono HO405.out (fun _ hk => ⟨⟨hk.1.1, ⟨hk.1.2.2.1, ⟨hk.1.2.2.2.1, ⟨hk.1.2.2.2.2.1, ⟨hk.1.2.2.2.2.2.1, ⟨hk.2, ⟨hk.1.2.2.2.2.2.2.1, ⟨hk.1.2.2.2.2.2.2.2.1, ⟨hk.1.2.2.2.2.2.2.2.2.1, ⟨hk.1.2.2.2.2.2.2.2.2.2.1, hk.1.2.2.2.2.2.2.2.2.2.2⟩⟩⟩⟩⟩⟩⟩⟩⟩⟩, hk.1.2.1⟩)) hg hat)
 replace HO411 := Aside0.mk (Kd.N_afterv (ok := (fun k_ => (w.heap.size ≤ k_) ∧ some k_ ≠ (.slice Ao45 x390001_1.length co45 : Value).ownBlock ∧ some k_ ≠ (.slice Ao39 t391.length co39 : Value).ownBlock ∧ some k_ ≠ (.slice Ao41 t394.length co41 : Value).ownBlock ∧ some k_ ≠ (.slice Ao43 t398.length co43 : Value).ownBlock ∧ some k_ ≠ (.slice Ao52 y403.length co52 : Value).ownBlock ∧ k_ ≠ gb384 ∧ k_ ≠ gb385 ∧ k_ ≠ gb386 ∧ k_ ≠ gb388 ∧ k_ ≠ gb389)) (by (with_reducible repeat (first | apply Kd.N_alloc | apply Kd.N_drewN | apply Kd.N_drew)); exact Kd.N_mono HO411.out (fun _ hk => ⟨⟨hk.1, ⟨hk.2.2.1, ⟨hk.2.2.2.1, ⟨hk.2.2.2.2.1, ⟨hk.2.2.2.2.2.1, ⟨hk.2.2.2.2.2.2.1, ⟨hk.2.2.2.2.2.2.2.1, ⟨hk.2.2.2.2.2.2.2.2.1, ⟨hk.2.2.2.2.2.2.2.2.2.1, ⟨hk.2.2.2.2.2.2.2.2.2.2.1, hk.2.2.2.2.2.2.2.2.2.2.2⟩⟩⟩⟩⟩⟩⟩⟩⟩⟩, hk.2.1⟩)) hg hat)
 replace HB := Aside0.mk (hb)
 have HO408 := Aside0.mk (ho)
 clear HO_390000
 clear ho hb hg hat
 refine hK.out _ _ ⟨ce_ BK389 0, ce_ BK389 1⟩ (fun hHeld => ?_)
 clear hK K
 refine norm_ (a' := ?_) ?_ ?_
 rotate_left
 {
 show Act.put _ (some 49) _ = _
 exact sp_}
 refine pu_ 10 (some 55) (B_ 14 1535) HT_ ?_
 exact norm_ pa_ (hCont (.slice Ao52 y403.length co52, v407, v410) _ ⟨hHeld, (by (with_reducible repeat (first | apply Kd.R_alloc | apply Kd.R_drewN | apply Kd.R_drew)); exact Kd.R_mono HO393.out (fun _ hk => hk.1)), (by (with_reducible repeat (first | apply Kd.R_alloc | apply Kd.R_drewN | apply Kd.R_drew)); exact Kd.R_mono HO397.out (fun _ hk => ⟨hk.1.1, hk.2⟩)), (by (with_reducible repeat (first | apply Kd.R_alloc | apply Kd.R_drewN | apply Kd.R_drew)); exact Kd.R_mono HO401.out (fun _ hk => ⟨hk.1.1, hk.2⟩)), (by (with_reducible repeat (first | apply Kd.N_alloc | apply Kd.N_drewN | apply Kd.N_drew)); exact Kd.N_mono HO405.out (fun _ hk => ⟨hk.1.1, ⟨hk.1.2.2.1, ⟨hk.1.2.2.2.1, ⟨hk.1.2.2.2.2.1, ⟨hk.2, ⟨hk.1.2.2.2.2.2.1, ⟨hk.1.2.1, ⟨hk.1.2.2.2.2.2.2.1, ⟨hk.1.2.2.2.2.2.2.2.1, ⟨hk.1.2.2.2.2.2.2.2.2.1, ⟨hk.1.2.2.2.2.2.2.2.2.2.1, hk.1.2.2.2.2.2.2.2.2.2.2⟩⟩⟩⟩⟩⟩⟩⟩⟩⟩⟩)), (by (with_reducible repeat (first | apply Kd.N_alloc | apply Kd.N_drewN | apply Kd.N_drew)); exact Kd.N_mono HO408.out (fun _ hk => ⟨hk.1, ⟨hk.2.2.1, ⟨hk.2.2.2.1, ⟨hk.2.2.2.2.1, ⟨hk.2.2.2.2.2.1, ⟨hk.2.1, ⟨hk.2.2.2.2.2.2.1, ⟨hk.2.2.2.2.2.2.2.1, ⟨hk.2.2.2.2.2.2.2.2.1, ⟨hk.2.2.2.2.2.2.2.2.2.1, hk.2.2.2.2.2.2.2.2.2.2⟩⟩⟩⟩⟩⟩⟩⟩⟩⟩)), (by (with_reducible repeat (first | apply Kd.N_alloc | apply Kd.N_drewN | apply Kd.N_drew)); exact Kd.N_mono HO411.out (fun _ hk => ⟨hk.1.1, ⟨hk.1.2.2.1, ⟨hk.1.2.2.2.1, ⟨hk.1.2.2.2.2.1, ⟨hk.1.2.2.2.2.2.1, ⟨hk.2, ⟨hk.1.2.1, ⟨hk.1.2.2.2.2.2.2.1, ⟨hk.1.2.2.2.2.2.2.2.1, ⟨hk.1.2.2.2.2.2.2.2.2.1, ⟨hk.1.2.2.2.2.2.2.2.2.2.1, hk.1.2.2.2.2.2.2.2.2.2.2⟩⟩⟩⟩⟩⟩⟩⟩⟩⟩⟩)), (by (with_reducible repeat (first | apply Kd.N_alloc | apply Kd.N_drewN | apply Kd.N_drew)); exact Kd.N_mono HO_390001.out (fun _ hk => ⟨hk.1.1, ⟨hk.1.2.1, ⟨hk.1.2.2.1, ⟨hk.1.2.2.2.1, ⟨hk.1.2.2.2.2.1, ⟨hk.2, ⟨hk.1.2.2.2.2.2.1, ⟨hk.1.2.2.2.2.2.2.1, ⟨hk.1.2.2.2.2.2.2.2.1, ⟨hk.1.2.2.2.2.2.2.2.2.1, ⟨hk.1.2.2.2.2.2.2.2.2.2.1, hk.1.2.2.2.2.2.2.2.2.2.2⟩⟩⟩⟩⟩⟩⟩⟩⟩⟩⟩)), (bk_ BK384), (bk_ BK385), (bk_ BK386), (bk_ BK388), (bk_ BK389), (bl_ HB)⟩)}}
 {
 skip
 refine Kd.N_lit_step (Kd.slice 2 (Kd.int .i64)) _ 53 ?hg (N' := 53) ?hd (xs := ([([] : List Int)] : List (List Int))) (inner := [.slice none 0 0]) (ok := (fun k_ => (w.heap.size ≤ k_) ∧ some k_ ≠ (.slice Ao44 x390000_1.length co44 : Value).ownBlock ∧ some k_ ≠ (.slice Ao45 x390001_1.length co45 : Value).ownBlock ∧ some k_ ≠ (.slice Ao39 t391.length co39 : Value).ownBlock ∧ some k_ ≠ (.slice Ao41 t394.length co41 : Value).ownBlock ∧ some k_ ≠ (.slice Ao43 t398.length co43 : Value).ownBlock ∧ k_ ≠ gb384 ∧ k_ ≠ gb385 ∧ k_ ≠ gb386 ∧ k_ ≠ gb388 ∧ k_ ≠ gb389)) (okp := (fun k_ => (w.heap.size ≤ k_) ∧ some k_ ≠ (.slice Ao44 x390000_1.length co44 : Value).ownBlock ∧ some k_ ≠ (.slice Ao45 x390001_1.length co45 : Value).ownBlock ∧ some k_ ≠ (.slice Ao39 t391.length co39 : Value).ownBlock ∧ some k_ ≠ (.slice Ao41 t394.length co41 : Value).ownBlock ∧ some k_ ≠ (.slice Ao43 t398.length co43 : Value).ownBlock ∧ k_ ≠ gb384 ∧ k_ ≠ gb385 ∧ k_ ≠ gb386 ∧ k_ ≠ gb388 ∧ k_ ≠ gb389)) ?hr ?hp (fun _ hk => hk) (fr_ (P := (fun k_ => (w.heap.size ≤ k_) ∧ some k_ ≠ (.slice Ao44 x390000_1.length co44 : Value).ownBlock ∧ some k_ ≠ (.slice Ao45 x390001_1.length co45 : Value).ownBlock ∧ some k_ ≠ (.slice Ao39 t391.length co39 : Value).ownBlock ∧ some k_ ≠ (.slice Ao41 t394.length co41 : Value).ownBlock ∧ some k_ ≠ (.slice Ao43 t398.length co43 : Value).ownBlock ∧ k_ ≠ gb384 ∧ k_ ≠ gb385 ∧ k_ ≠ gb386 ∧ k_ ≠ gb388 ∧ k_ ≠ gb389)) (fun k_ hk => ⟨(Nat.le_trans (bs_ HB) hk), Kd.fresh' (Kd.N_lt (kN_ HO_390000)) k_ hk, Kd.fresh' (Kd.N_lt (kN_ HO_390001)) k_ hk, Kd.fresh' (Kd.R_lt (kR_ HO393)) k_ hk, Kd.fresh' (Kd.R_lt (kR_ HO397)) k_ hk, Kd.fresh' (Kd.R_lt (kR_ HO401)) k_ hk, Kd.freshB (g := gb384) (o := .cells #[.int .i64 a0_0, .int .i64 a0_1, .slice A0_2 l0_2.length c0_2, .slice A0_3 l0_3.length c0_3] 24 (0, 0)) (bk_ BK384) k_ hk, Kd.freshB (g := gb385) (o := .cells #[.slice (some ad390) l1_0.length c1_0] 37 (0, 0)) (bk_ BK385) k_ hk, Kd.freshB (g := gb386) (o := .cells #[.slice none 0 0, .slice none 0 0] 28 (0, 0)) (bk_ BK386) k_ hk, Kd.freshB (g := gb388) (o := .cells #[.int .i64 a0_0, .int .i64 a0_1, .slice A0_2 l0_2.length c0_2, .slice A0_3 l0_3.length c0_3] 61 (0, 0)) (bk_ BK388) k_ hk, Kd.freshB (g := gb389) (o := .cells #[.slice Ao44 x390000_1.length co44, .slice Ao45 x390001_1.length co45] 28 (0, 0)) (bk_ BK389) k_ hk⟩)) (Below.refl _ _) (Nat.le_refl _) (by simp) ?_; (case hd => rfl); (case hg => rfl); (case hr => first | (go_simp; done) | (go_simp; rfl)); (case hp => exact (Reps.one (show Kd.FK (Kd.slice 2 (Kd.int .i64)) _ _ ([] : List Int) [.slice none 0 0] from (Kd.FK_slice_mk (Nat.le_refl _) (Kd.F_nil _ _ _))) (Reps.none _ _)))
 intro v410 w47 ho48 hb hg_ hnew_
 clear hg_ hnew_
 (first | rw [← Ny409.out] at ho48 | (simp only [Int.reduceToNat] at ho48; rw [← Ny409.out] at ho48))
 replace HO_390000 := Aside0.mk (Kd.N_elder' (kN_ HO_390000) (Kd.N_base ho48) hb)
 replace HO_390001 := Aside0.mk (Kd.N_elder' (kN_ HO_390001) (Kd.N_base ho48) hb)
 replace HO393 := FR_ HO393 hb
 replace HO397 := FR_ HO397 hb
 replace HO401 := FR_ HO401 hb
 have HO411 := Aside0.mk (Kd.N_lower ho48 (bs_ HB))
 replace BK384 := FB_ BK384 hb
 replace BK385 := FB_ BK385 hb
 replace BK386 := FB_ BK386 hb
 replace BK388 := FB_ BK388 hb
 replace BK389 := FB_ BK389 hb
 replace HB := BS_ HB hb
 clear hb ho48
 refine hK.out _ _ ⟨ce_ BK389 0, ce_ BK389 1⟩ (fun hHeld => ?_)
 clear hK K
 refine norm_ (a' := ?_) ?_ ?_
 rotate_left
 {
 show Act.put _ (some 53) _ = _
 exact sp_}
 refine one_ (i := 3) (N := some 48) (B_ 14 495) rfl rfl (one_of HT_.out kf_) (by decide) (fun K hK => ?_)
 refine Kd.N_lit_step (Kd.slice 3 (Kd.int .i64)) _ 22 ?hg (N' := 48) ?hd (xs := ([([] : List Int)] : List (List Int))) (inner := [.slice none 0 0]) (ok := (fun k_ => (w.heap.size ≤ k_) ∧ some k_ ≠ (.slice Ao44 x390000_1.length co44 : Value).ownBlock ∧ some k_ ≠ (.slice Ao45 x390001_1.length co45 : Value).ownBlock ∧ some k_ ≠ (.slice Ao39 t391.length co39 : Value).ownBlock ∧ some k_ ≠ (.slice Ao41 t394.length co41 : Value).ownBlock ∧ some k_ ≠ (.slice Ao43 t398.length co43 : Value).ownBlock ∧ some k_ ≠ (v410 : Value).ownBlock ∧ k_ ≠ gb384 ∧ k_ ≠ gb385 ∧ k_ ≠ gb386 ∧ k_ ≠ gb388 ∧ k_ ≠ gb389)) (okp := (fun k_ => (w.heap.size ≤ k_) ∧ some k_ ≠ (.slice Ao44 x390000_1.length co44 : Value).ownBlock ∧ some k_ ≠ (.slice Ao45 x390001_1.length co45 : Value).ownBlock ∧ some k_ ≠ (.slice Ao39 t391.length co39 : Value).ownBlock ∧ some k_ ≠ (.slice Ao41 t394.length co41 : Value).ownBlock ∧ some k_ ≠ (.slice Ao43 t398.length co43 : Value).ownBlock ∧ some k_ ≠ (v410 : Value).ownBlock ∧ k_ ≠ gb384 ∧ k_ ≠ gb385 ∧ k_ ≠ gb386 ∧ k_ ≠ gb388 ∧ k_ ≠ gb389)) ?hr ?hp (fun _ hk => hk) (fr_ (P := (fun k_ => (w.heap.size ≤ k_) ∧ some k_ ≠ (.slice Ao44 x390000_1.length co44 : Value).ownBlock ∧ some k_ ≠ (.slice Ao45 x390001_1.length co45 : Value).ownBlock ∧ some k_ ≠ (.slice Ao39 t391.length co39 : Value).ownBlock ∧ some k_ ≠ (.slice Ao41 t394.length co41 : Value).ownBlock ∧ some k_ ≠ (.slice Ao43 t398.length co43 : Value).ownBlock ∧ some k_ ≠ (v410 : Value).ownBlock ∧ k_ ≠ gb384 ∧ k_ ≠ gb385 ∧ k_ ≠ gb386 ∧ k_ ≠ gb388 ∧ k_ ≠ gb389)) (fun k_ hk => ⟨(Nat.le_trans (bs_ HB) hk), Kd.fresh' (Kd.N_lt (kN_ HO_390000)) k_ hk, Kd.fresh' (Kd.N_lt (kN_ HO_390001)) k_ hk, Kd.fresh' (Kd.R_lt (kR_ HO393)) k_ hk, Kd.fresh' (Kd.R_lt (kR_ HO397)) k_ hk, Kd.fresh' (Kd.R_lt (kR_ HO401)) k_ hk, Kd.fresh' (Kd.N_lt (kN_ HO411)) k_ hk, Kd.freshB (g := gb384) (o := .cells #[.int .i64 a0_0, .int .i64 a0_1, .slice A0_2 l0_2.length c0_2, .slice A0_3 l0_3.length c0_3] 24 (0, 0)) (bk_ BK384) k_ hk, Kd.freshB (g := gb385) (o := .cells #[.slice (some ad390) l1_0.length c1_0] 37 (0, 0)) (bk_ BK385) k_ hk, Kd.freshB (g := gb386) (o := .cells #[.slice none 0 0, .slice none 0 0] 28 (0, 0)) (bk_ BK386) k_ hk, Kd.freshB (g := gb388) (o := .cells #[.int .i64 a0_0, .int .i64 a0_1, .slice A0_2 l0_2.length c0_2, .slice A0_3 l0_3.length c0_3] 61 (0, 0)) (bk_ BK388) k_ hk, Kd.freshB (g := gb389) (o := .cells #[.slice Ao44 x390000_1.length co44, .slice Ao45 x390001_1.length co45] 28 (0, 0)) (bk_ BK389) k_ hk⟩)) (Below.refl _ _) (Nat.le_refl _) (by simp) ?_; (case hd => rfl); (case hg => rfl); (case hr => first | (go_simp; done) | (go_simp; rfl)); (case hp => exact (Reps.one (show Kd.FK (Kd.slice 3 (Kd.int .i64)) _ _ ([] : List Int) [.slice none 0 0] from (Kd.FK_slice_mk (Nat.le_refl _) (Kd.F_nil _ _ _))) (Reps.none _ _)))
 intro v404 w49 ho50 hb hg_ hnew_
 clear hg_ hnew_
 (first | rw [← Ny403.out] at ho50 | (simp only [Int.reduceToNat] at ho50; rw [← Ny403.out] at ho50))
 replace HO_390000 := Aside0.mk (Kd.N_elder' (kN_ HO_390000) (Kd.N_base ho50) hb)
 replace HO_390001 := Aside0.mk (Kd.N_elder' (kN_ HO_390001) (Kd.N_base ho50) hb)
 replace HO393 := FR_ HO393 hb
 replace HO397 := FR_ HO397 hb
 replace HO401 := FR_ HO401 hb
 replace HO411 := Aside0.mk (Kd.N_elder' (kN_ HO411) (Kd.N_base ho50) hb)
 have HO405 := Aside0.mk (Kd.N_lower ho50 (bs_ HB))
 replace BK384 := FB_ BK384 hb
 replace BK385 := FB_ BK385 hb
 replace BK386 := FB_ BK386 hb
 replace BK388 := FB_ BK388 hb
 replace BK389 := FB_ BK389 hb
 replace HB := BS_ HB hb
 clear hb ho50
 obtain ⟨Ao52, co52, eo52⟩ := Kd.N_slice HO405.out
 (first | subst eo52 | (injection eo52 with f1_ f2_ f3_; have f4_ := f1_.symm; have f5_ := f3_.symm; clear f1_ f2_ f3_; subst f4_; subst f5_))
 refine hK.out _ _ ⟨ce_ BK389 0, ce_ BK389 1⟩ (fun hHeld => ?_)
 clear hK K
 refine norm_ (a' := ?_) ?_ ?_
 rotate_left
 {
 show Act.put _ (some 48) _ = _
 exact sp_}
 refine one_ (i := 4) (N := some 49) (B_ 14 511) rfl rfl (one_of HT_.out kf_) (by decide) (fun K hK => ?_)
 refine Kd.N_append_rows_step (Kd.slice 3 (Kd.int .i64)) (w0 := w) w.heap.size (by rfl) (.tmp 46) (.tmp 48) 25 22 (.slice none 0 0) 24 rfl Try.underlying25 info22 rfl (by decide) (by omega) (.slice Ao44 x390000_1.length co44) x390000_1 y403 _ _ _ (fun k_ => (w.heap.size ≤ k_) ∧ some k_ ≠ (.slice Ao45 x390001_1.length co45 : Value).ownBlock ∧ some k_ ≠ (.slice Ao39 t391.length co39 : Value).ownBlock ∧ some k_ ≠ (.slice Ao41 t394.length co41 : Value).ownBlock ∧ some k_ ≠ (.slice Ao43 t398.length co43 : Value).ownBlock ∧ some k_ ≠ (v410 : Value).ownBlock ∧ k_ ≠ gb384 ∧ k_ ≠ gb385 ∧ k_ ≠ gb386 ∧ k_ ≠ gb388 ∧ k_ ≠ gb389) (fun k_ => ((fun k_ => (w.heap.size ≤ k_) ∧ some k_ ≠ (.slice Ao45 x390001_1.length co45 : Value).ownBlock ∧ some k_ ≠ (.slice Ao39 t391.length co39 : Value).ownBlock ∧ some k_ ≠ (.slice Ao41 t394.length co41 : Value).ownBlock ∧ some k_ ≠ (.slice Ao43 t398.length co43 : Value).ownBlock ∧ some k_ ≠ (v410 : Value).ownBlock ∧ k_ ≠ gb384 ∧ k_ ≠ gb385 ∧ k_ ≠ gb386 ∧ k_ ≠ gb388 ∧ k_ ≠ gb389)) k_ ∧ some k_ ≠ (.slice Ao44 x390000_1.length co44 : Value).ownBlock) rfl rfl ?aO ?aR (fun _ hk => hk) ?aF ?aB ?aS ?aL ?_
 (case aR => exact (by skip; exact Kd.N_F (Kd.N_mono (ok' := (fun k_ => ((fun k_ => (w.heap.size ≤ k_) ∧ some k_ ≠ (.slice Ao45 x390001_1.length co45 : Value).ownBlock ∧ some k_ ≠ (.slice Ao39 t391.length co39 : Value).ownBlock ∧ some k_ ≠ (.slice Ao41 t394.length co41 : Value).ownBlock ∧ some k_ ≠ (.slice Ao43 t398.length co43 : Value).ownBlock ∧ some k_ ≠ (v410 : Value).ownBlock ∧ k_ ≠ gb384 ∧ k_ ≠ gb385 ∧ k_ ≠ gb386 ∧ k_ ≠ gb388 ∧ k_ ≠ gb389)) k_ ∧ some k_ ≠ (.slice Ao44 x390000_1.length co44 : Value).ownBlock)) (HO405.out) (fun k_ hk => ⟨⟨hk.1, ⟨hk.2.2.1, ⟨hk.2.2.2.1, ⟨hk.2.2.2.2.1, ⟨hk.2.2.2.2.2.1, ⟨hk.2.2.2.2.2.2.1, ⟨hk.2.2.2.2.2.2.2.1, ⟨hk.2.2.2.2.2.2.2.2.1, ⟨hk.2.2.2.2.2.2.2.2.2.1, ⟨hk.2.2.2.2.2.2.2.2.2.2.1, hk.2.2.2.2.2.2.2.2.2.2.2⟩⟩⟩⟩⟩⟩⟩⟩⟩⟩, hk.2.1⟩))))
 (case aB => exact (bl_ HB))
 (case aF => exact (fun k_ hk => ⟨(Nat.le_trans (bs_ HB) hk), Kd.fresh' (Kd.N_lt (kN_ HO_390001)) k_ hk, Kd.fresh' (Kd.R_lt (kR_ HO393)) k_ hk, Kd.fresh' (Kd.R_lt (kR_ HO397)) k_ hk, Kd.fresh' (Kd.R_lt (kR_ HO401)) k_ hk, Kd.fresh' (Kd.N_lt (kN_ HO411)) k_ hk, Kd.freshB (g := gb384) (o := .cells #[.int .i64 a0_0, .int .i64 a0_1, .slice A0_2 l0_2.length c0_2, .slice A0_3 l0_3.length c0_3] 24 (0, 0)) (bk_ BK384) k_ hk, Kd.freshB (g := gb385) (o := .cells #[.slice (some ad390) l1_0.length c1_0] 37 (0, 0)) (bk_ BK385) k_ hk, Kd.freshB (g := gb386) (o := .cells #[.slice none 0 0, .slice none 0 0] 28 (0, 0)) (bk_ BK386) k_ hk, Kd.freshB (g := gb388) (o := .cells #[.int .i64 a0_0, .int .i64 a0_1, .slice A0_2 l0_2.length c0_2, .slice A0_3 l0_3.length c0_3] 61 (0, 0)) (bk_ BK388) k_ hk, Kd.freshB (g := gb389) (o := .cells #[.slice Ao44 x390000_1.length co44, .slice Ao45 x390001_1.length co45] 28 (0, 0)) (bk_ BK389) k_ hk⟩))
 (case aO => exact (by (with_reducible repeat (first | apply Kd.N_alloc | apply Kd.N_drewN | apply Kd.N_drew)); exact Kd.N_mono HO_390000.out (fun _ hk => ⟨hk.1.1.1.1.1.1, ⟨hk.1.1.1.1.1.2.1, ⟨hk.1.1.1.1.2, ⟨hk.1.1.1.2, ⟨hk.1.1.2, ⟨hk.1.2, ⟨hk.1.1.1.1.1.2.2.1, ⟨hk.1.1.1.1.1.2.2.2.1, ⟨hk.1.1.1.1.1.2.2.2.2.1, ⟨hk.1.1.1.1.1.2.2.2.2.2.1, hk.1.1.1.1.1.2.2.2.2.2.2⟩⟩⟩⟩⟩⟩⟩⟩⟩⟩)))
 (case aS => exact (bs_ HB))
 (case aL => have := LMc31.out; omega)
 intro v407 w51 ho hb hg hat
 rw [← Ny406.out] at ho
 replace HO_390001 := Aside0.mk (Kd.N_afterv (ok := (fun k_ => (w.heap.size ≤ k_) ∧ some k_ ≠ (.slice Ao39 t391.length co39 : Value).ownBlock ∧ some k_ ≠ (.slice Ao41 t394.length co41 : Value).ownBlock ∧ some k_ ≠ (.slice Ao43 t398.length co43 : Value).ownBlock ∧ some k_ ≠ (v410 : Value).ownBlock ∧ some k_ ≠ (.slice Ao52 y403.length co52 : Value).ownBlock ∧ k_ ≠ gb384 ∧ k_ ≠ gb385 ∧ k_ ≠ gb386 ∧ k_ ≠ gb388 ∧ k_ ≠ gb389)) (by (with_reducible repeat (first | apply Kd.N_alloc | apply Kd.N_drewN | apply Kd.N_drew)); exact Kd.N_mono HO_390001.out (fun _ hk => ⟨⟨hk.1.1.1.1.1.1, ⟨hk.1.1.1.1.2, ⟨hk.1.1.1.2, ⟨hk.1.1.2, ⟨hk.1.2, ⟨hk.2, ⟨hk.1.1.1.1.1.2.2.1, ⟨hk.1.1.1.1.1.2.2.2.1, ⟨hk.1.1.1.1.1.2.2.2.2.1, ⟨hk.1.1.1.1.1.2.2.2.2.2.1, hk.1.1.1.1.1.2.2.2.2.2.2⟩⟩⟩⟩⟩⟩⟩⟩⟩⟩, hk.1.1.1.1.1.2.1⟩)) hg hat)
 replace BK384 := (FG_ BK384 hg (Kd.N_ne HO_390000.out BK384.out (by decide)))
 replace BK385 := (FG_ BK385 hg (Kd.N_ne HO_390000.out BK385.out (by decide)))
 replace BK386 := (FG_ BK386 hg (Kd.N_ne HO_390000.out BK386.out (by decide)))
 replace BK388 := (FG_ BK388 hg (Kd.N_ne HO_390000.out BK388.out (by decide)))
 replace BK389 := (FG_ BK389 hg (Kd.N_ne HO_390000.out BK389.out (by decide)))
 replace HO393 := Aside0.mk (Kd.R_over' (kR_ HO393) (Kd.N_typed (kN_ HO_390000)) (by decide) hg)
 replace HO397 := Aside0.mk (Kd.R_over' (kR_ HO397) (Kd.N_typed (kN_ HO_390000)) (by decide) hg)
 replace HO401 := Aside0.mk (Kd.R_over' (kR_ HO401) (Kd.N_typed (kN_ HO_390000)) (by decide) hg)
 replace HO411 := Aside0.mk (Kd.N_afterv (ok := (fun k_ => (w.heap.size ≤ k_) ∧ some k_ ≠ (.slice Ao45 x390001_1.length co45 : Value).ownBlock ∧ some k_ ≠ (.slice Ao39 t391.length co39 : Value).ownBlock ∧ some k_ ≠ (.slice Ao41 t394.length co41 : Value).ownBlock ∧ some k_ ≠ (.slice Ao43 t398.length co43 : Value).ownBlock ∧ some k_ ≠ (.slice Ao52 y403.length co52 : Value).ownBlock ∧ k_ ≠ gb384 ∧ k_ ≠ gb385 ∧ k_ ≠ gb386 ∧ k_ ≠ gb388 ∧ k_ ≠ gb389)) (by (with_reducible repeat (first | apply Kd.N_alloc | apply Kd.N_drewN | apply Kd.N_drew)); exact Kd.N_mono HO411.out (fun _ hk => ⟨⟨hk.1.1, ⟨hk.1.2.2.1, ⟨hk.1.2.2.2.1, ⟨hk.1.2.2.2.2.1, ⟨hk.1.2.2.2.2.2.1, ⟨hk.2, ⟨hk.1.2.2.2.2.2.2.1, ⟨hk.1.2.2.2.2.2.2.2.1, ⟨hk.1.2.2.2.2.2.2.2.2.1, ⟨hk.1.2.2.2.2.2.2.2.2.2.1, hk.1.2.2.2.2.2.2.2.2.2.2⟩⟩⟩⟩⟩⟩⟩⟩⟩⟩, hk.1.2.1⟩)) hg hat)
 replace HO405 := Aside0.mk (Kd.N_afterv (ok := (fun k_ => (w.heap.size ≤ k_) ∧ some k_ ≠ (.slice Ao45 x390001_1.length co45 : Value).ownBlock ∧ some k_ ≠ (.slice Ao39 t391.length co39 : Value).ownBlock ∧ some k_ ≠ (.slice Ao41 t394.length co41 : Value).ownBlock ∧ some k_ ≠ (.slice Ao43 t398.length co43 : Value).ownBlock ∧ some k_ ≠ (v410 : Value).ownBlock ∧ k_ ≠ gb384 ∧ k_ ≠ gb385 ∧ k_ ≠ gb386 ∧ k_ ≠ gb388 ∧ k_ ≠ gb389)) (by (with_reducible repeat (first | apply Kd.N_alloc | apply Kd.N_drewN | apply Kd.N_drew)); exact Kd.N_mono HO405.out (fun _ hk => ⟨⟨hk.1, ⟨hk.2.2.1, ⟨hk.2.2.2.1, ⟨hk.2.2.2.2.1, ⟨hk.2.2.2.2.2.1, ⟨hk.2.2.2.2.2.2.1, ⟨hk.2.2.2.2.2.2.2.1, ⟨hk.2.2.2.2.2.2.2.2.1, ⟨hk.2.2.2.2.2.2.2.2.2.1, ⟨hk.2.2.2.2.2.2.2.2.2.2.1, hk.2.2.2.2.2.2.2.2.2.2.2⟩⟩⟩⟩⟩⟩⟩⟩⟩⟩, hk.2.1⟩)) hg hat)
 replace HB := Aside0.mk (hb)
 have HO408 := Aside0.mk (ho)
 clear HO_390000
 clear ho hb hg hat
 refine hK.out _ _ ⟨ce_ BK389 0, ce_ BK389 1⟩ (fun hHeld => ?_)
 clear hK K
 refine norm_ (a' := ?_) ?_ ?_
 rotate_left
 {
 show Act.put _ (some 49) _ = _
 exact sp_}
 refine pu_ 10 (some 55) (B_ 14 1535) HT_ ?_
 exact norm_ pa_ (hCont (.slice Ao52 y403.length co52, v407, v410) _ ⟨hHeld, (by (with_reducible repeat (first | apply Kd.R_alloc | apply Kd.R_drewN | apply Kd.R_drew)); exact Kd.R_mono HO393.out (fun _ hk => hk.1)), (by (with_reducible repeat (first | apply Kd.R_alloc | apply Kd.R_drewN | apply Kd.R_drew)); exact Kd.R_mono HO397.out (fun _ hk => ⟨hk.1.1, hk.2⟩)), (by (with_reducible repeat (first | apply Kd.R_alloc | apply Kd.R_drewN | apply Kd.R_drew)); exact Kd.R_mono HO401.out (fun _ hk => ⟨hk.1.1, hk.2⟩)), (by (with_reducible repeat (first | apply Kd.N_alloc | apply Kd.N_drewN | apply Kd.N_drew)); exact Kd.N_mono HO405.out (fun _ hk => ⟨hk.1.1, ⟨hk.1.2.2.1, ⟨hk.1.2.2.2.1, ⟨hk.1.2.2.2.2.1, ⟨hk.2, ⟨hk.1.2.2.2.2.2.1, ⟨hk.1.2.1, ⟨hk.1.2.2.2.2.2.2.1, ⟨hk.1.2.2.2.2.2.2.2.1, ⟨hk.1.2.2.2.2.2.2.2.2.1, ⟨hk.1.2.2.2.2.2.2.2.2.2.1, hk.1.2.2.2.2.2.2.2.2.2.2⟩⟩⟩⟩⟩⟩⟩⟩⟩⟩⟩)), (by (with_reducible repeat (first | apply Kd.N_alloc | apply Kd.N_drewN | apply Kd.N_drew)); exact Kd.N_mono HO408.out (fun _ hk => ⟨hk.1, ⟨hk.2.2.1, ⟨hk.2.2.2.1, ⟨hk.2.2.2.2.1, ⟨hk.2.2.2.2.2.1, ⟨hk.2.1, ⟨hk.2.2.2.2.2.2.1, ⟨hk.2.2.2.2.2.2.2.1, ⟨hk.2.2.2.2.2.2.2.2.1, ⟨hk.2.2.2.2.2.2.2.2.2.1, hk.2.2.2.2.2.2.2.2.2.2⟩⟩⟩⟩⟩⟩⟩⟩⟩⟩)), (by (with_reducible repeat (first | apply Kd.N_alloc | apply Kd.N_drewN | apply Kd.N_drew)); exact Kd.N_mono HO411.out (fun _ hk => ⟨hk.1.1, ⟨hk.1.2.2.1, ⟨hk.1.2.2.2.1, ⟨hk.1.2.2.2.2.1, ⟨hk.1.2.2.2.2.2.1, ⟨hk.2, ⟨hk.1.2.1, ⟨hk.1.2.2.2.2.2.2.1, ⟨hk.1.2.2.2.2.2.2.2.1, ⟨hk.1.2.2.2.2.2.2.2.2.1, ⟨hk.1.2.2.2.2.2.2.2.2.2.1, hk.1.2.2.2.2.2.2.2.2.2.2⟩⟩⟩⟩⟩⟩⟩⟩⟩⟩⟩)), (by (with_reducible repeat (first | apply Kd.N_alloc | apply Kd.N_drewN | apply Kd.N_drew)); exact Kd.N_mono HO_390001.out (fun _ hk => ⟨hk.1.1, ⟨hk.1.2.1, ⟨hk.1.2.2.1, ⟨hk.1.2.2.2.1, ⟨hk.1.2.2.2.2.2.1, ⟨hk.2, ⟨hk.1.2.2.2.2.1, ⟨hk.1.2.2.2.2.2.2.1, ⟨hk.1.2.2.2.2.2.2.2.1, ⟨hk.1.2.2.2.2.2.2.2.2.1, ⟨hk.1.2.2.2.2.2.2.2.2.2.1, hk.1.2.2.2.2.2.2.2.2.2.2⟩⟩⟩⟩⟩⟩⟩⟩⟩⟩⟩)), (bk_ BK384), (bk_ BK385), (bk_ BK386), (bk_ BK388), (bk_ BK389), (bl_ HB)⟩)}}
 clear HO_390000 HO_390001 HO393 HO397 HO401 BK384 BK385 BK386 BK388 BK389 HB
 rintro ⟨v404, v407, v410⟩ w53 ⟨hS_, h0_, h1_, h2_, h3_, h4_, h5_, h6_, h7_, h8_, h9_, h10_, h11_, h12_⟩
 (try dsimp only at h0_ h1_ h2_ h3_ h4_ h5_ h6_ h7_ h8_ h9_ h10_ h11_ h12_)
 have HO393 := Aside0.mk h0_
 have HO397 := Aside0.mk h1_
 have HO401 := Aside0.mk h2_
 have HO405 := Aside0.mk h3_
 have HO408 := Aside0.mk h4_
 have HO411 := Aside0.mk h5_
 have HO_390001 := Aside0.mk h6_
 have BK384 := Aside0.mk h7_
 have BK385 := Aside0.mk h8_
 have BK386 := Aside0.mk h9_
 have BK388 := Aside0.mk h10_
 have BK389 := Aside0.mk h11_
 have HB := Aside0.mk h12_
 clear h0_ h1_ h2_ h3_ h4_ h5_ h6_ h7_ h8_ h9_ h10_ h11_ h12_
 have hHeld : w53.cell? ⟨gb389, 0, none⟩ = some (.slice Ao44 x390000_1.length co44) ∧ w53.cell? ⟨gb389, 1, none⟩ = some (.slice Ao45 x390001_1.length co45) := hS_
 obtain ⟨Ao55, co55, eo55⟩ := Kd.N_slice HO411.out
 (first | subst eo55 | (injection eo55 with f1_ f2_ f3_; have f4_ := f1_.symm; have f5_ := f3_.symm; clear f1_ f2_ f3_; subst f4_; subst f5_))
 refine norm_ (a' := ?_) ?_ ?_
 rotate_left
 {
 simp only [putAll, Act.put, List.setIfInBounds_toArray, List.set_cons_zero, List.set_cons_succ]
 rfl}
 refine one_ (i := 9) (N := some 54) (B_ 14 2047) rfl rfl (one_of HT_.out kf_) (by decide) (fun K hK => ?_)
 refine Kd.N_append_rows_step (Kd.slice 2 (Kd.int .i64)) (w0 := w) w.heap.size (by rfl) (.tmp 51) (.tmp 53) 26 53 (.slice none 0 0) 24 rfl Try.underlying26 info53 rfl (by decide) (by omega) (.slice Ao45 x390001_1.length co45) x390001_1 y409 _ _ _ (fun k_ => (w.heap.size ≤ k_) ∧ some k_ ≠ (.slice Ao39 t391.length co39 : Value).ownBlock ∧ some k_ ≠ (.slice Ao41 t394.length co41 : Value).ownBlock ∧ some k_ ≠ (.slice Ao43 t398.length co43 : Value).ownBlock ∧ some k_ ≠ (v404 : Value).ownBlock ∧ some k_ ≠ (v407 : Value).ownBlock ∧ k_ ≠ gb384 ∧ k_ ≠ gb385 ∧ k_ ≠ gb386 ∧ k_ ≠ gb388 ∧ k_ ≠ gb389) (fun k_ => ((fun k_ => (w.heap.size ≤ k_) ∧ some k_ ≠ (.slice Ao39 t391.length co39 : Value).ownBlock ∧ some k_ ≠ (.slice Ao41 t394.length co41 : Value).ownBlock ∧ some k_ ≠ (.slice Ao43 t398.length co43 : Value).ownBlock ∧ some k_ ≠ (v404 : Value).ownBlock ∧ some k_ ≠ (v407 : Value).ownBlock ∧ k_ ≠ gb384 ∧ k_ ≠ gb385 ∧ k_ ≠ gb386 ∧ k_ ≠ gb388 ∧ k_ ≠ gb389)) k_ ∧ some k_ ≠ (.slice Ao45 x390001_1.length co45 : Value).ownBlock) rfl rfl ?aO ?aR (fun _ hk => hk) ?aF ?aB ?aS ?aL ?_
 (case aR => exact (by skip; exact Kd.N_F (Kd.N_mono (ok' := (fun k_ => ((fun k_ => (w.heap.size ≤ k_) ∧ some k_ ≠ (.slice Ao39 t391.length co39 : Value).ownBlock ∧ some k_ ≠ (.slice Ao41 t394.length co41 : Value).ownBlock ∧ some k_ ≠ (.slice Ao43 t398.length co43 : Value).ownBlock ∧ some k_ ≠ (v404 : Value).ownBlock ∧ some k_ ≠ (v407 : Value).ownBlock ∧ k_ ≠ gb384 ∧ k_ ≠ gb385 ∧ k_ ≠ gb386 ∧ k_ ≠ gb388 ∧ k_ ≠ gb389)) k_ ∧ some k_ ≠ (.slice Ao45 x390001_1.length co45 : Value).ownBlock)) (HO411.out) (fun k_ hk => ⟨⟨hk.1, ⟨hk.2.1, ⟨hk.2.2.1, ⟨hk.2.2.2.1, ⟨hk.2.2.2.2.1, ⟨hk.2.2.2.2.2.1, ⟨hk.2.2.2.2.2.2.2.1, ⟨hk.2.2.2.2.2.2.2.2.1, ⟨hk.2.2.2.2.2.2.2.2.2.1, ⟨hk.2.2.2.2.2.2.2.2.2.2.1, hk.2.2.2.2.2.2.2.2.2.2.2⟩⟩⟩⟩⟩⟩⟩⟩⟩⟩, hk.2.2.2.2.2.2.1⟩))))
 (case aB => exact (bl_ HB))
 (case aF => exact (fun k_ hk => ⟨(Nat.le_trans (bs_ HB) hk), Kd.fresh' (Kd.R_lt (kR_ HO393)) k_ hk, Kd.fresh' (Kd.R_lt (kR_ HO397)) k_ hk, Kd.fresh' (Kd.R_lt (kR_ HO401)) k_ hk, Kd.fresh' (Kd.N_lt (kN_ HO405)) k_ hk, Kd.fresh' (Kd.N_lt (kN_ HO408)) k_ hk, Kd.freshB (g := gb384) (o := .cells #[.int .i64 a0_0, .int .i64 a0_1, .slice A0_2 l0_2.length c0_2, .slice A0_3 l0_3.length c0_3] 24 (0, 0)) (bk_ BK384) k_ hk, Kd.freshB (g := gb385) (o := .cells #[.slice (some ad390) l1_0.length c1_0] 37 (0, 0)) (bk_ BK385) k_ hk, Kd.freshB (g := gb386) (o := .cells #[.slice none 0 0, .slice none 0 0] 28 (0, 0)) (bk_ BK386) k_ hk, Kd.freshB (g := gb388) (o := .cells #[.int .i64 a0_0, .int .i64 a0_1, .slice A0_2 l0_2.length c0_2, .slice A0_3 l0_3.length c0_3] 61 (0, 0)) (bk_ BK388) k_ hk, Kd.freshB (g := gb389) (o := .cells #[.slice Ao44 x390000_1.length co44, .slice Ao45 x390001_1.length co45] 28 (0, 0)) (bk_ BK389) k_ hk⟩))
 (case aO => exact (by (with_reducible repeat (first | apply Kd.N_alloc | apply Kd.N_drewN | apply Kd.N_drew)); exact Kd.N_mono HO_390001.out (fun _ hk => ⟨hk.1, ⟨hk.2.1, ⟨hk.2.2.1, ⟨hk.2.2.2.1, ⟨hk.2.2.2.2.1, ⟨hk.2.2.2.2.2.1, ⟨hk.2.2.2.2.2.2.2.1, ⟨hk.2.2.2.2.2.2.2.2.1, ⟨hk.2.2.2.2.2.2.2.2.2.1, ⟨hk.2.2.2.2.2.2.2.2.2.2.1, hk.2.2.2.2.2.2.2.2.2.2.2⟩⟩⟩⟩⟩⟩⟩⟩⟩⟩)))
 (case aS => exact (bs_ HB))
 (case aL => have := LMc32.out; omega)
 intro v413 w54 ho hb hg hat
 rw [← Ny412.out] at ho
 replace BK384 := (FG_ BK384 hg (Kd.N_ne HO_390001.out BK384.out (by decide)))
 replace BK385 := (FG_ BK385 hg (Kd.N_ne HO_390001.out BK385.out (by decide)))
 replace BK386 := (FG_ BK386 hg (Kd.N_ne HO_390001.out BK386.out (by decide)))
 replace BK388 := (FG_ BK388 hg (Kd.N_ne HO_390001.out BK388.out (by decide)))
 replace BK389 := (FG_ BK389 hg (Kd.N_ne HO_390001.out BK389.out (by decide)))
 replace HO393 := Aside0.mk (Kd.R_over' (kR_ HO393) (Kd.N_typed (kN_ HO_390001)) (by decide) hg)
 replace HO397 := Aside0.mk (Kd.R_over' (kR_ HO397) (Kd.N_typed (kN_ HO_390001)) (by decide) hg)
 replace HO401 := Aside0.mk (Kd.R_over' (kR_ HO401) (Kd.N_typed (kN_ HO_390001)) (by decide) hg)
 replace HO405 := Aside0.mk (Kd.N_afterv (ok := (fun k_ => (w.heap.size ≤ k_) ∧ some k_ ≠ (.slice Ao39 t391.length co39 : Value).ownBlock ∧ some k_ ≠ (.slice Ao41 t394.length co41 : Value).ownBlock ∧ some k_ ≠ (.slice Ao43 t398.length co43 : Value).ownBlock ∧ some k_ ≠ (v407 : Value).ownBlock ∧ some k_ ≠ (.slice Ao55 y409.length co55 : Value).ownBlock ∧ k_ ≠ gb384 ∧ k_ ≠ gb385 ∧ k_ ≠ gb386 ∧ k_ ≠ gb388 ∧ k_ ≠ gb389)) (by (with_reducible repeat (first | apply Kd.N_alloc | apply Kd.N_drewN | apply Kd.N_drew)); exact Kd.N_mono HO405.out (fun _ hk => ⟨⟨hk.1, ⟨hk.2.1, ⟨hk.2.2.1, ⟨hk.2.2.2.1, ⟨hk.2.2.2.2.1, ⟨hk.2.2.2.2.2.1, ⟨hk.2.2.2.2.2.2.2.1, ⟨hk.2.2.2.2.2.2.2.2.1, ⟨hk.2.2.2.2.2.2.2.2.2.1, ⟨hk.2.2.2.2.2.2.2.2.2.2.1, hk.2.2.2.2.2.2.2.2.2.2.2⟩⟩⟩⟩⟩⟩⟩⟩⟩⟩, hk.2.2.2.2.2.2.1⟩)) hg hat)
 replace HO408 := Aside0.mk (Kd.N_afterv (ok := (fun k_ => (w.heap.size ≤ k_) ∧ some k_ ≠ (.slice Ao39 t391.length co39 : Value).ownBlock ∧ some k_ ≠ (.slice Ao41 t394.length co41 : Value).ownBlock ∧ some k_ ≠ (.slice Ao43 t398.length co43 : Value).ownBlock ∧ some k_ ≠ (.slice Ao55 y409.length co55 : Value).ownBlock ∧ k_ ≠ gb384 ∧ k_ ≠ gb385 ∧ k_ ≠ gb386 ∧ k_ ≠ gb388 ∧ k_ ≠ gb389)) (by (with_reducible repeat (first | apply Kd.N_alloc | apply Kd.N_drewN | apply Kd.N_drew)); exact Kd.N_mono HO408.out (fun _ hk => ⟨⟨hk.1, ⟨hk.2.1, ⟨hk.2.2.1, ⟨hk.2.2.2.1, ⟨hk.2.2.2.2.1, ⟨hk.2.2.2.2.2.2.1, ⟨hk.2.2.2.2.2.2.2.1, ⟨hk.2.2.2.2.2.2.2.2.1, ⟨hk.2.2.2.2.2.2.2.2.2.1, hk.2.2.2.2.2.2.2.2.2.2⟩⟩⟩⟩⟩⟩⟩⟩⟩, hk.2.2.2.2.2.1⟩)) hg hat)
 replace HO411 := Aside0.mk (Kd.N_afterv (ok := (fun k_ => (w.heap.size ≤ k_) ∧ some k_ ≠ (.slice Ao39 t391.length co39 : Value).ownBlock ∧ some k_ ≠ (.slice Ao41 t394.length co41 : Value).ownBlock ∧ some k_ ≠ (.slice Ao43 t398.length co43 : Value).ownBlock ∧ some k_ ≠ (v404 : Value).ownBlock ∧ some k_ ≠ (v407 : Value).ownBlock ∧ k_ ≠ gb384 ∧ k_ ≠ gb385 ∧ k_ ≠ gb386 ∧ k_ ≠ gb388 ∧ k_ ≠ gb389)) (by (with_reducible repeat (first | apply Kd.N_alloc | apply Kd.N_drewN | apply Kd.N_drew)); exact Kd.N_mono HO411.out (fun _ hk => ⟨⟨hk.1, ⟨hk.2.1, ⟨hk.2.2.1, ⟨hk.2.2.2.1, ⟨hk.2.2.2.2.1, ⟨hk.2.2.2.2.2.1, ⟨hk.2.2.2.2.2.2.2.1, ⟨hk.2.2.2.2.2.2.2.2.1, ⟨hk.2.2.2.2.2.2.2.2.2.1, ⟨hk.2.2.2.2.2.2.2.2.2.2.1, hk.2.2.2.2.2.2.2.2.2.2.2⟩⟩⟩⟩⟩⟩⟩⟩⟩⟩, hk.2.2.2.2.2.2.1⟩)) hg hat)
 replace HB := Aside0.mk (hb)
 have HO414 := Aside0.mk (ho)
 clear HO_390001
 clear ho hb hg hat
 obtain ⟨Ao56, co56, eo56⟩ := Kd.N_slice HO408.out
 (first | subst eo56 | (injection eo56 with f1_ f2_ f3_; have f4_ := f1_.symm; have f5_ := f3_.symm; clear f1_ f2_ f3_; subst f4_; subst f5_))
 obtain ⟨Ao58, co58, eo58⟩ := Kd.N_slice HO414.out
 (first | subst eo58 | (injection eo58 with f1_ f2_ f3_; have f4_ := f1_.symm; have f5_ := f3_.symm; clear f1_ f2_ f3_; subst f4_; subst f5_))
 refine hK.out _ _ ⟨ce_ BK389 0, ce_ BK389 1⟩ (fun hHeld => ?_)
 clear hK K
 refine norm_ (a' := ?_) ?_ ?_
 rotate_left
 {
 show Act.put _ (some 54) _ = _
 exact sp_}
 refine last_ (i := 11) (N := none) (B_ 14 4095) rfl rfl (one_of HT_.out kf_) (by decide) (fun K hK => ?_)
 have hs57 : w54.cell? ⟨gb389, 0, none⟩ = some (.slice Ao44 x390000_1.length co44) := ce_ BK389 0
 have hfs57 := blk_frozen BK389.out 0
 have hns57_0 := NB384_389.out
 have hns57_1 := NB385_389.out
 have hns57_2 := NB386_389.out
 have hns57_3 := NB388_389.out
 have hms57_0 := NB389_384.out
 have hms57_1 := NB389_385.out
 have hms57_2 := NB389_386.out
 have hms57_3 := NB389_388.out
 refine skip_ (w1 := ?_) (by rfl) rfl ?_ ?_
 rotate_left
 {
 go_simp
 rfl}
 refine hK.out _ _ ?_
 clear hK K
 refine pu_ 12 (some 56) (B_ 14 8191) HT_ ?_
 refine last_ (i := 13) (N := none) (B_ 14 16383) rfl rfl (one_of HT_.out kf_) (by decide) (fun K hK => ?_)
 have hs59 : w54.cell? ⟨gb389, 1, none⟩ = some (.slice Ao45 x390001_1.length co45) := ce_ BK389 1
 have hfs59 := blk_frozen BK389.out 1
 have hns59_0 := NB384_389.out
 have hns59_1 := NB385_389.out
 have hns59_2 := NB386_389.out
 have hns59_3 := NB388_389.out
 have hms59_0 := NB389_384.out
 have hms59_1 := NB389_385.out
 have hms59_2 := NB389_386.out
 have hms59_3 := NB389_388.out
 refine skip_ (w1 := ?_) (by rfl) rfl ?_ ?_
 rotate_left
 {
 go_simp
 rfl}
 refine hK.out _ _ ?_
 clear hK K
 refine done_ (done_of HT_.out kf_) ?_
 try go_wp2
 go_roundg k1
 case measure => have := HK1.out; omega
 case rel => exact ⟨(wrap64 (x25_1 + 1)), (y406), (y412), (.slice Ao56 y406.length co56), (.slice Ao58 y412.length co58), rs_, H', ⟨by have := HK1.out; omega⟩, ⟨by (with_reducible repeat (first | apply Kd.N_alloc | apply Kd.N_drewN | apply Kd.N_drew)); exact Kd.N_mono (Kd.N_far (p := ⟨gb389, 1, none⟩) (Kd.N_far (p := ⟨gb389, 0, none⟩) (Kd.N_mono HO408.out (fun k_ hk => (⟨hk, hk.1.2.2.2.2.2.2.2.2.2⟩ : _ ∧ k_ ≠ gb389))) (fun _ hk => hk.2) (.slice Ao56 y406.length co56)) (fun _ hk => hk.2) (.slice Ao58 y412.length co58)) (fun _ hk => ⟨hk.1.1.1, ⟨hk.1.2, ⟨hk.1.1.2.2.2.2.2.1, ⟨hk.1.1.2.2.2.2.2.2.1, ⟨hk.1.1.2.2.2.2.2.2.2.1, ⟨hk.1.1.2.2.2.2.2.2.2.2.1, hk.1.1.2.2.2.2.2.2.2.2.2⟩⟩⟩⟩⟩⟩)⟩, ⟨by (with_reducible repeat (first | apply Kd.N_alloc | apply Kd.N_drewN | apply Kd.N_drew)); exact Kd.N_mono (Kd.N_far (p := ⟨gb389, 1, none⟩) (Kd.N_far (p := ⟨gb389, 0, none⟩) (Kd.N_mono HO414.out (fun k_ hk => (⟨hk, hk.2.2.2.2.2.2.2.2.2.2⟩ : _ ∧ k_ ≠ gb389))) (fun _ hk => hk.2) (.slice Ao56 y406.length co56)) (fun _ hk => hk.2) (.slice Ao58 y412.length co58)) (fun _ hk => ⟨hk.1.1, ⟨hk.1.2.2.2.2.2.1, ⟨hk.1.2.2.2.2.2.2.1, ⟨hk.1.2.2.2.2.2.2.2.1, ⟨hk.1.2.2.2.2.2.2.2.2.1, ⟨hk.1.2.2.2.2.2.2.2.2.2.1, hk.1.2.2.2.2.2.2.2.2.2.2⟩⟩⟩⟩⟩⟩)⟩, ⟨bk_ BK384⟩, ⟨bk_ BK385⟩, ⟨bk_ BK386⟩, ⟨bk_ BK388⟩, ⟨bp_ BK389⟩, ⟨bl_ HB⟩⟩}
 {
 rw [if_neg c32] at H
 exact absurd H (by simp)}}
 {
 rw [if_neg c31] at H
 exact absurd H (by simp)}}
 {
 replace c30 := Bool.eq_false_iff.mpr c30
 subst c30
 rw [if_neg (show ¬ (false = true) by decide)] at H
 obtain ⟨y415, hy415⟩ : ∃ y_ : List (List Int), y_ = (([t391] : List (List Int))) := ⟨_, rfl⟩
 replace H : (if x390000_1.length + y415.length < 5864062014805 then ((some (([t398] : List (List Int)) : List (List Int))).bind fun y421 => (if x390001_1.length + y421.length < 5864062014805 then (vcodec_Encode.l0 k1 l1_0 (l1_0.length : Int) (wrap64 (x25_1 + 1)) a0_0 a0_1 l0_2 l0_3 (x390000_1 ++ y415) (x390001_1 ++ y421)) else (none))) else (none)) = some (r1, r2, r3) := by first | (rw [hy415]; with_reducible exact H) | (have H2_ := (Option.bind_some _ _).symm.trans H; rw [hy415]; with_reducible exact H2_) | (have H2_ := (Option.bind_some _ _).symm.trans H; with_reducible exact H2_) | with_reducible exact H | (rw [hy415]; exact H) | exact H
 have Ny415 := Aside0.mk hy415
 clear hy415
 by_cases c60 : x390000_1.length + y415.length < 5864062014805
 {
 rw [if_pos c60] at H
 have LMc60 := Aside0.mk c60
 clear c60
 obtain ⟨y418, hy418⟩ : ∃ y_ : List (List Int), y_ = (x390000_1 ++ y415) := ⟨_, rfl⟩
 replace H : ((some (([t398] : List (List Int)) : List (List Int))).bind fun y421 => (if x390001_1.length + y421.length < 5864062014805 then (vcodec_Encode.l0 k1 l1_0 (l1_0.length : Int) (wrap64 (x25_1 + 1)) a0_0 a0_1 l0_2 l0_3 y418 (x390001_1 ++ y421)) else (none))) = some (r1, r2, r3) := by first | (rw [hy418]; with_reducible exact H) | (have H2_ := (Option.bind_some _ _).symm.trans H; rw [hy418]; with_reducible exact H2_) | (have H2_ := (Option.bind_some _ _).symm.trans H; with_reducible exact H2_) | with_reducible exact H | (rw [hy418]; exact H) | exact H
 have Ny418 := Aside0.mk hy418
 clear hy418
 obtain ⟨y421, hy421⟩ : ∃ y_ : List (List Int), y_ = (([t398] : List (List Int))) := ⟨_, rfl⟩
 replace H : (if x390001_1.length + y421.length < 5864062014805 then (vcodec_Encode.l0 k1 l1_0 (l1_0.length : Int) (wrap64 (x25_1 + 1)) a0_0 a0_1 l0_2 l0_3 y418 (x390001_1 ++ y421)) else (none)) = some (r1, r2, r3) := by first | (rw [hy421]; with_reducible exact H) | (have H2_ := (Option.bind_some _ _).symm.trans H; rw [hy421]; with_reducible exact H2_) | (have H2_ := (Option.bind_some _ _).symm.trans H; with_reducible exact H2_) | with_reducible exact H | (rw [hy421]; exact H) | exact H
 have Ny421 := Aside0.mk hy421
 clear hy421
 by_cases c61 : x390001_1.length + y421.length < 5864062014805
 {
 rw [if_pos c61] at H
 have LMc61 := Aside0.mk c61
 clear c61
 obtain ⟨y424, hy424⟩ : ∃ y_ : List (List Int), y_ = (x390001_1 ++ y421) := ⟨_, rfl⟩
 replace H : (vcodec_Encode.l0 k1 l1_0 (l1_0.length : Int) (wrap64 (x25_1 + 1)) a0_0 a0_1 l0_2 l0_3 y418 y424) = some (r1, r2, r3) := by first | (rw [hy424]; with_reducible exact H) | (have H2_ := (Option.bind_some _ _).symm.trans H; rw [hy424]; with_reducible exact H2_) | (have H2_ := (Option.bind_some _ _).symm.trans H; with_reducible exact H2_) | with_reducible exact H | (rw [hy424]; exact H) | exact H
 have Ny424 := Aside0.mk hy424
 clear hy424
 have H' := Aside0.mk H
 clear H
 have p390 : 0 ≤ (x25_1 : Int) := of_decide_eq_true am_
 have q390 : x25_1 < (l1_0.length : Int) := of_decide_eq_true am_
 obtain ⟨ad390, A390_0, c390_0, e390, hx390_0, hl390_0, hi390_0⟩ := at_L2 HR1_0.out x25_1 p390 q390
 cases e390
 replace hx390_0 := (HB.out.cell (World.block_lt_of_cell? w _ hx390_0)).trans hx390_0
 have HR390_0 := Aside0.mk hi390_0
 have HC390_0 := Aside0.mk hl390_0
 clear hi390_0 hl390_0
 replace p390 := eq_true p390
 replace q390 := eq_true q390
 have hnb62 := NB388_384.out
 have hnc62 := NB384_388.out
 have hnb63 := NB388_385.out
 have hnc63 := NB385_388.out
 have hnb64 := NB388_386.out
 have hnc64 := NB386_388.out
 have hnb65 := NB388_389.out
 have hnc65 := NB389_388.out
 obtain ⟨hcz66_0, hcz66_1, hcz66_2, hcz66_3, hfz66_0, hfz66_1, hfz66_2, hfz66_3⟩ := e4_ BK388
 try go_wp2_with (first | ((with_reducible refine gate_callee (f := 37) rfl ?_); refine gL_ (some 31) Try.func37 #[.agg #[.int .i64 a0_0, .int .i64 a0_1, .slice A0_2 l0_2.length c0_2, .slice A0_3 l0_3.length c0_3], .slice A390_0 (rd_L2 l1_0 x25_1).length c390_0] ?_; (with_reducible refine (vcodec_codec_posts.calls k1 a0_0 a0_1 _ _ l0_2 _ _ l0_3 _ _ (rd_L2 l1_0 x25_1) t391 _ ?side1 ?side2 ?side3 ?side4 ?side5 ?side6 A26.out).mono ?_); (case side1 => exact kC_ HR0_2 HB); (case side2 => exact HC0_2.out); (case side3 => exact kC_ HR0_3 HB); (case side4 => exact HC0_3.out); (case side5 => exact kC_ HR390_0 HB); (case side6 => exact HC390_0.out); rintro e w67 ⟨v392, rfl, ho0, hb⟩; refine ⟨_, rfl, ?_⟩; replace HO_390000 := Aside0.mk (Kd.N_elder' (kN_ HO_390000) (Kd.R_base ho0) hb); replace HO_390001 := Aside0.mk (Kd.N_elder' (kN_ HO_390001) (Kd.R_base ho0) hb); have HO393 := Aside0.mk (Kd.R_lower (Kd.R_newM (M := fun k_ => (w.heap.size ≤ k_)) ho0 (bs_ HB) (fun k_ h_ => h_)) (bs_ HB)); replace BK384 := FB_ BK384 hb; replace BK385 := FB_ BK385 hb; replace BK386 := FB_ BK386 hb; replace BK388 := FB_ BK388 hb; replace BK389 := FB_ BK389 hb; replace HB := BS_ HB hb; (try clear hb); (try clear ho0); obtain ⟨Ao68, co68, eo68⟩ := Kd.R_slice HO393.out; subst eo68) | ((with_reducible refine gate_callee (f := 34) rfl ?_); refine gL_ (some 34) Try.func34 #[.slice Ao68 t391.length co68] ?_; (with_reducible refine (floor_Floor.calls k1 _ _ t391 t394 t395 _ ?side1 ?side2 A27.out).mono ?_); (case side1 => exact kCt_ (Kd.R_reads' HO393.out).2.2); (case side2 => exact (Kd.R_reads' HO393.out).2.1); rintro e w69 ⟨v396, rfl, ho0, hb⟩; refine ⟨_, rfl, ?_⟩; replace HO_390000 := Aside0.mk (Kd.N_elder' (kN_ HO_390000) (Kd.R_base ho0) hb); replace HO_390001 := Aside0.mk (Kd.N_elder' (kN_ HO_390001) (Kd.R_base ho0) hb); replace HO393 := FR_ HO393 hb; have HO397 := Aside0.mk (Kd.R_lower (Kd.R_newM (M := fun k_ => (w.heap.size ≤ k_)) ho0 (bs_ HB) (fun k_ h_ => h_)) (bs_ HB)); replace BK384 := FB_ BK384 hb; replace BK385 := FB_ BK385 hb; replace BK386 := FB_ BK386 hb; replace BK388 := FB_ BK388 hb; replace BK389 := FB_ BK389 hb; replace HB := BS_ HB hb; (try clear hb); (try clear ho0); obtain ⟨Ao70, co70, eo70⟩ := Kd.R_slice HO397.out; subst eo70) | ((with_reducible refine gate_callee (f := 38) rfl ?_); refine gL_ (some 40) Try.func38 #[.slice A390_0 (rd_L2 l1_0 x25_1).length c390_0, .slice Ao70 t394.length co70] ?_; (with_reducible refine (remap_Quantize.calls k1 _ _ (rd_L2 l1_0 x25_1) _ _ t394 t398 t399 _ ?side1 ?side2 ?side3 ?side4 A28.out).mono ?_); (case side1 => exact kC_ HR390_0 HB); (case side2 => exact HC390_0.out); (case side3 => exact kCt_ (Kd.R_reads' HO397.out).2.2); (case side4 => exact (Kd.R_reads' HO397.out).2.1); rintro e w71 ⟨v400, rfl, ho0, hb⟩; refine ⟨_, rfl, ?_⟩; replace HO_390000 := Aside0.mk (Kd.N_elder' (kN_ HO_390000) (Kd.R_base ho0) hb); replace HO_390001 := Aside0.mk (Kd.N_elder' (kN_ HO_390001) (Kd.R_base ho0) hb); replace HO393 := FR_ HO393 hb; have HO401 := Aside0.mk (Kd.R_lower (Kd.R_new' (Kd.R_newM (M := fun k_ => (w.heap.size ≤ k_)) ho0 (bs_ HB) (fun k_ h_ => h_)) (Kd.R_lt (kR_ HO397))) (bs_ HB)); replace HO397 := Aside0.mk (Kd.R_elder' (kR_ HO397) (Kd.R_base ho0) hb); replace BK384 := FB_ BK384 hb; replace BK385 := FB_ BK385 hb; replace BK386 := FB_ BK386 hb; replace BK388 := FB_ BK388 hb; replace BK389 := FB_ BK389 hb; replace HB := BS_ HB hb; (try clear hb); (try clear ho0); obtain ⟨Ao72, co72, eo72⟩ := Kd.R_slice HO401.out; subst eo72) | ((with_reducible refine gate_callee (f := 39) rfl ?_); refine gL_ (some 44) Try.func39 #[.slice Ao72 t398.length co72] ?_; (with_reducible refine (vcodec_silent.calls k1 _ _ t398 false _ ?side1 ?side2 A29.out).mono ?_); (case side1 => exact kCt_ (Kd.R_reads' HO401.out).2.2); (case side2 => exact (Kd.R_reads' HO401.out).2.1); rintro e w' ⟨rfl, ⟨nd, rfl⟩⟩; refine ⟨_, rfl, ?_⟩; (try (rw [drewN_self w71]; generalize hq_ : World.drewN w71 _ = w71; have n0_ := Aside0.mk (Kd.N_at hq_ HO_390000.out); have n1_ := Aside0.mk (Kd.N_at hq_ HO_390001.out); have n2_ := Aside0.mk (Kd.R_at hq_ HO393.out); have n3_ := Aside0.mk (Kd.R_at hq_ HO397.out); have n4_ := Aside0.mk (Kd.R_at hq_ HO401.out); have n5_ := Aside0.mk (blk_at hq_ BK384.out); have n6_ := Aside0.mk (blk_at hq_ BK385.out); have n7_ := Aside0.mk (blk_at hq_ BK386.out); have n8_ := Aside0.mk (blk_at hq_ BK388.out); have n9_ := Aside0.mk (blk_at hq_ BK389.out); have n10_ := Aside0.mk (below_at hq_ HB.out); clear hq_ HO_390000 HO_390001 HO393 HO397 HO401 BK384 BK385 BK386 BK388 BK389 HB; have HO_390000 := n0_; have HO_390001 := n1_; have HO393 := n2_; have HO397 := n3_; have HO401 := n4_; have BK384 := n5_; have BK385 := n6_; have BK386 := n7_; have BK388 := n8_; have BK389 := n9_; have HB := n10_; clear n0_ n1_ n2_ n3_ n4_ n5_ n6_ n7_ n8_ n9_ n10_)); obtain ⟨Ao73, co73, eo73⟩ := Kd.N_slice HO_390000.out; subst eo73; obtain ⟨Ao74, co74, eo74⟩ := Kd.N_slice HO_390001.out; subst eo74))
 replace HO_390000 := Aside0.mk (Kd.N_drew HO_390000.out)
 replace HO_390001 := Aside0.mk (Kd.N_drew HO_390001.out)
 replace HO393 := Aside0.mk (Kd.R_drew HO393.out)
 replace HO397 := Aside0.mk (Kd.R_drew HO397.out)
 replace HO401 := Aside0.mk (Kd.R_drew HO401.out)
 replace BK384 := Aside0.mk (blk_drew BK384.out)
 replace BK385 := Aside0.mk (blk_drew BK385.out)
 replace BK386 := Aside0.mk (blk_drew BK386.out)
 replace BK388 := Aside0.mk (blk_drew BK388.out)
 replace BK389 := Aside0.mk (blk_drew BK389.out)
 replace HB := Aside0.mk (below_drew1 HB.out)
 refine start_ (n := 14) (S := fun w' => w'.cell? ⟨gb389, 0, none⟩ = some (.slice Ao73 x390000_1.length co73) ∧ w'.cell? ⟨gb389, 1, none⟩ = some (.slice Ao74 x390001_1.length co74)) (ds := [11, 13]) (B_ 14 0) kf_ rfl rfl ⟨ce_ BK389 0, ce_ BK389 1⟩ (fun hHeld => ?_); refine with_tabW vcodec_Encode.tab13 vcodec_Encode.bits13 (fun HT_ HW_ => ?_)
 generalize w71.drew = w75 at HO_390000 HO_390001 HO393 HO397 HO401 BK384 BK385 BK386 BK388 BK389 HB hHeld ⊢
 refine pu_ 0 (some 45) (B_ 14 1) HT_ ?_
 refine pu_ 2 (some 47) (B_ 14 5) HT_ ?_
 refine pu_ 5 (some 50) (B_ 14 37) HT_ ?_
 refine pu_ 7 (some 52) (B_ 14 165) HT_ ?_
 refine take_ (i := 1) (N := some 46) (v := ?_) (a' := ?_) (B_ 14 167) rfl rfl (take_ofW HT_.out HW_.out kf_) (fun _ _ _ h => h) (Or.inl ⟨by rfl, ?_⟩) hHeld ?_ ?_
 rotate_left
 {
 rintro w' ⟨s0, s1⟩
 go_simp
 with_reducible rfl}
 rotate_left
 {
 exact sp_}
 refine take_ (i := 6) (N := some 51) (v := ?_) (a' := ?_) (B_ 14 231) rfl rfl (take_ofW HT_.out HW_.out kf_) (fun _ _ _ h => h) (Or.inl ⟨by rfl, ?_⟩) hHeld ?_ ?_
 rotate_left
 {
 rintro w' ⟨s0, s1⟩
 go_simp
 with_reducible rfl}
 rotate_left
 {
 exact sp_}
 refine join_ (σ := Value × Value × Value) 4 (B_ 14 1535) (fun s_ => [(48, s_.1), (49, s_.2.1), (53, s_.2.2), (55, .pointer (some ⟨gb389, 0, none⟩))]) (fun s_ w' => (w'.cell? ⟨gb389, 0, none⟩ = some (.slice Ao73 x390000_1.length co73) ∧ w'.cell? ⟨gb389, 1, none⟩ = some (.slice Ao74 x390001_1.length co74)) ∧ (Kd.R (Kd.int .i64) 2 w' w.heap.size (fun k_ => (w.heap.size ≤ k_)) (.slice Ao70 t394.length co70) t394) ∧ (Kd.N (Kd.slice 3 (Kd.int .i64)) 22 w' w.heap.size (fun k_ => (w.heap.size ≤ k_) ∧ some k_ ≠ (.slice Ao70 t394.length co70 : Value).ownBlock ∧ some k_ ≠ (s_.2.1 : Value).ownBlock ∧ some k_ ≠ (s_.2.2 : Value).ownBlock ∧ some k_ ≠ (.slice Ao74 x390001_1.length co74 : Value).ownBlock ∧ k_ ≠ gb384 ∧ k_ ≠ gb385 ∧ k_ ≠ gb386 ∧ k_ ≠ gb388 ∧ k_ ≠ gb389) s_.1 y415) ∧ (Kd.N (Kd.slice 3 (Kd.int .i64)) 22 w' w.heap.size (fun k_ => (w.heap.size ≤ k_) ∧ some k_ ≠ (.slice Ao70 t394.length co70 : Value).ownBlock ∧ some k_ ≠ (s_.2.2 : Value).ownBlock ∧ some k_ ≠ (.slice Ao74 x390001_1.length co74 : Value).ownBlock ∧ k_ ≠ gb384 ∧ k_ ≠ gb385 ∧ k_ ≠ gb386 ∧ k_ ≠ gb388 ∧ k_ ≠ gb389) s_.2.1 y418) ∧ (Kd.N (Kd.slice 2 (Kd.int .i64)) 53 w' w.heap.size (fun k_ => (w.heap.size ≤ k_) ∧ some k_ ≠ (.slice Ao70 t394.length co70 : Value).ownBlock ∧ some k_ ≠ (s_.1 : Value).ownBlock ∧ some k_ ≠ (s_.2.1 : Value).ownBlock ∧ some k_ ≠ (.slice Ao74 x390001_1.length co74 : Value).ownBlock ∧ k_ ≠ gb384 ∧ k_ ≠ gb385 ∧ k_ ≠ gb386 ∧ k_ ≠ gb388 ∧ k_ ≠ gb389) s_.2.2 y421) ∧ (Kd.N (Kd.slice 2 (Kd.int .i64)) 53 w' w.heap.size (fun k_ => (w.heap.size ≤ k_) ∧ some k_ ≠ (.slice Ao70 t394.length co70 : Value).ownBlock ∧ some k_ ≠ (s_.1 : Value).ownBlock ∧ some k_ ≠ (s_.2.1 : Value).ownBlock ∧ some k_ ≠ (s_.2.2 : Value).ownBlock ∧ k_ ≠ gb384 ∧ k_ ≠ gb385 ∧ k_ ≠ gb386 ∧ k_ ≠ gb388 ∧ k_ ≠ gb389) (.slice Ao74 x390001_1.length co74) x390001_1) ∧ (w'.heap[gb384]? = some (.cells #[.int .i64 a0_0, .int .i64 a0_1, .slice A0_2 l0_2.length c0_2, .slice A0_3 l0_3.length c0_3] 24 (0, 0))) ∧ (w'.heap[gb385]? = some (.cells #[.slice (some ad390) l1_0.length c1_0] 37 (0, 0))) ∧ (w'.heap[gb386]? = some (.cells #[.slice none 0 0, .slice none 0 0] 28 (0, 0))) ∧ (w'.heap[gb388]? = some (.cells #[.int .i64 a0_0, .int .i64 a0_1, .slice A0_2 l0_2.length c0_2, .slice A0_3 l0_3.length c0_3] 61 (0, 0))) ∧ (w'.heap[gb389]? = some (.cells #[.slice Ao73 x390000_1.length co73, .slice Ao74 x390001_1.length co74] 28 (0, 0))) ∧ (Below w.heap.size w w')) ?_ ?_
 rotate_left
 {
 intro hCont
 refine two_ (i := 3) (j := 8) (Ni := some 48) (Nj := some 53) (B_ 14 239) (B_ 14 487) rfl rfl rfl rfl (two_of HT_.out kf_) (by decide) (by decide) (fun K hK => ?_) (fun K hK => ?_)
 {
 skip
 refine Kd.N_lit_step (Kd.slice 3 (Kd.int .i64)) _ 22 ?hg (N' := 48) ?hd (xs := ([t391] : List (List Int))) (inner := [.slice Ao68 t391.length co68]) (ok := (fun k_ => (w.heap.size ≤ k_) ∧ some k_ ≠ (.slice Ao73 x390000_1.length co73 : Value).ownBlock ∧ some k_ ≠ (.slice Ao74 x390001_1.length co74 : Value).ownBlock ∧ some k_ ≠ (.slice Ao70 t394.length co70 : Value).ownBlock ∧ some k_ ≠ (.slice Ao72 t398.length co72 : Value).ownBlock ∧ k_ ≠ gb384 ∧ k_ ≠ gb385 ∧ k_ ≠ gb386 ∧ k_ ≠ gb388 ∧ k_ ≠ gb389)) (okp := (fun k_ => (w.heap.size ≤ k_) ∧ some k_ ≠ (.slice Ao73 x390000_1.length co73 : Value).ownBlock ∧ some k_ ≠ (.slice Ao74 x390001_1.length co74 : Value).ownBlock ∧ some k_ ≠ (.slice Ao70 t394.length co70 : Value).ownBlock ∧ some k_ ≠ (.slice Ao72 t398.length co72 : Value).ownBlock ∧ k_ ≠ gb384 ∧ k_ ≠ gb385 ∧ k_ ≠ gb386 ∧ k_ ≠ gb388 ∧ k_ ≠ gb389)) ?hr ?hp (fun _ hk => hk) (fr_ (P := (fun k_ => (w.heap.size ≤ k_) ∧ some k_ ≠ (.slice Ao73 x390000_1.length co73 : Value).ownBlock ∧ some k_ ≠ (.slice Ao74 x390001_1.length co74 : Value).ownBlock ∧ some k_ ≠ (.slice Ao70 t394.length co70 : Value).ownBlock ∧ some k_ ≠ (.slice Ao72 t398.length co72 : Value).ownBlock ∧ k_ ≠ gb384 ∧ k_ ≠ gb385 ∧ k_ ≠ gb386 ∧ k_ ≠ gb388 ∧ k_ ≠ gb389)) (fun k_ hk => ⟨(Nat.le_trans (bs_ HB) hk), Kd.fresh' (Kd.N_lt (kN_ HO_390000)) k_ hk, Kd.fresh' (Kd.N_lt (kN_ HO_390001)) k_ hk, Kd.fresh' (Kd.R_lt (kR_ HO397)) k_ hk, Kd.fresh' (Kd.R_lt (kR_ HO401)) k_ hk, Kd.freshB (g := gb384) (o := .cells #[.int .i64 a0_0, .int .i64 a0_1, .slice A0_2 l0_2.length c0_2, .slice A0_3 l0_3.length c0_3] 24 (0, 0)) (bk_ BK384) k_ hk, Kd.freshB (g := gb385) (o := .cells #[.slice (some ad390) l1_0.length c1_0] 37 (0, 0)) (bk_ BK385) k_ hk, Kd.freshB (g := gb386) (o := .cells #[.slice none 0 0, .slice none 0 0] 28 (0, 0)) (bk_ BK386) k_ hk, Kd.freshB (g := gb388) (o := .cells #[.int .i64 a0_0, .int .i64 a0_1, .slice A0_2 l0_2.length c0_2, .slice A0_3 l0_3.length c0_3] 61 (0, 0)) (bk_ BK388) k_ hk, Kd.freshB (g := gb389) (o := .cells #[.slice Ao73 x390000_1.length co73, .slice Ao74 x390001_1.length co74] 28 (0, 0)) (bk_ BK389) k_ hk⟩)) (Below.refl _ _) (Nat.le_refl _) (by simp) ?_; (case hd => rfl); (case hg => rfl); (case hr => first | (go_simp; done) | (go_simp; rfl)); (case hp => exact (Reps.one (show Kd.FK (Kd.slice 3 (Kd.int .i64)) _ _ t391 [.slice Ao68 t391.length co68] from (Kd.FK_slice_mk (Kd.R_reads' (Kd.R_mono (ok' := (fun k_ => (w.heap.size ≤ k_) ∧ some k_ ≠ (.slice Ao73 x390000_1.length co73 : Value).ownBlock ∧ some k_ ≠ (.slice Ao74 x390001_1.length co74 : Value).ownBlock ∧ some k_ ≠ (.slice Ao70 t394.length co70 : Value).ownBlock ∧ some k_ ≠ (.slice Ao72 t398.length co72 : Value).ownBlock ∧ k_ ≠ gb384 ∧ k_ ≠ gb385 ∧ k_ ≠ gb386 ∧ k_ ≠ gb388 ∧ k_ ≠ gb389)) (Kd.R_types (Kd.R_types (Kd.R_types (Kd.R_types (Kd.R_types (Kd.R_apart' (Kd.R_apart' (Kd.R_apart' (Kd.R_apart' (HO393.out) (Kd.N_typed HO_390000.out) (by decide)) (Kd.N_typed HO_390001.out) (by decide)) (Kd.R_typed HO397.out) (by decide)) (Kd.R_typed HO401.out) (by decide)) BK384.out (by decide)) BK385.out (by decide)) BK386.out (by decide)) BK388.out (by decide)) BK389.out (by decide)) (fun k_ hk => ⟨hk.1.1.1.1.1.1.1.1.1.1, ⟨hk.1.1.1.1.1.1.1.1.2, ⟨hk.1.1.1.1.1.1.1.2, ⟨hk.1.1.1.1.1.1.2, ⟨hk.1.1.1.1.1.2, ⟨hk.1.1.1.1.2, ⟨hk.1.1.1.2, ⟨hk.1.1.2, ⟨hk.1.2, hk.2⟩⟩⟩⟩⟩⟩⟩⟩⟩))).2.1 (Kd.R_F (Kd.R_mono (ok' := (fun k_ => (w.heap.size ≤ k_) ∧ some k_ ≠ (.slice Ao73 x390000_1.length co73 : Value).ownBlock ∧ some k_ ≠ (.slice Ao74 x390001_1.length co74 : Value).ownBlock ∧ some k_ ≠ (.slice Ao70 t394.length co70 : Value).ownBlock ∧ some k_ ≠ (.slice Ao72 t398.length co72 : Value).ownBlock ∧ k_ ≠ gb384 ∧ k_ ≠ gb385 ∧ k_ ≠ gb386 ∧ k_ ≠ gb388 ∧ k_ ≠ gb389)) (Kd.R_types (Kd.R_types (Kd.R_types (Kd.R_types (Kd.R_types (Kd.R_apart' (Kd.R_apart' (Kd.R_apart' (Kd.R_apart' (HO393.out) (Kd.N_typed HO_390000.out) (by decide)) (Kd.N_typed HO_390001.out) (by decide)) (Kd.R_typed HO397.out) (by decide)) (Kd.R_typed HO401.out) (by decide)) BK384.out (by decide)) BK385.out (by decide)) BK386.out (by decide)) BK388.out (by decide)) BK389.out (by decide)) (fun k_ hk => ⟨hk.1.1.1.1.1.1.1.1.1.1, ⟨hk.1.1.1.1.1.1.1.1.2, ⟨hk.1.1.1.1.1.1.1.2, ⟨hk.1.1.1.1.1.1.2, ⟨hk.1.1.1.1.1.2, ⟨hk.1.1.1.1.2, ⟨hk.1.1.1.2, ⟨hk.1.1.2, ⟨hk.1.2, hk.2⟩⟩⟩⟩⟩⟩⟩⟩⟩))))) (Reps.none _ _)))
 intro v416 w76 ho77 hb hg_ hnew_
 clear hg_ hnew_
 (first | rw [← Ny415.out] at ho77 | (simp only [Int.reduceToNat] at ho77; rw [← Ny415.out] at ho77))
 replace HO_390000 := Aside0.mk (Kd.N_elder' (kN_ HO_390000) (Kd.N_base ho77) hb)
 replace HO_390001 := Aside0.mk (Kd.N_elder' (kN_ HO_390001) (Kd.N_base ho77) hb)
 replace HO397 := FR_ HO397 hb
 replace HO401 := FR_ HO401 hb
 have HO417 := Aside0.mk (Kd.N_lower ho77 (bs_ HB))
 replace BK384 := FB_ BK384 hb
 replace BK385 := FB_ BK385 hb
 replace BK386 := FB_ BK386 hb
 replace BK388 := FB_ BK388 hb
 replace BK389 := FB_ BK389 hb
 replace HB := BS_ HB hb
 clear HO393
 clear hb ho77
 refine hK.out _ _ ⟨ce_ BK389 0, ce_ BK389 1⟩ (fun hHeld => ?_)
 clear hK K
 refine norm_ (a' := ?_) ?_ ?_
 rotate_left
 {
 show Act.put _ (some 48) _ = _
 exact sp_}
 refine two_ (i := 4) (j := 8) (Ni := some 49) (Nj := some 53) (B_ 14 255) (B_ 14 495) rfl rfl rfl rfl (two_of HT_.out kf_) (by decide) (by decide) (fun K hK => ?_) (fun K hK => ?_)
 {
 skip
 obtain ⟨Ao79, co79, eo79⟩ := Kd.N_slice HO417.out
 (first | subst eo79 | (injection eo79 with f1_ f2_ f3_; have f4_ := f1_.symm; have f5_ := f3_.symm; clear f1_ f2_ f3_; subst f4_; subst f5_))
 refine Kd.N_append_rows_step (Kd.slice 3 (Kd.int .i64)) (w0 := w) w.heap.size (by rfl) (.tmp 46) (.tmp 48) 25 22 (.slice none 0 0) 24 rfl Try.underlying25 info22 rfl (by decide) (by omega) (.slice Ao73 x390000_1.length co73) x390000_1 y415 _ _ _ (fun k_ => (w.heap.size ≤ k_) ∧ some k_ ≠ (.slice Ao74 x390001_1.length co74 : Value).ownBlock ∧ some k_ ≠ (.slice Ao70 t394.length co70 : Value).ownBlock ∧ some k_ ≠ (.slice Ao72 t398.length co72 : Value).ownBlock ∧ k_ ≠ gb384 ∧ k_ ≠ gb385 ∧ k_ ≠ gb386 ∧ k_ ≠ gb388 ∧ k_ ≠ gb389) (fun k_ => ((fun k_ => (w.heap.size ≤ k_) ∧ some k_ ≠ (.slice Ao74 x390001_1.length co74 : Value).ownBlock ∧ some k_ ≠ (.slice Ao70 t394.length co70 : Value).ownBlock ∧ some k_ ≠ (.slice Ao72 t398.length co72 : Value).ownBlock ∧ k_ ≠ gb384 ∧ k_ ≠ gb385 ∧ k_ ≠ gb386 ∧ k_ ≠ gb388 ∧ k_ ≠ gb389)) k_ ∧ some k_ ≠ (.slice Ao73 x390000_1.length co73 : Value).ownBlock) rfl rfl ?aO ?aR (fun _ hk => hk) ?aF ?aB ?aS ?aL ?_
 (case aR => exact (by skip; exact Kd.N_F (Kd.N_mono (ok' := (fun k_ => ((fun k_ => (w.heap.size ≤ k_) ∧ some k_ ≠ (.slice Ao74 x390001_1.length co74 : Value).ownBlock ∧ some k_ ≠ (.slice Ao70 t394.length co70 : Value).ownBlock ∧ some k_ ≠ (.slice Ao72 t398.length co72 : Value).ownBlock ∧ k_ ≠ gb384 ∧ k_ ≠ gb385 ∧ k_ ≠ gb386 ∧ k_ ≠ gb388 ∧ k_ ≠ gb389)) k_ ∧ some k_ ≠ (.slice Ao73 x390000_1.length co73 : Value).ownBlock)) (HO417.out) (fun k_ hk => ⟨⟨hk.1, ⟨hk.2.2.1, ⟨hk.2.2.2.1, ⟨hk.2.2.2.2.1, ⟨hk.2.2.2.2.2.1, ⟨hk.2.2.2.2.2.2.1, ⟨hk.2.2.2.2.2.2.2.1, ⟨hk.2.2.2.2.2.2.2.2.1, hk.2.2.2.2.2.2.2.2.2⟩⟩⟩⟩⟩⟩⟩⟩, hk.2.1⟩))))
 (case aB => exact (bl_ HB))
 (case aF => exact (fun k_ hk => ⟨(Nat.le_trans (bs_ HB) hk), Kd.fresh' (Kd.N_lt (kN_ HO_390001)) k_ hk, Kd.fresh' (Kd.R_lt (kR_ HO397)) k_ hk, Kd.fresh' (Kd.R_lt (kR_ HO401)) k_ hk, Kd.freshB (g := gb384) (o := .cells #[.int .i64 a0_0, .int .i64 a0_1, .slice A0_2 l0_2.length c0_2, .slice A0_3 l0_3.length c0_3] 24 (0, 0)) (bk_ BK384) k_ hk, Kd.freshB (g := gb385) (o := .cells #[.slice (some ad390) l1_0.length c1_0] 37 (0, 0)) (bk_ BK385) k_ hk, Kd.freshB (g := gb386) (o := .cells #[.slice none 0 0, .slice none 0 0] 28 (0, 0)) (bk_ BK386) k_ hk, Kd.freshB (g := gb388) (o := .cells #[.int .i64 a0_0, .int .i64 a0_1, .slice A0_2 l0_2.length c0_2, .slice A0_3 l0_3.length c0_3] 61 (0, 0)) (bk_ BK388) k_ hk, Kd.freshB (g := gb389) (o := .cells #[.slice Ao73 x390000_1.length co73, .slice Ao74 x390001_1.length co74] 28 (0, 0)) (bk_ BK389) k_ hk⟩))
 (case aO => exact (by (with_reducible repeat (first | apply Kd.N_alloc | apply Kd.N_drewN | apply Kd.N_drew)); exact Kd.N_mono HO_390000.out (fun _ hk => ⟨hk.1.1.1.1.1, ⟨hk.1.1.1.1.2.1, ⟨hk.1.1.2, ⟨hk.1.2, ⟨hk.1.1.1.1.2.2.1, ⟨hk.1.1.1.1.2.2.2.1, ⟨hk.1.1.1.1.2.2.2.2.1, ⟨hk.1.1.1.1.2.2.2.2.2.1, hk.1.1.1.1.2.2.2.2.2.2⟩⟩⟩⟩⟩⟩⟩⟩)))
 (case aS => exact (bs_ HB))
 (case aL => have := LMc60.out; omega)
 intro v419 w78 ho hb hg hat
 rw [← Ny418.out] at ho
 replace HO_390001 := Aside0.mk (Kd.N_afterv (ok := (fun k_ => (w.heap.size ≤ k_) ∧ some k_ ≠ (.slice Ao70 t394.length co70 : Value).ownBlock ∧ some k_ ≠ (.slice Ao72 t398.length co72 : Value).ownBlock ∧ some k_ ≠ (.slice Ao79 y415.length co79 : Value).ownBlock ∧ k_ ≠ gb384 ∧ k_ ≠ gb385 ∧ k_ ≠ gb386 ∧ k_ ≠ gb388 ∧ k_ ≠ gb389)) (by (with_reducible repeat (first | apply Kd.N_alloc | apply Kd.N_drewN | apply Kd.N_drew)); exact Kd.N_mono HO_390001.out (fun _ hk => ⟨⟨hk.1.1.1.1.1, ⟨hk.1.1.2, ⟨hk.1.2, ⟨hk.2, ⟨hk.1.1.1.1.2.2.1, ⟨hk.1.1.1.1.2.2.2.1, ⟨hk.1.1.1.1.2.2.2.2.1, ⟨hk.1.1.1.1.2.2.2.2.2.1, hk.1.1.1.1.2.2.2.2.2.2⟩⟩⟩⟩⟩⟩⟩⟩, hk.1.1.1.1.2.1⟩)) hg hat)
 replace BK384 := (FG_ BK384 hg (Kd.N_ne HO_390000.out BK384.out (by decide)))
 replace BK385 := (FG_ BK385 hg (Kd.N_ne HO_390000.out BK385.out (by decide)))
 replace BK386 := (FG_ BK386 hg (Kd.N_ne HO_390000.out BK386.out (by decide)))
 replace BK388 := (FG_ BK388 hg (Kd.N_ne HO_390000.out BK388.out (by decide)))
 replace BK389 := (FG_ BK389 hg (Kd.N_ne HO_390000.out BK389.out (by decide)))
 replace HO397 := Aside0.mk (Kd.R_over' (kR_ HO397) (Kd.N_typed (kN_ HO_390000)) (by decide) hg)
 replace HO401 := Aside0.mk (Kd.R_over' (kR_ HO401) (Kd.N_typed (kN_ HO_390000)) (by decide) hg)
 replace HO417 := Aside0.mk (Kd.N_afterv (ok := (fun k_ => (w.heap.size ≤ k_) ∧ some k_ ≠ (.slice Ao74 x390001_1.length co74 : Value).ownBlock ∧ some k_ ≠ (.slice Ao70 t394.length co70 : Value).ownBlock ∧ some k_ ≠ (.slice Ao72 t398.length co72 : Value).ownBlock ∧ k_ ≠ gb384 ∧ k_ ≠ gb385 ∧ k_ ≠ gb386 ∧ k_ ≠ gb388 ∧ k_ ≠ gb389)) (by (with_reducible repeat (first | apply Kd.N_alloc | apply Kd.N_drewN | apply Kd.N_drew)); exact Kd.N_mono HO417.out (fun _ hk => ⟨⟨hk.1, ⟨hk.2.2.1, ⟨hk.2.2.2.1, ⟨hk.2.2.2.2.1, ⟨hk.2.2.2.2.2.1, ⟨hk.2.2.2.2.2.2.1, ⟨hk.2.2.2.2.2.2.2.1, ⟨hk.2.2.2.2.2.2.2.2.1, hk.2.2.2.2.2.2.2.2.2⟩⟩⟩⟩⟩⟩⟩⟩, hk.2.1⟩)) hg hat)
 replace HB := Aside0.mk (hb)
 have HO420 := Aside0.mk (ho)
 clear HO_390000
 clear ho hb hg hat
 refine hK.out _ _ ⟨ce_ BK389 0, ce_ BK389 1⟩ (fun hHeld => ?_)
 clear hK K
 refine norm_ (a' := ?_) ?_ ?_
 rotate_left
 {
 show Act.put _ (some 49) _ = _
 exact sp_}
 refine pu_ 10 (some 55) (B_ 14 1279) HT_ ?_
 refine one_ (i := 8) (N := some 53) (B_ 14 1535) rfl rfl (one_of HT_.out kf_) (by decide) (fun K hK => ?_)
 refine Kd.N_lit_step (Kd.slice 2 (Kd.int .i64)) _ 53 ?hg (N' := 53) ?hd (xs := ([t398] : List (List Int))) (inner := [.slice Ao72 t398.length co72]) (ok := (fun k_ => (w.heap.size ≤ k_) ∧ some k_ ≠ (.slice Ao74 x390001_1.length co74 : Value).ownBlock ∧ some k_ ≠ (.slice Ao70 t394.length co70 : Value).ownBlock ∧ some k_ ≠ (.slice Ao79 y415.length co79 : Value).ownBlock ∧ some k_ ≠ (v419 : Value).ownBlock ∧ k_ ≠ gb384 ∧ k_ ≠ gb385 ∧ k_ ≠ gb386 ∧ k_ ≠ gb388 ∧ k_ ≠ gb389)) (okp := (fun k_ => (w.heap.size ≤ k_) ∧ some k_ ≠ (.slice Ao74 x390001_1.length co74 : Value).ownBlock ∧ some k_ ≠ (.slice Ao70 t394.length co70 : Value).ownBlock ∧ some k_ ≠ (.slice Ao79 y415.length co79 : Value).ownBlock ∧ some k_ ≠ (v419 : Value).ownBlock ∧ k_ ≠ gb384 ∧ k_ ≠ gb385 ∧ k_ ≠ gb386 ∧ k_ ≠ gb388 ∧ k_ ≠ gb389)) ?hr ?hp (fun _ hk => hk) (fr_ (P := (fun k_ => (w.heap.size ≤ k_) ∧ some k_ ≠ (.slice Ao74 x390001_1.length co74 : Value).ownBlock ∧ some k_ ≠ (.slice Ao70 t394.length co70 : Value).ownBlock ∧ some k_ ≠ (.slice Ao79 y415.length co79 : Value).ownBlock ∧ some k_ ≠ (v419 : Value).ownBlock ∧ k_ ≠ gb384 ∧ k_ ≠ gb385 ∧ k_ ≠ gb386 ∧ k_ ≠ gb388 ∧ k_ ≠ gb389)) (fun k_ hk => ⟨(Nat.le_trans (bs_ HB) hk), Kd.fresh' (Kd.N_lt (kN_ HO_390001)) k_ hk, Kd.fresh' (Kd.R_lt (kR_ HO397)) k_ hk, Kd.fresh' (Kd.N_lt (kN_ HO417)) k_ hk, Kd.fresh' (Kd.N_lt (kN_ HO420)) k_ hk, Kd.freshB (g := gb384) (o := .cells #[.int .i64 a0_0, .int .i64 a0_1, .slice A0_2 l0_2.length c0_2, .slice A0_3 l0_3.length c0_3] 24 (0, 0)) (bk_ BK384) k_ hk, Kd.freshB (g := gb385) (o := .cells #[.slice (some ad390) l1_0.length c1_0] 37 (0, 0)) (bk_ BK385) k_ hk, Kd.freshB (g := gb386) (o := .cells #[.slice none 0 0, .slice none 0 0] 28 (0, 0)) (bk_ BK386) k_ hk, Kd.freshB (g := gb388) (o := .cells #[.int .i64 a0_0, .int .i64 a0_1, .slice A0_2 l0_2.length c0_2, .slice A0_3 l0_3.length c0_3] 61 (0, 0)) (bk_ BK388) k_ hk, Kd.freshB (g := gb389) (o := .cells #[.slice Ao73 x390000_1.length co73, .slice Ao74 x390001_1.length co74] 28 (0, 0)) (bk_ BK389) k_ hk⟩)) (Below.refl _ _) (Nat.le_refl _) (by simp) ?_; (case hd => rfl); (case hg => rfl); (case hr => first | (go_simp; done) | (go_simp; rfl)); (case hp => exact (Reps.one (show Kd.FK (Kd.slice 2 (Kd.int .i64)) _ _ t398 [.slice Ao72 t398.length co72] from (Kd.FK_slice_mk (Kd.R_reads' (Kd.R_mono (ok' := (fun k_ => (w.heap.size ≤ k_) ∧ some k_ ≠ (.slice Ao74 x390001_1.length co74 : Value).ownBlock ∧ some k_ ≠ (.slice Ao70 t394.length co70 : Value).ownBlock ∧ some k_ ≠ (.slice Ao79 y415.length co79 : Value).ownBlock ∧ some k_ ≠ (v419 : Value).ownBlock ∧ k_ ≠ gb384 ∧ k_ ≠ gb385 ∧ k_ ≠ gb386 ∧ k_ ≠ gb388 ∧ k_ ≠ gb389)) (Kd.R_types (Kd.R_types (Kd.R_types (Kd.R_types (Kd.R_types (Kd.R_apart' (Kd.R_apart' (Kd.R_apart' (HO401.out) (Kd.N_typed HO_390001.out) (by decide)) (Kd.N_typed HO417.out) (by decide)) (Kd.N_typed HO420.out) (by decide)) BK384.out (by decide)) BK385.out (by decide)) BK386.out (by decide)) BK388.out (by decide)) BK389.out (by decide)) (fun k_ hk => ⟨hk.1.1.1.1.1.1.1.1.1.1, ⟨hk.1.1.1.1.1.1.1.2, ⟨hk.1.1.1.1.1.1.1.1.2, ⟨hk.1.1.1.1.1.1.2, ⟨hk.1.1.1.1.1.2, ⟨hk.1.1.1.1.2, ⟨hk.1.1.1.2, ⟨hk.1.1.2, ⟨hk.1.2, hk.2⟩⟩⟩⟩⟩⟩⟩⟩⟩))).2.1 (Kd.R_F (Kd.R_mono (ok' := (fun k_ => (w.heap.size ≤ k_) ∧ some k_ ≠ (.slice Ao74 x390001_1.length co74 : Value).ownBlock ∧ some k_ ≠ (.slice Ao70 t394.length co70 : Value).ownBlock ∧ some k_ ≠ (.slice Ao79 y415.length co79 : Value).ownBlock ∧ some k_ ≠ (v419 : Value).ownBlock ∧ k_ ≠ gb384 ∧ k_ ≠ gb385 ∧ k_ ≠ gb386 ∧ k_ ≠ gb388 ∧ k_ ≠ gb389)) (Kd.R_types (Kd.R_types (Kd.R_types (Kd.R_types (Kd.R_types (Kd.R_apart' (Kd.R_apart' (Kd.R_apart' (HO401.out) (Kd.N_typed HO_390001.out) (by decide)) (Kd.N_typed HO417.out) (by decide)) (Kd.N_typed HO420.out) (by decide)) BK384.out (by decide)) BK385.out (by decide)) BK386.out (by decide)) BK388.out (by decide)) BK389.out (by decide)) (fun k_ hk => ⟨hk.1.1.1.1.1.1.1.1.1.1, ⟨hk.1.1.1.1.1.1.1.2, ⟨hk.1.1.1.1.1.1.1.1.2, ⟨hk.1.1.1.1.1.1.2, ⟨hk.1.1.1.1.1.2, ⟨hk.1.1.1.1.2, ⟨hk.1.1.1.2, ⟨hk.1.1.2, ⟨hk.1.2, hk.2⟩⟩⟩⟩⟩⟩⟩⟩⟩))))) (Reps.none _ _)))
 intro v422 w80 ho81 hb hg_ hnew_
 clear hg_ hnew_
 (first | rw [← Ny421.out] at ho81 | (simp only [Int.reduceToNat] at ho81; rw [← Ny421.out] at ho81))
 replace HO_390001 := Aside0.mk (Kd.N_elder' (kN_ HO_390001) (Kd.N_base ho81) hb)
 replace HO397 := FR_ HO397 hb
 replace HO417 := Aside0.mk (Kd.N_elder' (kN_ HO417) (Kd.N_base ho81) hb)
 replace HO420 := Aside0.mk (Kd.N_elder' (kN_ HO420) (Kd.N_base ho81) hb)
 have HO423 := Aside0.mk (Kd.N_lower ho81 (bs_ HB))
 replace BK384 := FB_ BK384 hb
 replace BK385 := FB_ BK385 hb
 replace BK386 := FB_ BK386 hb
 replace BK388 := FB_ BK388 hb
 replace BK389 := FB_ BK389 hb
 replace HB := BS_ HB hb
 clear HO401
 clear hb ho81
 refine hK.out _ _ ⟨ce_ BK389 0, ce_ BK389 1⟩ (fun hHeld => ?_)
 clear hK K
 refine norm_ (a' := ?_) ?_ ?_
 rotate_left
 {
 show Act.put _ (some 53) _ = _
 exact sp_}
 exact norm_ pa_ (hCont (.slice Ao79 y415.length co79, v419, v422) _ ⟨hHeld, (by (with_reducible repeat (first | apply Kd.R_alloc | apply Kd.R_drewN | apply Kd.R_drew)); exact Kd.R_mono HO397.out (fun _ hk => hk.1.1)), (by (with_reducible repeat (first | apply Kd.N_alloc | apply Kd.N_drewN | apply Kd.N_drew)); exact Kd.N_mono HO417.out (fun _ hk => ⟨hk.1.1.1, ⟨hk.1.1.2.2.1, ⟨hk.1.2, ⟨hk.2, ⟨hk.1.1.2.1, ⟨hk.1.1.2.2.2.2.1, ⟨hk.1.1.2.2.2.2.2.1, ⟨hk.1.1.2.2.2.2.2.2.1, ⟨hk.1.1.2.2.2.2.2.2.2.1, hk.1.1.2.2.2.2.2.2.2.2⟩⟩⟩⟩⟩⟩⟩⟩⟩)), (by (with_reducible repeat (first | apply Kd.N_alloc | apply Kd.N_drewN | apply Kd.N_drew)); exact Kd.N_mono HO420.out (fun _ hk => ⟨hk.1.1, ⟨hk.1.2.2.1, ⟨hk.2, ⟨hk.1.2.1, ⟨hk.1.2.2.2.2.1, ⟨hk.1.2.2.2.2.2.1, ⟨hk.1.2.2.2.2.2.2.1, ⟨hk.1.2.2.2.2.2.2.2.1, hk.1.2.2.2.2.2.2.2.2⟩⟩⟩⟩⟩⟩⟩⟩)), (by (with_reducible repeat (first | apply Kd.N_alloc | apply Kd.N_drewN | apply Kd.N_drew)); exact Kd.N_mono HO423.out (fun _ hk => ⟨hk.1, ⟨hk.2.2.1, ⟨hk.2.2.2.1, ⟨hk.2.2.2.2.1, ⟨hk.2.1, ⟨hk.2.2.2.2.2.1, ⟨hk.2.2.2.2.2.2.1, ⟨hk.2.2.2.2.2.2.2.1, ⟨hk.2.2.2.2.2.2.2.2.1, hk.2.2.2.2.2.2.2.2.2⟩⟩⟩⟩⟩⟩⟩⟩⟩)), (by (with_reducible repeat (first | apply Kd.N_alloc | apply Kd.N_drewN | apply Kd.N_drew)); exact Kd.N_mono HO_390001.out (fun _ hk => ⟨hk.1.1.1, ⟨hk.1.1.2.1, ⟨hk.1.1.2.2.2.1, ⟨hk.1.2, ⟨hk.2, ⟨hk.1.1.2.2.2.2.1, ⟨hk.1.1.2.2.2.2.2.1, ⟨hk.1.1.2.2.2.2.2.2.1, ⟨hk.1.1.2.2.2.2.2.2.2.1, hk.1.1.2.2.2.2.2.2.2.2⟩⟩⟩⟩⟩⟩⟩⟩⟩)), (bk_ BK384), (bk_ BK385), (bk_ BK386), (bk_ BK388), (bk_ BK389), (bl_ HB)⟩)}
 {
 skip
 refine Kd.N_lit_step (Kd.slice 2 (Kd.int .i64)) _ 53 ?hg (N' := 53) ?hd (xs := ([t398] : List (List Int))) (inner := [.slice Ao72 t398.length co72]) (ok := (fun k_ => (w.heap.size ≤ k_) ∧ some k_ ≠ (.slice Ao73 x390000_1.length co73 : Value).ownBlock ∧ some k_ ≠ (.slice Ao74 x390001_1.length co74 : Value).ownBlock ∧ some k_ ≠ (.slice Ao70 t394.length co70 : Value).ownBlock ∧ some k_ ≠ (v416 : Value).ownBlock ∧ k_ ≠ gb384 ∧ k_ ≠ gb385 ∧ k_ ≠ gb386 ∧ k_ ≠ gb388 ∧ k_ ≠ gb389)) (okp := (fun k_ => (w.heap.size ≤ k_) ∧ some k_ ≠ (.slice Ao73 x390000_1.length co73 : Value).ownBlock ∧ some k_ ≠ (.slice Ao74 x390001_1.length co74 : Value).ownBlock ∧ some k_ ≠ (.slice Ao70 t394.length co70 : Value).ownBlock ∧ some k_ ≠ (v416 : Value).ownBlock ∧ k_ ≠ gb384 ∧ k_ ≠ gb385 ∧ k_ ≠ gb386 ∧ k_ ≠ gb388 ∧ k_ ≠ gb389)) ?hr ?hp (fun _ hk => hk) (fr_ (P := (fun k_ => (w.heap.size ≤ k_) ∧ some k_ ≠ (.slice Ao73 x390000_1.length co73 : Value).ownBlock ∧ some k_ ≠ (.slice Ao74 x390001_1.length co74 : Value).ownBlock ∧ some k_ ≠ (.slice Ao70 t394.length co70 : Value).ownBlock ∧ some k_ ≠ (v416 : Value).ownBlock ∧ k_ ≠ gb384 ∧ k_ ≠ gb385 ∧ k_ ≠ gb386 ∧ k_ ≠ gb388 ∧ k_ ≠ gb389)) (fun k_ hk => ⟨(Nat.le_trans (bs_ HB) hk), Kd.fresh' (Kd.N_lt (kN_ HO_390000)) k_ hk, Kd.fresh' (Kd.N_lt (kN_ HO_390001)) k_ hk, Kd.fresh' (Kd.R_lt (kR_ HO397)) k_ hk, Kd.fresh' (Kd.N_lt (kN_ HO417)) k_ hk, Kd.freshB (g := gb384) (o := .cells #[.int .i64 a0_0, .int .i64 a0_1, .slice A0_2 l0_2.length c0_2, .slice A0_3 l0_3.length c0_3] 24 (0, 0)) (bk_ BK384) k_ hk, Kd.freshB (g := gb385) (o := .cells #[.slice (some ad390) l1_0.length c1_0] 37 (0, 0)) (bk_ BK385) k_ hk, Kd.freshB (g := gb386) (o := .cells #[.slice none 0 0, .slice none 0 0] 28 (0, 0)) (bk_ BK386) k_ hk, Kd.freshB (g := gb388) (o := .cells #[.int .i64 a0_0, .int .i64 a0_1, .slice A0_2 l0_2.length c0_2, .slice A0_3 l0_3.length c0_3] 61 (0, 0)) (bk_ BK388) k_ hk, Kd.freshB (g := gb389) (o := .cells #[.slice Ao73 x390000_1.length co73, .slice Ao74 x390001_1.length co74] 28 (0, 0)) (bk_ BK389) k_ hk⟩)) (Below.refl _ _) (Nat.le_refl _) (by simp) ?_; (case hd => rfl); (case hg => rfl); (case hr => first | (go_simp; done) | (go_simp; rfl)); (case hp => exact (Reps.one (show Kd.FK (Kd.slice 2 (Kd.int .i64)) _ _ t398 [.slice Ao72 t398.length co72] from (Kd.FK_slice_mk (Kd.R_reads' (Kd.R_mono (ok' := (fun k_ => (w.heap.size ≤ k_) ∧ some k_ ≠ (.slice Ao73 x390000_1.length co73 : Value).ownBlock ∧ some k_ ≠ (.slice Ao74 x390001_1.length co74 : Value).ownBlock ∧ some k_ ≠ (.slice Ao70 t394.length co70 : Value).ownBlock ∧ some k_ ≠ (v416 : Value).ownBlock ∧ k_ ≠ gb384 ∧ k_ ≠ gb385 ∧ k_ ≠ gb386 ∧ k_ ≠ gb388 ∧ k_ ≠ gb389)) (Kd.R_types (Kd.R_types (Kd.R_types (Kd.R_types (Kd.R_types (Kd.R_apart' (Kd.R_apart' (Kd.R_apart' (HO401.out) (Kd.N_typed HO_390000.out) (by decide)) (Kd.N_typed HO_390001.out) (by decide)) (Kd.N_typed HO417.out) (by decide)) BK384.out (by decide)) BK385.out (by decide)) BK386.out (by decide)) BK388.out (by decide)) BK389.out (by decide)) (fun k_ hk => ⟨hk.1.1.1.1.1.1.1.1.1.1, ⟨hk.1.1.1.1.1.1.1.2, ⟨hk.1.1.1.1.1.1.2, ⟨hk.1.1.1.1.1.1.1.1.2, ⟨hk.1.1.1.1.1.2, ⟨hk.1.1.1.1.2, ⟨hk.1.1.1.2, ⟨hk.1.1.2, ⟨hk.1.2, hk.2⟩⟩⟩⟩⟩⟩⟩⟩⟩))).2.1 (Kd.R_F (Kd.R_mono (ok' := (fun k_ => (w.heap.size ≤ k_) ∧ some k_ ≠ (.slice Ao73 x390000_1.length co73 : Value).ownBlock ∧ some k_ ≠ (.slice Ao74 x390001_1.length co74 : Value).ownBlock ∧ some k_ ≠ (.slice Ao70 t394.length co70 : Value).ownBlock ∧ some k_ ≠ (v416 : Value).ownBlock ∧ k_ ≠ gb384 ∧ k_ ≠ gb385 ∧ k_ ≠ gb386 ∧ k_ ≠ gb388 ∧ k_ ≠ gb389)) (Kd.R_types (Kd.R_types (Kd.R_types (Kd.R_types (Kd.R_types (Kd.R_apart' (Kd.R_apart' (Kd.R_apart' (HO401.out) (Kd.N_typed HO_390000.out) (by decide)) (Kd.N_typed HO_390001.out) (by decide)) (Kd.N_typed HO417.out) (by decide)) BK384.out (by decide)) BK385.out (by decide)) BK386.out (by decide)) BK388.out (by decide)) BK389.out (by decide)) (fun k_ hk => ⟨hk.1.1.1.1.1.1.1.1.1.1, ⟨hk.1.1.1.1.1.1.1.2, ⟨hk.1.1.1.1.1.1.2, ⟨hk.1.1.1.1.1.1.1.1.2, ⟨hk.1.1.1.1.1.2, ⟨hk.1.1.1.1.2, ⟨hk.1.1.1.2, ⟨hk.1.1.2, ⟨hk.1.2, hk.2⟩⟩⟩⟩⟩⟩⟩⟩⟩))))) (Reps.none _ _)))
 intro v422 w78 ho79 hb hg_ hnew_
 clear hg_ hnew_
 (first | rw [← Ny421.out] at ho79 | (simp only [Int.reduceToNat] at ho79; rw [← Ny421.out] at ho79))
 replace HO_390000 := Aside0.mk (Kd.N_elder' (kN_ HO_390000) (Kd.N_base ho79) hb)
 replace HO_390001 := Aside0.mk (Kd.N_elder' (kN_ HO_390001) (Kd.N_base ho79) hb)
 replace HO397 := FR_ HO397 hb
 replace HO417 := Aside0.mk (Kd.N_elder' (kN_ HO417) (Kd.N_base ho79) hb)
 have HO423 := Aside0.mk (Kd.N_lower ho79 (bs_ HB))
 replace BK384 := FB_ BK384 hb
 replace BK385 := FB_ BK385 hb
 replace BK386 := FB_ BK386 hb
 replace BK388 := FB_ BK388 hb
 replace BK389 := FB_ BK389 hb
 replace HB := BS_ HB hb
 clear HO401
 clear hb ho79
 obtain ⟨Ao81, co81, eo81⟩ := Kd.N_slice HO417.out
 (first | subst eo81 | (injection eo81 with f1_ f2_ f3_; have f4_ := f1_.symm; have f5_ := f3_.symm; clear f1_ f2_ f3_; subst f4_; subst f5_))
 refine hK.out _ _ ⟨ce_ BK389 0, ce_ BK389 1⟩ (fun hHeld => ?_)
 clear hK K
 refine norm_ (a' := ?_) ?_ ?_
 rotate_left
 {
 show Act.put _ (some 53) _ = _
 exact sp_}
 refine one_ (i := 4) (N := some 49) (B_ 14 511) rfl rfl (one_of HT_.out kf_) (by decide) (fun K hK => ?_)
 refine Kd.N_append_rows_step (Kd.slice 3 (Kd.int .i64)) (w0 := w) w.heap.size (by rfl) (.tmp 46) (.tmp 48) 25 22 (.slice none 0 0) 24 rfl Try.underlying25 info22 rfl (by decide) (by omega) (.slice Ao73 x390000_1.length co73) x390000_1 y415 _ _ _ (fun k_ => (w.heap.size ≤ k_) ∧ some k_ ≠ (.slice Ao74 x390001_1.length co74 : Value).ownBlock ∧ some k_ ≠ (.slice Ao70 t394.length co70 : Value).ownBlock ∧ some k_ ≠ (v422 : Value).ownBlock ∧ k_ ≠ gb384 ∧ k_ ≠ gb385 ∧ k_ ≠ gb386 ∧ k_ ≠ gb388 ∧ k_ ≠ gb389) (fun k_ => ((fun k_ => (w.heap.size ≤ k_) ∧ some k_ ≠ (.slice Ao74 x390001_1.length co74 : Value).ownBlock ∧ some k_ ≠ (.slice Ao70 t394.length co70 : Value).ownBlock ∧ some k_ ≠ (v422 : Value).ownBlock ∧ k_ ≠ gb384 ∧ k_ ≠ gb385 ∧ k_ ≠ gb386 ∧ k_ ≠ gb388 ∧ k_ ≠ gb389)) k_ ∧ some k_ ≠ (.slice Ao73 x390000_1.length co73 : Value).ownBlock) rfl rfl ?aO ?aR (fun _ hk => hk) ?aF ?aB ?aS ?aL ?_
 (case aR => exact (by skip; exact Kd.N_F (Kd.N_mono (ok' := (fun k_ => ((fun k_ => (w.heap.size ≤ k_) ∧ some k_ ≠ (.slice Ao74 x390001_1.length co74 : Value).ownBlock ∧ some k_ ≠ (.slice Ao70 t394.length co70 : Value).ownBlock ∧ some k_ ≠ (v422 : Value).ownBlock ∧ k_ ≠ gb384 ∧ k_ ≠ gb385 ∧ k_ ≠ gb386 ∧ k_ ≠ gb388 ∧ k_ ≠ gb389)) k_ ∧ some k_ ≠ (.slice Ao73 x390000_1.length co73 : Value).ownBlock)) (HO417.out) (fun k_ hk => ⟨⟨hk.1.1, ⟨hk.1.2.2.1, ⟨hk.1.2.2.2.1, ⟨hk.2, ⟨hk.1.2.2.2.2.2.1, ⟨hk.1.2.2.2.2.2.2.1, ⟨hk.1.2.2.2.2.2.2.2.1, ⟨hk.1.2.2.2.2.2.2.2.2.1, hk.1.2.2.2.2.2.2.2.2.2⟩⟩⟩⟩⟩⟩⟩⟩, hk.1.2.1⟩))))
 (case aB => exact (bl_ HB))
 (case aF => exact (fun k_ hk => ⟨(Nat.le_trans (bs_ HB) hk), Kd.fresh' (Kd.N_lt (kN_ HO_390001)) k_ hk, Kd.fresh' (Kd.R_lt (kR_ HO397)) k_ hk, Kd.fresh' (Kd.N_lt (kN_ HO423)) k_ hk, Kd.freshB (g := gb384) (o := .cells #[.int .i64 a0_0, .int .i64 a0_1, .slice A0_2 l0_2.length c0_2, .slice A0_3 l0_3.length c0_3] 24 (0, 0)) (bk_ BK384) k_ hk, Kd.freshB (g := gb385) (o := .cells #[.slice (some ad390) l1_0.length c1_0] 37 (0, 0)) (bk_ BK385) k_ hk, Kd.freshB (g := gb386) (o := .cells #[.slice none 0 0, .slice none 0 0] 28 (0, 0)) (bk_ BK386) k_ hk, Kd.freshB (g := gb388) (o := .cells #[.int .i64 a0_0, .int .i64 a0_1, .slice A0_2 l0_2.length c0_2, .slice A0_3 l0_3.length c0_3] 61 (0, 0)) (bk_ BK388) k_ hk, Kd.freshB (g := gb389) (o := .cells #[.slice Ao73 x390000_1.length co73, .slice Ao74 x390001_1.length co74] 28 (0, 0)) (bk_ BK389) k_ hk⟩))
 (case aO => exact (by (with_reducible repeat (first | apply Kd.N_alloc | apply Kd.N_drewN | apply Kd.N_drew)); exact Kd.N_mono HO_390000.out (fun _ hk => ⟨hk.1.1.1.1.1.1, ⟨hk.1.1.1.1.1.2.1, ⟨hk.1.1.1.2, ⟨hk.2, ⟨hk.1.1.1.1.1.2.2.1, ⟨hk.1.1.1.1.1.2.2.2.1, ⟨hk.1.1.1.1.1.2.2.2.2.1, ⟨hk.1.1.1.1.1.2.2.2.2.2.1, hk.1.1.1.1.1.2.2.2.2.2.2⟩⟩⟩⟩⟩⟩⟩⟩)))
 (case aS => exact (bs_ HB))
 (case aL => have := LMc60.out; omega)
 intro v419 w80 ho hb hg hat
 rw [← Ny418.out] at ho
 replace HO_390001 := Aside0.mk (Kd.N_afterv (ok := (fun k_ => (w.heap.size ≤ k_) ∧ some k_ ≠ (.slice Ao70 t394.length co70 : Value).ownBlock ∧ some k_ ≠ (.slice Ao81 y415.length co81 : Value).ownBlock ∧ some k_ ≠ (v422 : Value).ownBlock ∧ k_ ≠ gb384 ∧ k_ ≠ gb385 ∧ k_ ≠ gb386 ∧ k_ ≠ gb388 ∧ k_ ≠ gb389)) (by (with_reducible repeat (first | apply Kd.N_alloc | apply Kd.N_drewN | apply Kd.N_drew)); exact Kd.N_mono HO_390001.out (fun _ hk => ⟨⟨hk.1.1.1.1.1.1, ⟨hk.1.1.1.2, ⟨hk.1.2, ⟨hk.2, ⟨hk.1.1.1.1.1.2.2.1, ⟨hk.1.1.1.1.1.2.2.2.1, ⟨hk.1.1.1.1.1.2.2.2.2.1, ⟨hk.1.1.1.1.1.2.2.2.2.2.1, hk.1.1.1.1.1.2.2.2.2.2.2⟩⟩⟩⟩⟩⟩⟩⟩, hk.1.1.1.1.1.2.1⟩)) hg hat)
 replace BK384 := (FG_ BK384 hg (Kd.N_ne HO_390000.out BK384.out (by decide)))
 replace BK385 := (FG_ BK385 hg (Kd.N_ne HO_390000.out BK385.out (by decide)))
 replace BK386 := (FG_ BK386 hg (Kd.N_ne HO_390000.out BK386.out (by decide)))
 replace BK388 := (FG_ BK388 hg (Kd.N_ne HO_390000.out BK388.out (by decide)))
 replace BK389 := (FG_ BK389 hg (Kd.N_ne HO_390000.out BK389.out (by decide)))
 replace HO397 := Aside0.mk (Kd.R_over' (kR_ HO397) (Kd.N_typed (kN_ HO_390000)) (by decide) hg)
 replace HO417 := Aside0.mk (Kd.N_afterv (ok := (fun k_ => (w.heap.size ≤ k_) ∧ some k_ ≠ (.slice Ao74 x390001_1.length co74 : Value).ownBlock ∧ some k_ ≠ (.slice Ao70 t394.length co70 : Value).ownBlock ∧ some k_ ≠ (v422 : Value).ownBlock ∧ k_ ≠ gb384 ∧ k_ ≠ gb385 ∧ k_ ≠ gb386 ∧ k_ ≠ gb388 ∧ k_ ≠ gb389)) (by (with_reducible repeat (first | apply Kd.N_alloc | apply Kd.N_drewN | apply Kd.N_drew)); exact Kd.N_mono HO417.out (fun _ hk => ⟨⟨hk.1.1, ⟨hk.1.2.2.1, ⟨hk.1.2.2.2.1, ⟨hk.2, ⟨hk.1.2.2.2.2.2.1, ⟨hk.1.2.2.2.2.2.2.1, ⟨hk.1.2.2.2.2.2.2.2.1, ⟨hk.1.2.2.2.2.2.2.2.2.1, hk.1.2.2.2.2.2.2.2.2.2⟩⟩⟩⟩⟩⟩⟩⟩, hk.1.2.1⟩)) hg hat)
 replace HO423 := Aside0.mk (Kd.N_afterv (ok := (fun k_ => (w.heap.size ≤ k_) ∧ some k_ ≠ (.slice Ao74 x390001_1.length co74 : Value).ownBlock ∧ some k_ ≠ (.slice Ao70 t394.length co70 : Value).ownBlock ∧ some k_ ≠ (.slice Ao81 y415.length co81 : Value).ownBlock ∧ k_ ≠ gb384 ∧ k_ ≠ gb385 ∧ k_ ≠ gb386 ∧ k_ ≠ gb388 ∧ k_ ≠ gb389)) (by (with_reducible repeat (first | apply Kd.N_alloc | apply Kd.N_drewN | apply Kd.N_drew)); exact Kd.N_mono HO423.out (fun _ hk => ⟨⟨hk.1, ⟨hk.2.2.1, ⟨hk.2.2.2.1, ⟨hk.2.2.2.2.1, ⟨hk.2.2.2.2.2.1, ⟨hk.2.2.2.2.2.2.1, ⟨hk.2.2.2.2.2.2.2.1, ⟨hk.2.2.2.2.2.2.2.2.1, hk.2.2.2.2.2.2.2.2.2⟩⟩⟩⟩⟩⟩⟩⟩, hk.2.1⟩)) hg hat)
 replace HB := Aside0.mk (hb)
 have HO420 := Aside0.mk (ho)
 clear HO_390000
 clear ho hb hg hat
 refine hK.out _ _ ⟨ce_ BK389 0, ce_ BK389 1⟩ (fun hHeld => ?_)
 clear hK K
 refine norm_ (a' := ?_) ?_ ?_
 rotate_left
 {
 show Act.put _ (some 49) _ = _
 exact sp_}
 refine pu_ 10 (some 55) (B_ 14 1535) HT_ ?_
 exact norm_ pa_ (hCont (.slice Ao81 y415.length co81, v419, v422) _ ⟨hHeld, (by (with_reducible repeat (first | apply Kd.R_alloc | apply Kd.R_drewN | apply Kd.R_drew)); exact Kd.R_mono HO397.out (fun _ hk => hk.1.1)), (by (with_reducible repeat (first | apply Kd.N_alloc | apply Kd.N_drewN | apply Kd.N_drew)); exact Kd.N_mono HO417.out (fun _ hk => ⟨hk.1.1, ⟨hk.1.2.2.1, ⟨hk.2, ⟨hk.1.2.2.2.1, ⟨hk.1.2.1, ⟨hk.1.2.2.2.2.1, ⟨hk.1.2.2.2.2.2.1, ⟨hk.1.2.2.2.2.2.2.1, ⟨hk.1.2.2.2.2.2.2.2.1, hk.1.2.2.2.2.2.2.2.2⟩⟩⟩⟩⟩⟩⟩⟩⟩)), (by (with_reducible repeat (first | apply Kd.N_alloc | apply Kd.N_drewN | apply Kd.N_drew)); exact Kd.N_mono HO420.out (fun _ hk => ⟨hk.1, ⟨hk.2.2.1, ⟨hk.2.2.2.1, ⟨hk.2.1, ⟨hk.2.2.2.2.1, ⟨hk.2.2.2.2.2.1, ⟨hk.2.2.2.2.2.2.1, ⟨hk.2.2.2.2.2.2.2.1, hk.2.2.2.2.2.2.2.2⟩⟩⟩⟩⟩⟩⟩⟩)), (by (with_reducible repeat (first | apply Kd.N_alloc | apply Kd.N_drewN | apply Kd.N_drew)); exact Kd.N_mono HO423.out (fun _ hk => ⟨hk.1.1, ⟨hk.1.2.2.1, ⟨hk.1.2.2.2.1, ⟨hk.2, ⟨hk.1.2.1, ⟨hk.1.2.2.2.2.1, ⟨hk.1.2.2.2.2.2.1, ⟨hk.1.2.2.2.2.2.2.1, ⟨hk.1.2.2.2.2.2.2.2.1, hk.1.2.2.2.2.2.2.2.2⟩⟩⟩⟩⟩⟩⟩⟩⟩)), (by (with_reducible repeat (first | apply Kd.N_alloc | apply Kd.N_drewN | apply Kd.N_drew)); exact Kd.N_mono HO_390001.out (fun _ hk => ⟨hk.1.1, ⟨hk.1.2.1, ⟨hk.1.2.2.1, ⟨hk.2, ⟨hk.1.2.2.2.1, ⟨hk.1.2.2.2.2.1, ⟨hk.1.2.2.2.2.2.1, ⟨hk.1.2.2.2.2.2.2.1, ⟨hk.1.2.2.2.2.2.2.2.1, hk.1.2.2.2.2.2.2.2.2⟩⟩⟩⟩⟩⟩⟩⟩⟩)), (bk_ BK384), (bk_ BK385), (bk_ BK386), (bk_ BK388), (bk_ BK389), (bl_ HB)⟩)}}
 {
 skip
 refine Kd.N_lit_step (Kd.slice 2 (Kd.int .i64)) _ 53 ?hg (N' := 53) ?hd (xs := ([t398] : List (List Int))) (inner := [.slice Ao72 t398.length co72]) (ok := (fun k_ => (w.heap.size ≤ k_) ∧ some k_ ≠ (.slice Ao73 x390000_1.length co73 : Value).ownBlock ∧ some k_ ≠ (.slice Ao74 x390001_1.length co74 : Value).ownBlock ∧ some k_ ≠ (.slice Ao68 t391.length co68 : Value).ownBlock ∧ some k_ ≠ (.slice Ao70 t394.length co70 : Value).ownBlock ∧ k_ ≠ gb384 ∧ k_ ≠ gb385 ∧ k_ ≠ gb386 ∧ k_ ≠ gb388 ∧ k_ ≠ gb389)) (okp := (fun k_ => (w.heap.size ≤ k_) ∧ some k_ ≠ (.slice Ao73 x390000_1.length co73 : Value).ownBlock ∧ some k_ ≠ (.slice Ao74 x390001_1.length co74 : Value).ownBlock ∧ some k_ ≠ (.slice Ao68 t391.length co68 : Value).ownBlock ∧ some k_ ≠ (.slice Ao70 t394.length co70 : Value).ownBlock ∧ k_ ≠ gb384 ∧ k_ ≠ gb385 ∧ k_ ≠ gb386 ∧ k_ ≠ gb388 ∧ k_ ≠ gb389)) ?hr ?hp (fun _ hk => hk) (fr_ (P := (fun k_ => (w.heap.size ≤ k_) ∧ some k_ ≠ (.slice Ao73 x390000_1.length co73 : Value).ownBlock ∧ some k_ ≠ (.slice Ao74 x390001_1.length co74 : Value).ownBlock ∧ some k_ ≠ (.slice Ao68 t391.length co68 : Value).ownBlock ∧ some k_ ≠ (.slice Ao70 t394.length co70 : Value).ownBlock ∧ k_ ≠ gb384 ∧ k_ ≠ gb385 ∧ k_ ≠ gb386 ∧ k_ ≠ gb388 ∧ k_ ≠ gb389)) (fun k_ hk => ⟨(Nat.le_trans (bs_ HB) hk), Kd.fresh' (Kd.N_lt (kN_ HO_390000)) k_ hk, Kd.fresh' (Kd.N_lt (kN_ HO_390001)) k_ hk, Kd.fresh' (Kd.R_lt (kR_ HO393)) k_ hk, Kd.fresh' (Kd.R_lt (kR_ HO397)) k_ hk, Kd.freshB (g := gb384) (o := .cells #[.int .i64 a0_0, .int .i64 a0_1, .slice A0_2 l0_2.length c0_2, .slice A0_3 l0_3.length c0_3] 24 (0, 0)) (bk_ BK384) k_ hk, Kd.freshB (g := gb385) (o := .cells #[.slice (some ad390) l1_0.length c1_0] 37 (0, 0)) (bk_ BK385) k_ hk, Kd.freshB (g := gb386) (o := .cells #[.slice none 0 0, .slice none 0 0] 28 (0, 0)) (bk_ BK386) k_ hk, Kd.freshB (g := gb388) (o := .cells #[.int .i64 a0_0, .int .i64 a0_1, .slice A0_2 l0_2.length c0_2, .slice A0_3 l0_3.length c0_3] 61 (0, 0)) (bk_ BK388) k_ hk, Kd.freshB (g := gb389) (o := .cells #[.slice Ao73 x390000_1.length co73, .slice Ao74 x390001_1.length co74] 28 (0, 0)) (bk_ BK389) k_ hk⟩)) (Below.refl _ _) (Nat.le_refl _) (by simp) ?_; (case hd => rfl); (case hg => rfl); (case hr => first | (go_simp; done) | (go_simp; rfl)); (case hp => exact (Reps.one (show Kd.FK (Kd.slice 2 (Kd.int .i64)) _ _ t398 [.slice Ao72 t398.length co72] from (Kd.FK_slice_mk (Kd.R_reads' (Kd.R_mono (ok' := (fun k_ => (w.heap.size ≤ k_) ∧ some k_ ≠ (.slice Ao73 x390000_1.length co73 : Value).ownBlock ∧ some k_ ≠ (.slice Ao74 x390001_1.length co74 : Value).ownBlock ∧ some k_ ≠ (.slice Ao68 t391.length co68 : Value).ownBlock ∧ some k_ ≠ (.slice Ao70 t394.length co70 : Value).ownBlock ∧ k_ ≠ gb384 ∧ k_ ≠ gb385 ∧ k_ ≠ gb386 ∧ k_ ≠ gb388 ∧ k_ ≠ gb389)) (Kd.R_types (Kd.R_types (Kd.R_types (Kd.R_types (Kd.R_types (Kd.R_apart' (Kd.R_apart' (Kd.R_apart' (HO401.out) (Kd.N_typed HO_390000.out) (by decide)) (Kd.N_typed HO_390001.out) (by decide)) (Kd.R_typed HO393.out) (by decide)) BK384.out (by decide)) BK385.out (by decide)) BK386.out (by decide)) BK388.out (by decide)) BK389.out (by decide)) (fun k_ hk => ⟨hk.1.1.1.1.1.1.1.1.1.1, ⟨hk.1.1.1.1.1.1.1.2, ⟨hk.1.1.1.1.1.1.2, ⟨hk.1.1.1.1.1.2, ⟨hk.1.1.1.1.1.1.1.1.2, ⟨hk.1.1.1.1.2, ⟨hk.1.1.1.2, ⟨hk.1.1.2, ⟨hk.1.2, hk.2⟩⟩⟩⟩⟩⟩⟩⟩⟩))).2.1 (Kd.R_F (Kd.R_mono (ok' := (fun k_ => (w.heap.size ≤ k_) ∧ some k_ ≠ (.slice Ao73 x390000_1.length co73 : Value).ownBlock ∧ some k_ ≠ (.slice Ao74 x390001_1.length co74 : Value).ownBlock ∧ some k_ ≠ (.slice Ao68 t391.length co68 : Value).ownBlock ∧ some k_ ≠ (.slice Ao70 t394.length co70 : Value).ownBlock ∧ k_ ≠ gb384 ∧ k_ ≠ gb385 ∧ k_ ≠ gb386 ∧ k_ ≠ gb388 ∧ k_ ≠ gb389)) (Kd.R_types (Kd.R_types (Kd.R_types (Kd.R_types (Kd.R_types (Kd.R_apart' (Kd.R_apart' (Kd.R_apart' (HO401.out) (Kd.N_typed HO_390000.out) (by decide)) (Kd.N_typed HO_390001.out) (by decide)) (Kd.R_typed HO393.out) (by decide)) BK384.out (by decide)) BK385.out (by decide)) BK386.out (by decide)) BK388.out (by decide)) BK389.out (by decide)) (fun k_ hk => ⟨hk.1.1.1.1.1.1.1.1.1.1, ⟨hk.1.1.1.1.1.1.1.2, ⟨hk.1.1.1.1.1.1.2, ⟨hk.1.1.1.1.1.2, ⟨hk.1.1.1.1.1.1.1.1.2, ⟨hk.1.1.1.1.2, ⟨hk.1.1.1.2, ⟨hk.1.1.2, ⟨hk.1.2, hk.2⟩⟩⟩⟩⟩⟩⟩⟩⟩))))) (Reps.none _ _)))
 intro v422 w76 ho77 hb hg_ hnew_
 clear hg_ hnew_
 (first | rw [← Ny421.out] at ho77 | (simp only [Int.reduceToNat] at ho77; rw [← Ny421.out] at ho77))
 replace HO_390000 := Aside0.mk (Kd.N_elder' (kN_ HO_390000) (Kd.N_base ho77) hb)
 replace HO_390001 := Aside0.mk (Kd.N_elder' (kN_ HO_390001) (Kd.N_base ho77) hb)
 replace HO393 := FR_ HO393 hb
 replace HO397 := FR_ HO397 hb
 have HO423 := Aside0.mk (Kd.N_lower ho77 (bs_ HB))
 replace BK384 := FB_ BK384 hb
 replace BK385 := FB_ BK385 hb
 replace BK386 := FB_ BK386 hb
 replace BK388 := FB_ BK388 hb
 replace BK389 := FB_ BK389 hb
 replace HB := BS_ HB hb
 clear HO401
 clear hb ho77
 refine hK.out _ _ ⟨ce_ BK389 0, ce_ BK389 1⟩ (fun hHeld => ?_)
 clear hK K
 refine norm_ (a' := ?_) ?_ ?_
 rotate_left
 {
 show Act.put _ (some 53) _ = _
 exact sp_}
 refine one_ (i := 3) (N := some 48) (B_ 14 495) rfl rfl (one_of HT_.out kf_) (by decide) (fun K hK => ?_)
 refine Kd.N_lit_step (Kd.slice 3 (Kd.int .i64)) _ 22 ?hg (N' := 48) ?hd (xs := ([t391] : List (List Int))) (inner := [.slice Ao68 t391.length co68]) (ok := (fun k_ => (w.heap.size ≤ k_) ∧ some k_ ≠ (.slice Ao73 x390000_1.length co73 : Value).ownBlock ∧ some k_ ≠ (.slice Ao74 x390001_1.length co74 : Value).ownBlock ∧ some k_ ≠ (.slice Ao70 t394.length co70 : Value).ownBlock ∧ some k_ ≠ (v422 : Value).ownBlock ∧ k_ ≠ gb384 ∧ k_ ≠ gb385 ∧ k_ ≠ gb386 ∧ k_ ≠ gb388 ∧ k_ ≠ gb389)) (okp := (fun k_ => (w.heap.size ≤ k_) ∧ some k_ ≠ (.slice Ao73 x390000_1.length co73 : Value).ownBlock ∧ some k_ ≠ (.slice Ao74 x390001_1.length co74 : Value).ownBlock ∧ some k_ ≠ (.slice Ao70 t394.length co70 : Value).ownBlock ∧ some k_ ≠ (v422 : Value).ownBlock ∧ k_ ≠ gb384 ∧ k_ ≠ gb385 ∧ k_ ≠ gb386 ∧ k_ ≠ gb388 ∧ k_ ≠ gb389)) ?hr ?hp (fun _ hk => hk) (fr_ (P := (fun k_ => (w.heap.size ≤ k_) ∧ some k_ ≠ (.slice Ao73 x390000_1.length co73 : Value).ownBlock ∧ some k_ ≠ (.slice Ao74 x390001_1.length co74 : Value).ownBlock ∧ some k_ ≠ (.slice Ao70 t394.length co70 : Value).ownBlock ∧ some k_ ≠ (v422 : Value).ownBlock ∧ k_ ≠ gb384 ∧ k_ ≠ gb385 ∧ k_ ≠ gb386 ∧ k_ ≠ gb388 ∧ k_ ≠ gb389)) (fun k_ hk => ⟨(Nat.le_trans (bs_ HB) hk), Kd.fresh' (Kd.N_lt (kN_ HO_390000)) k_ hk, Kd.fresh' (Kd.N_lt (kN_ HO_390001)) k_ hk, Kd.fresh' (Kd.R_lt (kR_ HO397)) k_ hk, Kd.fresh' (Kd.N_lt (kN_ HO423)) k_ hk, Kd.freshB (g := gb384) (o := .cells #[.int .i64 a0_0, .int .i64 a0_1, .slice A0_2 l0_2.length c0_2, .slice A0_3 l0_3.length c0_3] 24 (0, 0)) (bk_ BK384) k_ hk, Kd.freshB (g := gb385) (o := .cells #[.slice (some ad390) l1_0.length c1_0] 37 (0, 0)) (bk_ BK385) k_ hk, Kd.freshB (g := gb386) (o := .cells #[.slice none 0 0, .slice none 0 0] 28 (0, 0)) (bk_ BK386) k_ hk, Kd.freshB (g := gb388) (o := .cells #[.int .i64 a0_0, .int .i64 a0_1, .slice A0_2 l0_2.length c0_2, .slice A0_3 l0_3.length c0_3] 61 (0, 0)) (bk_ BK388) k_ hk, Kd.freshB (g := gb389) (o := .cells #[.slice Ao73 x390000_1.length co73, .slice Ao74 x390001_1.length co74] 28 (0, 0)) (bk_ BK389) k_ hk⟩)) (Below.refl _ _) (Nat.le_refl _) (by simp) ?_; (case hd => rfl); (case hg => rfl); (case hr => first | (go_simp; done) | (go_simp; rfl)); (case hp => exact (Reps.one (show Kd.FK (Kd.slice 3 (Kd.int .i64)) _ _ t391 [.slice Ao68 t391.length co68] from (Kd.FK_slice_mk (Kd.R_reads' (Kd.R_mono (ok' := (fun k_ => (w.heap.size ≤ k_) ∧ some k_ ≠ (.slice Ao73 x390000_1.length co73 : Value).ownBlock ∧ some k_ ≠ (.slice Ao74 x390001_1.length co74 : Value).ownBlock ∧ some k_ ≠ (.slice Ao70 t394.length co70 : Value).ownBlock ∧ some k_ ≠ (v422 : Value).ownBlock ∧ k_ ≠ gb384 ∧ k_ ≠ gb385 ∧ k_ ≠ gb386 ∧ k_ ≠ gb388 ∧ k_ ≠ gb389)) (Kd.R_types (Kd.R_types (Kd.R_types (Kd.R_types (Kd.R_types (Kd.R_apart' (Kd.R_apart' (Kd.R_apart' (Kd.R_apart' (HO393.out) (Kd.N_typed HO_390000.out) (by decide)) (Kd.N_typed HO_390001.out) (by decide)) (Kd.R_typed HO397.out) (by decide)) (Kd.N_typed HO423.out) (by decide)) BK384.out (by decide)) BK385.out (by decide)) BK386.out (by decide)) BK388.out (by decide)) BK389.out (by decide)) (fun k_ hk => ⟨hk.1.1.1.1.1.1.1.1.1.1, ⟨hk.1.1.1.1.1.1.1.1.2, ⟨hk.1.1.1.1.1.1.1.2, ⟨hk.1.1.1.1.1.1.2, ⟨hk.1.1.1.1.1.2, ⟨hk.1.1.1.1.2, ⟨hk.1.1.1.2, ⟨hk.1.1.2, ⟨hk.1.2, hk.2⟩⟩⟩⟩⟩⟩⟩⟩⟩))).2.1 (Kd.R_F (Kd.R_mono (ok' := (fun k_ => (w.heap.size ≤ k_) ∧ some k_ ≠ (.slice Ao73 x390000_1.length co73 : Value).ownBlock ∧ some k_ ≠ (.slice Ao74 x390001_1.length co74 : Value).ownBlock ∧ some k_ ≠ (.slice Ao70 t394.length co70 : Value).ownBlock ∧ some k_ ≠ (v422 : Value).ownBlock ∧ k_ ≠ gb384 ∧ k_ ≠ gb385 ∧ k_ ≠ gb386 ∧ k_ ≠ gb388 ∧ k_ ≠ gb389)) (Kd.R_types (Kd.R_types (Kd.R_types (Kd.R_types (Kd.R_types (Kd.R_apart' (Kd.R_apart' (Kd.R_apart' (Kd.R_apart' (HO393.out) (Kd.N_typed HO_390000.out) (by decide)) (Kd.N_typed HO_390001.out) (by decide)) (Kd.R_typed HO397.out) (by decide)) (Kd.N_typed HO423.out) (by decide)) BK384.out (by decide)) BK385.out (by decide)) BK386.out (by decide)) BK388.out (by decide)) BK389.out (by decide)) (fun k_ hk => ⟨hk.1.1.1.1.1.1.1.1.1.1, ⟨hk.1.1.1.1.1.1.1.1.2, ⟨hk.1.1.1.1.1.1.1.2, ⟨hk.1.1.1.1.1.1.2, ⟨hk.1.1.1.1.1.2, ⟨hk.1.1.1.1.2, ⟨hk.1.1.1.2, ⟨hk.1.1.2, ⟨hk.1.2, hk.2⟩⟩⟩⟩⟩⟩⟩⟩⟩))))) (Reps.none _ _)))
 intro v416 w78 ho79 hb hg_ hnew_
 clear hg_ hnew_
 (first | rw [← Ny415.out] at ho79 | (simp only [Int.reduceToNat] at ho79; rw [← Ny415.out] at ho79))
 replace HO_390000 := Aside0.mk (Kd.N_elder' (kN_ HO_390000) (Kd.N_base ho79) hb)
 replace HO_390001 := Aside0.mk (Kd.N_elder' (kN_ HO_390001) (Kd.N_base ho79) hb)
 replace HO397 := FR_ HO397 hb
 replace HO423 := Aside0.mk (Kd.N_elder' (kN_ HO423) (Kd.N_base ho79) hb)
 have HO417 := Aside0.mk (Kd.N_lower ho79 (bs_ HB))
 replace BK384 := FB_ BK384 hb
 replace BK385 := FB_ BK385 hb
 replace BK386 := FB_ BK386 hb
 replace BK388 := FB_ BK388 hb
 replace BK389 := FB_ BK389 hb
 replace HB := BS_ HB hb
 clear HO393
 clear hb ho79
 obtain ⟨Ao81, co81, eo81⟩ := Kd.N_slice HO417.out
 (first | subst eo81 | (injection eo81 with f1_ f2_ f3_; have f4_ := f1_.symm; have f5_ := f3_.symm; clear f1_ f2_ f3_; subst f4_; subst f5_))
 refine hK.out _ _ ⟨ce_ BK389 0, ce_ BK389 1⟩ (fun hHeld => ?_)
 clear hK K
 refine norm_ (a' := ?_) ?_ ?_
 rotate_left
 {
 show Act.put _ (some 48) _ = _
 exact sp_}
 refine one_ (i := 4) (N := some 49) (B_ 14 511) rfl rfl (one_of HT_.out kf_) (by decide) (fun K hK => ?_)
 refine Kd.N_append_rows_step (Kd.slice 3 (Kd.int .i64)) (w0 := w) w.heap.size (by rfl) (.tmp 46) (.tmp 48) 25 22 (.slice none 0 0) 24 rfl Try.underlying25 info22 rfl (by decide) (by omega) (.slice Ao73 x390000_1.length co73) x390000_1 y415 _ _ _ (fun k_ => (w.heap.size ≤ k_) ∧ some k_ ≠ (.slice Ao74 x390001_1.length co74 : Value).ownBlock ∧ some k_ ≠ (.slice Ao70 t394.length co70 : Value).ownBlock ∧ some k_ ≠ (v422 : Value).ownBlock ∧ k_ ≠ gb384 ∧ k_ ≠ gb385 ∧ k_ ≠ gb386 ∧ k_ ≠ gb388 ∧ k_ ≠ gb389) (fun k_ => ((fun k_ => (w.heap.size ≤ k_) ∧ some k_ ≠ (.slice Ao74 x390001_1.length co74 : Value).ownBlock ∧ some k_ ≠ (.slice Ao70 t394.length co70 : Value).ownBlock ∧ some k_ ≠ (v422 : Value).ownBlock ∧ k_ ≠ gb384 ∧ k_ ≠ gb385 ∧ k_ ≠ gb386 ∧ k_ ≠ gb388 ∧ k_ ≠ gb389)) k_ ∧ some k_ ≠ (.slice Ao73 x390000_1.length co73 : Value).ownBlock) rfl rfl ?aO ?aR (fun _ hk => hk) ?aF ?aB ?aS ?aL ?_
 (case aR => exact (by skip; exact Kd.N_F (Kd.N_mono (ok' := (fun k_ => ((fun k_ => (w.heap.size ≤ k_) ∧ some k_ ≠ (.slice Ao74 x390001_1.length co74 : Value).ownBlock ∧ some k_ ≠ (.slice Ao70 t394.length co70 : Value).ownBlock ∧ some k_ ≠ (v422 : Value).ownBlock ∧ k_ ≠ gb384 ∧ k_ ≠ gb385 ∧ k_ ≠ gb386 ∧ k_ ≠ gb388 ∧ k_ ≠ gb389)) k_ ∧ some k_ ≠ (.slice Ao73 x390000_1.length co73 : Value).ownBlock)) (HO417.out) (fun k_ hk => ⟨⟨hk.1, ⟨hk.2.2.1, ⟨hk.2.2.2.1, ⟨hk.2.2.2.2.1, ⟨hk.2.2.2.2.2.1, ⟨hk.2.2.2.2.2.2.1, ⟨hk.2.2.2.2.2.2.2.1, ⟨hk.2.2.2.2.2.2.2.2.1, hk.2.2.2.2.2.2.2.2.2⟩⟩⟩⟩⟩⟩⟩⟩, hk.2.1⟩))))
 (case aB => exact (bl_ HB))
 (case aF => exact (fun k_ hk => ⟨(Nat.le_trans (bs_ HB) hk), Kd.fresh' (Kd.N_lt (kN_ HO_390001)) k_ hk, Kd.fresh' (Kd.R_lt (kR_ HO397)) k_ hk, Kd.fresh' (Kd.N_lt (kN_ HO423)) k_ hk, Kd.freshB (g := gb384) (o := .cells #[.int .i64 a0_0, .int .i64 a0_1, .slice A0_2 l0_2.length c0_2, .slice A0_3 l0_3.length c0_3] 24 (0, 0)) (bk_ BK384) k_ hk, Kd.freshB (g := gb385) (o := .cells #[.slice (some ad390) l1_0.length c1_0] 37 (0, 0)) (bk_ BK385) k_ hk, Kd.freshB (g := gb386) (o := .cells #[.slice none 0 0, .slice none 0 0] 28 (0, 0)) (bk_ BK386) k_ hk, Kd.freshB (g := gb388) (o := .cells #[.int .i64 a0_0, .int .i64 a0_1, .slice A0_2 l0_2.length c0_2, .slice A0_3 l0_3.length c0_3] 61 (0, 0)) (bk_ BK388) k_ hk, Kd.freshB (g := gb389) (o := .cells #[.slice Ao73 x390000_1.length co73, .slice Ao74 x390001_1.length co74] 28 (0, 0)) (bk_ BK389) k_ hk⟩))
 (case aO => exact (by (with_reducible repeat (first | apply Kd.N_alloc | apply Kd.N_drewN | apply Kd.N_drew)); exact Kd.N_mono HO_390000.out (fun _ hk => ⟨hk.1.1.1.1.1.1, ⟨hk.1.1.1.1.1.2.1, ⟨hk.1.1.1.2, ⟨hk.1.2, ⟨hk.1.1.1.1.1.2.2.1, ⟨hk.1.1.1.1.1.2.2.2.1, ⟨hk.1.1.1.1.1.2.2.2.2.1, ⟨hk.1.1.1.1.1.2.2.2.2.2.1, hk.1.1.1.1.1.2.2.2.2.2.2⟩⟩⟩⟩⟩⟩⟩⟩)))
 (case aS => exact (bs_ HB))
 (case aL => have := LMc60.out; omega)
 intro v419 w80 ho hb hg hat
 rw [← Ny418.out] at ho
 replace HO_390001 := Aside0.mk (Kd.N_afterv (ok := (fun k_ => (w.heap.size ≤ k_) ∧ some k_ ≠ (.slice Ao70 t394.length co70 : Value).ownBlock ∧ some k_ ≠ (v422 : Value).ownBlock ∧ some k_ ≠ (.slice Ao81 y415.length co81 : Value).ownBlock ∧ k_ ≠ gb384 ∧ k_ ≠ gb385 ∧ k_ ≠ gb386 ∧ k_ ≠ gb388 ∧ k_ ≠ gb389)) (by (with_reducible repeat (first | apply Kd.N_alloc | apply Kd.N_drewN | apply Kd.N_drew)); exact Kd.N_mono HO_390001.out (fun _ hk => ⟨⟨hk.1.1.1.1.1.1, ⟨hk.1.1.1.2, ⟨hk.1.2, ⟨hk.2, ⟨hk.1.1.1.1.1.2.2.1, ⟨hk.1.1.1.1.1.2.2.2.1, ⟨hk.1.1.1.1.1.2.2.2.2.1, ⟨hk.1.1.1.1.1.2.2.2.2.2.1, hk.1.1.1.1.1.2.2.2.2.2.2⟩⟩⟩⟩⟩⟩⟩⟩, hk.1.1.1.1.1.2.1⟩)) hg hat)
 replace BK384 := (FG_ BK384 hg (Kd.N_ne HO_390000.out BK384.out (by decide)))
 replace BK385 := (FG_ BK385 hg (Kd.N_ne HO_390000.out BK385.out (by decide)))
 replace BK386 := (FG_ BK386 hg (Kd.N_ne HO_390000.out BK386.out (by decide)))
 replace BK388 := (FG_ BK388 hg (Kd.N_ne HO_390000.out BK388.out (by decide)))
 replace BK389 := (FG_ BK389 hg (Kd.N_ne HO_390000.out BK389.out (by decide)))
 replace HO397 := Aside0.mk (Kd.R_over' (kR_ HO397) (Kd.N_typed (kN_ HO_390000)) (by decide) hg)
 replace HO423 := Aside0.mk (Kd.N_afterv (ok := (fun k_ => (w.heap.size ≤ k_) ∧ some k_ ≠ (.slice Ao74 x390001_1.length co74 : Value).ownBlock ∧ some k_ ≠ (.slice Ao70 t394.length co70 : Value).ownBlock ∧ some k_ ≠ (.slice Ao81 y415.length co81 : Value).ownBlock ∧ k_ ≠ gb384 ∧ k_ ≠ gb385 ∧ k_ ≠ gb386 ∧ k_ ≠ gb388 ∧ k_ ≠ gb389)) (by (with_reducible repeat (first | apply Kd.N_alloc | apply Kd.N_drewN | apply Kd.N_drew)); exact Kd.N_mono HO423.out (fun _ hk => ⟨⟨hk.1.1, ⟨hk.1.2.2.1, ⟨hk.1.2.2.2.2.1, ⟨hk.2, ⟨hk.1.2.2.2.2.2.1, ⟨hk.1.2.2.2.2.2.2.1, ⟨hk.1.2.2.2.2.2.2.2.1, ⟨hk.1.2.2.2.2.2.2.2.2.1, hk.1.2.2.2.2.2.2.2.2.2⟩⟩⟩⟩⟩⟩⟩⟩, hk.1.2.1⟩)) hg hat)
 replace HO417 := Aside0.mk (Kd.N_afterv (ok := (fun k_ => (w.heap.size ≤ k_) ∧ some k_ ≠ (.slice Ao74 x390001_1.length co74 : Value).ownBlock ∧ some k_ ≠ (.slice Ao70 t394.length co70 : Value).ownBlock ∧ some k_ ≠ (v422 : Value).ownBlock ∧ k_ ≠ gb384 ∧ k_ ≠ gb385 ∧ k_ ≠ gb386 ∧ k_ ≠ gb388 ∧ k_ ≠ gb389)) (by (with_reducible repeat (first | apply Kd.N_alloc | apply Kd.N_drewN | apply Kd.N_drew)); exact Kd.N_mono HO417.out (fun _ hk => ⟨⟨hk.1, ⟨hk.2.2.1, ⟨hk.2.2.2.1, ⟨hk.2.2.2.2.1, ⟨hk.2.2.2.2.2.1, ⟨hk.2.2.2.2.2.2.1, ⟨hk.2.2.2.2.2.2.2.1, ⟨hk.2.2.2.2.2.2.2.2.1, hk.2.2.2.2.2.2.2.2.2⟩⟩⟩⟩⟩⟩⟩⟩, hk.2.1⟩)) hg hat)
 replace HB := Aside0.mk (hb)
 have HO420 := Aside0.mk (ho)
 clear HO_390000
 clear ho hb hg hat
 refine hK.out _ _ ⟨ce_ BK389 0, ce_ BK389 1⟩ (fun hHeld => ?_)
 clear hK K
 refine norm_ (a' := ?_) ?_ ?_
 rotate_left
 {
 show Act.put _ (some 49) _ = _
 exact sp_}
 refine pu_ 10 (some 55) (B_ 14 1535) HT_ ?_
 exact norm_ pa_ (hCont (.slice Ao81 y415.length co81, v419, v422) _ ⟨hHeld, (by (with_reducible repeat (first | apply Kd.R_alloc | apply Kd.R_drewN | apply Kd.R_drew)); exact Kd.R_mono HO397.out (fun _ hk => hk.1.1)), (by (with_reducible repeat (first | apply Kd.N_alloc | apply Kd.N_drewN | apply Kd.N_drew)); exact Kd.N_mono HO417.out (fun _ hk => ⟨hk.1.1, ⟨hk.1.2.2.1, ⟨hk.2, ⟨hk.1.2.2.2.1, ⟨hk.1.2.1, ⟨hk.1.2.2.2.2.1, ⟨hk.1.2.2.2.2.2.1, ⟨hk.1.2.2.2.2.2.2.1, ⟨hk.1.2.2.2.2.2.2.2.1, hk.1.2.2.2.2.2.2.2.2⟩⟩⟩⟩⟩⟩⟩⟩⟩)), (by (with_reducible repeat (first | apply Kd.N_alloc | apply Kd.N_drewN | apply Kd.N_drew)); exact Kd.N_mono HO420.out (fun _ hk => ⟨hk.1, ⟨hk.2.2.1, ⟨hk.2.2.2.1, ⟨hk.2.1, ⟨hk.2.2.2.2.1, ⟨hk.2.2.2.2.2.1, ⟨hk.2.2.2.2.2.2.1, ⟨hk.2.2.2.2.2.2.2.1, hk.2.2.2.2.2.2.2.2⟩⟩⟩⟩⟩⟩⟩⟩)), (by (with_reducible repeat (first | apply Kd.N_alloc | apply Kd.N_drewN | apply Kd.N_drew)); exact Kd.N_mono HO423.out (fun _ hk => ⟨hk.1.1, ⟨hk.1.2.2.1, ⟨hk.1.2.2.2.1, ⟨hk.2, ⟨hk.1.2.1, ⟨hk.1.2.2.2.2.1, ⟨hk.1.2.2.2.2.2.1, ⟨hk.1.2.2.2.2.2.2.1, ⟨hk.1.2.2.2.2.2.2.2.1, hk.1.2.2.2.2.2.2.2.2⟩⟩⟩⟩⟩⟩⟩⟩⟩)), (by (with_reducible repeat (first | apply Kd.N_alloc | apply Kd.N_drewN | apply Kd.N_drew)); exact Kd.N_mono HO_390001.out (fun _ hk => ⟨hk.1.1, ⟨hk.1.2.1, ⟨hk.1.2.2.2.1, ⟨hk.2, ⟨hk.1.2.2.1, ⟨hk.1.2.2.2.2.1, ⟨hk.1.2.2.2.2.2.1, ⟨hk.1.2.2.2.2.2.2.1, ⟨hk.1.2.2.2.2.2.2.2.1, hk.1.2.2.2.2.2.2.2.2⟩⟩⟩⟩⟩⟩⟩⟩⟩)), (bk_ BK384), (bk_ BK385), (bk_ BK386), (bk_ BK388), (bk_ BK389), (bl_ HB)⟩)}}
 clear HO_390000 HO_390001 HO393 HO397 HO401 BK384 BK385 BK386 BK388 BK389 HB
 rintro ⟨v416, v419, v422⟩ w82 ⟨hS_, h0_, h1_, h2_, h3_, h4_, h5_, h6_, h7_, h8_, h9_, h10_⟩
 (try dsimp only at h0_ h1_ h2_ h3_ h4_ h5_ h6_ h7_ h8_ h9_ h10_)
 have HO397 := Aside0.mk h0_
 have HO417 := Aside0.mk h1_
 have HO420 := Aside0.mk h2_
 have HO423 := Aside0.mk h3_
 have HO_390001 := Aside0.mk h4_
 have BK384 := Aside0.mk h5_
 have BK385 := Aside0.mk h6_
 have BK386 := Aside0.mk h7_
 have BK388 := Aside0.mk h8_
 have BK389 := Aside0.mk h9_
 have HB := Aside0.mk h10_
 clear h0_ h1_ h2_ h3_ h4_ h5_ h6_ h7_ h8_ h9_ h10_
 have hHeld : w82.cell? ⟨gb389, 0, none⟩ = some (.slice Ao73 x390000_1.length co73) ∧ w82.cell? ⟨gb389, 1, none⟩ = some (.slice Ao74 x390001_1.length co74) := hS_
 obtain ⟨Ao84, co84, eo84⟩ := Kd.N_slice HO423.out
 (first | subst eo84 | (injection eo84 with f1_ f2_ f3_; have f4_ := f1_.symm; have f5_ := f3_.symm; clear f1_ f2_ f3_; subst f4_; subst f5_))
 refine norm_ (a' := ?_) ?_ ?_
 rotate_left
 {
 simp only [putAll, Act.put, List.setIfInBounds_toArray, List.set_cons_zero, List.set_cons_succ]
 rfl}
 refine one_ (i := 9) (N := some 54) (B_ 14 2047) rfl rfl (one_of HT_.out kf_) (by decide) (fun K hK => ?_)
 refine Kd.N_append_rows_step (Kd.slice 2 (Kd.int .i64)) (w0 := w) w.heap.size (by rfl) (.tmp 51) (.tmp 53) 26 53 (.slice none 0 0) 24 rfl Try.underlying26 info53 rfl (by decide) (by omega) (.slice Ao74 x390001_1.length co74) x390001_1 y421 _ _ _ (fun k_ => (w.heap.size ≤ k_) ∧ some k_ ≠ (.slice Ao70 t394.length co70 : Value).ownBlock ∧ some k_ ≠ (v416 : Value).ownBlock ∧ some k_ ≠ (v419 : Value).ownBlock ∧ k_ ≠ gb384 ∧ k_ ≠ gb385 ∧ k_ ≠ gb386 ∧ k_ ≠ gb388 ∧ k_ ≠ gb389) (fun k_ => ((fun k_ => (w.heap.size ≤ k_) ∧ some k_ ≠ (.slice Ao70 t394.length co70 : Value).ownBlock ∧ some k_ ≠ (v416 : Value).ownBlock ∧ some k_ ≠ (v419 : Value).ownBlock ∧ k_ ≠ gb384 ∧ k_ ≠ gb385 ∧ k_ ≠ gb386 ∧ k_ ≠ gb388 ∧ k_ ≠ gb389)) k_ ∧ some k_ ≠ (.slice Ao74 x390001_1.length co74 : Value).ownBlock) rfl rfl ?aO ?aR (fun _ hk => hk) ?aF ?aB ?aS ?aL ?_
 (case aR => exact (by skip; exact Kd.N_F (Kd.N_mono (ok' := (fun k_ => ((fun k_ => (w.heap.size ≤ k_) ∧ some k_ ≠ (.slice Ao70 t394.length co70 : Value).ownBlock ∧ some k_ ≠ (v416 : Value).ownBlock ∧ some k_ ≠ (v419 : Value).ownBlock ∧ k_ ≠ gb384 ∧ k_ ≠ gb385 ∧ k_ ≠ gb386 ∧ k_ ≠ gb388 ∧ k_ ≠ gb389)) k_ ∧ some k_ ≠ (.slice Ao74 x390001_1.length co74 : Value).ownBlock)) (HO423.out) (fun k_ hk => ⟨⟨hk.1, ⟨hk.2.1, ⟨hk.2.2.1, ⟨hk.2.2.2.1, ⟨hk.2.2.2.2.2.1, ⟨hk.2.2.2.2.2.2.1, ⟨hk.2.2.2.2.2.2.2.1, ⟨hk.2.2.2.2.2.2.2.2.1, hk.2.2.2.2.2.2.2.2.2⟩⟩⟩⟩⟩⟩⟩⟩, hk.2.2.2.2.1⟩))))
 (case aB => exact (bl_ HB))
 (case aF => exact (fun k_ hk => ⟨(Nat.le_trans (bs_ HB) hk), Kd.fresh' (Kd.R_lt (kR_ HO397)) k_ hk, Kd.fresh' (Kd.N_lt (kN_ HO417)) k_ hk, Kd.fresh' (Kd.N_lt (kN_ HO420)) k_ hk, Kd.freshB (g := gb384) (o := .cells #[.int .i64 a0_0, .int .i64 a0_1, .slice A0_2 l0_2.length c0_2, .slice A0_3 l0_3.length c0_3] 24 (0, 0)) (bk_ BK384) k_ hk, Kd.freshB (g := gb385) (o := .cells #[.slice (some ad390) l1_0.length c1_0] 37 (0, 0)) (bk_ BK385) k_ hk, Kd.freshB (g := gb386) (o := .cells #[.slice none 0 0, .slice none 0 0] 28 (0, 0)) (bk_ BK386) k_ hk, Kd.freshB (g := gb388) (o := .cells #[.int .i64 a0_0, .int .i64 a0_1, .slice A0_2 l0_2.length c0_2, .slice A0_3 l0_3.length c0_3] 61 (0, 0)) (bk_ BK388) k_ hk, Kd.freshB (g := gb389) (o := .cells #[.slice Ao73 x390000_1.length co73, .slice Ao74 x390001_1.length co74] 28 (0, 0)) (bk_ BK389) k_ hk⟩))
 (case aO => exact (by (with_reducible repeat (first | apply Kd.N_alloc | apply Kd.N_drewN | apply Kd.N_drew)); exact Kd.N_mono HO_390001.out (fun _ hk => ⟨hk.1, ⟨hk.2.1, ⟨hk.2.2.1, ⟨hk.2.2.2.1, ⟨hk.2.2.2.2.2.1, ⟨hk.2.2.2.2.2.2.1, ⟨hk.2.2.2.2.2.2.2.1, ⟨hk.2.2.2.2.2.2.2.2.1, hk.2.2.2.2.2.2.2.2.2⟩⟩⟩⟩⟩⟩⟩⟩)))
 (case aS => exact (bs_ HB))
 (case aL => have := LMc61.out; omega)
 intro v425 w83 ho hb hg hat
 rw [← Ny424.out] at ho
 replace BK384 := (FG_ BK384 hg (Kd.N_ne HO_390001.out BK384.out (by decide)))
 replace BK385 := (FG_ BK385 hg (Kd.N_ne HO_390001.out BK385.out (by decide)))
 replace BK386 := (FG_ BK386 hg (Kd.N_ne HO_390001.out BK386.out (by decide)))
 replace BK388 := (FG_ BK388 hg (Kd.N_ne HO_390001.out BK388.out (by decide)))
 replace BK389 := (FG_ BK389 hg (Kd.N_ne HO_390001.out BK389.out (by decide)))
 replace HO397 := Aside0.mk (Kd.R_over' (kR_ HO397) (Kd.N_typed (kN_ HO_390001)) (by decide) hg)
 replace HO417 := Aside0.mk (Kd.N_afterv (ok := (fun k_ => (w.heap.size ≤ k_) ∧ some k_ ≠ (.slice Ao70 t394.length co70 : Value).ownBlock ∧ some k_ ≠ (v419 : Value).ownBlock ∧ some k_ ≠ (.slice Ao84 y421.length co84 : Value).ownBlock ∧ k_ ≠ gb384 ∧ k_ ≠ gb385 ∧ k_ ≠ gb386 ∧ k_ ≠ gb388 ∧ k_ ≠ gb389)) (by (with_reducible repeat (first | apply Kd.N_alloc | apply Kd.N_drewN | apply Kd.N_drew)); exact Kd.N_mono HO417.out (fun _ hk => ⟨⟨hk.1, ⟨hk.2.1, ⟨hk.2.2.1, ⟨hk.2.2.2.1, ⟨hk.2.2.2.2.2.1, ⟨hk.2.2.2.2.2.2.1, ⟨hk.2.2.2.2.2.2.2.1, ⟨hk.2.2.2.2.2.2.2.2.1, hk.2.2.2.2.2.2.2.2.2⟩⟩⟩⟩⟩⟩⟩⟩, hk.2.2.2.2.1⟩)) hg hat)
 replace HO420 := Aside0.mk (Kd.N_afterv (ok := (fun k_ => (w.heap.size ≤ k_) ∧ some k_ ≠ (.slice Ao70 t394.length co70 : Value).ownBlock ∧ some k_ ≠ (.slice Ao84 y421.length co84 : Value).ownBlock ∧ k_ ≠ gb384 ∧ k_ ≠ gb385 ∧ k_ ≠ gb386 ∧ k_ ≠ gb388 ∧ k_ ≠ gb389)) (by (with_reducible repeat (first | apply Kd.N_alloc | apply Kd.N_drewN | apply Kd.N_drew)); exact Kd.N_mono HO420.out (fun _ hk => ⟨⟨hk.1, ⟨hk.2.1, ⟨hk.2.2.1, ⟨hk.2.2.2.2.1, ⟨hk.2.2.2.2.2.1, ⟨hk.2.2.2.2.2.2.1, ⟨hk.2.2.2.2.2.2.2.1, hk.2.2.2.2.2.2.2.2⟩⟩⟩⟩⟩⟩⟩, hk.2.2.2.1⟩)) hg hat)
 replace HO423 := Aside0.mk (Kd.N_afterv (ok := (fun k_ => (w.heap.size ≤ k_) ∧ some k_ ≠ (.slice Ao70 t394.length co70 : Value).ownBlock ∧ some k_ ≠ (v416 : Value).ownBlock ∧ some k_ ≠ (v419 : Value).ownBlock ∧ k_ ≠ gb384 ∧ k_ ≠ gb385 ∧ k_ ≠ gb386 ∧ k_ ≠ gb388 ∧ k_ ≠ gb389)) (by (with_reducible repeat (first | apply Kd.N_alloc | apply Kd.N_drewN | apply Kd.N_drew)); exact Kd.N_mono HO423.out (fun _ hk => ⟨⟨hk.1, ⟨hk.2.1, ⟨hk.2.2.1, ⟨hk.2.2.2.1, ⟨hk.2.2.2.2.2.1, ⟨hk.2.2.2.2.2.2.1, ⟨hk.2.2.2.2.2.2.2.1, ⟨hk.2.2.2.2.2.2.2.2.1, hk.2.2.2.2.2.2.2.2.2⟩⟩⟩⟩⟩⟩⟩⟩, hk.2.2.2.2.1⟩)) hg hat)
 replace HB := Aside0.mk (hb)
 have HO426 := Aside0.mk (ho)
 clear HO_390001
 clear ho hb hg hat
 obtain ⟨Ao85, co85, eo85⟩ := Kd.N_slice HO420.out
 (first | subst eo85 | (injection eo85 with f1_ f2_ f3_; have f4_ := f1_.symm; have f5_ := f3_.symm; clear f1_ f2_ f3_; subst f4_; subst f5_))
 obtain ⟨Ao87, co87, eo87⟩ := Kd.N_slice HO426.out
 (first | subst eo87 | (injection eo87 with f1_ f2_ f3_; have f4_ := f1_.symm; have f5_ := f3_.symm; clear f1_ f2_ f3_; subst f4_; subst f5_))
 refine hK.out _ _ ⟨ce_ BK389 0, ce_ BK389 1⟩ (fun hHeld => ?_)
 clear hK K
 refine norm_ (a' := ?_) ?_ ?_
 rotate_left
 {
 show Act.put _ (some 54) _ = _
 exact sp_}
 refine last_ (i := 11) (N := none) (B_ 14 4095) rfl rfl (one_of HT_.out kf_) (by decide) (fun K hK => ?_)
 have hs86 : w83.cell? ⟨gb389, 0, none⟩ = some (.slice Ao73 x390000_1.length co73) := ce_ BK389 0
 have hfs86 := blk_frozen BK389.out 0
 have hns86_0 := NB384_389.out
 have hns86_1 := NB385_389.out
 have hns86_2 := NB386_389.out
 have hns86_3 := NB388_389.out
 have hms86_0 := NB389_384.out
 have hms86_1 := NB389_385.out
 have hms86_2 := NB389_386.out
 have hms86_3 := NB389_388.out
 refine skip_ (w1 := ?_) (by rfl) rfl ?_ ?_
 rotate_left
 {
 go_simp
 rfl}
 refine hK.out _ _ ?_
 clear hK K
 refine pu_ 12 (some 56) (B_ 14 8191) HT_ ?_
 refine last_ (i := 13) (N := none) (B_ 14 16383) rfl rfl (one_of HT_.out kf_) (by decide) (fun K hK => ?_)
 have hs88 : w83.cell? ⟨gb389, 1, none⟩ = some (.slice Ao74 x390001_1.length co74) := ce_ BK389 1
 have hfs88 := blk_frozen BK389.out 1
 have hns88_0 := NB384_389.out
 have hns88_1 := NB385_389.out
 have hns88_2 := NB386_389.out
 have hns88_3 := NB388_389.out
 have hms88_0 := NB389_384.out
 have hms88_1 := NB389_385.out
 have hms88_2 := NB389_386.out
 have hms88_3 := NB389_388.out
 refine skip_ (w1 := ?_) (by rfl) rfl ?_ ?_
 rotate_left
 {
 go_simp
 rfl}
 refine hK.out _ _ ?_
 clear hK K
 refine done_ (done_of HT_.out kf_) ?_
 try go_wp2
 go_roundg k1
 case measure => have := HK1.out; omega
 case rel => exact ⟨(wrap64 (x25_1 + 1)), (y418), (y424), (.slice Ao85 y418.length co85), (.slice Ao87 y424.length co87), rs_, H', ⟨by have := HK1.out; omega⟩, ⟨by (with_reducible repeat (first | apply Kd.N_alloc | apply Kd.N_drewN | apply Kd.N_drew)); exact Kd.N_mono (Kd.N_far (p := ⟨gb389, 1, none⟩) (Kd.N_far (p := ⟨gb389, 0, none⟩) (Kd.N_mono HO420.out (fun k_ hk => (⟨hk, hk.1.2.2.2.2.2.2.2⟩ : _ ∧ k_ ≠ gb389))) (fun _ hk => hk.2) (.slice Ao85 y418.length co85)) (fun _ hk => hk.2) (.slice Ao87 y424.length co87)) (fun _ hk => ⟨hk.1.1.1, ⟨hk.1.2, ⟨hk.1.1.2.2.2.1, ⟨hk.1.1.2.2.2.2.1, ⟨hk.1.1.2.2.2.2.2.1, ⟨hk.1.1.2.2.2.2.2.2.1, hk.1.1.2.2.2.2.2.2.2⟩⟩⟩⟩⟩⟩)⟩, ⟨by (with_reducible repeat (first | apply Kd.N_alloc | apply Kd.N_drewN | apply Kd.N_drew)); exact Kd.N_mono (Kd.N_far (p := ⟨gb389, 1, none⟩) (Kd.N_far (p := ⟨gb389, 0, none⟩) (Kd.N_mono HO426.out (fun k_ hk => (⟨hk, hk.2.2.2.2.2.2.2.2⟩ : _ ∧ k_ ≠ gb389))) (fun _ hk => hk.2) (.slice Ao85 y418.length co85)) (fun _ hk => hk.2) (.slice Ao87 y424.length co87)) (fun _ hk => ⟨hk.1.1, ⟨hk.1.2.2.2.1, ⟨hk.1.2.2.2.2.1, ⟨hk.1.2.2.2.2.2.1, ⟨hk.1.2.2.2.2.2.2.1, ⟨hk.1.2.2.2.2.2.2.2.1, hk.1.2.2.2.2.2.2.2.2⟩⟩⟩⟩⟩⟩)⟩, ⟨bk_ BK384⟩, ⟨bk_ BK385⟩, ⟨bk_ BK386⟩, ⟨bk_ BK388⟩, ⟨bp_ BK389⟩, ⟨bl_ HB⟩⟩}
 {
 rw [if_neg c61] at H
 exact absurd H (by simp)}}
 {
 rw [if_neg c60] at H
 exact absurd H (by simp)}}}
 {
 rw [if_neg c25] at H
 exact absurd H (by simp)}}
 {
 rw [if_neg c24] at H
 exact absurd H (by simp)}}
 {
 rw [if_neg c23] at H
 have c23b0 : decide (x25_1 < (l1_0.length : Int)) = false := decide_eq_false c23
 clear c23
 obtain ⟨t427, A89, H⟩ := ob_ H
 (try dsimp only at H)
 by_cases c90 : t427 = true
 {
 subst c90
 rw [if_pos rfl] at H
 by_cases c91 : 0 < (x390001_1.length : Int)
 {
 rw [if_pos c91] at H
 have c91b0 : decide (0 < (x390001_1.length : Int)) = true := decide_eq_true c91
 have c91b1 : decide (0 < x390001_1.length) = true := decide_eq_true (by omega)
 clear c91
 by_cases c92 : 1 < (x390001_1.length : Int)
 {
 rw [if_pos c92] at H
 have c92b0 : decide (1 < (x390001_1.length : Int)) = true := decide_eq_true c92
 have c92b1 : decide (1 < x390001_1.length) = true := decide_eq_true (by omega)
 clear c92
 obtain ⟨⟨t430, t431, t432⟩, A93, H⟩ := ob_ H
 (try dsimp only at H)
 obtain ⟨y437, hy437⟩ : ∃ y_ : List (List Int), y_ = (x390001_1.set (0 : Int).toNat t430) := ⟨_, rfl⟩
 replace H : (some (x390000_1, (y437.set (1 : Int).toNat t431), 0)) = some (r1, r2, r3) := by first | (rw [hy437]; with_reducible exact H) | (have H2_ := (Option.bind_some _ _).symm.trans H; rw [hy437]; with_reducible exact H2_) | (have H2_ := (Option.bind_some _ _).symm.trans H; with_reducible exact H2_) | with_reducible exact H | (rw [hy437]; exact H) | exact H
 have Ny437 := Aside0.mk hy437
 clear hy437
 obtain ⟨y438, hy438⟩ : ∃ y_ : List (List Int), y_ = (y437.set (1 : Int).toNat t431) := ⟨_, rfl⟩
 replace H : (some (x390000_1, y438, 0)) = some (r1, r2, r3) := by first | (rw [hy438]; with_reducible exact H) | (have H2_ := (Option.bind_some _ _).symm.trans H; rw [hy438]; with_reducible exact H2_) | (have H2_ := (Option.bind_some _ _).symm.trans H; with_reducible exact H2_) | with_reducible exact H | (rw [hy438]; exact H) | exact H
 have Ny438 := Aside0.mk hy438
 clear hy438
 simp only [Option.some.injEq, Prod.mk.injEq] at H
 obtain ⟨rfl, rfl, rfl⟩ := H
 have hnb96 := NB388_384.out
 have hnc96 := NB384_388.out
 have hnb97 := NB388_385.out
 have hnc97 := NB385_388.out
 have hnb98 := NB388_386.out
 have hnc98 := NB386_388.out
 have hnb99 := NB388_389.out
 have hnc99 := NB389_388.out
 obtain ⟨hcz100_0, hcz100_1, hcz100_2, hcz100_3, hfz100_0, hfz100_1, hfz100_2, hfz100_3⟩ := e4_ BK388
 have hnb101 := NB389_384.out
 have hnc101 := NB384_389.out
 have hnb102 := NB389_385.out
 have hnc102 := NB385_389.out
 have hnb103 := NB389_386.out
 have hnc103 := NB386_389.out
 obtain ⟨hcz104_0, hcz104_1, hfz104_0, hfz104_1⟩ := e2_ BK389
 obtain ⟨Ao105, co105, eo105⟩ := Kd.N_slice HO_390000.out
 subst eo105
 try go_wp2_with (first | ((with_reducible refine gate_callee (f := 32) rfl ?_); refine gL_ (some 61) Try.func32 #[.agg #[.int .i64 a0_0, .int .i64 a0_1, .slice A0_2 l0_2.length c0_2, .slice A0_3 l0_3.length c0_3], .slice Ao105 x390000_1.length co105] ?_; (with_reducible refine (vcodec_codec_both.calls a0_0 a0_1 _ _ l0_2 _ _ l0_3 _ _ x390000_1 true _ ?side1 ?side2 ?side3 ?side4 ?side5 ?side6 A89.out).mono ?_); (case side1 => exact kC_ HR0_2 HB); (case side2 => exact HC0_2.out); (case side3 => exact kC_ HR0_3 HB); (case side4 => exact HC0_3.out); (case side5 => repeat (first | exact (Kd.N_reads' HO_390000.out).2.2 | (with_reducible refine Kd.C_alloc ?_ _) | (with_reducible refine Kd.C_drewN ?_ _) | (with_reducible refine Kd.C_drew ?_))); (case side6 => exact (Kd.N_reads' HO_390000.out).2.1); rintro e w106 ⟨rfl, hb⟩; refine ⟨_, rfl, ?_⟩; replace HO_390000 := FN_ HO_390000 hb; replace HO_390001 := FN_ HO_390001 hb; replace BK384 := FB_ BK384 hb; replace BK385 := FB_ BK385 hb; replace BK386 := FB_ BK386 hb; replace BK388 := FB_ BK388 hb; replace BK389 := FB_ BK389 hb; replace HB := BS_ HB hb; (try clear hb)))
 replace HO_390000 := Aside0.mk (Kd.N_drew HO_390000.out)
 replace HO_390001 := Aside0.mk (Kd.N_drew HO_390001.out)
 replace BK384 := Aside0.mk (blk_drew BK384.out)
 replace BK385 := Aside0.mk (blk_drew BK385.out)
 replace BK386 := Aside0.mk (blk_drew BK386.out)
 replace BK388 := Aside0.mk (blk_drew BK388.out)
 replace BK389 := Aside0.mk (blk_drew BK389.out)
 replace HB := Aside0.mk (below_drew1 HB.out)
 obtain ⟨Ao108, co108, eo108⟩ := Kd.N_slice HO_390001.out
 (first | subst eo108 | (injection eo108 with f1_ f2_ f3_; have f4_ := f1_.symm; have f5_ := f3_.symm; clear f1_ f2_ f3_; subst f4_; subst f5_))
 have p428 : 0 ≤ (0 : Int) := (by omega)
 have q428 : 0 < (x390001_1.length : Int) := of_decide_eq_true am_
 obtain ⟨ad428, A428_0, c428_0, e428, hx428_0, hl428_0, hi428_0⟩ := at_L2 (Kd.N_reads' HO_390001.out).2.2 0 p428 q428
 cases e428
 obtain ⟨ce428, hce428, hMe428, hcc428⟩ := Kd.N_get HO_390001.out [] 0 p428 (by first | exact q428 | exact of_decide_eq_true am_ | (have e_ := (Kd.N_reads' HO_390001.out).1; omega))
 obtain ⟨ua428_0, uc428_0, rfl, ul428_0, ge428_0⟩ := Kd.FK_slice_open hMe428
 have hv428_0 := hcc428 0 _ rfl
 rw [Nat.add_zero, show ((Kd.slice 2 (Kd.int .i64))).sz = 1 from rfl, Nat.mul_one] at hv428_0
 replace hv428_0 := Option.some.inj (hv428_0.symm.trans hx428_0)
 injection hv428_0 with hva_ hvn_ hvc_
 rw [hva_] at ge428_0
 rw [hvc_] at ul428_0
 have HL428_0 := Aside0.mk (show Kd.V (Kd.int .i64) 2 _ w.heap.size _ _ (rd_L2 x390001_1 0) from Kd.V_mk ul428_0 ge428_0)
 clear hva_ hvn_ hvc_ ge428_0 ul428_0
 clear hcc428 hce428
 have qi428 : (0 < x390001_1.length) = True := eq_true (by omega)
 (try rw [show ((0 : Int)).toNat = 0 from rfl] at hx428_0)
 (try rw [Addr.add_zero'] at hx428_0)
 have HR428_0 := Aside0.mk hi428_0
 have HC428_0 := Aside0.mk hl428_0
 clear hi428_0 hl428_0
 replace p428 := eq_true p428
 replace q428 := eq_true q428
 have p429 : 0 ≤ (1 : Int) := (by omega)
 have q429 : 1 < (x390001_1.length : Int) := of_decide_eq_true am_
 obtain ⟨ad429, A429_0, c429_0, e429, hx429_0, hl429_0, hi429_0⟩ := at_L2 (Kd.N_reads' HO_390001.out).2.2 1 p429 q429
 obtain rfl : ad428 = ad429 := (by injection e429)
 obtain ⟨ce429, hce429, hMe429, hcc429⟩ := Kd.N_get HO_390001.out [] 1 p429 (by first | exact q429 | exact of_decide_eq_true am_ | (have e_ := (Kd.N_reads' HO_390001.out).1; omega))
 obtain ⟨ua429_0, uc429_0, rfl, ul429_0, ge429_0⟩ := Kd.FK_slice_open hMe429
 have hv429_0 := hcc429 0 _ rfl
 rw [Nat.add_zero, show ((Kd.slice 2 (Kd.int .i64))).sz = 1 from rfl, Nat.mul_one] at hv429_0
 replace hv429_0 := Option.some.inj (hv429_0.symm.trans hx429_0)
 injection hv429_0 with hva_ hvn_ hvc_
 rw [hva_] at ge429_0
 rw [hvc_] at ul429_0
 have HL429_0 := Aside0.mk (show Kd.V (Kd.int .i64) 2 _ w.heap.size _ _ (rd_L2 x390001_1 1) from Kd.V_mk ul429_0 ge429_0)
 clear hva_ hvn_ hvc_ ge429_0 ul429_0
 clear hcc429 hce429
 (try simp only [show (1 : Int).toNat = 1 from rfl, Nat.reduceMul, Nat.reduceEqDiff, Go.Addr.add, ↓reduceIte] at hx429_0)
 have qi429 : (1 < x390001_1.length) = True := eq_true (by omega)
 (try rw [show ((1 : Int)).toNat = 1 from rfl] at hx429_0)
 have HR429_0 := Aside0.mk hi429_0
 have HC429_0 := Aside0.mk hl429_0
 clear hi429_0 hl429_0
 replace p429 := eq_true p429
 replace q429 := eq_true q429
 refine start_ (n := 21) (S := fun w' => w'.cell? ⟨gb389, 0, none⟩ = some (.slice Ao105 x390000_1.length co105) ∧ w'.cell? ⟨gb389, 1, none⟩ = some (.slice (some ad428) x390001_1.length co108)) (ds := []) (B_ 21 0) kf_ rfl rfl ⟨ce_ BK389 0, ce_ BK389 1⟩ (fun hHeld => ?_); refine with_tabW vcodec_Encode.tab16 vcodec_Encode.bits16 (fun HT_ HW_ => ?_)
 generalize w106.drew = w107 at HO_390000 HO_390001 BK384 BK385 BK386 BK388 BK389 HB HL428_0 HL429_0 HR428_0 HR429_0 hx428_0 hx429_0 hHeld ⊢
 refine pu_ 0 (some 63) (B_ 21 1) HT_ ?_
 refine pu_ 2 (some 65) (B_ 21 5) HT_ ?_
 refine pu_ 4 (some 67) (B_ 21 21) HT_ ?_
 refine pu_ 8 (some 71) (B_ 21 277) HT_ ?_
 refine take_ (i := 1) (N := some 64) (v := ?_) (a' := ?_) (B_ 21 279) rfl rfl (take_ofW HT_.out HW_.out kf_) (fun _ _ _ h => h) (Or.inl ⟨by rfl, ?_⟩) hHeld ?_ ?_
 rotate_left
 {
 rintro w' ⟨s0, s1⟩
 go_simp
 with_reducible rfl}
 rotate_left
 {
 exact sp_}
 refine take_ (i := 3) (N := some 66) (v := ?_) (a' := ?_) (B_ 21 287) rfl rfl (take_ofW HT_.out HW_.out kf_) (fun _ _ _ h => h) (Or.inl ⟨by rfl, ?_⟩) hHeld ?_ ?_
 rotate_left
 {
 rintro w' ⟨s0, s1⟩
 go_simp
 with_reducible rfl}
 rotate_left
 {
 exact sp_}
 refine take_ (i := 5) (N := some 68) (v := ?_) (a' := ?_) (B_ 21 319) rfl rfl (take_ofW HT_.out HW_.out kf_) (fun _ _ _ h => h) (Or.inl ⟨by rfl, ?_⟩) hHeld ?_ ?_
 rotate_left
 {
 rintro w' ⟨s0, s1⟩
 go_simp
 with_reducible rfl}
 rotate_left
 {
 exact sp_}
 refine pu_ 6 (some 69) (B_ 21 383) HT_ ?_
 refine take_ (i := 9) (N := some 72) (v := ?_) (a' := ?_) (B_ 21 895) rfl rfl (take_ofW HT_.out HW_.out kf_) (fun _ _ _ h => h) (Or.inl ⟨by rfl, ?_⟩) hHeld ?_ ?_
 rotate_left
 {
 rintro w' ⟨s0, s1⟩
 go_simp
 with_reducible rfl}
 rotate_left
 {
 exact sp_}
 refine pu_ 10 (some 73) (B_ 21 1919) HT_ ?_
 refine join_ (σ := Unit) 9 (B_ 21 4095) (fun s_ => [(70, .slice A428_0 (rd_L2 x390001_1 0).length c428_0), (74, .slice A429_0 (rd_L2 x390001_1 1).length c429_0)]) (fun s_ w' => w' = w107) ?_ ?_
 rotate_left
 {
 intro hCont
 refine two_ (i := 7) (j := 11) (Ni := some 70) (Nj := some 74) (B_ 21 2047) (B_ 21 3967) rfl rfl rfl rfl (two_of HT_.out kf_) (by decide) (by decide) (fun K hK => ?_) (fun K hK => ?_)
 {
 skip
 refine value_ (w1 := ?_) (v := ?_) (by rfl) rfl ?_ ?_
 rotate_left 2
 {
 go_simp
 constructor
 {
 rfl}
 {
 rfl}}
 refine hK.out _ _ ⟨ce_ BK389 0, ce_ BK389 1⟩ (fun hHeld => ?_)
 clear hK K
 refine norm_ (a' := ?_) ?_ ?_
 rotate_left
 {
 show Act.put _ (some 70) _ = _
 exact sp_}
 refine one_ (i := 11) (N := some 74) (B_ 21 4095) rfl rfl (one_of HT_.out kf_) (by decide) (fun K hK => ?_)
 refine value_ (w1 := ?_) (v := ?_) (by rfl) rfl ?_ ?_
 rotate_left 2
 {
 go_simp
 constructor
 {
 rfl}
 {
 rfl}}
 refine hK.out _ _ ⟨ce_ BK389 0, ce_ BK389 1⟩ (fun hHeld => ?_)
 clear hK K
 refine norm_ (a' := ?_) ?_ ?_
 rotate_left
 {
 show Act.put _ (some 74) _ = _
 exact sp_}
 exact norm_ pa_ (hCont () _ rfl)}
 {
 skip
 refine value_ (w1 := ?_) (v := ?_) (by rfl) rfl ?_ ?_
 rotate_left 2
 {
 go_simp
 constructor
 {
 rfl}
 {
 rfl}}
 refine hK.out _ _ ⟨ce_ BK389 0, ce_ BK389 1⟩ (fun hHeld => ?_)
 clear hK K
 refine norm_ (a' := ?_) ?_ ?_
 rotate_left
 {
 show Act.put _ (some 74) _ = _
 exact sp_}
 refine one_ (i := 7) (N := some 70) (B_ 21 4095) rfl rfl (one_of HT_.out kf_) (by decide) (fun K hK => ?_)
 refine value_ (w1 := ?_) (v := ?_) (by rfl) rfl ?_ ?_
 rotate_left 2
 {
 go_simp
 constructor
 {
 rfl}
 {
 rfl}}
 refine hK.out _ _ ⟨ce_ BK389 0, ce_ BK389 1⟩ (fun hHeld => ?_)
 clear hK K
 refine norm_ (a' := ?_) ?_ ?_
 rotate_left
 {
 show Act.put _ (some 70) _ = _
 exact sp_}
 exact norm_ pa_ (hCont () _ rfl)}}
 rintro _ _ rfl
 refine norm_ (a' := ?_) ?_ ?_
 rotate_left
 {
 simp only [putAll, Act.put, List.setIfInBounds_toArray, List.set_cons_zero, List.set_cons_succ]
 rfl}
 refine one_ (i := 12) (N := some 75) (B_ 21 8191) rfl rfl (one_of HT_.out kf_) (by decide) (fun K hK => ?_)
 refine goes_ Try.func40 kf_ rfl #[.slice A428_0 (rd_L2 x390001_1 0).length c428_0, .slice A429_0 (rd_L2 x390001_1 1).length c429_0] (by rfl) rfl rfl ar_ ?_
 with_reducible refine (couple_CoupleAll.calls k1 _ _ (rd_L2 x390001_1 0) _ _ (rd_L2 x390001_1 1) t430 t431 t432 _ ?side1 ?side2 ?side3 ?side4 A93.out).mono ?_
 (case side1 => repeat (first | exact (by repeat (first | (with_reducible exact HR428_0.out) | (with_reducible refine Kd.C_alloc ?_ _) | (with_reducible refine Kd.C_drewN ?_ _) | (with_reducible refine Kd.C_drew ?_) | exact HR428_0.out)) | (with_reducible refine Kd.C_alloc ?_ _) | (with_reducible refine Kd.C_drewN ?_ _) | (with_reducible refine Kd.C_drew ?_)))
 (case side2 => exact HC428_0.out)
 (case side3 => repeat (first | exact (by repeat (first | (with_reducible exact HR429_0.out) | (with_reducible refine Kd.C_alloc ?_ _) | (with_reducible refine Kd.C_drewN ?_ _) | (with_reducible refine Kd.C_drew ?_) | exact HR429_0.out)) | (with_reducible refine Kd.C_alloc ?_ _) | (with_reducible refine Kd.C_drewN ?_ _) | (with_reducible refine Kd.C_drew ?_)))
 (case side4 => exact HC429_0.out)
 rintro e w109 ⟨v433, v435, rfl, ho0, ho1, hb⟩
 refine ⟨_, rfl, ?_⟩
 replace HO_390000 := Aside0.mk (Kd.N_mono (Kd.N_told (Kd.N_told (Kd.N_old (kN_ HO_390000) hb) (Kd.R_base ho0)) (Kd.R_base ho1)) (fun _ h_ => h_.1))
 replace HO_390001 := Aside0.mk (Kd.N_mono (Kd.N_told (Kd.N_told (Kd.N_old (kN_ HO_390001) hb) (Kd.R_base ho0)) (Kd.R_base ho1)) (fun _ h_ => h_.1))
 replace HL428_0 := Aside0.mk (Kd.V_mono (Kd.V_told (Kd.V_told (Kd.V_old (kV_ HL428_0) hb) (Kd.R_base ho0)) (Kd.R_base ho1)) (fun _ h_ => h_.1))
 replace HL429_0 := Aside0.mk (Kd.V_mono (Kd.V_told (Kd.V_told (Kd.V_old (kV_ HL429_0) hb) (Kd.R_base ho0)) (Kd.R_base ho1)) (fun _ h_ => h_.1))
 have HO434 := Aside0.mk (Kd.R_lower (Kd.R_newM (M := fun k_ => (w.heap.size ≤ k_)) ho0 (bs_ HB) (fun k_ h_ => h_)) (bs_ HB))
 have HO436 := Aside0.mk (Kd.R_lower (Kd.R_newM (M := fun k_ => (w.heap.size ≤ k_)) ho1 (bs_ HB) (fun k_ h_ => h_)) (bs_ HB))
 replace BK384 := FB_ BK384 hb
 replace BK385 := FB_ BK385 hb
 replace BK386 := FB_ BK386 hb
 replace BK388 := FB_ BK388 hb
 replace BK389 := FB_ BK389 hb
 replace HR428_0 := Aside0.mk (Kd.C_below (by repeat (first | (with_reducible exact HR428_0.out) | (with_reducible refine Kd.C_alloc ?_ _) | (with_reducible refine Kd.C_drewN ?_ _) | (with_reducible refine Kd.C_drew ?_) | exact HR428_0.out)) hb)
 replace HR429_0 := Aside0.mk (Kd.C_below (by repeat (first | (with_reducible exact HR429_0.out) | (with_reducible refine Kd.C_alloc ?_ _) | (with_reducible refine Kd.C_drewN ?_ _) | (with_reducible refine Kd.C_drew ?_) | exact HR429_0.out)) hb)
 replace HB := BS_ HB hb
 (try clear hb)
 (try clear ho0)
 (try clear ho1)
 have p94 : 0 ≤ (0 : Int) := (by omega)
 have q94 : (0 : Int) < ((x390001_1.length : Int) : Int) := of_decide_eq_true am_
 have qi94 : (0 < x390001_1.length) = True := eq_true (by omega)
 obtain ⟨go94, co94, eo94, gb94, gl94, cl94, HG94⟩ := Kd.N_form HO_390001.out (by omega)
 (first | cases eo94 | (injection eo94 with ea_ en_ ec_; (first | subst ea_ | (injection ea_ with ea_; subst ea_)); subst ec_; clear en_))
 have GB94 := Aside0.mk gb94
 have GG94 := Aside0.mk HG94
 clear gb94 gl94 HG94
 (first | simp only [add_plain] at hx428_0 | skip)
 (first | simp only [add_plain] at hx429_0 | skip)
 obtain ⟨ce94, hcl94, hM94, hcc94, hfr94⟩ := Kd.N_elem HO_390001.out [] (0 : Int) p94 q94
 obtain ⟨ua94_0, uc94_0, rfl, ul94_0, ge94_0⟩ := Kd.FK_slice_open hM94
 have hx94_0 := hcc94 0 _ rfl
 have hf94_0 := hfr94 0
 (try simp only [show ((Kd.slice 2 (Kd.int .i64))).sz = 1 from rfl, Nat.mul_one, Nat.add_zero] at hx94_0)
 (try simp only [show ((Kd.slice 2 (Kd.int .i64))).sz = 1 from rfl, Nat.mul_one, Nat.add_zero] at hf94_0)
 clear hcl94 hcc94 hfr94 hM94
 (try rw [show ((0 : Int)).toNat = 0 from rfl] at hx94_0)
 (try simp only [Nat.reduceMul, Nat.zero_mul, Nat.zero_add, Nat.reduceAdd] at hx94_0)
 (try rw [show ((0 : Int)).toNat = 0 from rfl] at hf94_0)
 (try simp only [Nat.reduceMul, Nat.zero_mul, Nat.zero_add, Nat.reduceAdd] at hf94_0)
 replace p94 := eq_true p94
 replace q94 := eq_true q94
 obtain ⟨Ao8433, co8433, eo8433⟩ := Kd.R_slice HO434.out
 subst eo8433
 have HX110 := Aside0.mk (show Kd.N (Kd.slice 2 (Kd.int .i64)) 53 _ w.heap.size (fun k_ => (w.heap.size ≤ k_) ∧ some k_ ≠ (.slice Ao105 x390000_1.length co105 : Value).ownBlock ∧ some k_ ≠ ((.slice Ao8433 t430.length co8433) : Value).ownBlock ∧ some k_ ≠ (v435 : Value).ownBlock ∧ k_ ≠ gb384 ∧ k_ ≠ gb385 ∧ k_ ≠ gb386 ∧ k_ ≠ gb388 ∧ k_ ≠ gb389) (.slice (some ⟨go94, 0, none⟩) x390001_1.length co108) x390001_1 from (Kd.N_mono (HO_390001.out) (fun k_ hk => ⟨hk.1.1.1, ⟨hk.1.1.2.1, ⟨hk.1.2, ⟨hk.2, ⟨hk.1.1.2.2.1, ⟨hk.1.1.2.2.2.1, ⟨hk.1.1.2.2.2.2.1, ⟨hk.1.1.2.2.2.2.2.1, hk.1.1.2.2.2.2.2.2⟩⟩⟩⟩⟩⟩⟩⟩)))
 replace HX110 := Aside0.mk (show Kd.N (Kd.slice 2 (Kd.int .i64)) 53 _ w.heap.size (fun k_ => (w.heap.size ≤ k_) ∧ some k_ ≠ (.slice Ao105 x390000_1.length co105 : Value).ownBlock ∧ some k_ ≠ (v435 : Value).ownBlock ∧ k_ ≠ gb384 ∧ k_ ≠ gb385 ∧ k_ ≠ gb386 ∧ k_ ≠ gb388 ∧ k_ ≠ gb389) (.slice (some ⟨go94, 0, none⟩) x390001_1.length co108) x390001_1 from Kd.N_mono HX110.out (fun k_ hk => ⟨hk.1, ⟨hk.2.1, ⟨hk.2.2.2.1, ⟨hk.2.2.2.2.1, ⟨hk.2.2.2.2.2.1, ⟨hk.2.2.2.2.2.2.1, ⟨hk.2.2.2.2.2.2.2.1, hk.2.2.2.2.2.2.2.2⟩⟩⟩⟩⟩⟩⟩))
 obtain ⟨ce110, hcl110, hM110, hcc110, hfr110⟩ := Kd.N_elem HX110.out [] (0 : Int) (by omega) (by have h_ : (0 : Int) < ((x390001_1.length : Int) : Int) := of_decide_eq_true am_; first | exact h_ | (have e_ := (Kd.N_reads' HO_390001.out).1; omega) | simpa using h_)
 obtain ⟨ua110_0, uc110_0, rfl, ul110_0, ge110_0⟩ := Kd.FK_slice_open hM110
 have HZ110 := (Kd.N_seg HX110.out (0 : Int) (by omega) (by have h_ : (0 : Int) < ((x390001_1.length : Int) : Int) := of_decide_eq_true am_; first | exact h_ | (have e_ := (Kd.N_reads' HO_390001.out).1; omega) | simpa using h_) (seg := [(.slice Ao8433 t430.length co8433)]) (j := 0) hcl110 hcc110 (show 1 ≤ 1 from by decide) (x' := t430) (Kd.FK_slice_mk (Kd.R_reads' (Kd.R_mono (ok' := (fun k_ => ((fun k_ => (w.heap.size ≤ k_) ∧ some k_ ≠ (.slice Ao105 x390000_1.length co105 : Value).ownBlock ∧ some k_ ≠ (v435 : Value).ownBlock ∧ k_ ≠ gb384 ∧ k_ ≠ gb385 ∧ k_ ≠ gb386 ∧ k_ ≠ gb388 ∧ k_ ≠ gb389)) k_ ∧ k_ ≠ go94)) (Kd.R_types (Kd.R_types (Kd.R_types (Kd.R_types (Kd.R_types (Kd.R_apart' (Kd.R_apart' (HO434.out) (Kd.N_typed HO_390000.out) (by decide)) (Kd.N_typed HO_390001.out) (by decide)) BK384.out (by decide)) BK385.out (by decide)) BK386.out (by decide)) BK388.out (by decide)) BK389.out (by decide)) (fun k_ hk => ⟨⟨hk.1.1.1.1.1.1.1.1, ⟨hk.1.1.1.1.1.1.2, ⟨hk.1.1.1.1.1.1.1.2, ⟨hk.1.1.1.1.2, ⟨hk.1.1.1.2, ⟨hk.1.1.2, ⟨hk.1.2, hk.2⟩⟩⟩⟩⟩⟩⟩, fun e_ => (hk.1.1.1.1.1.2) (by rw [e_]; rfl)⟩))).2.1 (Kd.R_F (Kd.R_mono (ok' := (fun k_ => ((fun k_ => (w.heap.size ≤ k_) ∧ some k_ ≠ (.slice Ao105 x390000_1.length co105 : Value).ownBlock ∧ some k_ ≠ (v435 : Value).ownBlock ∧ k_ ≠ gb384 ∧ k_ ≠ gb385 ∧ k_ ≠ gb386 ∧ k_ ≠ gb388 ∧ k_ ≠ gb389)) k_ ∧ k_ ≠ go94)) (Kd.R_types (Kd.R_types (Kd.R_types (Kd.R_types (Kd.R_types (Kd.R_apart' (Kd.R_apart' (HO434.out) (Kd.N_typed HO_390000.out) (by decide)) (Kd.N_typed HO_390001.out) (by decide)) BK384.out (by decide)) BK385.out (by decide)) BK386.out (by decide)) BK388.out (by decide)) BK389.out (by decide)) (fun k_ hk => ⟨⟨hk.1.1.1.1.1.1.1.1, ⟨hk.1.1.1.1.1.1.2, ⟨hk.1.1.1.1.1.1.1.2, ⟨hk.1.1.1.1.2, ⟨hk.1.1.1.2, ⟨hk.1.1.2, ⟨hk.1.2, hk.2⟩⟩⟩⟩⟩⟩⟩, fun e_ => (hk.1.1.1.1.1.2) (by rw [e_]; rfl)⟩)))) (fun _ hk => hk))
 have HG110 := HZ110.2
 replace HZ110 := HZ110.1
 have HP110 := HZ110
 clear HZ110
 (try simp only [show ((Kd.slice 2 (Kd.int .i64))).sz = 1 from rfl, Nat.mul_one, Nat.add_zero] at HP110 HG110)
 rw [← Ny437.out] at HP110
 have HQ110 := Aside0.mk HP110
 clear hcl110 hcc110 hfr110 hM110 HP110
 have p95 : 0 ≤ (1 : Int) := (by omega)
 have q95 : (1 : Int) < ((x390001_1.length : Int) : Int) := of_decide_eq_true am_
 have qi95 : (1 < x390001_1.length) = True := eq_true (by omega)
 obtain ⟨ce95, hcl95, hM95, hcc95, hfr95⟩ := Kd.N_elem HQ110.out [] (1 : Int) p95 q95
 obtain ⟨ua95_0, uc95_0, rfl, ul95_0, ge95_0⟩ := Kd.FK_slice_open hM95
 have hx95_0 := hcc95 0 _ rfl
 have hf95_0 := hfr95 0
 (try simp only [show ((Kd.slice 2 (Kd.int .i64))).sz = 1 from rfl, Nat.mul_one, Nat.add_zero] at hx95_0)
 (try simp only [show ((Kd.slice 2 (Kd.int .i64))).sz = 1 from rfl, Nat.mul_one, Nat.add_zero] at hf95_0)
 clear hcl95 hcc95 hfr95 hM95
 (try rw [show ((1 : Int)).toNat = 1 from rfl] at hx95_0)
 (try simp only [Nat.reduceMul, Nat.zero_mul, Nat.zero_add, Nat.reduceAdd] at hx95_0)
 (try rw [show ((1 : Int)).toNat = 1 from rfl] at hf95_0)
 (try simp only [Nat.reduceMul, Nat.zero_mul, Nat.zero_add, Nat.reduceAdd] at hf95_0)
 obtain ⟨ce95b, hcl95b, hM95b, hcc95b, hfr95b⟩ := Kd.N_elem HX110.out [] (1 : Int) p95 q95
 obtain ⟨ua95b_0, uc95b_0, rfl, ul95b_0, ge95b_0⟩ := Kd.FK_slice_open hM95b
 have hx95b_0 := hcc95b 0 _ rfl
 have hf95b_0 := hfr95b 0
 (try simp only [show ((Kd.slice 2 (Kd.int .i64))).sz = 1 from rfl, Nat.mul_one, Nat.add_zero] at hx95b_0)
 (try simp only [show ((Kd.slice 2 (Kd.int .i64))).sz = 1 from rfl, Nat.mul_one, Nat.add_zero] at hf95b_0)
 (try rw [show ((1 : Int)).toNat = 1 from rfl] at hx95b_0)
 (try simp only [Nat.reduceMul, Nat.zero_mul, Nat.zero_add, Nat.reduceAdd] at hx95b_0)
 (try rw [show ((1 : Int)).toNat = 1 from rfl] at hf95b_0)
 (try simp only [Nat.reduceMul, Nat.zero_mul, Nat.zero_add, Nat.reduceAdd] at hf95b_0)
 clear hcl95b hM95b hcc95b hfr95b
 replace p95 := eq_true p95
 replace q95 := eq_true q95
 obtain ⟨Ao8435, co8435, eo8435⟩ := Kd.R_slice HO436.out
 subst eo8435
 have HX111 := Aside0.mk (show Kd.N (Kd.slice 2 (Kd.int .i64)) 53 _ w.heap.size (fun k_ => (w.heap.size ≤ k_) ∧ some k_ ≠ (.slice Ao105 x390000_1.length co105 : Value).ownBlock ∧ some k_ ≠ ((.slice Ao8435 t431.length co8435) : Value).ownBlock ∧ k_ ≠ gb384 ∧ k_ ≠ gb385 ∧ k_ ≠ gb386 ∧ k_ ≠ gb388 ∧ k_ ≠ gb389) (.slice (some ⟨go94, 0, none⟩) x390001_1.length co108) y437 from (Kd.N_mono (HQ110.out) (fun k_ hk => ⟨hk.1, ⟨hk.2.1, ⟨hk.2.2.1, ⟨hk.2.2.2.1, ⟨hk.2.2.2.2.1, ⟨hk.2.2.2.2.2.1, ⟨hk.2.2.2.2.2.2.1, hk.2.2.2.2.2.2.2⟩⟩⟩⟩⟩⟩⟩)))
 replace HX111 := Aside0.mk (show Kd.N (Kd.slice 2 (Kd.int .i64)) 53 _ w.heap.size (fun k_ => (w.heap.size ≤ k_) ∧ some k_ ≠ (.slice Ao105 x390000_1.length co105 : Value).ownBlock ∧ k_ ≠ gb384 ∧ k_ ≠ gb385 ∧ k_ ≠ gb386 ∧ k_ ≠ gb388 ∧ k_ ≠ gb389) (.slice (some ⟨go94, 0, none⟩) x390001_1.length co108) y437 from Kd.N_mono HX111.out (fun k_ hk => ⟨hk.1, ⟨hk.2.1, ⟨hk.2.2.2.1, ⟨hk.2.2.2.2.1, ⟨hk.2.2.2.2.2.1, ⟨hk.2.2.2.2.2.2.1, hk.2.2.2.2.2.2.2⟩⟩⟩⟩⟩⟩))
 obtain ⟨ce111, hcl111, hM111, hcc111, hfr111⟩ := Kd.N_elem HX111.out [] (1 : Int) (by omega) (by have h_ : (1 : Int) < ((x390001_1.length : Int) : Int) := of_decide_eq_true am_; first | exact h_ | (have e_ := (Kd.N_reads' HO_390001.out).1; omega) | simpa using h_)
 obtain ⟨ua111_0, uc111_0, rfl, ul111_0, ge111_0⟩ := Kd.FK_slice_open hM111
 have HP111 := (Kd.N_seg HX111.out (1 : Int) (by omega) (by have h_ : (1 : Int) < ((x390001_1.length : Int) : Int) := of_decide_eq_true am_; first | exact h_ | (have e_ := (Kd.N_reads' HO_390001.out).1; omega) | simpa using h_) (seg := [(.slice Ao8435 t431.length co8435)]) (j := 0) hcl111 hcc111 (show 1 ≤ 1 from by decide) (x' := t431) (Kd.FK_slice_mk (Kd.R_reads' (Kd.R_mono (ok' := (fun k_ => ((fun k_ => (w.heap.size ≤ k_) ∧ some k_ ≠ (.slice Ao105 x390000_1.length co105 : Value).ownBlock ∧ k_ ≠ gb384 ∧ k_ ≠ gb385 ∧ k_ ≠ gb386 ∧ k_ ≠ gb388 ∧ k_ ≠ gb389)) k_ ∧ k_ ≠ go94)) (Kd.R_grown (Kd.R_types (Kd.R_types (Kd.R_types (Kd.R_types (Kd.R_types (Kd.R_apart' (Kd.R_apart' (HO436.out) (Kd.N_typed HO_390000.out) (by decide)) (Kd.N_typed HO_390001.out) (by decide)) BK384.out (by decide)) BK385.out (by decide)) BK386.out (by decide)) BK388.out (by decide)) BK389.out (by decide)) HG110 (fun k_ hk e_ => hk.1.1.1.1.1.2 (e_.trans rfl))) (fun k_ hk => ⟨⟨hk.1.1.1.1.1.1.1.1, ⟨hk.1.1.1.1.1.1.2, ⟨hk.1.1.1.1.2, ⟨hk.1.1.1.2, ⟨hk.1.1.2, ⟨hk.1.2, hk.2⟩⟩⟩⟩⟩⟩, fun e_ => (hk.1.1.1.1.1.2) (by rw [e_]; rfl)⟩))).2.1 (Kd.R_F (Kd.R_mono (ok' := (fun k_ => ((fun k_ => (w.heap.size ≤ k_) ∧ some k_ ≠ (.slice Ao105 x390000_1.length co105 : Value).ownBlock ∧ k_ ≠ gb384 ∧ k_ ≠ gb385 ∧ k_ ≠ gb386 ∧ k_ ≠ gb388 ∧ k_ ≠ gb389)) k_ ∧ k_ ≠ go94)) (Kd.R_grown (Kd.R_types (Kd.R_types (Kd.R_types (Kd.R_types (Kd.R_types (Kd.R_apart' (Kd.R_apart' (HO436.out) (Kd.N_typed HO_390000.out) (by decide)) (Kd.N_typed HO_390001.out) (by decide)) BK384.out (by decide)) BK385.out (by decide)) BK386.out (by decide)) BK388.out (by decide)) BK389.out (by decide)) HG110 (fun k_ hk e_ => hk.1.1.1.1.1.2 (e_.trans rfl))) (fun k_ hk => ⟨⟨hk.1.1.1.1.1.1.1.1, ⟨hk.1.1.1.1.1.1.2, ⟨hk.1.1.1.1.2, ⟨hk.1.1.1.2, ⟨hk.1.1.2, ⟨hk.1.2, hk.2⟩⟩⟩⟩⟩⟩, fun e_ => (hk.1.1.1.1.1.2) (by rw [e_]; rfl)⟩)))) (fun _ hk => hk)).1
 (try simp only [show ((Kd.slice 2 (Kd.int .i64))).sz = 1 from rfl, Nat.mul_one, Nat.add_zero] at HP111)
 rw [← Ny438.out] at HP111
 have HQ111 := Aside0.mk HP111
 clear hcl111 hcc111 hfr111 hM111 HP111
 refine hK.out _ _ ⟨ce_ BK389 0, ce_ BK389 1⟩ (fun hHeld => ?_)
 clear hK K
 refine norm_ (a' := ?_) ?_ ?_
 rotate_left
 {
 show Act.put _ (some 75) _ = _
 exact sp_}
 refine pu_ 13 (some 62) (B_ 21 16383) HT_ ?_
 refine pu_ 14 (some 76) (B_ 21 32767) HT_ ?_
 refine pu_ 15 (some 77) (B_ 21 65535) HT_ ?_
 refine pu_ 16 (some 78) (B_ 21 131071) HT_ ?_
 refine pu_ 17 (some 79) (B_ 21 262143) HT_ ?_
 refine one_ (i := 18) (N := none) (B_ 21 524287) rfl rfl (one_of HT_.out kf_) (by decide) (fun K hK => ?_)
 refine skip_ (w1 := ?_) (by rfl) rfl ?_ ?_
 rotate_left
 {
 go_simp
 rfl}
 refine hK.out _ _ ⟨((cell_far (p := ⟨go94, _, none⟩) (fun e_ => (Kd.N_away HX111.out (fun _ hk => hk.2.2.2.2.2.2)) (congrArg some e_)) _).trans (hHeld.1)), ((cell_far (p := ⟨go94, _, none⟩) (fun e_ => (Kd.N_away HX111.out (fun _ hk => hk.2.2.2.2.2.2)) (congrArg some e_)) _).trans (hHeld.2))⟩ (fun hHeld => ?_)
 clear hK K
 refine pu_ 19 (some 80) (B_ 21 1048575) HT_ ?_
 refine one_ (i := 20) (N := none) (B_ 21 2097151) rfl rfl (one_of HT_.out kf_) (by decide) (fun K hK => ?_)
 refine skip_ (w1 := ?_) (by rfl) rfl ?_ ?_
 rotate_left
 {
 go_simp
 rfl}
 refine hK.out _ _ ⟨((cell_far (p := ⟨go94, _, none⟩) (fun e_ => (Kd.N_away HX111.out (fun _ hk => hk.2.2.2.2.2.2)) (congrArg some e_)) _).trans (hHeld.1)), ((cell_far (p := ⟨go94, _, none⟩) (fun e_ => (Kd.N_away HX111.out (fun _ hk => hk.2.2.2.2.2.2)) (congrArg some e_)) _).trans (hHeld.2))⟩ (fun hHeld => ?_)
 clear hK K
 refine done_ (done_of HT_.out kf_) ?_
 have n0_ : Aside0 (Kd.N (Kd.slice 3 (Kd.int .i64)) 22 ((w109.setCell ⟨go94, 0, none⟩ ((.slice Ao8433 t430.length co8433))).setCell ⟨go94, 1, none⟩ ((.slice Ao8435 t431.length co8435))) w.heap.size (fun k_ => (w.heap.size ≤ k_) ∧ some k_ ≠ (.slice (some ⟨go94, 0, none⟩) x390001_1.length co108 : Value).ownBlock ∧ k_ ≠ gb384 ∧ k_ ≠ gb385 ∧ k_ ≠ gb386 ∧ k_ ≠ gb388 ∧ k_ ≠ gb389) (.slice Ao105 x390000_1.length co105) x390000_1) := ⟨by (with_reducible repeat (first | apply Kd.N_alloc | apply Kd.N_drewN | apply Kd.N_drew)); exact Kd.N_mono (Kd.N_far (p := ⟨go94, 1, none⟩) (Kd.N_far (p := ⟨go94, 0, none⟩) (Kd.N_mono HO_390000.out (fun k_ hk => (⟨hk, fun e_ => hk.1.1.2.1 (by rw [e_]; rfl)⟩ : _ ∧ k_ ≠ go94))) (fun _ hk => hk.2) ((.slice Ao8433 t430.length co8433))) (fun _ hk => hk.2) ((.slice Ao8435 t431.length co8435))) (fun _ hk => ⟨hk.1.1.1.1, ⟨hk.1.1.1.2.1, ⟨hk.1.1.1.2.2.1, ⟨hk.1.1.1.2.2.2.1, ⟨hk.1.1.1.2.2.2.2.1, ⟨hk.1.1.1.2.2.2.2.2.1, hk.1.1.1.2.2.2.2.2.2⟩⟩⟩⟩⟩⟩)⟩
 have n1_ : Aside0 (Kd.N (Kd.slice 2 (Kd.int .i64)) 53 ((w109.setCell ⟨go94, 0, none⟩ ((.slice Ao8433 t430.length co8433))).setCell ⟨go94, 1, none⟩ ((.slice Ao8435 t431.length co8435))) w.heap.size (fun k_ => (w.heap.size ≤ k_) ∧ some k_ ≠ (.slice Ao105 x390000_1.length co105 : Value).ownBlock ∧ k_ ≠ gb384 ∧ k_ ≠ gb385 ∧ k_ ≠ gb386 ∧ k_ ≠ gb388 ∧ k_ ≠ gb389) (.slice (some ⟨go94, 0, none⟩) x390001_1.length co108) y438) := ⟨kN_ HQ111⟩
 have n2_ : Aside0 (Kd.V (Kd.int .i64) 2 ((w109.setCell ⟨go94, 0, none⟩ ((.slice Ao8433 t430.length co8433))).setCell ⟨go94, 1, none⟩ ((.slice Ao8435 t431.length co8435))) w.heap.size (fun k_ => (w.heap.size ≤ k_) ∧ some k_ ≠ (.slice Ao105 x390000_1.length co105 : Value).ownBlock ∧ some k_ ≠ (.slice (some ⟨go94, 0, none⟩) x390001_1.length co108 : Value).ownBlock ∧ k_ ≠ gb384 ∧ k_ ≠ gb385 ∧ k_ ≠ gb386 ∧ k_ ≠ gb388 ∧ k_ ≠ gb389) (.slice A428_0 (rd_L2 x390001_1 0).length c428_0) (rd_L2 x390001_1 0)) := ⟨by (with_reducible repeat (first | apply Kd.V_alloc | apply Kd.V_drewN | apply Kd.V_drew)); exact Kd.V_mono (Kd.V_far (p := ⟨go94, 1, none⟩) (Kd.V_far (p := ⟨go94, 0, none⟩) (Kd.V_mono HL428_0.out (fun k_ hk => (⟨hk, fun e_ => hk.1.1.2 (by rw [e_]; rfl)⟩ : _ ∧ k_ ≠ go94))) (fun _ hk => hk.2) ((.slice Ao8433 t430.length co8433))) (fun _ hk => hk.2) ((.slice Ao8435 t431.length co8435))) (fun _ hk => ⟨hk.1.1.1.1.1, ⟨hk.1.1.1.1.2.1, ⟨hk.1.1.1.2, ⟨hk.1.1.1.1.2.2.1, ⟨hk.1.1.1.1.2.2.2.1, ⟨hk.1.1.1.1.2.2.2.2.1, ⟨hk.1.1.1.1.2.2.2.2.2.1, hk.1.1.1.1.2.2.2.2.2.2⟩⟩⟩⟩⟩⟩⟩)⟩
 have n3_ : Aside0 (Kd.V (Kd.int .i64) 2 ((w109.setCell ⟨go94, 0, none⟩ ((.slice Ao8433 t430.length co8433))).setCell ⟨go94, 1, none⟩ ((.slice Ao8435 t431.length co8435))) w.heap.size (fun k_ => (w.heap.size ≤ k_) ∧ some k_ ≠ (.slice Ao105 x390000_1.length co105 : Value).ownBlock ∧ some k_ ≠ (.slice (some ⟨go94, 0, none⟩) x390001_1.length co108 : Value).ownBlock ∧ k_ ≠ gb384 ∧ k_ ≠ gb385 ∧ k_ ≠ gb386 ∧ k_ ≠ gb388 ∧ k_ ≠ gb389) (.slice A429_0 (rd_L2 x390001_1 1).length c429_0) (rd_L2 x390001_1 1)) := ⟨by (with_reducible repeat (first | apply Kd.V_alloc | apply Kd.V_drewN | apply Kd.V_drew)); exact Kd.V_mono (Kd.V_far (p := ⟨go94, 1, none⟩) (Kd.V_far (p := ⟨go94, 0, none⟩) (Kd.V_mono HL429_0.out (fun k_ hk => (⟨hk, fun e_ => hk.1.1.2 (by rw [e_]; rfl)⟩ : _ ∧ k_ ≠ go94))) (fun _ hk => hk.2) ((.slice Ao8433 t430.length co8433))) (fun _ hk => hk.2) ((.slice Ao8435 t431.length co8435))) (fun _ hk => ⟨hk.1.1.1.1.1, ⟨hk.1.1.1.1.2.1, ⟨hk.1.1.1.2, ⟨hk.1.1.1.1.2.2.1, ⟨hk.1.1.1.1.2.2.2.1, ⟨hk.1.1.1.1.2.2.2.2.1, ⟨hk.1.1.1.1.2.2.2.2.2.1, hk.1.1.1.1.2.2.2.2.2.2⟩⟩⟩⟩⟩⟩⟩)⟩
 have n4_ : Aside0 (((w109.setCell ⟨go94, 0, none⟩ ((.slice Ao8433 t430.length co8433))).setCell ⟨go94, 1, none⟩ ((.slice Ao8435 t431.length co8435))).heap[gb384]? = some (.cells #[.int .i64 a0_0, .int .i64 a0_1, .slice A0_2 l0_2.length c0_2, .slice A0_3 l0_3.length c0_3] 24 (0, 0))) := ⟨by (with_reducible repeat (first | refine blk_drewN ?_ _ | refine blk_drew ?_ | refine blk_alloc ?_ _)); refine blk_far ?_ (by have h_ := Kd.N_away HX111.out (fun _ hk => hk.2.2.1); intro e_; exact h_ (by rw [e_]; rfl)) _; (with_reducible repeat (first | refine blk_drewN ?_ _ | refine blk_drew ?_ | refine blk_alloc ?_ _)); refine blk_far ?_ (by have h_ := Kd.N_away HX111.out (fun _ hk => hk.2.2.1); intro e_; exact h_ (by rw [e_]; rfl)) _; (with_reducible repeat (first | refine blk_drewN ?_ _ | refine blk_drew ?_ | refine blk_alloc ?_ _)); exact BK384.out⟩
 have n5_ : Aside0 (((w109.setCell ⟨go94, 0, none⟩ ((.slice Ao8433 t430.length co8433))).setCell ⟨go94, 1, none⟩ ((.slice Ao8435 t431.length co8435))).heap[gb385]? = some (.cells #[.slice A1_0 l1_0.length c1_0] 37 (0, 0))) := ⟨by (with_reducible repeat (first | refine blk_drewN ?_ _ | refine blk_drew ?_ | refine blk_alloc ?_ _)); refine blk_far ?_ (by have h_ := Kd.N_away HX111.out (fun _ hk => hk.2.2.2.1); intro e_; exact h_ (by rw [e_]; rfl)) _; (with_reducible repeat (first | refine blk_drewN ?_ _ | refine blk_drew ?_ | refine blk_alloc ?_ _)); refine blk_far ?_ (by have h_ := Kd.N_away HX111.out (fun _ hk => hk.2.2.2.1); intro e_; exact h_ (by rw [e_]; rfl)) _; (with_reducible repeat (first | refine blk_drewN ?_ _ | refine blk_drew ?_ | refine blk_alloc ?_ _)); exact BK385.out⟩
 have n6_ : Aside0 (((w109.setCell ⟨go94, 0, none⟩ ((.slice Ao8433 t430.length co8433))).setCell ⟨go94, 1, none⟩ ((.slice Ao8435 t431.length co8435))).heap[gb386]? = some (.cells #[.slice none 0 0, .slice none 0 0] 28 (0, 0))) := ⟨by (with_reducible repeat (first | refine blk_drewN ?_ _ | refine blk_drew ?_ | refine blk_alloc ?_ _)); refine blk_far ?_ (by have h_ := Kd.N_away HX111.out (fun _ hk => hk.2.2.2.2.1); intro e_; exact h_ (by rw [e_]; rfl)) _; (with_reducible repeat (first | refine blk_drewN ?_ _ | refine blk_drew ?_ | refine blk_alloc ?_ _)); refine blk_far ?_ (by have h_ := Kd.N_away HX111.out (fun _ hk => hk.2.2.2.2.1); intro e_; exact h_ (by rw [e_]; rfl)) _; (with_reducible repeat (first | refine blk_drewN ?_ _ | refine blk_drew ?_ | refine blk_alloc ?_ _)); exact BK386.out⟩
 have n7_ : Aside0 (((w109.setCell ⟨go94, 0, none⟩ ((.slice Ao8433 t430.length co8433))).setCell ⟨go94, 1, none⟩ ((.slice Ao8435 t431.length co8435))).heap[gb388]? = some (.cells #[.int .i64 a0_0, .int .i64 a0_1, .slice A0_2 l0_2.length c0_2, .slice A0_3 l0_3.length c0_3] 61 (0, 0))) := ⟨by (with_reducible repeat (first | refine blk_drewN ?_ _ | refine blk_drew ?_ | refine blk_alloc ?_ _)); refine blk_far ?_ (by have h_ := Kd.N_away HX111.out (fun _ hk => hk.2.2.2.2.2.1); intro e_; exact h_ (by rw [e_]; rfl)) _; (with_reducible repeat (first | refine blk_drewN ?_ _ | refine blk_drew ?_ | refine blk_alloc ?_ _)); refine blk_far ?_ (by have h_ := Kd.N_away HX111.out (fun _ hk => hk.2.2.2.2.2.1); intro e_; exact h_ (by rw [e_]; rfl)) _; (with_reducible repeat (first | refine blk_drewN ?_ _ | refine blk_drew ?_ | refine blk_alloc ?_ _)); exact BK388.out⟩
 have n8_ : Aside0 (((w109.setCell ⟨go94, 0, none⟩ ((.slice Ao8433 t430.length co8433))).setCell ⟨go94, 1, none⟩ ((.slice Ao8435 t431.length co8435))).heap[gb389]? = some (.cells #[.slice Ao105 x390000_1.length co105, .slice (some ⟨go94, 0, none⟩) x390001_1.length co108] 28 (0, 0))) := ⟨by (with_reducible repeat (first | refine blk_drewN ?_ _ | refine blk_drew ?_ | refine blk_alloc ?_ _)); refine blk_far ?_ (by have h_ := Kd.N_away HX111.out (fun _ hk => hk.2.2.2.2.2.2); intro e_; exact h_ (by rw [e_]; rfl)) _; (with_reducible repeat (first | refine blk_drewN ?_ _ | refine blk_drew ?_ | refine blk_alloc ?_ _)); refine blk_far ?_ (by have h_ := Kd.N_away HX111.out (fun _ hk => hk.2.2.2.2.2.2); intro e_; exact h_ (by rw [e_]; rfl)) _; (with_reducible repeat (first | refine blk_drewN ?_ _ | refine blk_drew ?_ | refine blk_alloc ?_ _)); exact BK389.out⟩
 have n9_ : Aside0 (Below w.heap.size w ((w109.setCell ⟨go94, 0, none⟩ ((.slice Ao8433 t430.length co8433))).setCell ⟨go94, 1, none⟩ ((.slice Ao8435 t431.length co8435)))) := ⟨by repeat (first | (with_reducible first | exact HB.out | apply below_alloc | apply pw_below_drewN | apply below_drew1 | refine below_set ?_ GB94.out | refine below_set ?_ GB94.out | refine below_set ?_ GE384.out | refine below_set ?_ GE385.out | refine below_set ?_ GE386.out | refine below_set ?_ GE388.out | refine below_set ?_ GE389.out) | exact HB.out)⟩
 (try clear HO_390000)
 (try clear HO_390001)
 (try clear HL428_0)
 (try clear HL429_0)
 (try clear BK384)
 (try clear BK385)
 (try clear BK386)
 (try clear BK388)
 (try clear BK389)
 (try clear HB)
 generalize ((w109.setCell ⟨go94, 0, none⟩ ((.slice Ao8433 t430.length co8433))).setCell ⟨go94, 1, none⟩ ((.slice Ao8435 t431.length co8435))) = w112 at n0_ n1_ n2_ n3_ n4_ n5_ n6_ n7_ n8_ n9_ ⊢
 have HO_390000 := n0_
 have HO_390001 := n1_
 have HL428_0 := n2_
 have HL429_0 := n3_
 have BK384 := n4_
 have BK385 := n5_
 have BK386 := n6_
 have BK388 := n7_
 have BK389 := n8_
 have HB := n9_
 clear n0_ n1_ n2_ n3_ n4_ n5_ n6_ n7_ n8_ n9_
 obtain ⟨hcz113_0, hcz113_1, hfz113_0, hfz113_1⟩ := e2_ BK389
 have hnb114 := NB386_384.out
 have hnc114 := NB384_386.out
 have hnb115 := NB386_385.out
 have hnc115 := NB385_386.out
 obtain ⟨hcz116_0, hcz116_1, hfz116_0, hfz116_1⟩ := e2_ BK386
 try go_wp2
 refine bodyPost_ret (results_ct rfl _ _ gb386 28 #[.slice Ao105 x390000_1.length co105, .slice (some ⟨go94, 0, none⟩) x390001_1.length co108] (0, 0) _ rfl (bp_ BK386) Try.underlying28 rfl kf_) rfl ?_
 exact ⟨_, _, by first | rfl | (simp [errW_none, errW_some] <;> rfl) | (simp [*, errW_none, errW_some] <;> rfl), by (with_reducible repeat (first | apply Kd.N_alloc | apply Kd.N_drewN | apply Kd.N_drew)); exact Kd.N_mono (Kd.N_far (p := ⟨gb386, 1, none⟩) (Kd.N_far (p := ⟨gb386, 0, none⟩) (Kd.N_mono HO_390000.out (fun k_ hk => (⟨hk, hk.2.2.2.2.1⟩ : _ ∧ k_ ≠ gb386))) (fun _ hk => hk.2) (.slice Ao105 x390000_1.length co105)) (fun _ hk => hk.2) (.slice (some ⟨go94, 0, none⟩) x390001_1.length co108)) (fun _ hk => ⟨hk.1.1, hk.1.2.1⟩), by (with_reducible repeat (first | apply Kd.N_alloc | apply Kd.N_drewN | apply Kd.N_drew)); exact Kd.N_mono (Kd.N_far (p := ⟨gb386, 1, none⟩) (Kd.N_far (p := ⟨gb386, 0, none⟩) (Kd.N_mono HO_390001.out (fun k_ hk => (⟨hk, hk.2.2.2.2.1⟩ : _ ∧ k_ ≠ gb386))) (fun _ hk => hk.2) (.slice Ao105 x390000_1.length co105)) (fun _ hk => hk.2) (.slice (some ⟨go94, 0, none⟩) x390001_1.length co108)) (fun _ hk => ⟨hk.1.1, hk.1.2.1⟩), bl_ HB⟩}
 {
 rw [if_neg c92] at H
 exact absurd H (by simp)}}
 {
 rw [if_neg c91] at H
 exact absurd H (by simp)}}
 {
 replace c90 := Bool.eq_false_iff.mpr c90
 subst c90
 rw [if_neg (show ¬ (false = true) by decide)] at H
 simp only [Option.some.injEq, Prod.mk.injEq] at H
 obtain ⟨rfl, rfl, rfl⟩ := H
 have hnb117 := NB388_384.out
 have hnc117 := NB384_388.out
 have hnb118 := NB388_385.out
 have hnc118 := NB385_388.out
 have hnb119 := NB388_386.out
 have hnc119 := NB386_388.out
 have hnb120 := NB388_389.out
 have hnc120 := NB389_388.out
 obtain ⟨hcz121_0, hcz121_1, hcz121_2, hcz121_3, hfz121_0, hfz121_1, hfz121_2, hfz121_3⟩ := e4_ BK388
 have hnb122 := NB389_384.out
 have hnc122 := NB384_389.out
 have hnb123 := NB389_385.out
 have hnc123 := NB385_389.out
 have hnb124 := NB389_386.out
 have hnc124 := NB386_389.out
 obtain ⟨hcz125_0, hcz125_1, hfz125_0, hfz125_1⟩ := e2_ BK389
 obtain ⟨Ao126, co126, eo126⟩ := Kd.N_slice HO_390000.out
 subst eo126
 go_wp2_with (first | ((with_reducible refine gate_callee (f := 32) rfl ?_); refine gL_ (some 61) Try.func32 #[.agg #[.int .i64 a0_0, .int .i64 a0_1, .slice A0_2 l0_2.length c0_2, .slice A0_3 l0_3.length c0_3], .slice Ao126 x390000_1.length co126] ?_; (with_reducible refine (vcodec_codec_both.calls a0_0 a0_1 _ _ l0_2 _ _ l0_3 _ _ x390000_1 false _ ?side1 ?side2 ?side3 ?side4 ?side5 ?side6 A89.out).mono ?_); (case side1 => exact kC_ HR0_2 HB); (case side2 => exact HC0_2.out); (case side3 => exact kC_ HR0_3 HB); (case side4 => exact HC0_3.out); (case side5 => repeat (first | exact (Kd.N_reads' HO_390000.out).2.2 | (with_reducible refine Kd.C_alloc ?_ _) | (with_reducible refine Kd.C_drewN ?_ _) | (with_reducible refine Kd.C_drew ?_))); (case side6 => exact (Kd.N_reads' HO_390000.out).2.1); rintro e w127 ⟨rfl, hb⟩; refine ⟨_, rfl, ?_⟩; replace HO_390000 := FN_ HO_390000 hb; replace HO_390001 := FN_ HO_390001 hb; replace BK384 := FB_ BK384 hb; replace BK385 := FB_ BK385 hb; replace BK386 := FB_ BK386 hb; replace BK388 := FB_ BK388 hb; replace BK389 := FB_ BK389 hb; replace HB := BS_ HB hb; (try clear hb); obtain ⟨hcz128_0, hcz128_1, hfz128_0, hfz128_1⟩ := e2_ BK389; have hnb129 := NB386_384.out; have hnc129 := NB384_386.out; have hnb130 := NB386_385.out; have hnc130 := NB385_386.out; obtain ⟨hcz131_0, hcz131_1, hfz131_0, hfz131_1⟩ := e2_ BK386; obtain ⟨Ao132, co132, eo132⟩ := Kd.N_slice HO_390001.out; subst eo132))
 refine bodyPost_ret (results_ct rfl _ _ gb386 28 #[.slice Ao126 x390000_1.length co126, .slice Ao132 x390001_1.length co132] (0, 0) _ rfl (bp_ BK386) Try.underlying28 rfl kf_) rfl ?_
 exact ⟨_, _, by first | rfl | (simp [errW_none, errW_some] <;> rfl) | (simp [*, errW_none, errW_some] <;> rfl), by (with_reducible repeat (first | apply Kd.N_alloc | apply Kd.N_drewN | apply Kd.N_drew)); exact Kd.N_mono (Kd.N_far (p := ⟨gb386, 1, none⟩) (Kd.N_far (p := ⟨gb386, 0, none⟩) (Kd.N_mono HO_390000.out (fun k_ hk => (⟨hk, hk.2.2.2.2.1⟩ : _ ∧ k_ ≠ gb386))) (fun _ hk => hk.2) (.slice Ao126 x390000_1.length co126)) (fun _ hk => hk.2) (.slice Ao132 x390001_1.length co132)) (fun _ hk => ⟨hk.1.1, hk.1.2.1⟩), by (with_reducible repeat (first | apply Kd.N_alloc | apply Kd.N_drewN | apply Kd.N_drew)); exact Kd.N_mono (Kd.N_far (p := ⟨gb386, 1, none⟩) (Kd.N_far (p := ⟨gb386, 0, none⟩) (Kd.N_mono HO_390001.out (fun k_ hk => (⟨hk, hk.2.2.2.2.1⟩ : _ ∧ k_ ≠ gb386))) (fun _ hk => hk.2) (.slice Ao126 x390000_1.length co126)) (fun _ hk => hk.2) (.slice Ao132 x390001_1.length co132)) (fun _ hk => ⟨hk.1.1, hk.1.2.1⟩), bl_ HB⟩}}))}
 {
 replace c4 := Bool.eq_false_iff.mpr c4
 subst c4
 rw [if_neg (show ¬ (false = true) by decide)] at H
 simp only [Option.some.injEq, Prod.mk.injEq] at H
 obtain ⟨rfl, rfl, rfl⟩ := H
 go_enter Try.func15, Try.ntmps15
 go_wp2_with (first | ((with_reducible refine gate_dst (N := 2) rfl ?_); refine bx_ HB 2 #[.int .i64 a0_0, .int .i64 a0_1, .slice A0_2 l0_2.length c0_2, .slice A0_3 l0_3.length c0_3] 24 ?_; clear HB; intro gb384 hg w133 hb BK384 GE384 HB; have GW384 := GE384; clear hb hg) | ((with_reducible refine gate_dst (N := 3) rfl ?_); refine bx_ HB 3 #[.slice A1_0 l1_0.length c1_0] 37 ?_; clear HB; intro gb385 hg w134 hb BK385 GE385 HB; have GW385 := GE385; obtain ⟨NB384_385, NB385_384⟩ := NN_ BK384 hg; replace BK384 := FB_ BK384 hb; clear hb hg) | ((with_reducible refine gate_dst (N := 4) rfl ?_); refine bx_ HB 4 #[.slice none 0 0, .slice none 0 0] 28 ?_; clear HB; intro gb386 hg w135 hb BK386 GE386 HB; have GW386 := GE386; obtain ⟨NB384_386, NB386_384⟩ := NN_ BK384 hg; replace BK384 := FB_ BK384 hb; obtain ⟨NB385_386, NB386_385⟩ := NN_ BK385 hg; replace BK385 := FB_ BK385 hb; clear hb hg; have hnb136 := NB384_385.out; have hnc136 := NB385_384.out; have hnb137 := NB384_386.out; have hnc137 := NB386_384.out; obtain ⟨hcz138_0, hcz138_1, hcz138_2, hcz138_3, hfz138_0, hfz138_1, hfz138_2, hfz138_3⟩ := e4_ BK384; have hnb139 := NB385_386.out; have hnc139 := NB386_385.out; obtain ⟨hcz140_0, hfz140_0⟩ := e1_ BK385) | ((with_reducible refine gate_callee (f := 16) rfl ?_); refine gL_ (some 17) Try.func16 #[.agg #[.int .i64 a0_0, .int .i64 a0_1, .slice A0_2 l0_2.length c0_2, .slice A0_3 l0_3.length c0_3], .agg #[.slice A1_0 l1_0.length c1_0]] ?_; (with_reducible refine (vcodec_Right.calls k a0_0 a0_1 _ _ l0_2 _ _ l0_3 _ _ l1_0 false _ ?side1 ?side2 ?side3 ?side4 ?side5 ?side6 A3.out).mono ?_); (case side1 => exact kC_ HR0_2 HB); (case side2 => exact HC0_2.out); (case side3 => exact kC_ HR0_3 HB); (case side4 => exact HC0_3.out); (case side5 => exact kC_ HR1_0 HB); (case side6 => exact HC1_0.out); rintro e w141 ⟨rfl, hb⟩; refine ⟨_, rfl, ?_⟩; replace BK384 := FB_ BK384 hb; replace BK385 := FB_ BK385 hb; replace BK386 := FB_ BK386 hb; replace HB := BS_ HB hb; (try clear hb); obtain ⟨hcz142_0, hcz142_1, hfz142_0, hfz142_1⟩ := e2_ BK386))
 refine bodyPost_ret (results_ct rfl _ _ gb386 28 #[.slice none 0 0, .slice none 0 0] (0, 0) _ rfl (bp_ BK386) Try.underlying28 rfl kf_) rfl ?_
 exact ⟨_, _, by first | rfl | (simp [errW_none, errW_some] <;> rfl) | (simp [*, errW_none, errW_some] <;> rfl), by first | exact Kd.S_nil _ _ _ _ _ | exact Kd.N_nil _ _ _ _ _ | exact Kd.V_nil _ _ _ _ _ | exact Kd.Q_nil _ _ _ _ _ | exact Kd.R_nil _ _ _ _ _, by first | exact Kd.S_nil _ _ _ _ _ | exact Kd.N_nil _ _ _ _ _ | exact Kd.V_nil _ _ _ _ _ | exact Kd.Q_nil _ _ _ _ _ | exact Kd.R_nil _ _ _ _ _, bl_ HB⟩}
mutual
def vhead_Plain.l0 : Nat → Int → Int → Int → List Int → Option (Int × Int × List Int × List Int)
  | 0, _, _, _, _ => none
  | k + 1, x11, x441000, x441001, x441002 => if x11 < 45 then (if x11 < 19 then (if x441002.length < 17592186044416 then (vhead_Plain.l0 k (wrap64 (x11 + 1)) x441000 x441001 (x441002 ++ [5])) else (none)) else (if x441002.length < 17592186044416 then (vhead_Plain.l0 k (wrap64 (x11 + 1)) x441000 x441001 (x441002 ++ [6])) else (none))) else (vhead_Plain.l1 k 0 x441000 x441001 x441002 ([] : List Int))
def vhead_Plain.l1 : Nat → Int → Int → Int → List Int → List Int → Option (Int × Int × List Int × List Int)
  | 0, _, _, _, _, _ => none
  | k + 1, x23, x441000, x441001, x441002, x441003 => if x23 < 16 then (if x441003.length < 17592186044416 then (vhead_Plain.l1 k (wrap64 (x23 + 1)) x441000 x441001 x441002 (x441003 ++ [4])) else (none)) else (some (x441000, x441001, x441002, x441003))
end
def vhead_Plain.f (k : Nat) (a0 : Int) (a1 : Int) : Option (Int × Int × List Int × List Int) := vhead_Plain.l0 k 0 a0 a1 ([] : List Int)
theorem vhead_Plain.mono_l : ∀ k, (∀ y0 y1 y2 y3, LeO (vhead_Plain.l0 k y0 y1 y2 y3) (vhead_Plain.l0 (k + 1) y0 y1 y2 y3)) ∧ (∀ y0 y1 y2 y3 y4, LeO (vhead_Plain.l1 k y0 y1 y2 y3 y4) (vhead_Plain.l1 (k + 1) y0 y1 y2 y3 y4))
  | 0 => ⟨fun _ _ _ _ r h => by simp [vhead_Plain.l0] at h, fun _ _ _ _ _ r h => by simp [vhead_Plain.l1] at h⟩
  | k + 1 => by
    obtain ⟨ih0, ih1⟩ := vhead_Plain.mono_l k
    refine ⟨?_, ?_⟩
    all_goals (intros; first | unfold vhead_Plain.l0 | unfold vhead_Plain.l1)
    all_goals with_reducible repeat' first
     | exact ih0 _ _ _ _
     | exact ih1 _ _ _ _ _
     | exact LeO.refl _
     | exact LeO.none _
     | refine LeO.ite ?_ ?_
     | refine LeO.bind ?_ (fun _ => ?_)
theorem vhead_Plain.mono : ∀ a0 a1 k, LeO (vhead_Plain.f k a0 a1) (vhead_Plain.f (k + 1) a0 a1) := by
  intro a0 a1 k
  obtain ⟨ih0, ih1⟩ := vhead_Plain.mono_l k
  unfold vhead_Plain.f
  with_reducible repeat' first
   | exact ih0 _ _ _ _
   | exact ih1 _ _ _ _ _
   | exact LeO.refl _
   | exact LeO.none _
   | refine LeO.ite ?_ ?_
   | refine LeO.bind ?_ (fun _ => ?_)
set_option maxHeartbeats 8000000 in
set_option maxRecDepth 100000 in
theorem vhead_Plain.calls (k : Nat) (a0 : Int) (a1 : Int) (r1 : Int) (r2 : Int) (r3 : List Int) (r4 : List Int) (w : World) (h : vhead_Plain.f k a0 a1 = some (r1, r2, r3, r4)) :
    Calls Try.prog 31 #[.int .i64 a0, .int .i64 a1] w fun e w' => ∃ v2_ v3_ : Value, e = .returned (.agg #[.int .i64 r1, .int .i64 r2, v2_, v3_]) ∧ Kd.R (Kd.int .i64) 3 w' w.heap.size (fun k_ => some k_ ≠ (v3_ : Value).ownBlock) v2_ r3 ∧ Kd.R (Kd.int .i64) 3 w' w.heap.size (fun k_ => some k_ ≠ (v2_ : Value).ownBlock) v3_ r4 ∧ Below w.heap.size w w' := by
 have hu24 := Try.underlying24
 have HB := Aside0.mk (Below.refl w.heap.size w)
 have H : (vhead_Plain.l0 k 0 a0 a1 ([] : List Int)) = some (r1, r2, r3, r4) := h
 clear h
 have H' := Aside0.mk H
 clear H
 go_enter Try.func31, Try.ntmps31
 go_wp2_with (first | ((with_reducible refine gate_dst (N := 4) rfl ?_); refine bx_ HB 4 #[.int .i64 0, .int .i64 0, .slice none 0 0, .slice none 0 0] 24 ?_; clear HB; intro gb439 hg w3 hb BK439 GE439 HB; have GW439 := GE439; clear hb hg) | ((with_reducible refine gate_dst (N := 5) rfl ?_); refine bx_ HB 5 #[.int .i64 0, .int .i64 0, .slice none 0 0, .slice none 0 0] 24 ?_; clear HB; intro gb440 hg w4 hb BK440 GE440 HB; have GW440 := GE440; obtain ⟨NB439_440, NB440_439⟩ := NN_ BK439 hg; replace BK439 := FB_ BK439 hb; clear hb hg; have hnb5 := NB440_439.out; have hnc5 := NB439_440.out; obtain ⟨hcz6_0, hcz6_1, hcz6_2, hcz6_3, hfz6_0, hfz6_1, hfz6_2, hfz6_3⟩ := e4_ BK440))
 go_loopg [11] k (fun kq v11 w' => ∃ (x11_1 : Int) (x441002_1 : List Int) (u441002 : Value), v11 = .int .i64 x11_1 ∧ Aside0 (vhead_Plain.l0 kq x11_1 a0 a1 x441002_1 = some (r1, r2, r3, r4)) ∧ Aside0 (kq ≤ k) ∧ Aside0 (Kd.R (Kd.int .i64) 3 w' w.heap.size (fun _ => True) u441002 x441002_1) ∧ Aside0 (w'.heap[gb439]? = some (.cells #[.int .i64 0, .int .i64 0, (.slice none 0 0), (.slice none 0 0)] 24 (0, 0))) ∧ Aside0 (w'.heap[gb440]? = some (.cells #[.int .i64 a0, .int .i64 a1, u441002, (.slice none 0 0)] 24 (0, 0))) ∧ Aside0 (Below w.heap.size w w'))
 case atStart => exact ⟨(0), (([] : List Int)), (.slice none 0 0), rs_, H', ⟨Nat.le_refl _⟩, ⟨by first | exact Kd.R_nil _ _ _ _ _ | exact Kd.N_nil _ _ _ _ _ | exact Kd.V_nil _ _ _ _ _ | exact Kd.Q_nil _ _ _ _ _ | exact Kd.S_nil _ _ _ _ _⟩, ⟨bk_ BK439⟩, ⟨bp_ BK440⟩, ⟨bl_ HB⟩⟩
 case round => (
 clear H'
 try clear hcz6_0
 try clear hcz6_1
 try clear hcz6_2
 try clear hcz6_3
 try clear hfz6_0
 try clear hfz6_1
 try clear hfz6_2
 try clear hfz6_3
 obtain ⟨x11_1, x441002_1, u441002, rfl, HA, HK1, HO_441002, BK439, BK440, HB⟩ := hrel
 cases gk with
 | zero => exact absurd HA.out (by simp [vhead_Plain.l0])
 | succ k1 => (
 have H := HA.out
 clear HA
 simp only [vhead_Plain.l0] at H
 by_cases c7 : x11_1 < 45
 {
 rw [if_pos c7] at H
 have c7b0 : decide (x11_1 < 45) = true := decide_eq_true c7
 clear c7
 by_cases c8 : x11_1 < 19
 {
 rw [if_pos c8] at H
 have c8b0 : decide (x11_1 < 19) = true := decide_eq_true c8
 clear c8
 by_cases c9 : x441002_1.length < 17592186044416
 {
 rw [if_pos c9] at H
 have LMc9 := Aside0.mk c9
 clear c9
 obtain ⟨y441, hy441⟩ : ∃ y_ : List Int, y_ = (x441002_1 ++ [5]) := ⟨_, rfl⟩
 replace H : (vhead_Plain.l0 k1 (wrap64 (x11_1 + 1)) a0 a1 y441) = some (r1, r2, r3, r4) := by first | (rw [hy441]; with_reducible exact H) | (have H2_ := (Option.bind_some _ _).symm.trans H; rw [hy441]; with_reducible exact H2_) | (have H2_ := (Option.bind_some _ _).symm.trans H; with_reducible exact H2_) | with_reducible exact H | (rw [hy441]; exact H) | exact H
 have Ny441 := Aside0.mk hy441
 clear hy441
 have H' := Aside0.mk H
 clear H
 have hnb10 := NB440_439.out
 have hnc10 := NB439_440.out
 obtain ⟨hcz11_0, hcz11_1, hcz11_2, hcz11_3, hfz11_0, hfz11_1, hfz11_2, hfz11_3⟩ := e4_ BK440
 go_wp2_with (first | ((with_reducible refine gate_builtin (b := .append) (xs := #[.tmp 17, .tmp 19]) rfl ?_); at_builtin; refine Kd.R_append (Kd.int .i64) (w0 := w) w.heap.size rfl (.tmp 17) (.tmp 19) 22 3 (.int .i64 0) 8 rfl Try.underlying22 info3 rfl (by decide) (by omega) u441002 x441002_1 5 [.int .i64 5] (fun _ => True) (fun _ => False) rfl rfl ?aP (fun _ hk => hk.elim) ?aF ?aO ?aB ?aS ?aL ?_; (case aP => exact rfl); (case aB => exact (bl_ HB)); (case aF => exact (fun _ _ => trivial)); (case aO => exact (kR_ HO_441002)); (case aS => exact (bs_ HB)); (case aL => have := LMc9.out; omega); intro v442 w12 ho hb hg hat; rw [← Ny441.out] at ho; replace BK439 := (FG_ BK439 hg (Kd.R_ne HO_441002.out BK439.out (by decide))); replace BK440 := (FG_ BK440 hg (Kd.R_ne HO_441002.out BK440.out (by decide))); replace HB := Aside0.mk (hb); have HO443 := Aside0.mk (ho); clear HO_441002; clear ho hb hg hat; obtain ⟨Ao13, co13, eo13⟩ := Kd.R_slice HO443.out; subst eo13; obtain ⟨hcz14_0, hcz14_1, hcz14_2, hcz14_3, hfz14_0, hfz14_1, hfz14_2, hfz14_3⟩ := e4_ BK440))
 go_roundg k1
 case measure => have := HK1.out; omega
 case rel => exact ⟨(wrap64 (x11_1 + 1)), (y441), (.slice Ao13 y441.length co13), rs_, H', ⟨by have := HK1.out; omega⟩, ⟨by (with_reducible repeat (first | apply Kd.R_alloc | apply Kd.R_drewN | apply Kd.R_drew)); exact Kd.R_mono (Kd.R_far (p := ⟨gb440, 2, none⟩) (Kd.R_types HO443.out BK440.out (by decide)) (fun _ hk => hk.2) (.slice Ao13 y441.length co13)) (fun _ hk => trivial)⟩, ⟨bk_ BK439⟩, ⟨bp_ BK440⟩, ⟨bl_ HB⟩⟩}
 {
 rw [if_neg c9] at H
 exact absurd H (by simp)}}
 {
 rw [if_neg c8] at H
 have c8b0 : decide (x11_1 < 19) = false := decide_eq_false c8
 clear c8
 by_cases c15 : x441002_1.length < 17592186044416
 {
 rw [if_pos c15] at H
 have LMc15 := Aside0.mk c15
 clear c15
 obtain ⟨y444, hy444⟩ : ∃ y_ : List Int, y_ = (x441002_1 ++ [6]) := ⟨_, rfl⟩
 replace H : (vhead_Plain.l0 k1 (wrap64 (x11_1 + 1)) a0 a1 y444) = some (r1, r2, r3, r4) := by first | (rw [hy444]; with_reducible exact H) | (have H2_ := (Option.bind_some _ _).symm.trans H; rw [hy444]; with_reducible exact H2_) | (have H2_ := (Option.bind_some _ _).symm.trans H; with_reducible exact H2_) | with_reducible exact H | (rw [hy444]; exact H) | exact H
 have Ny444 := Aside0.mk hy444
 clear hy444
 have H' := Aside0.mk H
 clear H
 have hnb16 := NB440_439.out
 have hnc16 := NB439_440.out
 obtain ⟨hcz17_0, hcz17_1, hcz17_2, hcz17_3, hfz17_0, hfz17_1, hfz17_2, hfz17_3⟩ := e4_ BK440
 go_wp2_with (first | ((with_reducible refine gate_builtin (b := .append) (xs := #[.tmp 17, .tmp 19]) rfl ?_); at_builtin; refine Kd.R_append (Kd.int .i64) (w0 := w) w.heap.size rfl (.tmp 17) (.tmp 19) 22 3 (.int .i64 0) 8 rfl Try.underlying22 info3 rfl (by decide) (by omega) u441002 x441002_1 6 [.int .i64 6] (fun _ => True) (fun _ => False) rfl rfl ?aP (fun _ hk => hk.elim) ?aF ?aO ?aB ?aS ?aL ?_; (case aP => exact rfl); (case aB => exact (bl_ HB)); (case aF => exact (fun _ _ => trivial)); (case aO => exact (kR_ HO_441002)); (case aS => exact (bs_ HB)); (case aL => have := LMc15.out; omega); intro v445 w18 ho hb hg hat; rw [← Ny444.out] at ho; replace BK439 := (FG_ BK439 hg (Kd.R_ne HO_441002.out BK439.out (by decide))); replace BK440 := (FG_ BK440 hg (Kd.R_ne HO_441002.out BK440.out (by decide))); replace HB := Aside0.mk (hb); have HO446 := Aside0.mk (ho); clear HO_441002; clear ho hb hg hat; obtain ⟨Ao19, co19, eo19⟩ := Kd.R_slice HO446.out; subst eo19; obtain ⟨hcz20_0, hcz20_1, hcz20_2, hcz20_3, hfz20_0, hfz20_1, hfz20_2, hfz20_3⟩ := e4_ BK440))
 go_roundg k1
 case measure => have := HK1.out; omega
 case rel => exact ⟨(wrap64 (x11_1 + 1)), (y444), (.slice Ao19 y444.length co19), rs_, H', ⟨by have := HK1.out; omega⟩, ⟨by (with_reducible repeat (first | apply Kd.R_alloc | apply Kd.R_drewN | apply Kd.R_drew)); exact Kd.R_mono (Kd.R_far (p := ⟨gb440, 2, none⟩) (Kd.R_types HO446.out BK440.out (by decide)) (fun _ hk => hk.2) (.slice Ao19 y444.length co19)) (fun _ hk => trivial)⟩, ⟨bk_ BK439⟩, ⟨bp_ BK440⟩, ⟨bl_ HB⟩⟩}
 {
 rw [if_neg c15] at H
 exact absurd H (by simp)}}}
 {
 rw [if_neg c7] at H
 have c7b0 : decide (x11_1 < 45) = false := decide_eq_false c7
 clear c7
 have H' := Aside0.mk H
 clear H
 go_wp2
 go_loopg [23] k1 (fun kq v23 w' => ∃ (x23_2 : Int) (x441003_2 : List Int) (u441003 : Value), v23 = .int .i64 x23_2 ∧ Aside0 (vhead_Plain.l1 kq x23_2 a0 a1 x441002_1 x441003_2 = some (r1, r2, r3, r4)) ∧ Aside0 (kq ≤ k1) ∧ Aside0 (Kd.R (Kd.int .i64) 3 w' w.heap.size (fun k_ => some k_ ≠ (u441003 : Value).ownBlock) u441002 x441002_1) ∧ Aside0 (Kd.R (Kd.int .i64) 3 w' w.heap.size (fun k_ => some k_ ≠ (u441002 : Value).ownBlock) u441003 x441003_2) ∧ Aside0 (w'.heap[gb439]? = some (.cells #[.int .i64 0, .int .i64 0, (.slice none 0 0), (.slice none 0 0)] 24 (0, 0))) ∧ Aside0 (w'.heap[gb440]? = some (.cells #[.int .i64 a0, .int .i64 a1, u441002, u441003] 24 (0, 0))) ∧ Aside0 (Below w.heap.size w w'))
 case atStart => exact ⟨(0), (([] : List Int)), (.slice none 0 0), rs_, H', ⟨Nat.le_refl _⟩, ⟨by (with_reducible repeat (first | apply Kd.R_alloc | apply Kd.R_drewN | apply Kd.R_drew)); exact Kd.R_mono HO_441002.out (fun _ hk => (by simp [Value.ownBlock]))⟩, ⟨by first | exact Kd.R_nil _ _ _ _ _ | exact Kd.N_nil _ _ _ _ _ | exact Kd.V_nil _ _ _ _ _ | exact Kd.Q_nil _ _ _ _ _ | exact Kd.S_nil _ _ _ _ _⟩, ⟨bk_ BK439⟩, ⟨bk_ BK440⟩, ⟨bl_ HB⟩⟩
 case round => (
 clear H'
 try clear c7
 try clear c7b0
 try clear hcz6_0
 try clear hcz6_1
 try clear hcz6_2
 try clear hcz6_3
 try clear hfz6_0
 try clear hfz6_1
 try clear hfz6_2
 try clear hfz6_3
 obtain ⟨x23_2, x441003_2, u441003, rfl, HA, HK2, HO_441002, HO_441003, BK439, BK440, HB⟩ := hrel
 cases gk with
 | zero => exact absurd HA.out (by simp [vhead_Plain.l1])
 | succ k2 => (
 have H := HA.out
 clear HA
 simp only [vhead_Plain.l1] at H
 by_cases c21 : x23_2 < 16
 {
 rw [if_pos c21] at H
 have c21b0 : decide (x23_2 < 16) = true := decide_eq_true c21
 clear c21
 by_cases c22 : x441003_2.length < 17592186044416
 {
 rw [if_pos c22] at H
 have LMc22 := Aside0.mk c22
 clear c22
 obtain ⟨y447, hy447⟩ : ∃ y_ : List Int, y_ = (x441003_2 ++ [4]) := ⟨_, rfl⟩
 replace H : (vhead_Plain.l1 k2 (wrap64 (x23_2 + 1)) a0 a1 x441002_1 y447) = some (r1, r2, r3, r4) := by first | (rw [hy447]; with_reducible exact H) | (have H2_ := (Option.bind_some _ _).symm.trans H; rw [hy447]; with_reducible exact H2_) | (have H2_ := (Option.bind_some _ _).symm.trans H; with_reducible exact H2_) | with_reducible exact H | (rw [hy447]; exact H) | exact H
 have Ny447 := Aside0.mk hy447
 clear hy447
 have H' := Aside0.mk H
 clear H
 have hnb23 := NB440_439.out
 have hnc23 := NB439_440.out
 obtain ⟨hcz24_0, hcz24_1, hcz24_2, hcz24_3, hfz24_0, hfz24_1, hfz24_2, hfz24_3⟩ := e4_ BK440
 go_wp2_with (first | ((with_reducible refine gate_builtin (b := .append) (xs := #[.tmp 26, .tmp 27]) rfl ?_); at_builtin; refine Kd.R_append (Kd.int .i64) (w0 := w) w.heap.size rfl (.tmp 26) (.tmp 27) 22 3 (.int .i64 0) 8 rfl Try.underlying22 info3 rfl (by decide) (by omega) u441003 x441003_2 4 [.int .i64 4] (fun k_ => some k_ ≠ (u441002 : Value).ownBlock) (fun _ => False) rfl rfl ?aP (fun _ hk => hk.elim) ?aF ?aO ?aB ?aS ?aL ?_; (case aP => exact rfl); (case aB => exact (bl_ HB)); (case aF => exact (fun k_ hk => Kd.fresh' (Kd.R_lt (kR_ HO_441002)) k_ hk)); (case aO => exact (kR_ HO_441003)); (case aS => exact (bs_ HB)); (case aL => have := LMc22.out; omega); intro v448 w25 ho hb hg hat; rw [← Ny447.out] at ho; replace HO_441002 := Aside0.mk (Kd.R_after (ok := (fun _ => True)) (by (with_reducible repeat (first | apply Kd.R_alloc | apply Kd.R_drewN | apply Kd.R_drew)); exact Kd.R_mono HO_441002.out (fun _ hk => ⟨trivial, hk⟩)) hg hat); replace BK439 := (FG_ BK439 hg (Kd.R_ne HO_441003.out BK439.out (by decide))); replace BK440 := (FG_ BK440 hg (Kd.R_ne HO_441003.out BK440.out (by decide))); replace HB := Aside0.mk (hb); have HO449 := Aside0.mk (ho); clear HO_441003; clear ho hb hg hat; obtain ⟨Ao26, co26, eo26⟩ := Kd.R_slice HO449.out; subst eo26; obtain ⟨hcz27_0, hcz27_1, hcz27_2, hcz27_3, hfz27_0, hfz27_1, hfz27_2, hfz27_3⟩ := e4_ BK440))
 go_roundg k2
 case measure => have := HK1.out; have := HK2.out; omega
 case rel => exact ⟨(wrap64 (x23_2 + 1)), (y447), (.slice Ao26 y447.length co26), rs_, H', ⟨by have := HK1.out; have := HK2.out; omega⟩, ⟨by (with_reducible repeat (first | apply Kd.R_alloc | apply Kd.R_drewN | apply Kd.R_drew)); exact Kd.R_mono (Kd.R_far (p := ⟨gb440, 3, none⟩) (Kd.R_types HO_441002.out BK440.out (by decide)) (fun _ hk => hk.2) (.slice Ao26 y447.length co26)) (fun _ hk => hk.1.2)⟩, ⟨kRk_ HO449 BK440⟩, ⟨bk_ BK439⟩, ⟨bp_ BK440⟩, ⟨bl_ HB⟩⟩}
 {
 rw [if_neg c22] at H
 exact absurd H (by simp)}}
 {
 rw [if_neg c21] at H
 have c21b0 : decide (x23_2 < 16) = false := decide_eq_false c21
 clear c21
 simp only [Option.some.injEq, Prod.mk.injEq] at H
 obtain ⟨rfl, rfl, rfl, rfl⟩ := H
 have hnb28 := NB440_439.out
 have hnc28 := NB439_440.out
 obtain ⟨hcz29_0, hcz29_1, hcz29_2, hcz29_3, hfz29_0, hfz29_1, hfz29_2, hfz29_3⟩ := e4_ BK440
 obtain ⟨hcz30_0, hcz30_1, hcz30_2, hcz30_3, hfz30_0, hfz30_1, hfz30_2, hfz30_3⟩ := e4_ BK439
 obtain ⟨Ao31, co31, eo31⟩ := Kd.R_slice HO_441002.out
 subst eo31
 obtain ⟨Ao32, co32, eo32⟩ := Kd.R_slice HO_441003.out
 subst eo32
 go_wp2
 refine bodyPost_ret (results_cell_row rfl _ _ gb439 24 #[.int .i64 a0, .int .i64 a1, .slice Ao31 x441002_1.length co31, .slice Ao32 x441003_2.length co32] (0, 0) _ rfl (bp_ BK439) Try.underlying24 rfl kf_) rfl ?_
 exact ⟨_, _, by first | rfl | (simp [errW_none, errW_some] <;> rfl) | (simp [*, errW_none, errW_some] <;> rfl), by (with_reducible repeat (first | apply Kd.R_alloc | apply Kd.R_drewN | apply Kd.R_drew)); exact Kd.R_mono (Kd.R_far (p := ⟨gb439, 3, none⟩) (Kd.R_far (p := ⟨gb439, 2, none⟩) (Kd.R_far (p := ⟨gb439, 1, none⟩) (Kd.R_far (p := ⟨gb439, 0, none⟩) (Kd.R_types HO_441002.out BK439.out (by decide)) (fun _ hk => hk.2) (.int .i64 a0)) (fun _ hk => hk.2) (.int .i64 a1)) (fun _ hk => hk.2) (.slice Ao31 x441002_1.length co31)) (fun _ hk => hk.2) (.slice Ao32 x441003_2.length co32)) (fun _ hk => hk.1), by (with_reducible repeat (first | apply Kd.R_alloc | apply Kd.R_drewN | apply Kd.R_drew)); exact Kd.R_mono (Kd.R_far (p := ⟨gb439, 3, none⟩) (Kd.R_far (p := ⟨gb439, 2, none⟩) (Kd.R_far (p := ⟨gb439, 1, none⟩) (Kd.R_far (p := ⟨gb439, 0, none⟩) (Kd.R_types HO_441003.out BK439.out (by decide)) (fun _ hk => hk.2) (.int .i64 a0)) (fun _ hk => hk.2) (.int .i64 a1)) (fun _ hk => hk.2) (.slice Ao31 x441002_1.length co31)) (fun _ hk => hk.2) (.slice Ao32 x441003_2.length co32)) (fun _ hk => hk.1), bl_ HB⟩}))}))
end Go.Proofs.Ytdajlfijkbafiaa.P
