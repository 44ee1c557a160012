/- Walks. -/
import Derived.Test.YtpdfdaoohknfoaaQ1
import Derived.Test.YtpdfdaoohknfoaaQ2
import Derived.Test.YtpdfdaoohknfoaaQ3
import Derived.Test.YtpdfdaoohknfoaaPx53
import Derived.Test.YtpdfdaoohknfoaaPx67
namespace Go.Proofs.Ytpdfdaoohknfoaa.P
open Go.RowKit Go.Proofs.YtpdfdaoohknfoaaW.PrintWords Go.Proofs.YtpdfdaoohknfoaaW.PrintLast Go.Proofs.YtpdfdaoohknfoaaW.PrintMore
attribute [local go_sem] max2_int min2_int max_two min_two max_three min_three max_four min_four   -- for this text's walks alone
set_option linter.unusedVariables false
set_option linter.unusedSimpArgs false

def psalterylaw17_BodyAny.j0 : Nat → List Int → Bool → Int → Int → List Int → List Int → Option (Bool)
  | 0, _, _, _, _, _, _ => none
  | k + 1, x1, x17, x881000, x881001, x881002, x881003 => if x17 = true then ((psalterylaw17_knows.f k).bind fun t882 => (some t882)) else ((some (([] : List Int) : List Int)).bind fun y883 => (if y883.length + x1.length < 140737488355328 then ((vpack_Read.f k x881000 x881001 x881002 x881003 (y883 ++ x1)).bind fun bt889 => (if bt889.2.2 = 0 then ((vpack_Write.f k x881000 x881001 x881002 x881003 bt889.1 bt889.2.1).bind fun bt899 => ((vpack_Read.f k x881000 x881001 x881002 x881003 bt899.1).bind fun bt903 => ((vpack_Right.f k x881000 x881001 x881002 x881003 bt889.1 bt889.2.1).bind fun t911 => (if t911 = true then (if bt899.2 = 0 then (if bt903.2.2 = 0 then ((psalterylaw17_As.f bt889.1 bt889.2.1).bind fun _ => ((psalterylaw17_As.f bt903.1 bt903.2.1).bind fun _ => ((psalteryref17_Same.f k bt889.1 bt889.2.1 bt903.1 bt903.2.1).bind fun t912 => (if t912 = true then (if (bt899.1.length : Int) ≤ (x1.length : Int) then ((psalterylaw17_knows.f k).bind fun t913 => (some t913)) else (some false)) else (some false))))) else (some false)) else (some false)) else (some false))))) else ((psalterylaw17_As.f bt889.1 bt889.2.1).bind fun _ => ((psalteryref17_Same.f k bt889.1 bt889.2.1 ([] : List (List Int)) ([] : List (List Int))).bind fun t897 => (if t897 = true then ((psalterylaw17_knows.f k).bind fun t898 => (some t898)) else (some false)))))) else (none)))
def psalterylaw17_BodyAny.f (k : Nat) (a0_0 : Int) (a0_1 : Int) (l0_2 : List Int) (l0_3 : List Int) (l1 : List Int) : Option (Bool) := (psalterylaw16_Great.f a0_0 a0_1 l0_2 l0_3).bind fun t881 => (if t881 = true then (psalterylaw17_BodyAny.j0 k l1 true a0_0 a0_1 l0_2 l0_3) else (psalterylaw17_BodyAny.j0 k l1 (decide ((l1.length : Int) > 1000)) a0_0 a0_1 l0_2 l0_3))
theorem psalterylaw17_BodyAny.mono_l : ∀ k, (∀ y0 y1 y2 y3 y4 y5, LeO (psalterylaw17_BodyAny.j0 k y0 y1 y2 y3 y4 y5) (psalterylaw17_BodyAny.j0 (k + 1) y0 y1 y2 y3 y4 y5))
  | 0 => fun _ _ _ _ _ _ r h => by simp [psalterylaw17_BodyAny.j0] at h
  | k + 1 => by
    have ih0 := psalterylaw17_BodyAny.mono_l k
    · intro y0 y1 y2 y3 y4 y5
      unfold psalterylaw17_BodyAny.j0
      with_reducible repeat' first
   | exact ih0 _ _ _ _ _ _
   | exact psalterylaw17_knows.mono _
   | exact psalteryref17_Same.mono _ _ _ _ _
   | exact vpack_Read.mono _ _ _ _ _ _
   | exact vpack_Right.mono _ _ _ _ _ _ _
   | exact vpack_Write.mono _ _ _ _ _ _ _
   | exact LeO.refl _
   | exact LeO.none _
   | refine LeO.ite ?_ ?_
   | refine LeO.bind ?_ (fun _ => ?_)
theorem psalterylaw17_BodyAny.mono : ∀ a0 a1 a2 a3 a4 k, LeO (psalterylaw17_BodyAny.f k a0 a1 a2 a3 a4) (psalterylaw17_BodyAny.f (k + 1) a0 a1 a2 a3 a4) := by
  intro a0 a1 a2 a3 a4 k
  have ih0 := psalterylaw17_BodyAny.mono_l k
  unfold psalterylaw17_BodyAny.f
  with_reducible repeat' first
   | exact ih0 _ _ _ _ _ _
   | exact psalterylaw17_knows.mono _
   | exact psalteryref17_Same.mono _ _ _ _ _
   | exact vpack_Read.mono _ _ _ _ _ _
   | exact vpack_Right.mono _ _ _ _ _ _ _
   | exact vpack_Write.mono _ _ _ _ _ _ _
   | exact LeO.refl _
   | exact LeO.none _
   | refine LeO.ite ?_ ?_
   | refine LeO.bind ?_ (fun _ => ?_)
def psalterylaw17_BodyAny.T3 : Bool × List (List Nat × List Nat) := (true, [([], []), ([], []), ([], []), ([1, 2], [1, 2]), ([0, 3, 3], [0, 3]), ([4], [4]), ([5], [5]), ([5], [5]), ([], []), ([8, 6, 4, 0, 1, 2, 3, 4, 5, 6, 8], [6, 8]), ([7, 9, 0, 1, 2, 3, 4, 5, 6, 7, 8, 9], [7])])
def psalterylaw17_BodyAny.B3 : List Nat := [0, 0, 0, 6, 15, 31, 63, 63, 0, 383, 1023]
theorem psalterylaw17_BodyAny.tab3 : rtab .any (opsOf Try.f13 3) = psalterylaw17_BodyAny.T3 := by kernel_rfl
theorem psalterylaw17_BodyAny.bits3 : waitsOk psalterylaw17_BodyAny.T3.2 psalterylaw17_BodyAny.B3 = true := by kernel_rfl
def psalterylaw17_BodyAny.T8 : Bool × List (List Nat × List Nat) := (true, [([], []), ([], []), ([0, 1], [0, 1]), ([2, 2], [2]), ([3], [3]), ([4, 3], [3, 4]), ([3, 5], [3, 5]), ([6, 3], [6]), ([7], [7]), ([8, 7], [7, 8]), ([7, 9], [7, 9]), ([10, 7], [10]), ([11], [11]), ([12, 11, 11], [11, 12]), ([11], [11]), ([14, 13, 11], [11, 14]), ([13, 15, 15, 11], [11, 13, 15]), ([11, 16], [11, 16]), ([17, 16], [17]), ([18], [18]), ([19, 18], [18, 19]), ([18], [18]), ([21, 18], [18, 21]), ([20, 22, 18], [18, 20, 22]), ([18, 23], [18, 23]), ([24, 18], [24]), ([25, 25], [25]), ([25, 26], [25, 26]), ([27, 26, 0, 1, 2, 3, 4, 5, 6, 7, 8, 9, 10, 11, 12, 13, 14, 15, 16, 17, 18, 19, 20, 21, 22, 23, 24, 25, 26, 27], [27])])
def psalterylaw17_BodyAny.B8 : List Nat := [0, 0, 3, 7, 15, 31, 63, 127, 255, 511, 1023, 2047, 4095, 8191, 4095, 32767, 65535, 131071, 262143, 524287, 1048575, 524287, 2621439, 8388607, 16777215, 33554431, 67108863, 134217727, 268435455]
theorem psalterylaw17_BodyAny.tab8 : rtab .any (opsOf Try.f13 8) = psalterylaw17_BodyAny.T8 := by kernel_rfl
theorem psalterylaw17_BodyAny.bits8 : waitsOk psalterylaw17_BodyAny.T8.2 psalterylaw17_BodyAny.B8 = true := by kernel_rfl
set_option maxHeartbeats 8000000 in
set_option maxRecDepth 100000 in
theorem psalterylaw17_BodyAny.calls (k : Nat) (a0_0 : Int) (a0_1 : Int) (A0_2 : Option Addr) (c0_2 : Nat) (l0_2 : List Int) (A0_3 : Option Addr) (c0_3 : Nat) (l0_3 : List Int) (A1 : Option Addr) (c1 : Nat) (l1 : List Int) (r : Bool) (w : World) (hr0_2 : Kd.C (Kd.int .i64) w A0_2 l0_2.length l0_2) (hc0_2 : l0_2.length ≤ c0_2) (hr0_3 : Kd.C (Kd.int .i64) w A0_3 l0_3.length l0_3) (hc0_3 : l0_3.length ≤ c0_3) (hr1 : Kd.C (Kd.int .u8) w A1 l1.length l1) (hc1 : l1.length ≤ c1) (h : psalterylaw17_BodyAny.f k a0_0 a0_1 l0_2 l0_3 l1 = some r) (hT : r = true) :
    Calls Try.prog 13 #[.agg #[.int .i64 a0_0, .int .i64 a0_1, .slice A0_2 l0_2.length c0_2, .slice A0_3 l0_3.length c0_3], .slice A1 l1.length c1] w fun e w' => e = .returned (.bool r) ∧ Below w.heap.size w w' := by
 have hu24 := Try.underlying24
 have hu48 := Try.underlying48
 have hu51 := Try.underlying51
 have HR0_2 := Aside0.mk hr0_2
 have HC0_2 := Aside0.mk hc0_2
 clear hr0_2 hc0_2
 have HR0_3 := Aside0.mk hr0_3
 have HC0_3 := Aside0.mk hc0_3
 clear hr0_3 hc0_3
 have HR1 := Aside0.mk hr1
 have HC1 := Aside0.mk hc1
 clear hr1 hc1
 have HB := Aside0.mk (Below.refl w.heap.size w)
 have H : ((psalterylaw16_Great.f a0_0 a0_1 l0_2 l0_3).bind fun t881 => (if t881 = true then (psalterylaw17_BodyAny.j0 k l1 true a0_0 a0_1 l0_2 l0_3) else (psalterylaw17_BodyAny.j0 k l1 (decide ((l1.length : Int) > 1000)) a0_0 a0_1 l0_2 l0_3))) = some r := h
 clear h
 have HT := Aside0.mk hT
 clear hT
 have HC3 := Aside0.mk H
 clear H
 go_enter Try.func13, Try.ntmps13
 go_upto_region 1 with (first | ((with_reducible refine gate_dst (N := 2) rfl ?_); (try (refine gate_guard (by rfl) ?_; dsimp only)); refine bx_ HB 2 #[.int .i64 a0_0, .int .i64 a0_1, .slice A0_2 l0_2.length c0_2, .slice A0_3 l0_3.length c0_3] 24 ?_; clear HB; intro gb880 hg w4 hb BK880 GE880 HB; have GW880 := GE880; clear hb hg))
 (try simp only [Act.put, List.setIfInBounds_toArray, List.set_cons_zero, List.set_cons_succ])
 go_cut [17] (fun v17 wc => ∃ (kq : Nat) (x17_2 : Bool), v17 = .bool x17_2 ∧ Aside0 (psalterylaw17_BodyAny.j0 kq l1 x17_2 a0_0 a0_1 l0_2 l0_3 = some r) ∧ Aside0 (kq ≤ k) ∧ Aside0 (wc.heap[gb880]? = some (.cells #[.int .i64 a0_0, .int .i64 a0_1, (.slice A0_2 l0_2.length c0_2), (.slice A0_3 l0_3.length c0_3)] 24 (0, 0))) ∧ Aside0 (Below w.heap.size w wc))
 case first => (
 have H := HC3.out
 clear HC3
 obtain ⟨t881, A5, H⟩ := ob_ H
 (try dsimp only at H)
 by_cases c6 : t881 = true
 {
 subst c6
 rw [if_pos rfl] at H
 have H' := Aside0.mk H
 clear H
 obtain ⟨hcz7_0, hcz7_1, hcz7_2, hcz7_3, hfz7_0, hfz7_1, hfz7_2, hfz7_3⟩ := e4_ BK880
 go_wp2_with (first | ((with_reducible refine gate_callee (f := 15) rfl ?_); refine gL_ (some 12) Try.func15 #[.agg #[.int .i64 a0_0, .int .i64 a0_1, .slice A0_2 l0_2.length c0_2, .slice A0_3 l0_3.length c0_3]] ?_; (with_reducible refine (psalterylaw16_Great.calls a0_0 a0_1 _ _ l0_2 _ _ l0_3 true _ ?side1 ?side2 ?side3 ?side4 A5.out).mono ?_); (case side1 => exact kC_ HR0_2 HB); (case side2 => exact HC0_2.out); (case side3 => exact kC_ HR0_3 HB); (case side4 => exact HC0_3.out); rintro e w8 ⟨rfl, hb⟩; refine ⟨_, rfl, ?_⟩; replace BK880 := FB_ BK880 hb; replace HB := BS_ HB hb; (try clear hb)))
 go_meet
 case rel => exact ⟨_, (true), rs_, H', ⟨ol_⟩, ⟨bk_ BK880⟩, ⟨bl_ HB⟩⟩}
 {
 replace c6 := Bool.eq_false_iff.mpr c6
 subst c6
 rw [if_neg (show ¬ (false = true) by decide)] at H
 have H' := Aside0.mk H
 clear H
 obtain ⟨hcz9_0, hcz9_1, hcz9_2, hcz9_3, hfz9_0, hfz9_1, hfz9_2, hfz9_3⟩ := e4_ BK880
 go_wp2_with (first | ((with_reducible refine gate_callee (f := 15) rfl ?_); refine gL_ (some 12) Try.func15 #[.agg #[.int .i64 a0_0, .int .i64 a0_1, .slice A0_2 l0_2.length c0_2, .slice A0_3 l0_3.length c0_3]] ?_; (with_reducible refine (psalterylaw16_Great.calls a0_0 a0_1 _ _ l0_2 _ _ l0_3 false _ ?side1 ?side2 ?side3 ?side4 A5.out).mono ?_); (case side1 => exact kC_ HR0_2 HB); (case side2 => exact HC0_2.out); (case side3 => exact kC_ HR0_3 HB); (case side4 => exact HC0_3.out); rintro e w10 ⟨rfl, hb⟩; refine ⟨_, rfl, ?_⟩; replace BK880 := FB_ BK880 hb; replace HB := BS_ HB hb; (try clear hb)))
 go_meet
 case rel => exact ⟨_, (decide ((l1.length : Int) > 1000)), rs_, H', ⟨ol_⟩, ⟨bk_ BK880⟩, ⟨bl_ HB⟩⟩})
 case rest => (
 clear HC3
 obtain ⟨kq, x17_2, rfl, HA, HJ2, BK880, HB⟩ := hcut
 cases kq with
 | zero => exact absurd HA.out (by simp [psalterylaw17_BodyAny.j0])
 | succ kj2 => (
 have H := HA.out
 clear HA
 simp only [psalterylaw17_BodyAny.j0] at H
 by_cases c11 : x17_2 = true
 {
 subst c11
 rw [if_pos rfl] at H
 replace H := Option.bind_eq_some_iff.mp H
 obtain ⟨t882, A120, H⟩ := H
 replace H : (some t882) = some r := H
 have A12 := Aside0.mk A120
 clear A120
 obtain rfl := Option.some.inj H
 go_wp2_with (first | ((with_reducible refine gate_callee (f := 28) rfl ?_); refine gL_ (some 18) Try.func28 #[] ?_; (with_reducible refine (psalterylaw17_knows.calls kj2  t882 _ A12.out).mono ?_); rintro e w13 ⟨rfl, hb⟩; refine ⟨_, rfl, ?_⟩; replace BK880 := FB_ BK880 hb; replace HB := BS_ HB hb; (try clear hb)))
 go_ret
 exact ⟨by first | rfl | (simp [errW_none, errW_some] <;> rfl) | (simp [*, errW_none, errW_some] <;> rfl), bl_ HB⟩}
 {
 replace c11 := Bool.eq_false_iff.mpr c11
 subst c11
 rw [if_neg (show ¬ (false = true) by decide)] at H
 obtain ⟨y883, hy883⟩ : ∃ y_ : List Int, y_ = (([] : List Int)) := ⟨_, rfl⟩
 replace H : (if y883.length + l1.length < 140737488355328 then ((vpack_Read.f kj2 a0_0 a0_1 l0_2 l0_3 (y883 ++ l1)).bind fun bt889 => (if bt889.2.2 = 0 then ((vpack_Write.f kj2 a0_0 a0_1 l0_2 l0_3 bt889.1 bt889.2.1).bind fun bt899 => ((vpack_Read.f kj2 a0_0 a0_1 l0_2 l0_3 bt899.1).bind fun bt903 => ((vpack_Right.f kj2 a0_0 a0_1 l0_2 l0_3 bt889.1 bt889.2.1).bind fun t911 => (if t911 = true then (if bt899.2 = 0 then (if bt903.2.2 = 0 then ((psalterylaw17_As.f bt889.1 bt889.2.1).bind fun _ => ((psalterylaw17_As.f bt903.1 bt903.2.1).bind fun _ => ((psalteryref17_Same.f kj2 bt889.1 bt889.2.1 bt903.1 bt903.2.1).bind fun t912 => (if t912 = true then (if (bt899.1.length : Int) ≤ (l1.length : Int) then ((psalterylaw17_knows.f kj2).bind fun t913 => (some t913)) else (some false)) else (some false))))) else (some false)) else (some false)) else (some false))))) else ((psalterylaw17_As.f bt889.1 bt889.2.1).bind fun _ => ((psalteryref17_Same.f kj2 bt889.1 bt889.2.1 ([] : List (List Int)) ([] : List (List Int))).bind fun t897 => (if t897 = true then ((psalterylaw17_knows.f kj2).bind fun t898 => (some t898)) else (some false)))))) else (none)) = some r := by first | (rw [hy883]; with_reducible exact H) | (have H2_ := (Option.bind_some _ _).symm.trans H; rw [hy883]; with_reducible exact H2_) | (have H2_ := (Option.bind_some _ _).symm.trans H; with_reducible exact H2_) | with_reducible exact H | (rw [hy883]; exact H) | exact H
 have Ny883 := Aside0.mk hy883
 clear hy883
 by_cases c14 : y883.length + l1.length < 140737488355328
 {
 rw [if_pos c14] at H
 have LMc14 := Aside0.mk c14
 clear c14
 obtain ⟨y886, hy886⟩ : ∃ y_ : List Int, y_ = (y883 ++ l1) := ⟨_, rfl⟩
 replace H : ((vpack_Read.f kj2 a0_0 a0_1 l0_2 l0_3 y886).bind fun bt889 => (if bt889.2.2 = 0 then ((vpack_Write.f kj2 a0_0 a0_1 l0_2 l0_3 bt889.1 bt889.2.1).bind fun bt899 => ((vpack_Read.f kj2 a0_0 a0_1 l0_2 l0_3 bt899.1).bind fun bt903 => ((vpack_Right.f kj2 a0_0 a0_1 l0_2 l0_3 bt889.1 bt889.2.1).bind fun t911 => (if t911 = true then (if bt899.2 = 0 then (if bt903.2.2 = 0 then ((psalterylaw17_As.f bt889.1 bt889.2.1).bind fun _ => ((psalterylaw17_As.f bt903.1 bt903.2.1).bind fun _ => ((psalteryref17_Same.f kj2 bt889.1 bt889.2.1 bt903.1 bt903.2.1).bind fun t912 => (if t912 = true then (if (bt899.1.length : Int) ≤ (l1.length : Int) then ((psalterylaw17_knows.f kj2).bind fun t913 => (some t913)) else (some false)) else (some false))))) else (some false)) else (some false)) else (some false))))) else ((psalterylaw17_As.f bt889.1 bt889.2.1).bind fun _ => ((psalteryref17_Same.f kj2 bt889.1 bt889.2.1 ([] : List (List Int)) ([] : List (List Int))).bind fun t897 => (if t897 = true then ((psalterylaw17_knows.f kj2).bind fun t898 => (some t898)) else (some false)))))) = some r := by first | (rw [hy886]; with_reducible exact H) | (have H2_ := (Option.bind_some _ _).symm.trans H; rw [hy886]; with_reducible exact H2_) | (have H2_ := (Option.bind_some _ _).symm.trans H; with_reducible exact H2_) | with_reducible exact H | (rw [hy886]; exact H) | exact H
 have Ny886 := Aside0.mk hy886
 clear hy886
 obtain ⟨⟨t889, t892, t895⟩, A15, H⟩ := ob_ H
 (try dsimp only at H)
 by_cases c16 : t895 = 0
 {
 rw [if_pos c16] at H
 have c16b0 : (t895 == 0) = true := beq_iff_eq.mpr c16
 have c16b1 : (t895 != 0) = false := bne_eq_false_iff_eq.mpr c16
 clear c16
 obtain ⟨⟨t899, t902⟩, A17, H⟩ := ob_ H
 (try dsimp only at H)
 obtain ⟨⟨t903, t906, t909⟩, A18, H⟩ := ob_ H
 (try dsimp only at H)
 obtain ⟨t911, A19, H⟩ := ob_ H
 (try dsimp only at H)
 by_cases c20 : t911 = true
 {
 subst c20
 rw [if_pos rfl] at H
 by_cases c21 : t902 = 0
 {
 rw [if_pos c21] at H
 have c21b0 : (t902 == 0) = true := beq_iff_eq.mpr c21
 have c21b1 : (t902 != 0) = false := bne_eq_false_iff_eq.mpr c21
 clear c21
 by_cases c22 : t909 = 0
 {
 rw [if_pos c22] at H
 have c22b0 : (t909 == 0) = true := beq_iff_eq.mpr c22
 have c22b1 : (t909 != 0) = false := bne_eq_false_iff_eq.mpr c22
 clear c22
 obtain ⟨_, A23, H⟩ := ob_ H
 (try dsimp only at H)
 obtain ⟨_, A24, H⟩ := ob_ H
 (try dsimp only at H)
 obtain ⟨t912, A25, H⟩ := ob_ H
 (try dsimp only at H)
 by_cases c26 : t912 = true
 {
 subst c26
 rw [if_pos rfl] at H
 by_cases c27 : (t899.length : Int) ≤ (l1.length : Int)
 {
 rw [if_pos c27] at H
 have c27b0 : decide ((t899.length : Int) ≤ (l1.length : Int)) = true := decide_eq_true c27
 have c27b1 : decide (t899.length ≤ l1.length) = true := decide_eq_true (Int.ofNat_le.mp c27)
 clear c27
 replace H := Option.bind_eq_some_iff.mp H
 obtain ⟨t913, A280, H⟩ := H
 replace H : (some t913) = some r := H
 have A28 := Aside0.mk A280
 clear A280
 obtain rfl := Option.some.inj H
 try go_wp2
 replace BK880 := Aside0.mk (blk_drew BK880.out)
 replace HB := Aside0.mk (below_drew1 HB.out)
 refine start_ (n := 11) (S := fun w' => w'.cell? ⟨gb880, 0, none⟩ = some (.int .i64 a0_0) ∧ w'.cell? ⟨gb880, 1, none⟩ = some (.int .i64 a0_1) ∧ w'.cell? ⟨gb880, 2, none⟩ = some (.slice A0_2 l0_2.length c0_2) ∧ w'.cell? ⟨gb880, 3, none⟩ = some (.slice A0_3 l0_3.length c0_3)) (ds := []) (B_ 11 0) kf_ rfl rfl ⟨ce_ BK880 0, ce_ BK880 1, ce_ BK880 2, ce_ BK880 3⟩ (fun hHeld => ?_); refine with_tabW psalterylaw17_BodyAny.tab3 psalterylaw17_BodyAny.bits3 (fun HT_ HW_ => ?_)
 generalize wc.drew = w29 at BK880 HB hHeld ⊢
 refine pu_ 2 (some 22) (B_ 11 4) HT_ ?_
 refine take_ (i := 0) (N := some 20) (v := ?_) (a' := ?_) (B_ 11 5) rfl rfl (take_ofW HT_.out HW_.out kf_) (fun _ _ _ h => h) (Or.inl ⟨by rfl, ?_⟩) hHeld ?_ ?_
 rotate_left
 {
 rintro w' ⟨s0, s1, s2, s3⟩
 go_simp
 with_reducible rfl}
 rotate_left
 {
 exact sp_}
 refine join_ (σ := Value × Value × Value × Value × Nat) 2 (B_ 11 511) (fun s_ => [(21, s_.1), (23, s_.2.1), (24, .tuple #[.agg #[s_.2.2.1, s_.2.2.2.1], .int .i64 t895]), (5, .pointer (some ⟨s_.2.2.2.2, 0, none⟩)), (19, .tuple #[.agg #[s_.2.2.1, s_.2.2.2.1], .int .i64 t895]), (25, .agg #[s_.2.2.1, s_.2.2.2.1]), (26, .int .i64 t895)]) (fun s_ w' => (w'.cell? ⟨gb880, 0, none⟩ = some (.int .i64 a0_0) ∧ w'.cell? ⟨gb880, 1, none⟩ = some (.int .i64 a0_1) ∧ w'.cell? ⟨gb880, 2, none⟩ = some (.slice A0_2 l0_2.length c0_2) ∧ w'.cell? ⟨gb880, 3, none⟩ = some (.slice A0_3 l0_3.length c0_3)) ∧ (Kd.R (Kd.int .u8) 5 w' w.heap.size (fun _ => True) s_.2.1 y886) ∧ (Kd.S (Kd.slice 3 (Kd.int .i64)) 22 w' w.heap.size (fun _ => True) s_.2.2.1 t889) ∧ (Kd.S (Kd.slice 2 (Kd.int .i64)) 84 w' w.heap.size (fun _ => True) s_.2.2.2.1 t892) ∧ (w'.heap[gb880]? = some (.cells #[.int .i64 a0_0, .int .i64 a0_1, .slice A0_2 l0_2.length c0_2, .slice A0_3 l0_3.length c0_3] 24 (0, 0))) ∧ (w'.heap[s_.2.2.2.2]? = some (.cells #[.slice none 0 0, .slice none 0 0] 48 (0, 0))) ∧ (w.heap.size ≤ s_.2.2.2.2) ∧ (w.heap.size ≤ s_.2.2.2.2) ∧ (gb880 ≠ s_.2.2.2.2) ∧ (s_.2.2.2.2 ≠ gb880) ∧ (Below w.heap.size w w')) ?_ ?_
 rotate_left
 {
 intro hCont
 refine two_ (i := 1) (j := 8) (Ni := some 21) (Nj := some 5) (B_ 11 7) (B_ 11 261) rfl rfl rfl rfl (two_of HT_.out kf_) (by decide) (by decide) (fun K hK => ?_) (fun K hK => ?_)
 {
 skip
 refine Kd.R_lit_step (Kd.int .u8) _ 5 ?hg (N := 21) ?hd (xs := ([] : List Int)) (inner := []) (ok := fun _ => True) (okp := fun _ => True) ?hr ?hp (fun _ hk => hk) trivial (Below.refl _ _) (Nat.le_refl _) (by simp) ?_; (case hd => rfl); (case hg => rfl); (case hr => first | (go_simp; done) | (go_simp; rfl)); (case hp => exact (Reps.none _ _))
 intro v884 w30 ho31 hb hg_ hnew_
 clear hg_ hnew_
 (first | rw [← Ny883.out] at ho31 | (simp only [Int.reduceToNat] at ho31; rw [← Ny883.out] at ho31))
 have HO885 := Aside0.mk (Kd.R_lower ho31 (bs_ HB))
 replace BK880 := FB_ BK880 hb
 replace HB := BS_ HB hb
 clear hb ho31
 refine hK.out _ _ ⟨ce_ BK880 0, ce_ BK880 1, ce_ BK880 2, ce_ BK880 3⟩ (fun hHeld => ?_)
 clear hK K
 refine norm_ (a' := ?_) ?_ ?_
 rotate_left
 {
 show Act.put _ (some 21) _ = _
 exact sp_}
 refine two_ (i := 3) (j := 8) (Ni := some 23) (Nj := some 5) (B_ 11 15) (B_ 11 263) rfl rfl rfl rfl (two_of HT_.out kf_) (by decide) (by decide) (fun K hK => ?_) (fun K hK => ?_)
 {
 skip
 refine Kd.R_append_rows_step (Kd.int .u8) (w0 := w) w.heap.size (by rfl) (.tmp 21) (.tmp 22) 34 5 (.int .u8 0) 1 rfl Try.underlying34 info5 rfl (by decide) (by omega) v884 y883 l1 _ _ _ (fun _ => True) (fun _ => False) rfl rfl ?aO ?aR (fun _ _ h => h) (fun _ h => h.elim) ?aF ?aB ?aS ?aL ?_
 (case aR => exact kC_ HR1 HB)
 (case aB => exact (bl_ HB))
 (case aF => exact (fun _ _ => trivial))
 (case aO => exact (kR_ HO885))
 (case aS => exact (bs_ HB))
 (case aL => have := LMc14.out; omega)
 intro v887 w32 ho hb hg hat
 rw [← Ny886.out] at ho
 replace BK880 := (FG_ BK880 hg (Kd.R_ne HO885.out BK880.out (by decide)))
 replace HB := Aside0.mk (hb)
 have HO888 := Aside0.mk (ho)
 clear HO885
 clear ho hb hg hat
 obtain ⟨Ao33, co33, eo33⟩ := Kd.R_slice HO888.out
 (first | subst eo33 | (injection eo33 with f1_ f2_ f3_; have f4_ := f1_.symm; have f5_ := f3_.symm; clear f1_ f2_ f3_; subst f4_; subst f5_))
 refine hK.out _ _ ⟨ce_ BK880 0, ce_ BK880 1, ce_ BK880 2, ce_ BK880 3⟩ (fun hHeld => ?_)
 clear hK K
 refine norm_ (a' := ?_) ?_ ?_
 rotate_left
 {
 show Act.put _ (some 23) _ = _
 exact sp_}
 refine two_ (i := 4) (j := 8) (Ni := some 24) (Nj := some 5) (B_ 11 31) (B_ 11 271) rfl rfl rfl rfl (two_of HT_.out kf_) (by decide) (by decide) (fun K hK => ?_) (fun K hK => ?_)
 {
 skip
 refine goes_ Try.func34 kf_ rfl #[.agg #[.int .i64 a0_0, .int .i64 a0_1, .slice A0_2 l0_2.length c0_2, .slice A0_3 l0_3.length c0_3], .slice Ao33 y886.length co33] (by rfl) rfl rfl ar_ ?_
 with_reducible refine (vpack_Read.calls kj2 a0_0 a0_1 _ _ l0_2 _ _ l0_3 _ _ y886 t889 t892 t895 _ ?side1 ?side2 ?side3 ?side4 ?side5 ?side6 A15.out).mono ?_
 (case side1 => exact kC_ HR0_2 HB)
 (case side2 => exact HC0_2.out)
 (case side3 => exact kC_ HR0_3 HB)
 (case side4 => exact HC0_3.out)
 (case side5 => exact kCt_ (Kd.R_reads' HO888.out).2.2)
 (case side6 => exact (Kd.R_reads' HO888.out).2.1)
 rintro e w34 ⟨v890, v893, rfl, ho0, ho1, hb⟩
 refine ⟨_, rfl, ?_⟩
 replace HO888 := FR_ HO888 hb
 have HO891 := Aside0.mk (Kd.S_lower ho0 (bs_ HB))
 have HO894 := Aside0.mk (Kd.S_lower ho1 (bs_ HB))
 replace BK880 := FB_ BK880 hb
 replace HB := BS_ HB hb
 (try clear hb)
 (try clear hk)
 (try clear ho0)
 (try clear ho1)
 refine hK.out _ _ ⟨ce_ BK880 0, ce_ BK880 1, ce_ BK880 2, ce_ BK880 3⟩ (fun hHeld => ?_)
 clear hK K
 refine norm_ (a' := ?_) ?_ ?_
 rotate_left
 {
 show Act.put _ (some 24) _ = _
 exact sp_}
 refine pu_ 5 (some 19) (B_ 11 63) HT_ ?_
 refine pu_ 6 (some 25) (B_ 11 127) HT_ ?_
 refine pu_ 7 (some 26) (B_ 11 255) HT_ ?_
 refine one_ (i := 8) (N := some 5) (B_ 11 511) rfl rfl (one_of HT_.out kf_) (by decide) (fun K hK => ?_)
 refine box_step ?hg (N := 5) ?hd (cs := #[.slice none 0 0, .slice none 0 0]) (t := 48) ?hr ?_; (case hd => rfl); (case hg => rfl); (case hr => first | (go_simp; done) | (go_simp; rfl))
 intro gb896 hg w35 hbox hb
 replace HO888 := FR_ HO888 hb
 replace HO891 := FS_ HO891 hb
 replace HO894 := FS_ HO894 hb
 have BK896 := Aside0.mk (hbox)
 have GW896 := GE_ HB hg
 have GE896 := GE_ HB hg
 replace HB := BS_ HB hb
 obtain ⟨NB880_896, NB896_880⟩ := NN_ BK880 hg
 replace BK880 := FB_ BK880 hb
 clear hb hbox hg
 refine hK.out _ _ ⟨ce_ BK880 0, ce_ BK880 1, ce_ BK880 2, ce_ BK880 3⟩ (fun hHeld => ?_)
 clear hK K
 refine norm_ (a' := ?_) ?_ ?_
 rotate_left
 {
 show Act.put _ (some 5) _ = _
 exact sp_}
 exact norm_ pa_ (hCont (v884, .slice Ao33 y886.length co33, v890, v893, gb896) _ ⟨hHeld, (kR_ HO888), (kS_ HO891), (kS_ HO894), (bk_ BK880), (bk_ BK896), GW896.out, GE896.out, NB880_896.out, NB896_880.out, (bl_ HB)⟩)}
 {
 skip
 refine box_step ?hg (N := 5) ?hd (cs := #[.slice none 0 0, .slice none 0 0]) (t := 48) ?hr ?_; (case hd => rfl); (case hg => rfl); (case hr => first | (go_simp; done) | (go_simp; rfl))
 intro gb896 hg w33 hbox hb
 replace HO888 := FR_ HO888 hb
 have BK896 := Aside0.mk (hbox)
 have GW896 := GE_ HB hg
 have GE896 := GE_ HB hg
 replace HB := BS_ HB hb
 obtain ⟨NB880_896, NB896_880⟩ := NN_ BK880 hg
 replace BK880 := FB_ BK880 hb
 clear hb hbox hg
 obtain ⟨Ao34, co34, eo34⟩ := Kd.R_slice HO888.out
 (first | subst eo34 | (injection eo34 with f1_ f2_ f3_; have f4_ := f1_.symm; have f5_ := f3_.symm; clear f1_ f2_ f3_; subst f4_; subst f5_))
 refine hK.out _ _ ⟨ce_ BK880 0, ce_ BK880 1, ce_ BK880 2, ce_ BK880 3⟩ (fun hHeld => ?_)
 clear hK K
 refine norm_ (a' := ?_) ?_ ?_
 rotate_left
 {
 show Act.put _ (some 5) _ = _
 exact sp_}
 refine one_ (i := 4) (N := some 24) (B_ 11 287) rfl rfl (one_of HT_.out kf_) (by decide) (fun K hK => ?_)
 refine goes_ Try.func34 kf_ rfl #[.agg #[.int .i64 a0_0, .int .i64 a0_1, .slice A0_2 l0_2.length c0_2, .slice A0_3 l0_3.length c0_3], .slice Ao34 y886.length co34] (by rfl) rfl rfl ar_ ?_
 with_reducible refine (vpack_Read.calls kj2 a0_0 a0_1 _ _ l0_2 _ _ l0_3 _ _ y886 t889 t892 t895 _ ?side1 ?side2 ?side3 ?side4 ?side5 ?side6 A15.out).mono ?_
 (case side1 => exact kC_ HR0_2 HB)
 (case side2 => exact HC0_2.out)
 (case side3 => exact kC_ HR0_3 HB)
 (case side4 => exact HC0_3.out)
 (case side5 => exact kCt_ (Kd.R_reads' HO888.out).2.2)
 (case side6 => exact (Kd.R_reads' HO888.out).2.1)
 rintro e w35 ⟨v890, v893, rfl, ho0, ho1, hb⟩
 refine ⟨_, rfl, ?_⟩
 replace HO888 := FR_ HO888 hb
 have HO891 := Aside0.mk (Kd.S_lower ho0 (bs_ HB))
 have HO894 := Aside0.mk (Kd.S_lower ho1 (bs_ HB))
 replace BK880 := FB_ BK880 hb
 replace BK896 := FB_ BK896 hb
 replace HB := BS_ HB hb
 (try clear hb)
 (try clear hk)
 (try clear ho0)
 (try clear ho1)
 refine hK.out _ _ ⟨ce_ BK880 0, ce_ BK880 1, ce_ BK880 2, ce_ BK880 3⟩ (fun hHeld => ?_)
 clear hK K
 refine norm_ (a' := ?_) ?_ ?_
 rotate_left
 {
 show Act.put _ (some 24) _ = _
 exact sp_}
 refine pu_ 5 (some 19) (B_ 11 319) HT_ ?_
 refine pu_ 6 (some 25) (B_ 11 383) HT_ ?_
 refine pu_ 7 (some 26) (B_ 11 511) HT_ ?_
 exact norm_ pa_ (hCont (v884, .slice Ao34 y886.length co34, v890, v893, gb896) _ ⟨hHeld, (kR_ HO888), (kS_ HO891), (kS_ HO894), (bk_ BK880), (bk_ BK896), GW896.out, GE896.out, NB880_896.out, NB896_880.out, (bl_ HB)⟩)}}
 {
 skip
 refine box_step ?hg (N := 5) ?hd (cs := #[.slice none 0 0, .slice none 0 0]) (t := 48) ?hr ?_; (case hd => rfl); (case hg => rfl); (case hr => first | (go_simp; done) | (go_simp; rfl))
 intro gb896 hg w32 hbox hb
 replace HO885 := FR_ HO885 hb
 have BK896 := Aside0.mk (hbox)
 have GW896 := GE_ HB hg
 have GE896 := GE_ HB hg
 replace HB := BS_ HB hb
 obtain ⟨NB880_896, NB896_880⟩ := NN_ BK880 hg
 replace BK880 := FB_ BK880 hb
 clear hb hbox hg
 refine hK.out _ _ ⟨ce_ BK880 0, ce_ BK880 1, ce_ BK880 2, ce_ BK880 3⟩ (fun hHeld => ?_)
 clear hK K
 refine norm_ (a' := ?_) ?_ ?_
 rotate_left
 {
 show Act.put _ (some 5) _ = _
 exact sp_}
 refine one_ (i := 3) (N := some 23) (B_ 11 271) rfl rfl (one_of HT_.out kf_) (by decide) (fun K hK => ?_)
 refine Kd.R_append_rows_step (Kd.int .u8) (w0 := w) w.heap.size (by rfl) (.tmp 21) (.tmp 22) 34 5 (.int .u8 0) 1 rfl Try.underlying34 info5 rfl (by decide) (by omega) v884 y883 l1 _ _ _ (fun _ => True) (fun _ => False) rfl rfl ?aO ?aR (fun _ _ h => h) (fun _ h => h.elim) ?aF ?aB ?aS ?aL ?_
 (case aR => exact kC_ HR1 HB)
 (case aB => exact (bl_ HB))
 (case aF => exact (fun _ _ => trivial))
 (case aO => exact (kR_ HO885))
 (case aS => exact (bs_ HB))
 (case aL => have := LMc14.out; omega)
 intro v887 w33 ho hb hg hat
 rw [← Ny886.out] at ho
 replace BK880 := (FG_ BK880 hg (Kd.R_ne HO885.out BK880.out (by decide)))
 replace BK896 := (FG_ BK896 hg (Kd.R_ne HO885.out BK896.out (by decide)))
 replace HB := Aside0.mk (hb)
 have HO888 := Aside0.mk (ho)
 clear HO885
 clear ho hb hg hat
 obtain ⟨Ao34, co34, eo34⟩ := Kd.R_slice HO888.out
 (first | subst eo34 | (injection eo34 with f1_ f2_ f3_; have f4_ := f1_.symm; have f5_ := f3_.symm; clear f1_ f2_ f3_; subst f4_; subst f5_))
 refine hK.out _ _ ⟨ce_ BK880 0, ce_ BK880 1, ce_ BK880 2, ce_ BK880 3⟩ (fun hHeld => ?_)
 clear hK K
 refine norm_ (a' := ?_) ?_ ?_
 rotate_left
 {
 show Act.put _ (some 23) _ = _
 exact sp_}
 refine one_ (i := 4) (N := some 24) (B_ 11 287) rfl rfl (one_of HT_.out kf_) (by decide) (fun K hK => ?_)
 refine goes_ Try.func34 kf_ rfl #[.agg #[.int .i64 a0_0, .int .i64 a0_1, .slice A0_2 l0_2.length c0_2, .slice A0_3 l0_3.length c0_3], .slice Ao34 y886.length co34] (by rfl) rfl rfl ar_ ?_
 with_reducible refine (vpack_Read.calls kj2 a0_0 a0_1 _ _ l0_2 _ _ l0_3 _ _ y886 t889 t892 t895 _ ?side1 ?side2 ?side3 ?side4 ?side5 ?side6 A15.out).mono ?_
 (case side1 => exact kC_ HR0_2 HB)
 (case side2 => exact HC0_2.out)
 (case side3 => exact kC_ HR0_3 HB)
 (case side4 => exact HC0_3.out)
 (case side5 => exact kCt_ (Kd.R_reads' HO888.out).2.2)
 (case side6 => exact (Kd.R_reads' HO888.out).2.1)
 rintro e w35 ⟨v890, v893, rfl, ho0, ho1, hb⟩
 refine ⟨_, rfl, ?_⟩
 replace HO888 := FR_ HO888 hb
 have HO891 := Aside0.mk (Kd.S_lower ho0 (bs_ HB))
 have HO894 := Aside0.mk (Kd.S_lower ho1 (bs_ HB))
 replace BK880 := FB_ BK880 hb
 replace BK896 := FB_ BK896 hb
 replace HB := BS_ HB hb
 (try clear hb)
 (try clear hk)
 (try clear ho0)
 (try clear ho1)
 refine hK.out _ _ ⟨ce_ BK880 0, ce_ BK880 1, ce_ BK880 2, ce_ BK880 3⟩ (fun hHeld => ?_)
 clear hK K
 refine norm_ (a' := ?_) ?_ ?_
 rotate_left
 {
 show Act.put _ (some 24) _ = _
 exact sp_}
 refine pu_ 5 (some 19) (B_ 11 319) HT_ ?_
 refine pu_ 6 (some 25) (B_ 11 383) HT_ ?_
 refine pu_ 7 (some 26) (B_ 11 511) HT_ ?_
 exact norm_ pa_ (hCont (v884, .slice Ao34 y886.length co34, v890, v893, gb896) _ ⟨hHeld, (kR_ HO888), (kS_ HO891), (kS_ HO894), (bk_ BK880), (bk_ BK896), GW896.out, GE896.out, NB880_896.out, NB896_880.out, (bl_ HB)⟩)}}
 {
 skip
 refine box_step ?hg (N := 5) ?hd (cs := #[.slice none 0 0, .slice none 0 0]) (t := 48) ?hr ?_; (case hd => rfl); (case hg => rfl); (case hr => first | (go_simp; done) | (go_simp; rfl))
 intro gb896 hg w30 hbox hb
 have BK896 := Aside0.mk (hbox)
 have GW896 := GE_ HB hg
 have GE896 := GE_ HB hg
 replace HB := BS_ HB hb
 obtain ⟨NB880_896, NB896_880⟩ := NN_ BK880 hg
 replace BK880 := FB_ BK880 hb
 clear hb hbox hg
 refine hK.out _ _ ⟨ce_ BK880 0, ce_ BK880 1, ce_ BK880 2, ce_ BK880 3⟩ (fun hHeld => ?_)
 clear hK K
 refine norm_ (a' := ?_) ?_ ?_
 rotate_left
 {
 show Act.put _ (some 5) _ = _
 exact sp_}
 refine one_ (i := 1) (N := some 21) (B_ 11 263) rfl rfl (one_of HT_.out kf_) (by decide) (fun K hK => ?_)
 refine Kd.R_lit_step (Kd.int .u8) _ 5 ?hg (N := 21) ?hd (xs := ([] : List Int)) (inner := []) (ok := fun _ => True) (okp := fun _ => True) ?hr ?hp (fun _ hk => hk) trivial (Below.refl _ _) (Nat.le_refl _) (by simp) ?_; (case hd => rfl); (case hg => rfl); (case hr => first | (go_simp; done) | (go_simp; rfl)); (case hp => exact (Reps.none _ _))
 intro v884 w31 ho32 hb hg_ hnew_
 clear hg_ hnew_
 (first | rw [← Ny883.out] at ho32 | (simp only [Int.reduceToNat] at ho32; rw [← Ny883.out] at ho32))
 have HO885 := Aside0.mk (Kd.R_lower ho32 (bs_ HB))
 replace BK880 := FB_ BK880 hb
 replace BK896 := FB_ BK896 hb
 replace HB := BS_ HB hb
 clear hb ho32
 refine hK.out _ _ ⟨ce_ BK880 0, ce_ BK880 1, ce_ BK880 2, ce_ BK880 3⟩ (fun hHeld => ?_)
 clear hK K
 refine norm_ (a' := ?_) ?_ ?_
 rotate_left
 {
 show Act.put _ (some 21) _ = _
 exact sp_}
 refine one_ (i := 3) (N := some 23) (B_ 11 271) rfl rfl (one_of HT_.out kf_) (by decide) (fun K hK => ?_)
 refine Kd.R_append_rows_step (Kd.int .u8) (w0 := w) w.heap.size (by rfl) (.tmp 21) (.tmp 22) 34 5 (.int .u8 0) 1 rfl Try.underlying34 info5 rfl (by decide) (by omega) v884 y883 l1 _ _ _ (fun _ => True) (fun _ => False) rfl rfl ?aO ?aR (fun _ _ h => h) (fun _ h => h.elim) ?aF ?aB ?aS ?aL ?_
 (case aR => exact kC_ HR1 HB)
 (case aB => exact (bl_ HB))
 (case aF => exact (fun _ _ => trivial))
 (case aO => exact (kR_ HO885))
 (case aS => exact (bs_ HB))
 (case aL => have := LMc14.out; omega)
 intro v887 w33 ho hb hg hat
 rw [← Ny886.out] at ho
 replace BK880 := (FG_ BK880 hg (Kd.R_ne HO885.out BK880.out (by decide)))
 replace BK896 := (FG_ BK896 hg (Kd.R_ne HO885.out BK896.out (by decide)))
 replace HB := Aside0.mk (hb)
 have HO888 := Aside0.mk (ho)
 clear HO885
 clear ho hb hg hat
 obtain ⟨Ao34, co34, eo34⟩ := Kd.R_slice HO888.out
 (first | subst eo34 | (injection eo34 with f1_ f2_ f3_; have f4_ := f1_.symm; have f5_ := f3_.symm; clear f1_ f2_ f3_; subst f4_; subst f5_))
 refine hK.out _ _ ⟨ce_ BK880 0, ce_ BK880 1, ce_ BK880 2, ce_ BK880 3⟩ (fun hHeld => ?_)
 clear hK K
 refine norm_ (a' := ?_) ?_ ?_
 rotate_left
 {
 show Act.put _ (some 23) _ = _
 exact sp_}
 refine one_ (i := 4) (N := some 24) (B_ 11 287) rfl rfl (one_of HT_.out kf_) (by decide) (fun K hK => ?_)
 refine goes_ Try.func34 kf_ rfl #[.agg #[.int .i64 a0_0, .int .i64 a0_1, .slice A0_2 l0_2.length c0_2, .slice A0_3 l0_3.length c0_3], .slice Ao34 y886.length co34] (by rfl) rfl rfl ar_ ?_
 with_reducible refine (vpack_Read.calls kj2 a0_0 a0_1 _ _ l0_2 _ _ l0_3 _ _ y886 t889 t892 t895 _ ?side1 ?side2 ?side3 ?side4 ?side5 ?side6 A15.out).mono ?_
 (case side1 => exact kC_ HR0_2 HB)
 (case side2 => exact HC0_2.out)
 (case side3 => exact kC_ HR0_3 HB)
 (case side4 => exact HC0_3.out)
 (case side5 => exact kCt_ (Kd.R_reads' HO888.out).2.2)
 (case side6 => exact (Kd.R_reads' HO888.out).2.1)
 rintro e w35 ⟨v890, v893, rfl, ho0, ho1, hb⟩
 refine ⟨_, rfl, ?_⟩
 replace HO888 := FR_ HO888 hb
 have HO891 := Aside0.mk (Kd.S_lower ho0 (bs_ HB))
 have HO894 := Aside0.mk (Kd.S_lower ho1 (bs_ HB))
 replace BK880 := FB_ BK880 hb
 replace BK896 := FB_ BK896 hb
 replace HB := BS_ HB hb
 (try clear hb)
 (try clear hk)
 (try clear ho0)
 (try clear ho1)
 refine hK.out _ _ ⟨ce_ BK880 0, ce_ BK880 1, ce_ BK880 2, ce_ BK880 3⟩ (fun hHeld => ?_)
 clear hK K
 refine norm_ (a' := ?_) ?_ ?_
 rotate_left
 {
 show Act.put _ (some 24) _ = _
 exact sp_}
 refine pu_ 5 (some 19) (B_ 11 319) HT_ ?_
 refine pu_ 6 (some 25) (B_ 11 383) HT_ ?_
 refine pu_ 7 (some 26) (B_ 11 511) HT_ ?_
 exact norm_ pa_ (hCont (v884, .slice Ao34 y886.length co34, v890, v893, gb896) _ ⟨hHeld, (kR_ HO888), (kS_ HO891), (kS_ HO894), (bk_ BK880), (bk_ BK896), GW896.out, GE896.out, NB880_896.out, NB896_880.out, (bl_ HB)⟩)}}
 clear BK880 HB
 rintro ⟨v884, v887, v890, v893, gb896⟩ w36 ⟨hS_, h0_, h1_, h2_, h3_, h4_, h5_, h6_, h7_, h8_, h9_⟩
 (try dsimp only at h0_ h1_ h2_ h3_ h4_ h5_ h6_ h7_ h8_ h9_)
 have HO888 := Aside0.mk h0_
 have HO891 := Aside0.mk h1_
 have HO894 := Aside0.mk h2_
 have BK880 := Aside0.mk h3_
 have BK896 := Aside0.mk h4_
 have GW896 := Aside0.mk h5_
 have GE896 := Aside0.mk h6_
 have NB880_896 := Aside0.mk h7_
 have NB896_880 := Aside0.mk h8_
 have HB := Aside0.mk h9_
 clear h0_ h1_ h2_ h3_ h4_ h5_ h6_ h7_ h8_ h9_
 have hHeld : w36.cell? ⟨gb880, 0, none⟩ = some (.int .i64 a0_0) ∧ w36.cell? ⟨gb880, 1, none⟩ = some (.int .i64 a0_1) ∧ w36.cell? ⟨gb880, 2, none⟩ = some (.slice A0_2 l0_2.length c0_2) ∧ w36.cell? ⟨gb880, 3, none⟩ = some (.slice A0_3 l0_3.length c0_3) := hS_
 obtain ⟨Ao37, co37, eo37⟩ := Kd.S_slice HO891.out
 (first | subst eo37 | (injection eo37 with f1_ f2_ f3_; have f4_ := f1_.symm; have f5_ := f3_.symm; clear f1_ f2_ f3_; subst f4_; subst f5_))
 obtain ⟨Ao39, co39, eo39⟩ := Kd.S_slice HO894.out
 (first | subst eo39 | (injection eo39 with f1_ f2_ f3_; have f4_ := f1_.symm; have f5_ := f3_.symm; clear f1_ f2_ f3_; subst f4_; subst f5_))
 refine norm_ (a' := ?_) ?_ ?_
 rotate_left
 {
 simp only [putAll, Act.put, List.setIfInBounds_toArray, List.set_cons_zero, List.set_cons_succ]
 rfl}
 refine one_ (i := 9) (N := none) (B_ 11 1023) rfl rfl (one_of HT_.out kf_) (by decide) (fun K hK => ?_)
 have hs38 : w36.cell? ⟨gb896, 0, none⟩ = some (.slice none 0 0) := ce_ BK896 0
 have hfs38 := blk_frozen BK896.out 0
 have hns38_0 := NB880_896.out
 have hms38_0 := NB896_880.out
 have hs40 : w36.cell? ⟨gb896, 1, none⟩ = some (.slice none 0 0) := ce_ BK896 1
 have hfs40 := blk_frozen BK896.out 1
 have hns40_0 := NB880_896.out
 have hms40_0 := NB896_880.out
 refine skip_ (w1 := ?_) (by rfl) rfl ?_ ?_
 rotate_left
 {
 go_simp
 rfl}
 refine hK.out _ _ ⟨((cell_far (p := ⟨gb896, _, none⟩) NB880_896.out _).trans (((cell_far (p := ⟨gb896, _, none⟩) NB880_896.out _).trans (hHeld.1)))), ((cell_far (p := ⟨gb896, _, none⟩) NB880_896.out _).trans (((cell_far (p := ⟨gb896, _, none⟩) NB880_896.out _).trans (hHeld.2.1)))), ((cell_far (p := ⟨gb896, _, none⟩) NB880_896.out _).trans (((cell_far (p := ⟨gb896, _, none⟩) NB880_896.out _).trans (hHeld.2.2.1)))), ((cell_far (p := ⟨gb896, _, none⟩) NB880_896.out _).trans (((cell_far (p := ⟨gb896, _, none⟩) NB880_896.out _).trans (hHeld.2.2.2))))⟩ (fun hHeld => ?_)
 clear hK K
 refine pu_ 10 (some 6) (B_ 11 2047) HT_ ?_
 refine done_ (done_of HT_.out kf_) ?_
 have hnb41 := NB880_896.out
 have hnc41 := NB896_880.out
 obtain ⟨hcz42_0, hcz42_1, hcz42_2, hcz42_3, hfz42_0, hfz42_1, hfz42_2, hfz42_3⟩ := e4_ BK880
 obtain ⟨hcz43_0, hcz43_1, hfz43_0, hfz43_1⟩ := e2_ BK896
 try go_wp2_with (first | ((with_reducible refine gate_callee (f := 32) rfl ?_); refine gL_ (some 39) Try.func32 #[.agg #[.int .i64 a0_0, .int .i64 a0_1, .slice A0_2 l0_2.length c0_2, .slice A0_3 l0_3.length c0_3], .agg #[.slice Ao37 t889.length co37, .slice Ao39 t892.length co39]] ?_; (with_reducible refine (vpack_Write.calls kj2 a0_0 a0_1 _ _ l0_2 _ _ l0_3 _ _ t889 _ _ t892 t899 t902 _ ?side1 ?side2 ?side3 ?side4 ?side5 ?side6 ?side7 ?side8 A17.out).mono ?_); (case side1 => exact Kd.C_below HR0_2.out (bl_ HB)); (case side2 => exact HC0_2.out); (case side3 => exact Kd.C_below HR0_3.out (bl_ HB)); (case side4 => exact HC0_3.out); (case side5 => refine (Kd.S_reads' (e := 22) (base := w.heap.size) (ok := fun k_ => True) (n := t889.length) (c := co37) ?_).2.2; exact (kSk_ HO891 BK896)); (case side6 => exact (Kd.S_reads' HO891.out).2.1); (case side7 => refine (Kd.S_reads' (e := 84) (base := w.heap.size) (ok := fun k_ => True) (n := t892.length) (c := co39) ?_).2.2; exact (kSk_ HO894 BK896)); (case side8 => exact (Kd.S_reads' HO894.out).2.1); rintro e w44 ⟨v900, rfl, ho0, hb⟩; refine ⟨_, rfl, ?_⟩; have HO901 := Aside0.mk (Kd.V_lower (Kd.V_mono (ok' := fun k_ => some k_ ≠ (v887 : Value).ownBlock ∧ some k_ ≠ (.slice Ao37 t889.length co37 : Value).ownBlock ∧ some k_ ≠ (.slice Ao39 t892.length co39 : Value).ownBlock ∧ k_ ≠ gb880 ∧ k_ ≠ gb896) ho0 (fun k_ hk_ => ⟨(Kd.fresh' (Kd.R_lt (kRk_ HO888 BK896)) k_ hk_), (Kd.fresh' (Kd.S_lt (kSk_ HO891 BK896)) k_ hk_), (Kd.fresh' (Kd.S_lt (kSk_ HO894 BK896)) k_ hk_), (Kd.freshB (g := gb880) (o := .cells #[.int .i64 a0_0, .int .i64 a0_1, .slice A0_2 l0_2.length c0_2, .slice A0_3 l0_3.length c0_3] 24 (0, 0)) (bk_ BK880) k_ hk_), (Kd.freshB (g := gb896) (o := .cells #[.slice Ao37 t889.length co37, .slice Ao39 t892.length co39] 48 (0, 0)) (bp_ BK896) k_ hk_)⟩)) (bs_ HB)); replace HO888 := Aside0.mk (Kd.R_below (kRk_ HO888 BK896) hb); replace HO891 := Aside0.mk (Kd.S_below (kSk_ HO891 BK896) hb); replace HO894 := Aside0.mk (Kd.S_below (kSk_ HO894 BK896) hb); replace BK880 := FB_ BK880 hb; replace BK896 := Aside0.mk (blk_below (g := gb896) (o := .cells #[.slice Ao37 t889.length co37, .slice Ao39 t892.length co39] 48 (0, 0)) (bp_ BK896) hb); replace HB := BS_ HB hb; (try clear hb); (try clear ho0); obtain ⟨hcz45_0, hcz45_1, hcz45_2, hcz45_3, hfz45_0, hfz45_1, hfz45_2, hfz45_3⟩ := e4_ BK880; obtain ⟨Ao46, co46, eo46⟩ := Kd.V_slice HO901.out; subst eo46) | ((with_reducible refine gate_callee (f := 34) rfl ?_); refine gL_ (some 45) Try.func34 #[.agg #[.int .i64 a0_0, .int .i64 a0_1, .slice A0_2 l0_2.length c0_2, .slice A0_3 l0_3.length c0_3], .slice Ao46 t899.length co46] ?_; (with_reducible refine (vpack_Read.calls kj2 a0_0 a0_1 _ _ l0_2 _ _ l0_3 _ _ t899 t903 t906 t909 _ ?side1 ?side2 ?side3 ?side4 ?side5 ?side6 A18.out).mono ?_); (case side1 => exact kC_ HR0_2 HB); (case side2 => exact HC0_2.out); (case side3 => exact kC_ HR0_3 HB); (case side4 => exact HC0_3.out); (case side5 => exact kCt_ (Kd.V_reads' HO901.out).2.2); (case side6 => exact (Kd.V_reads' HO901.out).2.1); rintro e w47 ⟨v904, v907, rfl, ho0, ho1, hb⟩; refine ⟨_, rfl, ?_⟩; replace HO888 := FR_ HO888 hb; replace HO901 := Aside0.mk (Kd.V_mono (Kd.V_told (Kd.V_told (Kd.V_old (kV_ HO901) hb) (Kd.S_base ho0)) (Kd.S_base ho1)) (fun _ h_ => h_.1)); have HO905 := Aside0.mk (Kd.S_lower (Kd.S_new' ho0 (Kd.S_lt (kS_ HO891))) (bs_ HB)); replace HO891 := Aside0.mk (Kd.S_elder' (kS_ HO891) (Kd.S_base ho0) hb); have HO908 := Aside0.mk (Kd.S_lower (Kd.S_new' ho1 (Kd.S_lt (kS_ HO894))) (bs_ HB)); replace HO894 := Aside0.mk (Kd.S_elder' (kS_ HO894) (Kd.S_base ho1) hb); replace BK880 := FB_ BK880 hb; replace BK896 := FB_ BK896 hb; replace HB := BS_ HB hb; (try clear hb); (try clear ho0); (try clear ho1)) | ((with_reducible refine gate_dst (N := 9) rfl ?_); (try (refine gate_guard (by rfl) ?_; dsimp only)); refine box_ 9 #[.slice none 0 0, .slice none 0 0] 48 ?_; intro gb910 hg w48 hbox hb; replace HO888 := FR_ HO888 hb; replace HO891 := FS_ HO891 hb; replace HO894 := FS_ HO894 hb; replace HO901 := Aside0.mk (Kd.V_below (Kd.V_elderB (kV_ HO901) gb910 (Nat.le_of_eq hg.symm)) hb); replace HO905 := FS_ HO905 hb; replace HO908 := FS_ HO908 hb; have BK910 := Aside0.mk (hbox); have GW910 := GE_ HB hg; have GE910 := GE_ HB hg; replace HB := BS_ HB hb; obtain ⟨NB880_910, NB910_880⟩ := NN_ BK880 hg; replace BK880 := FB_ BK880 hb; obtain ⟨NB896_910, NB910_896⟩ := NN_ BK896 hg; replace BK896 := FB_ BK896 hb; clear hb hbox hg; obtain ⟨Ao49, co49, eo49⟩ := Kd.S_slice HO905.out; subst eo49; have hnb50 := NB910_880.out; have hnc50 := NB880_910.out; have hnb51 := NB910_896.out; have hnc51 := NB896_910.out; obtain ⟨hcz52_0, hcz52_1, hfz52_0, hfz52_1⟩ := e2_ BK910; obtain ⟨Ao53, co53, eo53⟩ := Kd.S_slice HO908.out; subst eo53))
 have n0_ : Aside0 (Kd.R (Kd.int .u8) 5 ((w48.setCell ⟨gb910, 0, none⟩ (.slice Ao49 t903.length co49)).setCell ⟨gb910, 1, none⟩ (.slice Ao53 t906.length co53)) w.heap.size (fun _ => True) v887 y886) := ⟨by (with_reducible repeat (first | apply Kd.R_alloc | apply Kd.R_drewN | apply Kd.R_drew)); exact Kd.R_mono (Kd.R_far (p := ⟨gb910, 1, none⟩) (Kd.R_far (p := ⟨gb910, 0, none⟩) (Kd.R_types HO888.out BK910.out (by decide)) (fun _ hk => hk.2) (.slice Ao49 t903.length co49)) (fun _ hk => hk.2) (.slice Ao53 t906.length co53)) (fun _ hk => trivial)⟩
 have n1_ : Aside0 (Kd.S (Kd.slice 3 (Kd.int .i64)) 22 ((w48.setCell ⟨gb910, 0, none⟩ (.slice Ao49 t903.length co49)).setCell ⟨gb910, 1, none⟩ (.slice Ao53 t906.length co53)) w.heap.size (fun k_ => some k_ ≠ (.slice Ao49 t903.length co49 : Value).ownBlock) (.slice Ao37 t889.length co37) t889) := ⟨by (with_reducible repeat (first | apply Kd.S_alloc | apply Kd.S_drewN | apply Kd.S_drew)); exact Kd.S_mono (Kd.S_far (p := ⟨gb910, 1, none⟩) (Kd.S_far (p := ⟨gb910, 0, none⟩) (Kd.S_types HO891.out BK910.out (by decide)) (fun _ hk => hk.2) (.slice Ao49 t903.length co49)) (fun _ hk => hk.2) (.slice Ao53 t906.length co53)) (fun _ hk => hk.1.2)⟩
 have n2_ : Aside0 (Kd.S (Kd.slice 2 (Kd.int .i64)) 84 ((w48.setCell ⟨gb910, 0, none⟩ (.slice Ao49 t903.length co49)).setCell ⟨gb910, 1, none⟩ (.slice Ao53 t906.length co53)) w.heap.size (fun k_ => some k_ ≠ (.slice Ao53 t906.length co53 : Value).ownBlock) (.slice Ao39 t892.length co39) t892) := ⟨by (with_reducible repeat (first | apply Kd.S_alloc | apply Kd.S_drewN | apply Kd.S_drew)); exact Kd.S_mono (Kd.S_far (p := ⟨gb910, 1, none⟩) (Kd.S_far (p := ⟨gb910, 0, none⟩) (Kd.S_types HO894.out BK910.out (by decide)) (fun _ hk => hk.2) (.slice Ao49 t903.length co49)) (fun _ hk => hk.2) (.slice Ao53 t906.length co53)) (fun _ hk => hk.1.2)⟩
 have n3_ : Aside0 (Kd.V (Kd.int .u8) 5 ((w48.setCell ⟨gb910, 0, none⟩ (.slice Ao49 t903.length co49)).setCell ⟨gb910, 1, none⟩ (.slice Ao53 t906.length co53)) w.heap.size (fun k_ => some k_ ≠ (v887 : Value).ownBlock ∧ some k_ ≠ (.slice Ao37 t889.length co37 : Value).ownBlock ∧ some k_ ≠ (.slice Ao39 t892.length co39 : Value).ownBlock ∧ some k_ ≠ (.slice Ao49 t903.length co49 : Value).ownBlock ∧ some k_ ≠ (.slice Ao53 t906.length co53 : Value).ownBlock ∧ k_ ≠ gb880 ∧ k_ ≠ gb896 ∧ k_ ≠ gb910) (.slice Ao46 t899.length co46) t899) := ⟨by (with_reducible repeat (first | apply Kd.V_alloc | apply Kd.V_drewN | apply Kd.V_drew)); exact Kd.V_mono (Kd.V_far (p := ⟨gb910, 1, none⟩) (Kd.V_far (p := ⟨gb910, 0, none⟩) (Kd.V_mono HO901.out (fun k_ hk => (⟨hk, hk.2⟩ : _ ∧ k_ ≠ gb910))) (fun _ hk => hk.2) (.slice Ao49 t903.length co49)) (fun _ hk => hk.2) (.slice Ao53 t906.length co53)) (fun _ hk => ⟨hk.1.1.1.1.1, ⟨hk.1.1.1.1.2.1, ⟨hk.1.1.1.1.2.2.1, ⟨hk.1.1.1.2, ⟨hk.1.1.2, ⟨hk.1.1.1.1.2.2.2.1, ⟨hk.1.1.1.1.2.2.2.2, hk.1.2⟩⟩⟩⟩⟩⟩⟩)⟩
 have n4_ : Aside0 (Kd.S (Kd.slice 3 (Kd.int .i64)) 22 ((w48.setCell ⟨gb910, 0, none⟩ (.slice Ao49 t903.length co49)).setCell ⟨gb910, 1, none⟩ (.slice Ao53 t906.length co53)) w.heap.size (fun k_ => some k_ ≠ (.slice Ao37 t889.length co37 : Value).ownBlock) (.slice Ao49 t903.length co49) t903) := ⟨by (with_reducible repeat (first | apply Kd.S_alloc | apply Kd.S_drewN | apply Kd.S_drew)); exact Kd.S_mono (Kd.S_far (p := ⟨gb910, 1, none⟩) (Kd.S_far (p := ⟨gb910, 0, none⟩) (Kd.S_types HO905.out BK910.out (by decide)) (fun _ hk => hk.2) (.slice Ao49 t903.length co49)) (fun _ hk => hk.2) (.slice Ao53 t906.length co53)) (fun _ hk => hk.1.2)⟩
 have n5_ : Aside0 (Kd.S (Kd.slice 2 (Kd.int .i64)) 84 ((w48.setCell ⟨gb910, 0, none⟩ (.slice Ao49 t903.length co49)).setCell ⟨gb910, 1, none⟩ (.slice Ao53 t906.length co53)) w.heap.size (fun k_ => some k_ ≠ (.slice Ao39 t892.length co39 : Value).ownBlock) (.slice Ao53 t906.length co53) t906) := ⟨by (with_reducible repeat (first | apply Kd.S_alloc | apply Kd.S_drewN | apply Kd.S_drew)); exact Kd.S_mono (Kd.S_far (p := ⟨gb910, 1, none⟩) (Kd.S_far (p := ⟨gb910, 0, none⟩) (Kd.S_types HO908.out BK910.out (by decide)) (fun _ hk => hk.2) (.slice Ao49 t903.length co49)) (fun _ hk => hk.2) (.slice Ao53 t906.length co53)) (fun _ hk => hk.1.2)⟩
 have n6_ : Aside0 (((w48.setCell ⟨gb910, 0, none⟩ (.slice Ao49 t903.length co49)).setCell ⟨gb910, 1, none⟩ (.slice Ao53 t906.length co53)).heap[gb880]? = some (.cells #[.int .i64 a0_0, .int .i64 a0_1, .slice A0_2 l0_2.length c0_2, .slice A0_3 l0_3.length c0_3] 24 (0, 0))) := ⟨bk_ BK880⟩
 have n7_ : Aside0 (((w48.setCell ⟨gb910, 0, none⟩ (.slice Ao49 t903.length co49)).setCell ⟨gb910, 1, none⟩ (.slice Ao53 t906.length co53)).heap[gb896]? = some (.cells #[.slice Ao37 t889.length co37, .slice Ao39 t892.length co39] 48 (0, 0))) := ⟨bk_ BK896⟩
 have n8_ : Aside0 (((w48.setCell ⟨gb910, 0, none⟩ (.slice Ao49 t903.length co49)).setCell ⟨gb910, 1, none⟩ (.slice Ao53 t906.length co53)).heap[gb910]? = some (.cells #[.slice Ao49 t903.length co49, .slice Ao53 t906.length co53] 48 (0, 0))) := ⟨bp_ BK910⟩
 have n9_ : Aside0 (Below w.heap.size w ((w48.setCell ⟨gb910, 0, none⟩ (.slice Ao49 t903.length co49)).setCell ⟨gb910, 1, none⟩ (.slice Ao53 t906.length co53))) := ⟨bl_ HB⟩
 (try clear HO888)
 (try clear HO891)
 (try clear HO894)
 (try clear HO901)
 (try clear HO905)
 (try clear HO908)
 (try clear BK880)
 (try clear BK896)
 (try clear BK910)
 (try clear HB)
 generalize ((w48.setCell ⟨gb910, 0, none⟩ (.slice Ao49 t903.length co49)).setCell ⟨gb910, 1, none⟩ (.slice Ao53 t906.length co53)) = w54 at n0_ n1_ n2_ n3_ n4_ n5_ n6_ n7_ n8_ n9_ ⊢
 have HO888 := n0_
 have HO891 := n1_
 have HO894 := n2_
 have HO901 := n3_
 have HO905 := n4_
 have HO908 := n5_
 have BK880 := n6_
 have BK896 := n7_
 have BK910 := n8_
 have HB := n9_
 clear n0_ n1_ n2_ n3_ n4_ n5_ n6_ n7_ n8_ n9_
 replace HO888 := Aside0.mk (Kd.R_drew HO888.out)
 replace HO891 := Aside0.mk (Kd.S_drew HO891.out)
 replace HO894 := Aside0.mk (Kd.S_drew HO894.out)
 replace HO901 := Aside0.mk (Kd.V_drew HO901.out)
 replace HO905 := Aside0.mk (Kd.S_drew HO905.out)
 replace HO908 := Aside0.mk (Kd.S_drew HO908.out)
 replace BK880 := Aside0.mk (blk_drew BK880.out)
 replace BK896 := Aside0.mk (blk_drew BK896.out)
 replace BK910 := Aside0.mk (blk_drew BK910.out)
 replace HB := Aside0.mk (below_drew1 HB.out)
 refine start_ (n := 29) (S := fun w' => w'.cell? ⟨gb880, 0, none⟩ = some (.int .i64 a0_0) ∧ w'.cell? ⟨gb880, 1, none⟩ = some (.int .i64 a0_1) ∧ w'.cell? ⟨gb880, 2, none⟩ = some (.slice A0_2 l0_2.length c0_2) ∧ w'.cell? ⟨gb880, 3, none⟩ = some (.slice A0_3 l0_3.length c0_3) ∧ w'.cell? ⟨gb896, 0, none⟩ = some (.slice Ao37 t889.length co37) ∧ w'.cell? ⟨gb896, 1, none⟩ = some (.slice Ao39 t892.length co39) ∧ w'.cell? ⟨gb910, 0, none⟩ = some (.slice Ao49 t903.length co49) ∧ w'.cell? ⟨gb910, 1, none⟩ = some (.slice Ao53 t906.length co53)) (ds := []) (B_ 29 0) kf_ rfl rfl ⟨ce_ BK880 0, ce_ BK880 1, ce_ BK880 2, ce_ BK880 3, ce_ BK896 0, ce_ BK896 1, ce_ BK910 0, ce_ BK910 1⟩ (fun hHeld => ?_); refine with_tabW psalterylaw17_BodyAny.tab8 psalterylaw17_BodyAny.bits8 (fun HT_ HW_ => ?_)
 generalize w54.drew = w55 at HO888 HO891 HO894 HO901 HO905 HO908 BK880 BK896 BK910 HB hHeld ⊢
 refine take_ (i := 0) (N := some 48) (v := ?_) (a' := ?_) (B_ 29 1) rfl rfl (take_ofW HT_.out HW_.out kf_) (fun _ _ _ h => h) (Or.inl ⟨by rfl, ?_⟩) hHeld ?_ ?_
 rotate_left
 {
 rintro w' ⟨s0, s1, s2, s3, s4, s5, s6, s7⟩
 go_simp
 with_reducible rfl}
 rotate_left
 {
 exact sp_}
 refine take_ (i := 1) (N := some 49) (v := ?_) (a' := ?_) (B_ 29 3) rfl rfl (take_ofW HT_.out HW_.out kf_) (fun _ _ _ h => h) (Or.inl ⟨by rfl, ?_⟩) hHeld ?_ ?_
 rotate_left
 {
 rintro w' ⟨s0, s1, s2, s3, s4, s5, s6, s7⟩
 go_simp
 with_reducible rfl}
 rotate_left
 {
 exact sp_}
 refine one_ (i := 2) (N := some 50) (B_ 29 7) rfl rfl (one_of HT_.out kf_) (by decide) (fun K hK => ?_)
 refine goes_ Try.func29 kf_ rfl #[.agg #[.int .i64 a0_0, .int .i64 a0_1, .slice A0_2 l0_2.length c0_2, .slice A0_3 l0_3.length c0_3], .agg #[.slice Ao37 t889.length co37, .slice Ao39 t892.length co39]] (by rfl) rfl rfl ar_ ?_
 with_reducible refine (vpack_Right.calls kj2 a0_0 a0_1 _ _ l0_2 _ _ l0_3 _ _ t889 _ _ t892 true _ ?side1 ?side2 ?side3 ?side4 ?side5 ?side6 ?side7 ?side8 A19.out).mono ?_
 (case side1 => exact kC_ HR0_2 HB)
 (case side2 => exact HC0_2.out)
 (case side3 => exact kC_ HR0_3 HB)
 (case side4 => exact HC0_3.out)
 (case side5 => repeat (first | exact (Kd.S_reads' HO891.out).2.2 | (with_reducible refine Kd.C_alloc ?_ _) | (with_reducible refine Kd.C_drewN ?_ _) | (with_reducible refine Kd.C_drew ?_)))
 (case side6 => exact (Kd.S_reads' HO891.out).2.1)
 (case side7 => repeat (first | exact (Kd.S_reads' HO894.out).2.2 | (with_reducible refine Kd.C_alloc ?_ _) | (with_reducible refine Kd.C_drewN ?_ _) | (with_reducible refine Kd.C_drew ?_)))
 (case side8 => exact (Kd.S_reads' HO894.out).2.1)
 rintro e w56 ⟨rfl, hb⟩
 refine ⟨_, rfl, ?_⟩
 replace HO888 := FR_ HO888 hb
 replace HO891 := FS_ HO891 hb
 replace HO894 := FS_ HO894 hb
 replace HO901 := FV_ HO901 hb
 replace HO905 := FS_ HO905 hb
 replace HO908 := FS_ HO908 hb
 replace BK880 := FB_ BK880 hb
 replace BK896 := FB_ BK896 hb
 replace BK910 := FB_ BK910 hb
 replace HB := BS_ HB hb
 (try clear hb)
 (try clear hk)
 refine hK.out _ _ ⟨ce_ BK880 0, ce_ BK880 1, ce_ BK880 2, ce_ BK880 3, ce_ BK896 0, ce_ BK896 1, ce_ BK910 0, ce_ BK910 1⟩ (fun hHeld => ?_)
 clear hK K
 refine norm_ (a' := ?_) ?_ ?_
 rotate_left
 {
 show Act.put _ (some 50) _ = _
 exact sp_}
 refine pu_ 3 (some 51) (B_ 29 15) HT_ ?_
 refine pu_ 4 (some 52) (B_ 29 31) HT_ ?_
 refine pu_ 5 (some 53) (B_ 29 63) HT_ ?_
 refine pu_ 6 (some 54) (B_ 29 127) HT_ ?_
 refine pu_ 7 (some 55) (B_ 29 255) HT_ ?_
 refine pu_ 8 (some 56) (B_ 29 511) HT_ ?_
 refine pu_ 9 (some 57) (B_ 29 1023) HT_ ?_
 refine pu_ 10 (some 58) (B_ 29 2047) HT_ ?_
 refine pu_ 11 (some 59) (B_ 29 4095) HT_ ?_
 refine take_ (i := 12) (N := some 60) (v := ?_) (a' := ?_) (B_ 29 8191) rfl rfl (take_ofW HT_.out HW_.out kf_) (fun _ _ _ h => h) (Or.inl ⟨by rfl, ?_⟩) hHeld ?_ ?_
 rotate_left
 {
 rintro w' ⟨s0, s1, s2, s3, s4, s5, s6, s7⟩
 go_simp
 with_reducible rfl}
 rotate_left
 {
 exact sp_}
 refine take_ (i := 14) (N := some 62) (v := ?_) (a' := ?_) (B_ 29 24575) rfl rfl (take_ofW HT_.out HW_.out kf_) (fun _ _ _ h => h) (Or.inl ⟨by rfl, ?_⟩) hHeld ?_ ?_
 rotate_left
 {
 rintro w' ⟨s0, s1, s2, s3, s4, s5, s6, s7⟩
 go_simp
 with_reducible rfl}
 rotate_left
 {
 exact sp_}
 refine one_ (i := 13) (N := some 61) (B_ 29 32767) rfl rfl (one_of HT_.out kf_) (by decide) (fun K hK => ?_)
 refine goes_ Try.func31 kf_ rfl #[.agg #[.slice Ao37 t889.length co37, .slice Ao39 t892.length co39]] (by rfl) rfl rfl ar_ ?_
 with_reducible refine (psalterylaw17_As.calls _ _ t889 _ _ t892  _ ?side1 ?side2 ?side3 ?side4 A23.out).mono ?_
 (case side1 => repeat (first | exact (Kd.S_reads' HO891.out).2.2 | (with_reducible refine Kd.C_alloc ?_ _) | (with_reducible refine Kd.C_drewN ?_ _) | (with_reducible refine Kd.C_drew ?_)))
 (case side2 => exact (Kd.S_reads' HO891.out).2.1)
 (case side3 => repeat (first | exact (Kd.S_reads' HO894.out).2.2 | (with_reducible refine Kd.C_alloc ?_ _) | (with_reducible refine Kd.C_drewN ?_ _) | (with_reducible refine Kd.C_drew ?_)))
 (case side4 => exact (Kd.S_reads' HO894.out).2.1)
 rintro e w57 ⟨rfl, hb⟩
 refine ⟨_, rfl, ?_⟩
 replace HO888 := FR_ HO888 hb
 replace HO891 := FS_ HO891 hb
 replace HO894 := FS_ HO894 hb
 replace HO901 := FV_ HO901 hb
 replace HO905 := FS_ HO905 hb
 replace HO908 := FS_ HO908 hb
 replace BK880 := FB_ BK880 hb
 replace BK896 := FB_ BK896 hb
 replace BK910 := FB_ BK910 hb
 replace HB := BS_ HB hb
 (try clear hb)
 (try clear hk)
 refine hK.out _ _ ⟨ce_ BK880 0, ce_ BK880 1, ce_ BK880 2, ce_ BK880 3, ce_ BK896 0, ce_ BK896 1, ce_ BK910 0, ce_ BK910 1⟩ (fun hHeld => ?_)
 clear hK K
 refine norm_ (a' := ?_) ?_ ?_
 rotate_left
 {
 show Act.put _ (some 61) _ = _
 exact sp_}
 refine one_ (i := 15) (N := some 63) (B_ 29 65535) rfl rfl (one_of HT_.out kf_) (by decide) (fun K hK => ?_)
 refine goes_ Try.func31 kf_ rfl #[.agg #[.slice Ao49 t903.length co49, .slice Ao53 t906.length co53]] (by rfl) rfl rfl ar_ ?_
 with_reducible refine (psalterylaw17_As.calls _ _ t903 _ _ t906  _ ?side1 ?side2 ?side3 ?side4 A24.out).mono ?_
 (case side1 => repeat (first | exact (Kd.S_reads' HO905.out).2.2 | (with_reducible refine Kd.C_alloc ?_ _) | (with_reducible refine Kd.C_drewN ?_ _) | (with_reducible refine Kd.C_drew ?_)))
 (case side2 => exact (Kd.S_reads' HO905.out).2.1)
 (case side3 => repeat (first | exact (Kd.S_reads' HO908.out).2.2 | (with_reducible refine Kd.C_alloc ?_ _) | (with_reducible refine Kd.C_drewN ?_ _) | (with_reducible refine Kd.C_drew ?_)))
 (case side4 => exact (Kd.S_reads' HO908.out).2.1)
 rintro e w58 ⟨rfl, hb⟩
 refine ⟨_, rfl, ?_⟩
 replace HO888 := FR_ HO888 hb
 replace HO891 := FS_ HO891 hb
 replace HO894 := FS_ HO894 hb
 replace HO901 := FV_ HO901 hb
 replace HO905 := FS_ HO905 hb
 replace HO908 := FS_ HO908 hb
 replace BK880 := FB_ BK880 hb
 replace BK896 := FB_ BK896 hb
 replace BK910 := FB_ BK910 hb
 replace HB := BS_ HB hb
 (try clear hb)
 (try clear hk)
 refine hK.out _ _ ⟨ce_ BK880 0, ce_ BK880 1, ce_ BK880 2, ce_ BK880 3, ce_ BK896 0, ce_ BK896 1, ce_ BK910 0, ce_ BK910 1⟩ (fun hHeld => ?_)
 clear hK K
 refine norm_ (a' := ?_) ?_ ?_
 rotate_left
 {
 show Act.put _ (some 63) _ = _
 exact sp_}
 refine one_ (i := 16) (N := some 64) (B_ 29 131071) rfl rfl (one_of HT_.out kf_) (by decide) (fun K hK => ?_)
 refine goes_ Try.func36 kf_ rfl #[.agg #[.slice Ao37 t889.length co37, .slice Ao39 t892.length co39], .agg #[.slice Ao49 t903.length co49, .slice Ao53 t906.length co53]] (by rfl) rfl rfl ar_ ?_
 with_reducible refine (psalteryref17_Same.calls kj2 _ _ t889 _ _ t892 _ _ t903 _ _ t906 true _ ?side1 ?side2 ?side3 ?side4 ?side5 ?side6 ?side7 ?side8 A25.out).mono ?_
 (case side1 => repeat (first | exact (Kd.S_reads' HO891.out).2.2 | (with_reducible refine Kd.C_alloc ?_ _) | (with_reducible refine Kd.C_drewN ?_ _) | (with_reducible refine Kd.C_drew ?_)))
 (case side2 => exact (Kd.S_reads' HO891.out).2.1)
 (case side3 => repeat (first | exact (Kd.S_reads' HO894.out).2.2 | (with_reducible refine Kd.C_alloc ?_ _) | (with_reducible refine Kd.C_drewN ?_ _) | (with_reducible refine Kd.C_drew ?_)))
 (case side4 => exact (Kd.S_reads' HO894.out).2.1)
 (case side5 => repeat (first | exact (Kd.S_reads' HO905.out).2.2 | (with_reducible refine Kd.C_alloc ?_ _) | (with_reducible refine Kd.C_drewN ?_ _) | (with_reducible refine Kd.C_drew ?_)))
 (case side6 => exact (Kd.S_reads' HO905.out).2.1)
 (case side7 => repeat (first | exact (Kd.S_reads' HO908.out).2.2 | (with_reducible refine Kd.C_alloc ?_ _) | (with_reducible refine Kd.C_drewN ?_ _) | (with_reducible refine Kd.C_drew ?_)))
 (case side8 => exact (Kd.S_reads' HO908.out).2.1)
 rintro e w59 ⟨rfl, hb⟩
 refine ⟨_, rfl, ?_⟩
 replace HO888 := FR_ HO888 hb
 replace HO891 := FS_ HO891 hb
 replace HO894 := FS_ HO894 hb
 replace HO901 := FV_ HO901 hb
 replace HO905 := FS_ HO905 hb
 replace HO908 := FS_ HO908 hb
 replace BK880 := FB_ BK880 hb
 replace BK896 := FB_ BK896 hb
 replace BK910 := FB_ BK910 hb
 replace HB := BS_ HB hb
 (try clear hb)
 (try clear hk)
 refine hK.out _ _ ⟨ce_ BK880 0, ce_ BK880 1, ce_ BK880 2, ce_ BK880 3, ce_ BK896 0, ce_ BK896 1, ce_ BK910 0, ce_ BK910 1⟩ (fun hHeld => ?_)
 clear hK K
 refine norm_ (a' := ?_) ?_ ?_
 rotate_left
 {
 show Act.put _ (some 64) _ = _
 exact sp_}
 refine pu_ 17 (some 65) (B_ 29 262143) HT_ ?_
 refine pu_ 18 (some 66) (B_ 29 524287) HT_ ?_
 refine pu_ 19 (some 67) (B_ 29 1048575) HT_ ?_
 refine pu_ 20 (some 68) (B_ 29 2097151) HT_ ?_
 refine pu_ 21 (some 69) (B_ 29 4194303) HT_ ?_
 refine pu_ 22 (some 70) (B_ 29 8388607) HT_ ?_
 refine pu_ 23 (some 71) (B_ 29 16777215) HT_ ?_
 refine pu_ 24 (some 72) (B_ 29 33554431) HT_ ?_
 refine pu_ 25 (some 73) (B_ 29 67108863) HT_ ?_
 refine one_ (i := 26) (N := some 74) (B_ 29 134217727) rfl rfl (one_of HT_.out kf_) (by decide) (fun K hK => ?_)
 refine goes_ Try.func28 kf_ rfl #[] (by rfl) rfl rfl ar_ ?_
 with_reducible refine (psalterylaw17_knows.calls kj2  t913 _ A28.out).mono ?_
 rintro e w60 ⟨rfl, hb⟩
 refine ⟨_, rfl, ?_⟩
 replace HO888 := FR_ HO888 hb
 replace HO891 := FS_ HO891 hb
 replace HO894 := FS_ HO894 hb
 replace HO901 := FV_ HO901 hb
 replace HO905 := FS_ HO905 hb
 replace HO908 := FS_ HO908 hb
 replace BK880 := FB_ BK880 hb
 replace BK896 := FB_ BK896 hb
 replace BK910 := FB_ BK910 hb
 replace HB := BS_ HB hb
 (try clear hb)
 (try clear hk)
 refine hK.out _ _ ⟨ce_ BK880 0, ce_ BK880 1, ce_ BK880 2, ce_ BK880 3, ce_ BK896 0, ce_ BK896 1, ce_ BK910 0, ce_ BK910 1⟩ (fun hHeld => ?_)
 clear hK K
 refine norm_ (a' := ?_) ?_ ?_
 rotate_left
 {
 show Act.put _ (some 74) _ = _
 exact sp_}
 refine pu_ 27 (some 75) (B_ 29 268435455) HT_ ?_
 refine pu_ 28 (some 4) (B_ 29 536870911) HT_ ?_
 refine done_ (done_of HT_.out kf_) ?_
 try go_wp2
 go_ret
 exact ⟨by first | rfl | (simp [errW_none, errW_some] <;> rfl) | (simp [*, errW_none, errW_some] <;> rfl), bl_ HB⟩}
 {
 rw [if_neg c27] at H
 have c27b0 : decide ((t899.length : Int) ≤ (l1.length : Int)) = false := decide_eq_false c27
 have c27b1 : decide (t899.length ≤ l1.length) = false := decide_eq_false (fun h => c27 (Int.ofNat_le.mpr h))
 clear c27
 exact absurd ((Option.some.inj H).trans HT.out) (by decide)}}
 {
 replace c26 := Bool.eq_false_iff.mpr c26
 subst c26
 rw [if_neg (show ¬ (false = true) by decide)] at H
 exact absurd ((Option.some.inj H).trans HT.out) (by decide)}}
 {
 rw [if_neg c22] at H
 have c22b0 : (t909 == 0) = false := beq_eq_false_iff_ne.mpr c22
 have c22b1 : (t909 != 0) = true := bne_iff_ne.mpr c22
 exact absurd ((Option.some.inj H).trans HT.out) (by decide)}}
 {
 rw [if_neg c21] at H
 have c21b0 : (t902 == 0) = false := beq_eq_false_iff_ne.mpr c21
 have c21b1 : (t902 != 0) = true := bne_iff_ne.mpr c21
 exact absurd ((Option.some.inj H).trans HT.out) (by decide)}}
 {
 replace c20 := Bool.eq_false_iff.mpr c20
 subst c20
 rw [if_neg (show ¬ (false = true) by decide)] at H
 exact absurd ((Option.some.inj H).trans HT.out) (by decide)}}
 {
 rw [if_neg c16] at H
 have c16b0 : (t895 == 0) = false := beq_eq_false_iff_ne.mpr c16
 have c16b1 : (t895 != 0) = true := bne_iff_ne.mpr c16
 obtain ⟨_, A61, H⟩ := ob_ H
 (try dsimp only at H)
 obtain ⟨t897, A62, H⟩ := ob_ H
 (try dsimp only at H)
 by_cases c63 : t897 = true
 {
 subst c63
 rw [if_pos rfl] at H
 replace H := Option.bind_eq_some_iff.mp H
 obtain ⟨t898, A640, H⟩ := H
 replace H : (some t898) = some r := H
 have A64 := Aside0.mk A640
 clear A640
 obtain rfl := Option.some.inj H
 try go_wp2
 replace BK880 := Aside0.mk (blk_drew BK880.out)
 replace HB := Aside0.mk (below_drew1 HB.out)
 refine start_ (n := 11) (S := fun w' => w'.cell? ⟨gb880, 0, none⟩ = some (.int .i64 a0_0) ∧ w'.cell? ⟨gb880, 1, none⟩ = some (.int .i64 a0_1) ∧ w'.cell? ⟨gb880, 2, none⟩ = some (.slice A0_2 l0_2.length c0_2) ∧ w'.cell? ⟨gb880, 3, none⟩ = some (.slice A0_3 l0_3.length c0_3)) (ds := []) (B_ 11 0) kf_ rfl rfl ⟨ce_ BK880 0, ce_ BK880 1, ce_ BK880 2, ce_ BK880 3⟩ (fun hHeld => ?_); refine with_tabW psalterylaw17_BodyAny.tab3 psalterylaw17_BodyAny.bits3 (fun HT_ HW_ => ?_)
 generalize wc.drew = w65 at BK880 HB hHeld ⊢
 refine pu_ 2 (some 22) (B_ 11 4) HT_ ?_
 refine take_ (i := 0) (N := some 20) (v := ?_) (a' := ?_) (B_ 11 5) rfl rfl (take_ofW HT_.out HW_.out kf_) (fun _ _ _ h => h) (Or.inl ⟨by rfl, ?_⟩) hHeld ?_ ?_
 rotate_left
 {
 rintro w' ⟨s0, s1, s2, s3⟩
 go_simp
 with_reducible rfl}
 rotate_left
 {
 exact sp_}
 refine join_ (σ := Value × Value × Value × Value × Nat) 2 (B_ 11 511) (fun s_ => [(21, s_.1), (23, s_.2.1), (24, .tuple #[.agg #[s_.2.2.1, s_.2.2.2.1], .int .i64 t895]), (5, .pointer (some ⟨s_.2.2.2.2, 0, none⟩)), (19, .tuple #[.agg #[s_.2.2.1, s_.2.2.2.1], .int .i64 t895]), (25, .agg #[s_.2.2.1, s_.2.2.2.1]), (26, .int .i64 t895)]) (fun s_ w' => (w'.cell? ⟨gb880, 0, none⟩ = some (.int .i64 a0_0) ∧ w'.cell? ⟨gb880, 1, none⟩ = some (.int .i64 a0_1) ∧ w'.cell? ⟨gb880, 2, none⟩ = some (.slice A0_2 l0_2.length c0_2) ∧ w'.cell? ⟨gb880, 3, none⟩ = some (.slice A0_3 l0_3.length c0_3)) ∧ (Kd.R (Kd.int .u8) 5 w' w.heap.size (fun _ => True) s_.2.1 y886) ∧ (Kd.S (Kd.slice 3 (Kd.int .i64)) 22 w' w.heap.size (fun _ => True) s_.2.2.1 t889) ∧ (Kd.S (Kd.slice 2 (Kd.int .i64)) 84 w' w.heap.size (fun _ => True) s_.2.2.2.1 t892) ∧ (w'.heap[gb880]? = some (.cells #[.int .i64 a0_0, .int .i64 a0_1, .slice A0_2 l0_2.length c0_2, .slice A0_3 l0_3.length c0_3] 24 (0, 0))) ∧ (w'.heap[s_.2.2.2.2]? = some (.cells #[.slice none 0 0, .slice none 0 0] 48 (0, 0))) ∧ (w.heap.size ≤ s_.2.2.2.2) ∧ (w.heap.size ≤ s_.2.2.2.2) ∧ (gb880 ≠ s_.2.2.2.2) ∧ (s_.2.2.2.2 ≠ gb880) ∧ (Below w.heap.size w w')) ?_ ?_
 rotate_left
 {
 intro hCont
 refine two_ (i := 1) (j := 8) (Ni := some 21) (Nj := some 5) (B_ 11 7) (B_ 11 261) rfl rfl rfl rfl (two_of HT_.out kf_) (by decide) (by decide) (fun K hK => ?_) (fun K hK => ?_)
 {
 skip
 refine Kd.R_lit_step (Kd.int .u8) _ 5 ?hg (N := 21) ?hd (xs := ([] : List Int)) (inner := []) (ok := fun _ => True) (okp := fun _ => True) ?hr ?hp (fun _ hk => hk) trivial (Below.refl _ _) (Nat.le_refl _) (by simp) ?_; (case hd => rfl); (case hg => rfl); (case hr => first | (go_simp; done) | (go_simp; rfl)); (case hp => exact (Reps.none _ _))
 intro v884 w66 ho67 hb hg_ hnew_
 clear hg_ hnew_
 (first | rw [← Ny883.out] at ho67 | (simp only [Int.reduceToNat] at ho67; rw [← Ny883.out] at ho67))
 have HO885 := Aside0.mk (Kd.R_lower ho67 (bs_ HB))
 replace BK880 := FB_ BK880 hb
 replace HB := BS_ HB hb
 clear hb ho67
 refine hK.out _ _ ⟨ce_ BK880 0, ce_ BK880 1, ce_ BK880 2, ce_ BK880 3⟩ (fun hHeld => ?_)
 clear hK K
 refine norm_ (a' := ?_) ?_ ?_
 rotate_left
 {
 show Act.put _ (some 21) _ = _
 exact sp_}
 refine two_ (i := 3) (j := 8) (Ni := some 23) (Nj := some 5) (B_ 11 15) (B_ 11 263) rfl rfl rfl rfl (two_of HT_.out kf_) (by decide) (by decide) (fun K hK => ?_) (fun K hK => ?_)
 {
 skip
 refine Kd.R_append_rows_step (Kd.int .u8) (w0 := w) w.heap.size (by rfl) (.tmp 21) (.tmp 22) 34 5 (.int .u8 0) 1 rfl Try.underlying34 info5 rfl (by decide) (by omega) v884 y883 l1 _ _ _ (fun _ => True) (fun _ => False) rfl rfl ?aO ?aR (fun _ _ h => h) (fun _ h => h.elim) ?aF ?aB ?aS ?aL ?_
 (case aR => exact kC_ HR1 HB)
 (case aB => exact (bl_ HB))
 (case aF => exact (fun _ _ => trivial))
 (case aO => exact (kR_ HO885))
 (case aS => exact (bs_ HB))
 (case aL => have := LMc14.out; omega)
 intro v887 w68 ho hb hg hat
 rw [← Ny886.out] at ho
 replace BK880 := (FG_ BK880 hg (Kd.R_ne HO885.out BK880.out (by decide)))
 replace HB := Aside0.mk (hb)
 have HO888 := Aside0.mk (ho)
 clear HO885
 clear ho hb hg hat
 obtain ⟨Ao69, co69, eo69⟩ := Kd.R_slice HO888.out
 (first | subst eo69 | (injection eo69 with f1_ f2_ f3_; have f4_ := f1_.symm; have f5_ := f3_.symm; clear f1_ f2_ f3_; subst f4_; subst f5_))
 refine hK.out _ _ ⟨ce_ BK880 0, ce_ BK880 1, ce_ BK880 2, ce_ BK880 3⟩ (fun hHeld => ?_)
 clear hK K
 refine norm_ (a' := ?_) ?_ ?_
 rotate_left
 {
 show Act.put _ (some 23) _ = _
 exact sp_}
 refine two_ (i := 4) (j := 8) (Ni := some 24) (Nj := some 5) (B_ 11 31) (B_ 11 271) rfl rfl rfl rfl (two_of HT_.out kf_) (by decide) (by decide) (fun K hK => ?_) (fun K hK => ?_)
 {
 skip
 refine goes_ Try.func34 kf_ rfl #[.agg #[.int .i64 a0_0, .int .i64 a0_1, .slice A0_2 l0_2.length c0_2, .slice A0_3 l0_3.length c0_3], .slice Ao69 y886.length co69] (by rfl) rfl rfl ar_ ?_
 with_reducible refine (vpack_Read.calls kj2 a0_0 a0_1 _ _ l0_2 _ _ l0_3 _ _ y886 t889 t892 t895 _ ?side1 ?side2 ?side3 ?side4 ?side5 ?side6 A15.out).mono ?_
 (case side1 => exact kC_ HR0_2 HB)
 (case side2 => exact HC0_2.out)
 (case side3 => exact kC_ HR0_3 HB)
 (case side4 => exact HC0_3.out)
 (case side5 => exact kCt_ (Kd.R_reads' HO888.out).2.2)
 (case side6 => exact (Kd.R_reads' HO888.out).2.1)
 rintro e w70 ⟨v890, v893, rfl, ho0, ho1, hb⟩
 refine ⟨_, rfl, ?_⟩
 replace HO888 := FR_ HO888 hb
 have HO891 := Aside0.mk (Kd.S_lower ho0 (bs_ HB))
 have HO894 := Aside0.mk (Kd.S_lower ho1 (bs_ HB))
 replace BK880 := FB_ BK880 hb
 replace HB := BS_ HB hb
 (try clear hb)
 (try clear hk)
 (try clear ho0)
 (try clear ho1)
 refine hK.out _ _ ⟨ce_ BK880 0, ce_ BK880 1, ce_ BK880 2, ce_ BK880 3⟩ (fun hHeld => ?_)
 clear hK K
 refine norm_ (a' := ?_) ?_ ?_
 rotate_left
 {
 show Act.put _ (some 24) _ = _
 exact sp_}
 refine pu_ 5 (some 19) (B_ 11 63) HT_ ?_
 refine pu_ 6 (some 25) (B_ 11 127) HT_ ?_
 refine pu_ 7 (some 26) (B_ 11 255) HT_ ?_
 refine one_ (i := 8) (N := some 5) (B_ 11 511) rfl rfl (one_of HT_.out kf_) (by decide) (fun K hK => ?_)
 refine box_step ?hg (N := 5) ?hd (cs := #[.slice none 0 0, .slice none 0 0]) (t := 48) ?hr ?_; (case hd => rfl); (case hg => rfl); (case hr => first | (go_simp; done) | (go_simp; rfl))
 intro gb896 hg w71 hbox hb
 replace HO888 := FR_ HO888 hb
 replace HO891 := FS_ HO891 hb
 replace HO894 := FS_ HO894 hb
 have BK896 := Aside0.mk (hbox)
 have GW896 := GE_ HB hg
 have GE896 := GE_ HB hg
 replace HB := BS_ HB hb
 obtain ⟨NB880_896, NB896_880⟩ := NN_ BK880 hg
 replace BK880 := FB_ BK880 hb
 clear hb hbox hg
 refine hK.out _ _ ⟨ce_ BK880 0, ce_ BK880 1, ce_ BK880 2, ce_ BK880 3⟩ (fun hHeld => ?_)
 clear hK K
 refine norm_ (a' := ?_) ?_ ?_
 rotate_left
 {
 show Act.put _ (some 5) _ = _
 exact sp_}
 exact norm_ pa_ (hCont (v884, .slice Ao69 y886.length co69, v890, v893, gb896) _ ⟨hHeld, (kR_ HO888), (kS_ HO891), (kS_ HO894), (bk_ BK880), (bk_ BK896), GW896.out, GE896.out, NB880_896.out, NB896_880.out, (bl_ HB)⟩)}
 {
 skip
 refine box_step ?hg (N := 5) ?hd (cs := #[.slice none 0 0, .slice none 0 0]) (t := 48) ?hr ?_; (case hd => rfl); (case hg => rfl); (case hr => first | (go_simp; done) | (go_simp; rfl))
 intro gb896 hg w69 hbox hb
 replace HO888 := FR_ HO888 hb
 have BK896 := Aside0.mk (hbox)
 have GW896 := GE_ HB hg
 have GE896 := GE_ HB hg
 replace HB := BS_ HB hb
 obtain ⟨NB880_896, NB896_880⟩ := NN_ BK880 hg
 replace BK880 := FB_ BK880 hb
 clear hb hbox hg
 obtain ⟨Ao70, co70, eo70⟩ := Kd.R_slice HO888.out
 (first | subst eo70 | (injection eo70 with f1_ f2_ f3_; have f4_ := f1_.symm; have f5_ := f3_.symm; clear f1_ f2_ f3_; subst f4_; subst f5_))
 refine hK.out _ _ ⟨ce_ BK880 0, ce_ BK880 1, ce_ BK880 2, ce_ BK880 3⟩ (fun hHeld => ?_)
 clear hK K
 refine norm_ (a' := ?_) ?_ ?_
 rotate_left
 {
 show Act.put _ (some 5) _ = _
 exact sp_}
 refine one_ (i := 4) (N := some 24) (B_ 11 287) rfl rfl (one_of HT_.out kf_) (by decide) (fun K hK => ?_)
 refine goes_ Try.func34 kf_ rfl #[.agg #[.int .i64 a0_0, .int .i64 a0_1, .slice A0_2 l0_2.length c0_2, .slice A0_3 l0_3.length c0_3], .slice Ao70 y886.length co70] (by rfl) rfl rfl ar_ ?_
 with_reducible refine (vpack_Read.calls kj2 a0_0 a0_1 _ _ l0_2 _ _ l0_3 _ _ y886 t889 t892 t895 _ ?side1 ?side2 ?side3 ?side4 ?side5 ?side6 A15.out).mono ?_
 (case side1 => exact kC_ HR0_2 HB)
 (case side2 => exact HC0_2.out)
 (case side3 => exact kC_ HR0_3 HB)
 (case side4 => exact HC0_3.out)
 (case side5 => exact kCt_ (Kd.R_reads' HO888.out).2.2)
 (case side6 => exact (Kd.R_reads' HO888.out).2.1)
 rintro e w71 ⟨v890, v893, rfl, ho0, ho1, hb⟩
 refine ⟨_, rfl, ?_⟩
 replace HO888 := FR_ HO888 hb
 have HO891 := Aside0.mk (Kd.S_lower ho0 (bs_ HB))
 have HO894 := Aside0.mk (Kd.S_lower ho1 (bs_ HB))
 replace BK880 := FB_ BK880 hb
 replace BK896 := FB_ BK896 hb
 replace HB := BS_ HB hb
 (try clear hb)
 (try clear hk)
 (try clear ho0)
 (try clear ho1)
 refine hK.out _ _ ⟨ce_ BK880 0, ce_ BK880 1, ce_ BK880 2, ce_ BK880 3⟩ (fun hHeld => ?_)
 clear hK K
 refine norm_ (a' := ?_) ?_ ?_
 rotate_left
 {
 show Act.put _ (some 24) _ = _
 exact sp_}
 refine pu_ 5 (some 19) (B_ 11 319) HT_ ?_
 refine pu_ 6 (some 25) (B_ 11 383) HT_ ?_
 refine pu_ 7 (some 26) (B_ 11 511) HT_ ?_
 exact norm_ pa_ (hCont (v884, .slice Ao70 y886.length co70, v890, v893, gb896) _ ⟨hHeld, (kR_ HO888), (kS_ HO891), (kS_ HO894), (bk_ BK880), (bk_ BK896), GW896.out, GE896.out, NB880_896.out, NB896_880.out, (bl_ HB)⟩)}}
 {
 skip
 refine box_step ?hg (N := 5) ?hd (cs := #[.slice none 0 0, .slice none 0 0]) (t := 48) ?hr ?_; (case hd => rfl); (case hg => rfl); (case hr => first | (go_simp; done) | (go_simp; rfl))
 intro gb896 hg w68 hbox hb
 replace HO885 := FR_ HO885 hb
 have BK896 := Aside0.mk (hbox)
 have GW896 := GE_ HB hg
 have GE896 := GE_ HB hg
 replace HB := BS_ HB hb
 obtain ⟨NB880_896, NB896_880⟩ := NN_ BK880 hg
 replace BK880 := FB_ BK880 hb
 clear hb hbox hg
 refine hK.out _ _ ⟨ce_ BK880 0, ce_ BK880 1, ce_ BK880 2, ce_ BK880 3⟩ (fun hHeld => ?_)
 clear hK K
 refine norm_ (a' := ?_) ?_ ?_
 rotate_left
 {
 show Act.put _ (some 5) _ = _
 exact sp_}
 refine one_ (i := 3) (N := some 23) (B_ 11 271) rfl rfl (one_of HT_.out kf_) (by decide) (fun K hK => ?_)
 refine Kd.R_append_rows_step (Kd.int .u8) (w0 := w) w.heap.size (by rfl) (.tmp 21) (.tmp 22) 34 5 (.int .u8 0) 1 rfl Try.underlying34 info5 rfl (by decide) (by omega) v884 y883 l1 _ _ _ (fun _ => True) (fun _ => False) rfl rfl ?aO ?aR (fun _ _ h => h) (fun _ h => h.elim) ?aF ?aB ?aS ?aL ?_
 (case aR => exact kC_ HR1 HB)
 (case aB => exact (bl_ HB))
 (case aF => exact (fun _ _ => trivial))
 (case aO => exact (kR_ HO885))
 (case aS => exact (bs_ HB))
 (case aL => have := LMc14.out; omega)
 intro v887 w69 ho hb hg hat
 rw [← Ny886.out] at ho
 replace BK880 := (FG_ BK880 hg (Kd.R_ne HO885.out BK880.out (by decide)))
 replace BK896 := (FG_ BK896 hg (Kd.R_ne HO885.out BK896.out (by decide)))
 replace HB := Aside0.mk (hb)
 have HO888 := Aside0.mk (ho)
 clear HO885
 clear ho hb hg hat
 obtain ⟨Ao70, co70, eo70⟩ := Kd.R_slice HO888.out
 (first | subst eo70 | (injection eo70 with f1_ f2_ f3_; have f4_ := f1_.symm; have f5_ := f3_.symm; clear f1_ f2_ f3_; subst f4_; subst f5_))
 refine hK.out _ _ ⟨ce_ BK880 0, ce_ BK880 1, ce_ BK880 2, ce_ BK880 3⟩ (fun hHeld => ?_)
 clear hK K
 refine norm_ (a' := ?_) ?_ ?_
 rotate_left
 {
 show Act.put _ (some 23) _ = _
 exact sp_}
 refine one_ (i := 4) (N := some 24) (B_ 11 287) rfl rfl (one_of HT_.out kf_) (by decide) (fun K hK => ?_)
 refine goes_ Try.func34 kf_ rfl #[.agg #[.int .i64 a0_0, .int .i64 a0_1, .slice A0_2 l0_2.length c0_2, .slice A0_3 l0_3.length c0_3], .slice Ao70 y886.length co70] (by rfl) rfl rfl ar_ ?_
 with_reducible refine (vpack_Read.calls kj2 a0_0 a0_1 _ _ l0_2 _ _ l0_3 _ _ y886 t889 t892 t895 _ ?side1 ?side2 ?side3 ?side4 ?side5 ?side6 A15.out).mono ?_
 (case side1 => exact kC_ HR0_2 HB)
 (case side2 => exact HC0_2.out)
 (case side3 => exact kC_ HR0_3 HB)
 (case side4 => exact HC0_3.out)
 (case side5 => exact kCt_ (Kd.R_reads' HO888.out).2.2)
 (case side6 => exact (Kd.R_reads' HO888.out).2.1)
 rintro e w71 ⟨v890, v893, rfl, ho0, ho1, hb⟩
 refine ⟨_, rfl, ?_⟩
 replace HO888 := FR_ HO888 hb
 have HO891 := Aside0.mk (Kd.S_lower ho0 (bs_ HB))
 have HO894 := Aside0.mk (Kd.S_lower ho1 (bs_ HB))
 replace BK880 := FB_ BK880 hb
 replace BK896 := FB_ BK896 hb
 replace HB := BS_ HB hb
 (try clear hb)
 (try clear hk)
 (try clear ho0)
 (try clear ho1)
 refine hK.out _ _ ⟨ce_ BK880 0, ce_ BK880 1, ce_ BK880 2, ce_ BK880 3⟩ (fun hHeld => ?_)
 clear hK K
 refine norm_ (a' := ?_) ?_ ?_
 rotate_left
 {
 show Act.put _ (some 24) _ = _
 exact sp_}
 refine pu_ 5 (some 19) (B_ 11 319) HT_ ?_
 refine pu_ 6 (some 25) (B_ 11 383) HT_ ?_
 refine pu_ 7 (some 26) (B_ 11 511) HT_ ?_
 exact norm_ pa_ (hCont (v884, .slice Ao70 y886.length co70, v890, v893, gb896) _ ⟨hHeld, (kR_ HO888), (kS_ HO891), (kS_ HO894), (bk_ BK880), (bk_ BK896), GW896.out, GE896.out, NB880_896.out, NB896_880.out, (bl_ HB)⟩)}}
 {
 skip
 refine box_step ?hg (N := 5) ?hd (cs := #[.slice none 0 0, .slice none 0 0]) (t := 48) ?hr ?_; (case hd => rfl); (case hg => rfl); (case hr => first | (go_simp; done) | (go_simp; rfl))
 intro gb896 hg w66 hbox hb
 have BK896 := Aside0.mk (hbox)
 have GW896 := GE_ HB hg
 have GE896 := GE_ HB hg
 replace HB := BS_ HB hb
 obtain ⟨NB880_896, NB896_880⟩ := NN_ BK880 hg
 replace BK880 := FB_ BK880 hb
 clear hb hbox hg
 refine hK.out _ _ ⟨ce_ BK880 0, ce_ BK880 1, ce_ BK880 2, ce_ BK880 3⟩ (fun hHeld => ?_)
 clear hK K
 refine norm_ (a' := ?_) ?_ ?_
 rotate_left
 {
 show Act.put _ (some 5) _ = _
 exact sp_}
 refine one_ (i := 1) (N := some 21) (B_ 11 263) rfl rfl (one_of HT_.out kf_) (by decide) (fun K hK => ?_)
 refine Kd.R_lit_step (Kd.int .u8) _ 5 ?hg (N := 21) ?hd (xs := ([] : List Int)) (inner := []) (ok := fun _ => True) (okp := fun _ => True) ?hr ?hp (fun _ hk => hk) trivial (Below.refl _ _) (Nat.le_refl _) (by simp) ?_; (case hd => rfl); (case hg => rfl); (case hr => first | (go_simp; done) | (go_simp; rfl)); (case hp => exact (Reps.none _ _))
 intro v884 w67 ho68 hb hg_ hnew_
 clear hg_ hnew_
 (first | rw [← Ny883.out] at ho68 | (simp only [Int.reduceToNat] at ho68; rw [← Ny883.out] at ho68))
 have HO885 := Aside0.mk (Kd.R_lower ho68 (bs_ HB))
 replace BK880 := FB_ BK880 hb
 replace BK896 := FB_ BK896 hb
 replace HB := BS_ HB hb
 clear hb ho68
 refine hK.out _ _ ⟨ce_ BK880 0, ce_ BK880 1, ce_ BK880 2, ce_ BK880 3⟩ (fun hHeld => ?_)
 clear hK K
 refine norm_ (a' := ?_) ?_ ?_
 rotate_left
 {
 show Act.put _ (some 21) _ = _
 exact sp_}
 refine one_ (i := 3) (N := some 23) (B_ 11 271) rfl rfl (one_of HT_.out kf_) (by decide) (fun K hK => ?_)
 refine Kd.R_append_rows_step (Kd.int .u8) (w0 := w) w.heap.size (by rfl) (.tmp 21) (.tmp 22) 34 5 (.int .u8 0) 1 rfl Try.underlying34 info5 rfl (by decide) (by omega) v884 y883 l1 _ _ _ (fun _ => True) (fun _ => False) rfl rfl ?aO ?aR (fun _ _ h => h) (fun _ h => h.elim) ?aF ?aB ?aS ?aL ?_
 (case aR => exact kC_ HR1 HB)
 (case aB => exact (bl_ HB))
 (case aF => exact (fun _ _ => trivial))
 (case aO => exact (kR_ HO885))
 (case aS => exact (bs_ HB))
 (case aL => have := LMc14.out; omega)
 intro v887 w69 ho hb hg hat
 rw [← Ny886.out] at ho
 replace BK880 := (FG_ BK880 hg (Kd.R_ne HO885.out BK880.out (by decide)))
 replace BK896 := (FG_ BK896 hg (Kd.R_ne HO885.out BK896.out (by decide)))
 replace HB := Aside0.mk (hb)
 have HO888 := Aside0.mk (ho)
 clear HO885
 clear ho hb hg hat
 obtain ⟨Ao70, co70, eo70⟩ := Kd.R_slice HO888.out
 (first | subst eo70 | (injection eo70 with f1_ f2_ f3_; have f4_ := f1_.symm; have f5_ := f3_.symm; clear f1_ f2_ f3_; subst f4_; subst f5_))
 refine hK.out _ _ ⟨ce_ BK880 0, ce_ BK880 1, ce_ BK880 2, ce_ BK880 3⟩ (fun hHeld => ?_)
 clear hK K
 refine norm_ (a' := ?_) ?_ ?_
 rotate_left
 {
 show Act.put _ (some 23) _ = _
 exact sp_}
 refine one_ (i := 4) (N := some 24) (B_ 11 287) rfl rfl (one_of HT_.out kf_) (by decide) (fun K hK => ?_)
 refine goes_ Try.func34 kf_ rfl #[.agg #[.int .i64 a0_0, .int .i64 a0_1, .slice A0_2 l0_2.length c0_2, .slice A0_3 l0_3.length c0_3], .slice Ao70 y886.length co70] (by rfl) rfl rfl ar_ ?_
 with_reducible refine (vpack_Read.calls kj2 a0_0 a0_1 _ _ l0_2 _ _ l0_3 _ _ y886 t889 t892 t895 _ ?side1 ?side2 ?side3 ?side4 ?side5 ?side6 A15.out).mono ?_
 (case side1 => exact kC_ HR0_2 HB)
 (case side2 => exact HC0_2.out)
 (case side3 => exact kC_ HR0_3 HB)
 (case side4 => exact HC0_3.out)
 (case side5 => exact kCt_ (Kd.R_reads' HO888.out).2.2)
 (case side6 => exact (Kd.R_reads' HO888.out).2.1)
 rintro e w71 ⟨v890, v893, rfl, ho0, ho1, hb⟩
 refine ⟨_, rfl, ?_⟩
 replace HO888 := FR_ HO888 hb
 have HO891 := Aside0.mk (Kd.S_lower ho0 (bs_ HB))
 have HO894 := Aside0.mk (Kd.S_lower ho1 (bs_ HB))
 replace BK880 := FB_ BK880 hb
 replace BK896 := FB_ BK896 hb
 replace HB := BS_ HB hb
 (try clear hb)
 (try clear hk)
 (try clear ho0)
 (try clear ho1)
 refine hK.out _ _ ⟨ce_ BK880 0, ce_ BK880 1, ce_ BK880 2, ce_ BK880 3⟩ (fun hHeld => ?_)
 clear hK K
 refine norm_ (a' := ?_) ?_ ?_
 rotate_left
 {
 show Act.put _ (some 24) _ = _
 exact sp_}
 refine pu_ 5 (some 19) (B_ 11 319) HT_ ?_
 refine pu_ 6 (some 25) (B_ 11 383) HT_ ?_
 refine pu_ 7 (some 26) (B_ 11 511) HT_ ?_
 exact norm_ pa_ (hCont (v884, .slice Ao70 y886.length co70, v890, v893, gb896) _ ⟨hHeld, (kR_ HO888), (kS_ HO891), (kS_ HO894), (bk_ BK880), (bk_ BK896), GW896.out, GE896.out, NB880_896.out, NB896_880.out, (bl_ HB)⟩)}}
 clear BK880 HB
 rintro ⟨v884, v887, v890, v893, gb896⟩ w72 ⟨hS_, h0_, h1_, h2_, h3_, h4_, h5_, h6_, h7_, h8_, h9_⟩
 (try dsimp only at h0_ h1_ h2_ h3_ h4_ h5_ h6_ h7_ h8_ h9_)
 have HO888 := Aside0.mk h0_
 have HO891 := Aside0.mk h1_
 have HO894 := Aside0.mk h2_
 have BK880 := Aside0.mk h3_
 have BK896 := Aside0.mk h4_
 have GW896 := Aside0.mk h5_
 have GE896 := Aside0.mk h6_
 have NB880_896 := Aside0.mk h7_
 have NB896_880 := Aside0.mk h8_
 have HB := Aside0.mk h9_
 clear h0_ h1_ h2_ h3_ h4_ h5_ h6_ h7_ h8_ h9_
 have hHeld : w72.cell? ⟨gb880, 0, none⟩ = some (.int .i64 a0_0) ∧ w72.cell? ⟨gb880, 1, none⟩ = some (.int .i64 a0_1) ∧ w72.cell? ⟨gb880, 2, none⟩ = some (.slice A0_2 l0_2.length c0_2) ∧ w72.cell? ⟨gb880, 3, none⟩ = some (.slice A0_3 l0_3.length c0_3) := hS_
 obtain ⟨Ao73, co73, eo73⟩ := Kd.S_slice HO891.out
 (first | subst eo73 | (injection eo73 with f1_ f2_ f3_; have f4_ := f1_.symm; have f5_ := f3_.symm; clear f1_ f2_ f3_; subst f4_; subst f5_))
 obtain ⟨Ao75, co75, eo75⟩ := Kd.S_slice HO894.out
 (first | subst eo75 | (injection eo75 with f1_ f2_ f3_; have f4_ := f1_.symm; have f5_ := f3_.symm; clear f1_ f2_ f3_; subst f4_; subst f5_))
 refine norm_ (a' := ?_) ?_ ?_
 rotate_left
 {
 simp only [putAll, Act.put, List.setIfInBounds_toArray, List.set_cons_zero, List.set_cons_succ]
 rfl}
 refine one_ (i := 9) (N := none) (B_ 11 1023) rfl rfl (one_of HT_.out kf_) (by decide) (fun K hK => ?_)
 have hs74 : w72.cell? ⟨gb896, 0, none⟩ = some (.slice none 0 0) := ce_ BK896 0
 have hfs74 := blk_frozen BK896.out 0
 have hns74_0 := NB880_896.out
 have hms74_0 := NB896_880.out
 have hs76 : w72.cell? ⟨gb896, 1, none⟩ = some (.slice none 0 0) := ce_ BK896 1
 have hfs76 := blk_frozen BK896.out 1
 have hns76_0 := NB880_896.out
 have hms76_0 := NB896_880.out
 refine skip_ (w1 := ?_) (by rfl) rfl ?_ ?_
 rotate_left
 {
 go_simp
 rfl}
 refine hK.out _ _ ⟨((cell_far (p := ⟨gb896, _, none⟩) NB880_896.out _).trans (((cell_far (p := ⟨gb896, _, none⟩) NB880_896.out _).trans (hHeld.1)))), ((cell_far (p := ⟨gb896, _, none⟩) NB880_896.out _).trans (((cell_far (p := ⟨gb896, _, none⟩) NB880_896.out _).trans (hHeld.2.1)))), ((cell_far (p := ⟨gb896, _, none⟩) NB880_896.out _).trans (((cell_far (p := ⟨gb896, _, none⟩) NB880_896.out _).trans (hHeld.2.2.1)))), ((cell_far (p := ⟨gb896, _, none⟩) NB880_896.out _).trans (((cell_far (p := ⟨gb896, _, none⟩) NB880_896.out _).trans (hHeld.2.2.2))))⟩ (fun hHeld => ?_)
 clear hK K
 refine pu_ 10 (some 6) (B_ 11 2047) HT_ ?_
 refine done_ (done_of HT_.out kf_) ?_
 have hnb77 := NB896_880.out
 have hnc77 := NB880_896.out
 obtain ⟨hcz78_0, hcz78_1, hfz78_0, hfz78_1⟩ := e2_ BK896
 try go_wp2_with (first | ((with_reducible refine gate_callee (f := 31) rfl ?_); refine gL_ (some 30) Try.func31 #[.agg #[.slice Ao73 t889.length co73, .slice Ao75 t892.length co75]] ?_; (with_reducible refine (psalterylaw17_As.calls _ _ t889 _ _ t892  _ ?side1 ?side2 ?side3 ?side4 A61.out).mono ?_); (case side1 => refine (Kd.S_reads' (e := 22) (base := w.heap.size) (ok := fun k_ => True) (n := t889.length) (c := co73) ?_).2.2; exact (kSk_ HO891 BK896)); (case side2 => exact (Kd.S_reads' HO891.out).2.1); (case side3 => refine (Kd.S_reads' (e := 84) (base := w.heap.size) (ok := fun k_ => True) (n := t892.length) (c := co75) ?_).2.2; exact (kSk_ HO894 BK896)); (case side4 => exact (Kd.S_reads' HO894.out).2.1); rintro e w79 ⟨rfl, hb⟩; refine ⟨_, rfl, ?_⟩; replace HO888 := Aside0.mk (Kd.R_below (kRk_ HO888 BK896) hb); replace HO891 := Aside0.mk (Kd.S_below (kSk_ HO891 BK896) hb); replace HO894 := Aside0.mk (Kd.S_below (kSk_ HO894 BK896) hb); replace BK880 := FB_ BK880 hb; replace BK896 := Aside0.mk (blk_below (g := gb896) (o := .cells #[.slice Ao73 t889.length co73, .slice Ao75 t892.length co75] 48 (0, 0)) (bp_ BK896) hb); replace HB := BS_ HB hb; (try clear hb)) | ((with_reducible refine gate_callee (f := 36) rfl ?_); refine gL_ (some 32) Try.func36 #[.agg #[.slice Ao73 t889.length co73, .slice Ao75 t892.length co75], .agg #[.slice none 0 0, .slice none 0 0]] ?_; (refine (psalteryref17_Same.calls kj2 _ _ t889 _ _ t892 _ _ ([] : List (List Int)) _ _ ([] : List (List Int)) true _ ?side1 ?side2 ?side3 ?side4 ?side5 ?side6 ?side7 ?side8 A62.out).mono ?_); (case side1 => repeat (first | exact (Kd.S_reads' HO891.out).2.2 | (with_reducible refine Kd.C_alloc ?_ _) | (with_reducible refine Kd.C_drewN ?_ _) | (with_reducible refine Kd.C_drew ?_))); (case side2 => exact (Kd.S_reads' HO891.out).2.1); (case side3 => repeat (first | exact (Kd.S_reads' HO894.out).2.2 | (with_reducible refine Kd.C_alloc ?_ _) | (with_reducible refine Kd.C_drewN ?_ _) | (with_reducible refine Kd.C_drew ?_))); (case side4 => exact (Kd.S_reads' HO894.out).2.1); (case side5 => exact Kd.C_nil _ _); (case side6 => exact Nat.le_refl _); (case side7 => exact Kd.C_nil _ _); (case side8 => exact Nat.le_refl _); rintro e w80 ⟨rfl, hb⟩; refine ⟨_, rfl, ?_⟩; replace HO888 := FR_ HO888 hb; replace HO891 := FS_ HO891 hb; replace HO894 := FS_ HO894 hb; replace BK880 := FB_ BK880 hb; replace BK896 := FB_ BK896 hb; replace HB := BS_ HB hb; (try clear hb)) | (go_at_call 28; (with_reducible refine (psalterylaw17_knows.calls kj2  t898 _ A64.out).mono ?_); rintro e w81 ⟨rfl, hb⟩; replace HO888 := FR_ HO888 hb; replace HO891 := FS_ HO891 hb; replace HO894 := FS_ HO894 hb; replace BK880 := FB_ BK880 hb; replace BK896 := FB_ BK896 hb; replace HB := BS_ HB hb; (try clear hb)))
 go_ret
 exact ⟨by first | rfl | (simp [errW_none, errW_some] <;> rfl) | (simp [*, errW_none, errW_some] <;> rfl), bl_ HB⟩}
 {
 replace c63 := Bool.eq_false_iff.mpr c63
 subst c63
 rw [if_neg (show ¬ (false = true) by decide)] at H
 exact absurd ((Option.some.inj H).trans HT.out) (by decide)}}}
 {
 rw [if_neg c14] at H
 exact absurd H (by simp)}}))
def psalterylaw17_BodyAny.Pure : Prop := ∀ (a0_0 : Int) (a0_1 : Int) (l0_2 : List Int) (l0_3 : List Int) (l1 : List Int), (Lit.int .i64 a0_0).wf = true → (Lit.int .i64 a0_1).wf = true → (l0_2.length ≤ maxLen ∧ ∀ x0_ ∈ l0_2, (Lit.int .i64 x0_).wf = true) → (l0_3.length ≤ maxLen ∧ ∀ x0_ ∈ l0_3, (Lit.int .i64 x0_).wf = true) → (l1.length ≤ maxLen ∧ ∀ x0_ ∈ l1, (Lit.int .u8 x0_).wf = true) → ∃ k, psalterylaw17_BodyAny.f k a0_0 a0_1 l0_2 l0_3 l1 = some true
theorem psalterylaw17_BodyAny.walk (P : psalterylaw17_BodyAny.Pure) (a0_0 : Int) (a0_1 : Int) (A0_2 : Option Addr) (c0_2 : Nat) (l0_2 : List Int) (A0_3 : Option Addr) (c0_3 : Nat) (l0_3 : List Int) (A1 : Option Addr) (c1 : Nat) (l1 : List Int) (w : World) (hr0_2 : Kd.C (Kd.int .i64) w A0_2 l0_2.length l0_2) (hc0_2 : l0_2.length ≤ c0_2) (hr0_3 : Kd.C (Kd.int .i64) w A0_3 l0_3.length l0_3) (hc0_3 : l0_3.length ≤ c0_3) (hr1 : Kd.C (Kd.int .u8) w A1 l1.length l1) (hc1 : l1.length ≤ c1) (w0_0 : (Lit.int .i64 a0_0).wf = true) (w0_1 : (Lit.int .i64 a0_1).wf = true) (w0_2 : (l0_2.length ≤ maxLen ∧ ∀ x0_ ∈ l0_2, (Lit.int .i64 x0_).wf = true)) (w0_3 : (l0_3.length ≤ maxLen ∧ ∀ x0_ ∈ l0_3, (Lit.int .i64 x0_).wf = true)) (w1 : (l1.length ≤ maxLen ∧ ∀ x0_ ∈ l1, (Lit.int .u8 x0_).wf = true)) :
    Calls Try.prog 13 #[.agg #[.int .i64 a0_0, .int .i64 a0_1, .slice A0_2 l0_2.length c0_2, .slice A0_3 l0_3.length c0_3], .slice A1 l1.length c1] w fun e w' => e = .returned (.bool true) ∧ Below w.heap.size w w' := by
  obtain ⟨k, h⟩ := P a0_0 a0_1 l0_2 l0_3 l1 w0_0 w0_1 w0_2 w0_3 w1
  refine (psalterylaw17_BodyAny.calls k a0_0 a0_1 _ _ l0_2 _ _ l0_3 _ _ l1 true w hr0_2 hc0_2 hr0_3 hc0_3 hr1 hc1 h rfl).mono ?_
  rintro e w' ⟨rfl, hd⟩
  exact ⟨rfl, hd⟩

end Go.Proofs.Ytpdfdaoohknfoaa.P
