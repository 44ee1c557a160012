/- Walks. -/
import Derived.Test.YtpdfdaoohknfoaaQ1
import Derived.Test.YtpdfdaoohknfoaaPx16
import Derived.Test.YtpdfdaoohknfoaaQ2
import Derived.Test.YtpdfdaoohknfoaaQ3
import Derived.Test.YtpdfdaoohknfoaaPx52
import Derived.Test.YtpdfdaoohknfoaaPx53
import Derived.Test.YtpdfdaoohknfoaaPx58
namespace Go.Proofs.Ytpdfdaoohknfoaa.P
open Go.RowKit Go.Proofs.YtpdfdaoohknfoaaW.PrintWords Go.Proofs.YtpdfdaoohknfoaaW.PrintLast Go.Proofs.YtpdfdaoohknfoaaW.PrintMore
attribute [local go_sem] max2_int min2_int max_two min_two max_three min_three max_four min_four   -- for this text's walks alone
set_option linter.unusedVariables false
set_option linter.unusedSimpArgs false

def psalterylaw17_BodyWrites.f (k : Nat) (a0_0 : Int) (a0_1 : Int) (l0_2 : List Int) (l0_3 : List Int) (l1_0 : List (List Int)) (l1_1 : List (List Int)) : Option (Bool) := (psalterylaw17_great.f k a0_0 a0_1 l0_2 l0_3 l1_0 l1_1).bind fun t736 => (if t736 = true then ((psalterylaw17_knows.f k).bind fun t737 => (some t737)) else ((vpack_Write.f k a0_0 a0_1 l0_2 l0_3 l1_0 l1_1).bind fun bt738 => ((psalterylaw16_As.f a0_0 a0_1 l0_2 l0_3).bind fun bt742 => ((psalterylaw17_As.f l1_0 l1_1).bind fun _ => ((psalteryref17_Right.f k bt742.1 bt742.2 l0_2 l0_3 l1_0 l1_1).bind fun t744 => (if t744 = true then ((psalterylaw16_As.f a0_0 a0_1 l0_2 l0_3).bind fun bt746 => ((psalterylaw17_As.f l1_0 l1_1).bind fun _ => ((psalteryref17_Write.f k bt746.1 bt746.2 l0_2 l0_3 l1_0 l1_1).bind fun t748 => (if (strOfNums bt738.1).toList = (strOfNums t748).toList then (if bt738.2 = 0 then ((psalterylaw17_knows.f k).bind fun t751 => (some t751)) else (some false)) else (some false))))) else (if (bt738.1.length : Int) = 0 then (if bt738.2 = 1 then ((psalterylaw17_knows.f k).bind fun t745 => (some t745)) else (some false)) else (some false))))))))
theorem psalterylaw17_BodyWrites.mono : ∀ a0 a1 a2 a3 a4 a5 k, LeO (psalterylaw17_BodyWrites.f k a0 a1 a2 a3 a4 a5) (psalterylaw17_BodyWrites.f (k + 1) a0 a1 a2 a3 a4 a5) := by
  intro a0 a1 a2 a3 a4 a5 k
  unfold psalterylaw17_BodyWrites.f
  with_reducible repeat' first
   | exact psalterylaw17_great.mono _ _ _ _ _ _ _
   | exact psalterylaw17_knows.mono _
   | exact psalteryref17_Right.mono _ _ _ _ _ _ _
   | exact psalteryref17_Write.mono _ _ _ _ _ _ _
   | exact vpack_Write.mono _ _ _ _ _ _ _
   | exact LeO.refl _
   | exact LeO.none _
   | refine LeO.ite ?_ ?_
   | refine LeO.bind ?_ (fun _ => ?_)
def psalterylaw17_BodyWrites.T6 : Bool × List (List Nat × List Nat) := (true, [([], []), ([0], [0]), ([], []), ([2], [2]), ([], []), ([4, 3], [4]), ([3, 5, 5], [3, 5]), ([6], [6]), ([1, 7], [1, 7]), ([8, 6], [8]), ([9], [9]), ([10, 9], [9, 10]), ([9, 11], [9, 11]), ([12, 9], [12]), ([13, 13], [13]), ([13, 14], [13, 14]), ([15, 14, 0, 1, 2, 3, 4, 5, 6, 7, 8, 9, 10, 11, 12, 13, 14, 15], [15])])
def psalterylaw17_BodyWrites.B6 : List Nat := [0, 1, 0, 4, 0, 28, 60, 124, 255, 511, 1023, 2047, 4095, 8191, 16383, 32767, 65535]
theorem psalterylaw17_BodyWrites.tab6 : rtab .any (opsOf Try.f10 6) = psalterylaw17_BodyWrites.T6 := by kernel_rfl
theorem psalterylaw17_BodyWrites.bits6 : waitsOk psalterylaw17_BodyWrites.T6.2 psalterylaw17_BodyWrites.B6 = true := by kernel_rfl
set_option maxHeartbeats 8000000 in
set_option maxRecDepth 100000 in
theorem psalterylaw17_BodyWrites.calls (k : Nat) (a0_0 : Int) (a0_1 : Int) (A0_2 : Option Addr) (c0_2 : Nat) (l0_2 : List Int) (A0_3 : Option Addr) (c0_3 : Nat) (l0_3 : List Int) (A1_0 : Option Addr) (c1_0 : Nat) (l1_0 : List (List Int)) (A1_1 : Option Addr) (c1_1 : Nat) (l1_1 : List (List Int)) (r : Bool) (w : World) (hr0_2 : Kd.C (Kd.int .i64) w A0_2 l0_2.length l0_2) (hc0_2 : l0_2.length ≤ c0_2) (hr0_3 : Kd.C (Kd.int .i64) w A0_3 l0_3.length l0_3) (hc0_3 : l0_3.length ≤ c0_3) (hr1_0 : Kd.C (Kd.slice 3 (Kd.int .i64)) w A1_0 l1_0.length l1_0) (hc1_0 : l1_0.length ≤ c1_0) (hr1_1 : Kd.C (Kd.slice 2 (Kd.int .i64)) w A1_1 l1_1.length l1_1) (hc1_1 : l1_1.length ≤ c1_1) (h : psalterylaw17_BodyWrites.f k a0_0 a0_1 l0_2 l0_3 l1_0 l1_1 = some r) (hT : r = true) :
    Calls Try.prog 10 #[.agg #[.int .i64 a0_0, .int .i64 a0_1, .slice A0_2 l0_2.length c0_2, .slice A0_3 l0_3.length c0_3], .agg #[.slice A1_0 l1_0.length c1_0, .slice A1_1 l1_1.length c1_1]] w fun e w' => e = .returned (.bool r) ∧ Below w.heap.size w w' := by
 have hu24 := Try.underlying24
 have hu48 := Try.underlying48
 have HR0_2 := Aside0.mk hr0_2
 have HC0_2 := Aside0.mk hc0_2
 clear hr0_2 hc0_2
 have HR0_3 := Aside0.mk hr0_3
 have HC0_3 := Aside0.mk hc0_3
 clear hr0_3 hc0_3
 have HR1_0 := Aside0.mk hr1_0
 have HC1_0 := Aside0.mk hc1_0
 clear hr1_0 hc1_0
 have HR1_1 := Aside0.mk hr1_1
 have HC1_1 := Aside0.mk hc1_1
 clear hr1_1 hc1_1
 have HB := Aside0.mk (Below.refl w.heap.size w)
 have H : ((psalterylaw17_great.f k a0_0 a0_1 l0_2 l0_3 l1_0 l1_1).bind fun t736 => (if t736 = true then ((psalterylaw17_knows.f k).bind fun t737 => (some t737)) else ((vpack_Write.f k a0_0 a0_1 l0_2 l0_3 l1_0 l1_1).bind fun bt738 => ((psalterylaw16_As.f a0_0 a0_1 l0_2 l0_3).bind fun bt742 => ((psalterylaw17_As.f l1_0 l1_1).bind fun _ => ((psalteryref17_Right.f k bt742.1 bt742.2 l0_2 l0_3 l1_0 l1_1).bind fun t744 => (if t744 = true then ((psalterylaw16_As.f a0_0 a0_1 l0_2 l0_3).bind fun bt746 => ((psalterylaw17_As.f l1_0 l1_1).bind fun _ => ((psalteryref17_Write.f k bt746.1 bt746.2 l0_2 l0_3 l1_0 l1_1).bind fun t748 => (if (strOfNums bt738.1).toList = (strOfNums t748).toList then (if bt738.2 = 0 then ((psalterylaw17_knows.f k).bind fun t751 => (some t751)) else (some false)) else (some false))))) else (if (bt738.1.length : Int) = 0 then (if bt738.2 = 1 then ((psalterylaw17_knows.f k).bind fun t745 => (some t745)) else (some false)) else (some false))))))))) = some r := h
 clear h
 have HT := Aside0.mk hT
 clear hT
 obtain ⟨t736, A3, H⟩ := ob_ H
 (try dsimp only at H)
 by_cases c4 : t736 = true
 {
 subst c4
 rw [if_pos rfl] at H
 replace H := Option.bind_eq_some_iff.mp H
 obtain ⟨t737, A50, H⟩ := H
 replace H : (some t737) = some r := H
 have A5 := Aside0.mk A50
 clear A50
 obtain rfl := Option.some.inj H
 go_enter Try.func10, Try.ntmps10
 go_wp2_with (first | ((with_reducible refine gate_dst (N := 2) rfl ?_); refine bx_ HB 2 #[.int .i64 a0_0, .int .i64 a0_1, .slice A0_2 l0_2.length c0_2, .slice A0_3 l0_3.length c0_3] 24 ?_; clear HB; intro gb734 hg w6 hb BK734 GE734 HB; have GW734 := GE734; clear hb hg) | ((with_reducible refine gate_dst (N := 3) rfl ?_); refine bx_ HB 3 #[.slice A1_0 l1_0.length c1_0, .slice A1_1 l1_1.length c1_1] 48 ?_; clear HB; intro gb735 hg w7 hb BK735 GE735 HB; have GW735 := GE735; obtain ⟨NB734_735, NB735_734⟩ := NN_ BK734 hg; replace BK734 := FB_ BK734 hb; clear hb hg; have hnb8 := NB734_735.out; have hnc8 := NB735_734.out; obtain ⟨hcz9_0, hcz9_1, hcz9_2, hcz9_3, hfz9_0, hfz9_1, hfz9_2, hfz9_3⟩ := e4_ BK734; obtain ⟨hcz10_0, hcz10_1, hfz10_0, hfz10_1⟩ := e2_ BK735) | ((with_reducible refine gate_callee (f := 27) rfl ?_); refine gL_ (some 9) Try.func27 #[.agg #[.int .i64 a0_0, .int .i64 a0_1, .slice A0_2 l0_2.length c0_2, .slice A0_3 l0_3.length c0_3], .agg #[.slice A1_0 l1_0.length c1_0, .slice A1_1 l1_1.length c1_1]] ?_; (with_reducible refine (psalterylaw17_great.calls k a0_0 a0_1 _ _ l0_2 _ _ l0_3 _ _ l1_0 _ _ l1_1 true _ ?side1 ?side2 ?side3 ?side4 ?side5 ?side6 ?side7 ?side8 A3.out).mono ?_); (case side1 => exact kC_ HR0_2 HB); (case side2 => exact HC0_2.out); (case side3 => exact kC_ HR0_3 HB); (case side4 => exact HC0_3.out); (case side5 => exact kC_ HR1_0 HB); (case side6 => exact HC1_0.out); (case side7 => exact kC_ HR1_1 HB); (case side8 => exact HC1_1.out); rintro e w11 ⟨rfl, hb⟩; refine ⟨_, rfl, ?_⟩; replace BK734 := FB_ BK734 hb; replace BK735 := FB_ BK735 hb; replace HB := BS_ HB hb; (try clear hb)) | ((with_reducible refine gate_callee (f := 28) rfl ?_); refine gL_ (some 10) Try.func28 #[] ?_; (with_reducible refine (psalterylaw17_knows.calls k  t737 _ A5.out).mono ?_); rintro e w12 ⟨rfl, hb⟩; refine ⟨_, rfl, ?_⟩; replace BK734 := FB_ BK734 hb; replace BK735 := FB_ BK735 hb; replace HB := BS_ HB hb; (try clear hb)))
 go_ret
 exact ⟨by first | rfl | (simp [errW_none, errW_some] <;> rfl) | (simp [*, errW_none, errW_some] <;> rfl), bl_ HB⟩}
 {
 replace c4 := Bool.eq_false_iff.mpr c4
 subst c4
 rw [if_neg (show ¬ (false = true) by decide)] at H
 obtain ⟨⟨t738, t741⟩, A13, H⟩ := ob_ H
 (try dsimp only at H)
 obtain ⟨⟨t742, t743⟩, A14, H⟩ := ob_ H
 (try dsimp only at H)
 obtain ⟨_, A15, H⟩ := ob_ H
 (try dsimp only at H)
 obtain ⟨t744, A16, H⟩ := ob_ H
 (try dsimp only at H)
 by_cases c17 : t744 = true
 {
 subst c17
 rw [if_pos rfl] at H
 obtain ⟨⟨t746, t747⟩, A18, H⟩ := ob_ H
 (try dsimp only at H)
 obtain ⟨_, A19, H⟩ := ob_ H
 (try dsimp only at H)
 obtain ⟨t748, A20, H⟩ := ob_ H
 (try dsimp only at H)
 by_cases c21 : (strOfNums t738).toList = (strOfNums t748).toList
 {
 rw [if_pos c21] at H
 have c21b0 : ((strOfNums t738).toList == (strOfNums t748).toList) = true := beq_iff_eq.mpr c21
 have c21b1 : ((strOfNums t738).toList != (strOfNums t748).toList) = false := bne_eq_false_iff_eq.mpr c21
 clear c21
 by_cases c22 : t741 = 0
 {
 rw [if_pos c22] at H
 have c22b0 : (t741 == 0) = true := beq_iff_eq.mpr c22
 have c22b1 : (t741 != 0) = false := bne_eq_false_iff_eq.mpr c22
 clear c22
 replace H := Option.bind_eq_some_iff.mp H
 obtain ⟨t751, A230, H⟩ := H
 replace H : (some t751) = some r := H
 have A23 := Aside0.mk A230
 clear A230
 obtain rfl := Option.some.inj H
 go_enter Try.func10, Try.ntmps10
 try go_wp2_with (first | ((with_reducible refine gate_dst (N := 2) rfl ?_); refine bx_ HB 2 #[.int .i64 a0_0, .int .i64 a0_1, .slice A0_2 l0_2.length c0_2, .slice A0_3 l0_3.length c0_3] 24 ?_; clear HB; intro gb734 hg w24 hb BK734 GE734 HB; have GW734 := GE734; clear hb hg) | ((with_reducible refine gate_dst (N := 3) rfl ?_); refine bx_ HB 3 #[.slice A1_0 l1_0.length c1_0, .slice A1_1 l1_1.length c1_1] 48 ?_; clear HB; intro gb735 hg w25 hb BK735 GE735 HB; have GW735 := GE735; obtain ⟨NB734_735, NB735_734⟩ := NN_ BK734 hg; replace BK734 := FB_ BK734 hb; clear hb hg; have hnb26 := NB734_735.out; have hnc26 := NB735_734.out; obtain ⟨hcz27_0, hcz27_1, hcz27_2, hcz27_3, hfz27_0, hfz27_1, hfz27_2, hfz27_3⟩ := e4_ BK734; obtain ⟨hcz28_0, hcz28_1, hfz28_0, hfz28_1⟩ := e2_ BK735) | ((with_reducible refine gate_callee (f := 27) rfl ?_); refine gL_ (some 9) Try.func27 #[.agg #[.int .i64 a0_0, .int .i64 a0_1, .slice A0_2 l0_2.length c0_2, .slice A0_3 l0_3.length c0_3], .agg #[.slice A1_0 l1_0.length c1_0, .slice A1_1 l1_1.length c1_1]] ?_; (with_reducible refine (psalterylaw17_great.calls k a0_0 a0_1 _ _ l0_2 _ _ l0_3 _ _ l1_0 _ _ l1_1 false _ ?side1 ?side2 ?side3 ?side4 ?side5 ?side6 ?side7 ?side8 A3.out).mono ?_); (case side1 => exact kC_ HR0_2 HB); (case side2 => exact HC0_2.out); (case side3 => exact kC_ HR0_3 HB); (case side4 => exact HC0_3.out); (case side5 => exact kC_ HR1_0 HB); (case side6 => exact HC1_0.out); (case side7 => exact kC_ HR1_1 HB); (case side8 => exact HC1_1.out); rintro e w29 ⟨rfl, hb⟩; refine ⟨_, rfl, ?_⟩; replace BK734 := FB_ BK734 hb; replace BK735 := FB_ BK735 hb; replace HB := BS_ HB hb; (try clear hb); obtain ⟨hcz30_0, hcz30_1, hcz30_2, hcz30_3, hfz30_0, hfz30_1, hfz30_2, hfz30_3⟩ := e4_ BK734; obtain ⟨hcz31_0, hcz31_1, hfz31_0, hfz31_1⟩ := e2_ BK735) | ((with_reducible refine gate_callee (f := 32) rfl ?_); refine gL_ (some 14) Try.func32 #[.agg #[.int .i64 a0_0, .int .i64 a0_1, .slice A0_2 l0_2.length c0_2, .slice A0_3 l0_3.length c0_3], .agg #[.slice A1_0 l1_0.length c1_0, .slice A1_1 l1_1.length c1_1]] ?_; (with_reducible refine (vpack_Write.calls k a0_0 a0_1 _ _ l0_2 _ _ l0_3 _ _ l1_0 _ _ l1_1 t738 t741 _ ?side1 ?side2 ?side3 ?side4 ?side5 ?side6 ?side7 ?side8 A13.out).mono ?_); (case side1 => exact kC_ HR0_2 HB); (case side2 => exact HC0_2.out); (case side3 => exact kC_ HR0_3 HB); (case side4 => exact HC0_3.out); (case side5 => exact kC_ HR1_0 HB); (case side6 => exact HC1_0.out); (case side7 => exact kC_ HR1_1 HB); (case side8 => exact HC1_1.out); rintro e w32 ⟨v739, rfl, ho0, hb⟩; refine ⟨_, rfl, ?_⟩; have HO740 := Aside0.mk (Kd.V_lower (Kd.V_mono (ok' := fun k_ => k_ ≠ gb734 ∧ k_ ≠ gb735) ho0 (fun k_ hk_ => ⟨(Kd.freshB (g := gb734) (o := .cells #[.int .i64 a0_0, .int .i64 a0_1, .slice A0_2 l0_2.length c0_2, .slice A0_3 l0_3.length c0_3] 24 (0, 0)) (bk_ BK734) k_ hk_), (Kd.freshB (g := gb735) (o := .cells #[.slice A1_0 l1_0.length c1_0, .slice A1_1 l1_1.length c1_1] 48 (0, 0)) (bk_ BK735) k_ hk_)⟩)) (bs_ HB)); replace BK734 := FB_ BK734 hb; replace BK735 := FB_ BK735 hb; replace HB := BS_ HB hb; (try clear hb); (try clear ho0)))
 replace HO740 := Aside0.mk (Kd.V_drew HO740.out)
 replace BK734 := Aside0.mk (blk_drew BK734.out)
 replace BK735 := Aside0.mk (blk_drew BK735.out)
 replace HB := Aside0.mk (below_drew1 HB.out)
 refine start_ (n := 6) (S := fun w' => w'.cell? ⟨gb734, 0, none⟩ = some (.int .i64 a0_0) ∧ w'.cell? ⟨gb734, 1, none⟩ = some (.int .i64 a0_1) ∧ w'.cell? ⟨gb734, 2, none⟩ = some (.slice A0_2 l0_2.length c0_2) ∧ w'.cell? ⟨gb734, 3, none⟩ = some (.slice A0_3 l0_3.length c0_3) ∧ w'.cell? ⟨gb735, 0, none⟩ = some (.slice A1_0 l1_0.length c1_0) ∧ w'.cell? ⟨gb735, 1, none⟩ = some (.slice A1_1 l1_1.length c1_1)) (ds := []) (B_ 6 0) kf_ rfl rfl ⟨ce_ BK734 0, ce_ BK734 1, ce_ BK734 2, ce_ BK734 3, ce_ BK735 0, ce_ BK735 1⟩ (fun hHeld => ?_)
 generalize w32.drew = w33 at HO740 BK734 BK735 HB hHeld ⊢
 refine take_ (i := 0) (N := some 17) (v := ?_) (a' := ?_) (B_ 6 1) rfl rfl kf_ (fun _ _ _ h => h) (Or.inl ⟨by rfl, ?_⟩) hHeld ?_ ?_
 rotate_left
 {
 rintro w' ⟨s0, s1, s2, s3, s4, s5⟩
 go_simp
 with_reducible rfl}
 rotate_left
 {
 exact sp_}
 refine take_ (i := 2) (N := some 19) (v := ?_) (a' := ?_) (B_ 6 5) rfl rfl kf_ (fun _ _ _ h => h) (Or.inl ⟨by rfl, ?_⟩) hHeld ?_ ?_
 rotate_left
 {
 rintro w' ⟨s0, s1, s2, s3, s4, s5⟩
 go_simp
 with_reducible rfl}
 rotate_left
 {
 exact sp_}
 refine one_ (i := 1) (N := some 18) (B_ 6 7) rfl rfl kf_ (by decide) (fun K hK => ?_)
 refine goes_ Try.func19 kf_ rfl #[.agg #[.int .i64 a0_0, .int .i64 a0_1, .slice A0_2 l0_2.length c0_2, .slice A0_3 l0_3.length c0_3]] (by rfl) rfl rfl ar_ ?_
 with_reducible refine (psalterylaw16_As.calls a0_0 a0_1 _ _ l0_2 _ _ l0_3 t742 t743 _ ?side1 ?side2 ?side3 ?side4 A14.out).mono ?_
 (case side1 => exact kC_ HR0_2 HB)
 (case side2 => exact HC0_2.out)
 (case side3 => exact kC_ HR0_3 HB)
 (case side4 => exact HC0_3.out)
 rintro e w34 ⟨rfl, hb⟩
 refine ⟨_, rfl, ?_⟩
 replace HO740 := FV_ HO740 hb
 replace BK734 := FB_ BK734 hb
 replace BK735 := FB_ BK735 hb
 replace HB := BS_ HB hb
 (try clear hb)
 refine hK.out _ _ ⟨ce_ BK734 0, ce_ BK734 1, ce_ BK734 2, ce_ BK734 3, ce_ BK735 0, ce_ BK735 1⟩ (fun hHeld => ?_)
 clear hK K
 refine norm_ (a' := ?_) ?_ ?_
 rotate_left
 {
 show Act.put _ (some 18) _ = _
 exact sp_}
 refine one_ (i := 3) (N := some 20) (B_ 6 15) rfl rfl kf_ (by decide) (fun K hK => ?_)
 refine goes_ Try.func31 kf_ rfl #[.agg #[.slice A1_0 l1_0.length c1_0, .slice A1_1 l1_1.length c1_1]] (by rfl) rfl rfl ar_ ?_
 with_reducible refine (psalterylaw17_As.calls _ _ l1_0 _ _ l1_1  _ ?side1 ?side2 ?side3 ?side4 A15.out).mono ?_
 (case side1 => exact kC_ HR1_0 HB)
 (case side2 => exact HC1_0.out)
 (case side3 => exact kC_ HR1_1 HB)
 (case side4 => exact HC1_1.out)
 rintro e w35 ⟨rfl, hb⟩
 refine ⟨_, rfl, ?_⟩
 replace HO740 := FV_ HO740 hb
 replace BK734 := FB_ BK734 hb
 replace BK735 := FB_ BK735 hb
 replace HB := BS_ HB hb
 (try clear hb)
 refine hK.out _ _ ⟨ce_ BK734 0, ce_ BK734 1, ce_ BK734 2, ce_ BK734 3, ce_ BK735 0, ce_ BK735 1⟩ (fun hHeld => ?_)
 clear hK K
 refine norm_ (a' := ?_) ?_ ?_
 rotate_left
 {
 show Act.put _ (some 20) _ = _
 exact sp_}
 refine one_ (i := 4) (N := some 21) (B_ 6 31) rfl rfl kf_ (by decide) (fun K hK => ?_)
 refine goes_ Try.func30 kf_ rfl #[.agg #[.int .i64 t742, .int .i64 t743, .slice A0_2 l0_2.length c0_2, .slice A0_3 l0_3.length c0_3], .agg #[.slice A1_0 l1_0.length c1_0, .slice A1_1 l1_1.length c1_1]] (by rfl) rfl rfl ar_ ?_
 with_reducible refine (psalteryref17_Right.calls k t742 t743 _ _ l0_2 _ _ l0_3 _ _ l1_0 _ _ l1_1 true _ ?side1 ?side2 ?side3 ?side4 ?side5 ?side6 ?side7 ?side8 A16.out).mono ?_
 (case side1 => exact kC_ HR0_2 HB)
 (case side2 => exact HC0_2.out)
 (case side3 => exact kC_ HR0_3 HB)
 (case side4 => exact HC0_3.out)
 (case side5 => exact kC_ HR1_0 HB)
 (case side6 => exact HC1_0.out)
 (case side7 => exact kC_ HR1_1 HB)
 (case side8 => exact HC1_1.out)
 rintro e w36 ⟨rfl, hb⟩
 refine ⟨_, rfl, ?_⟩
 replace HO740 := FV_ HO740 hb
 replace BK734 := FB_ BK734 hb
 replace BK735 := FB_ BK735 hb
 replace HB := BS_ HB hb
 (try clear hb)
 refine hK.out _ _ ⟨ce_ BK734 0, ce_ BK734 1, ce_ BK734 2, ce_ BK734 3, ce_ BK735 0, ce_ BK735 1⟩ (fun hHeld => ?_)
 clear hK K
 refine norm_ (a' := ?_) ?_ ?_
 rotate_left
 {
 show Act.put _ (some 21) _ = _
 exact sp_}
 refine pure_ (i := 5) (N := some 22) (v := ?_) (a' := ?_) (B_ 6 63) rfl rfl kf_ (fun _ _ _ h => h) (Or.inl ⟨by rfl, ?_⟩) ?_ ?_
 rotate_left
 {
 intro w'
 go_simp
 with_reducible rfl}
 rotate_left
 {
 exact sp_}
 refine done_ kf_ ?_
 try go_wp2
 replace HO740 := Aside0.mk (Kd.V_drew HO740.out)
 replace BK734 := Aside0.mk (blk_drew BK734.out)
 replace BK735 := Aside0.mk (blk_drew BK735.out)
 replace HB := Aside0.mk (below_drew1 HB.out)
 refine start_ (n := 17) (S := fun w' => w'.cell? ⟨gb734, 0, none⟩ = some (.int .i64 a0_0) ∧ w'.cell? ⟨gb734, 1, none⟩ = some (.int .i64 a0_1) ∧ w'.cell? ⟨gb734, 2, none⟩ = some (.slice A0_2 l0_2.length c0_2) ∧ w'.cell? ⟨gb734, 3, none⟩ = some (.slice A0_3 l0_3.length c0_3) ∧ w'.cell? ⟨gb735, 0, none⟩ = some (.slice A1_0 l1_0.length c1_0) ∧ w'.cell? ⟨gb735, 1, none⟩ = some (.slice A1_1 l1_1.length c1_1)) (ds := []) (B_ 17 0) kf_ rfl rfl ⟨ce_ BK734 0, ce_ BK734 1, ce_ BK734 2, ce_ BK734 3, ce_ BK735 0, ce_ BK735 1⟩ (fun hHeld => ?_); refine with_tabW psalterylaw17_BodyWrites.tab6 psalterylaw17_BodyWrites.bits6 (fun HT_ HW_ => ?_)
 generalize w36.drew = w37 at HO740 BK734 BK735 HB hHeld ⊢
 refine pu_ 0 (some 33) (B_ 17 1) HT_ ?_
 refine take_ (i := 2) (N := some 35) (v := ?_) (a' := ?_) (B_ 17 5) rfl rfl (take_ofW HT_.out HW_.out kf_) (fun _ _ _ h => h) (Or.inl ⟨by rfl, ?_⟩) hHeld ?_ ?_
 rotate_left
 {
 rintro w' ⟨s0, s1, s2, s3, s4, s5⟩
 go_simp
 with_reducible rfl}
 rotate_left
 {
 exact sp_}
 refine take_ (i := 4) (N := some 37) (v := ?_) (a' := ?_) (B_ 17 21) rfl rfl (take_ofW HT_.out HW_.out kf_) (fun _ _ _ h => h) (Or.inl ⟨by rfl, ?_⟩) hHeld ?_ ?_
 rotate_left
 {
 rintro w' ⟨s0, s1, s2, s3, s4, s5⟩
 go_simp
 with_reducible rfl}
 rotate_left
 {
 exact sp_}
 refine join_ (σ := Value) 9 (B_ 17 255) (fun s_ => [(34, .string (strOfNums t738)), (36, .agg #[.int .i64 t746, .int .i64 t747, .slice A0_2 l0_2.length c0_2, .slice A0_3 l0_3.length c0_3]), (38, .agg #[.slice A1_0 l1_0.length c1_0, .slice A1_1 l1_1.length c1_1]), (39, s_), (40, .string (strOfNums t748))]) (fun s_ w' => (w'.cell? ⟨gb734, 0, none⟩ = some (.int .i64 a0_0) ∧ w'.cell? ⟨gb734, 1, none⟩ = some (.int .i64 a0_1) ∧ w'.cell? ⟨gb734, 2, none⟩ = some (.slice A0_2 l0_2.length c0_2) ∧ w'.cell? ⟨gb734, 3, none⟩ = some (.slice A0_3 l0_3.length c0_3) ∧ w'.cell? ⟨gb735, 0, none⟩ = some (.slice A1_0 l1_0.length c1_0) ∧ w'.cell? ⟨gb735, 1, none⟩ = some (.slice A1_1 l1_1.length c1_1)) ∧ (Kd.V (Kd.int .u8) 5 w' w.heap.size (fun k_ => some k_ ≠ (s_ : Value).ownBlock ∧ k_ ≠ gb734 ∧ k_ ≠ gb735) v739 t738) ∧ (Kd.R (Kd.int .u8) 5 w' w.heap.size (fun _ => True) s_ t748) ∧ (w'.heap[gb734]? = some (.cells #[.int .i64 a0_0, .int .i64 a0_1, .slice A0_2 l0_2.length c0_2, .slice A0_3 l0_3.length c0_3] 24 (0, 0))) ∧ (w'.heap[gb735]? = some (.cells #[.slice A1_0 l1_0.length c1_0, .slice A1_1 l1_1.length c1_1] 48 (0, 0))) ∧ (Below w.heap.size w w')) ?_ ?_
 rotate_left
 {
 intro hJ1_3_5_6_7
 refine join_ (σ := Value) 10 (B_ 17 127) (fun s_ => [(34, .string (strOfNums t738)), (36, .agg #[.int .i64 t746, .int .i64 t747, .slice A0_2 l0_2.length c0_2, .slice A0_3 l0_3.length c0_3]), (38, .agg #[.slice A1_0 l1_0.length c1_0, .slice A1_1 l1_1.length c1_1]), (39, s_)]) (fun s_ w' => (w'.cell? ⟨gb734, 0, none⟩ = some (.int .i64 a0_0) ∧ w'.cell? ⟨gb734, 1, none⟩ = some (.int .i64 a0_1) ∧ w'.cell? ⟨gb734, 2, none⟩ = some (.slice A0_2 l0_2.length c0_2) ∧ w'.cell? ⟨gb734, 3, none⟩ = some (.slice A0_3 l0_3.length c0_3) ∧ w'.cell? ⟨gb735, 0, none⟩ = some (.slice A1_0 l1_0.length c1_0) ∧ w'.cell? ⟨gb735, 1, none⟩ = some (.slice A1_1 l1_1.length c1_1)) ∧ (Kd.V (Kd.int .u8) 5 w' w.heap.size (fun k_ => some k_ ≠ (s_ : Value).ownBlock ∧ k_ ≠ gb734 ∧ k_ ≠ gb735) v739 t738) ∧ (Kd.R (Kd.int .u8) 5 w' w.heap.size (fun _ => True) s_ t748) ∧ (w'.heap[gb734]? = some (.cells #[.int .i64 a0_0, .int .i64 a0_1, .slice A0_2 l0_2.length c0_2, .slice A0_3 l0_3.length c0_3] 24 (0, 0))) ∧ (w'.heap[gb735]? = some (.cells #[.slice A1_0 l1_0.length c1_0, .slice A1_1 l1_1.length c1_1] 48 (0, 0))) ∧ (Below w.heap.size w w')) ?_ ?_
 rotate_left
 {
 intro hJ1_3_5_6
 refine join_ (σ := Value) 10 (B_ 17 253) (fun s_ => [(36, .agg #[.int .i64 t746, .int .i64 t747, .slice A0_2 l0_2.length c0_2, .slice A0_3 l0_3.length c0_3]), (38, .agg #[.slice A1_0 l1_0.length c1_0, .slice A1_1 l1_1.length c1_1]), (39, s_), (40, .string (strOfNums t748))]) (fun s_ w' => (w'.cell? ⟨gb734, 0, none⟩ = some (.int .i64 a0_0) ∧ w'.cell? ⟨gb734, 1, none⟩ = some (.int .i64 a0_1) ∧ w'.cell? ⟨gb734, 2, none⟩ = some (.slice A0_2 l0_2.length c0_2) ∧ w'.cell? ⟨gb734, 3, none⟩ = some (.slice A0_3 l0_3.length c0_3) ∧ w'.cell? ⟨gb735, 0, none⟩ = some (.slice A1_0 l1_0.length c1_0) ∧ w'.cell? ⟨gb735, 1, none⟩ = some (.slice A1_1 l1_1.length c1_1)) ∧ (Kd.V (Kd.int .u8) 5 w' w.heap.size (fun k_ => some k_ ≠ (s_ : Value).ownBlock ∧ k_ ≠ gb734 ∧ k_ ≠ gb735) v739 t738) ∧ (Kd.R (Kd.int .u8) 5 w' w.heap.size (fun _ => True) s_ t748) ∧ (w'.heap[gb734]? = some (.cells #[.int .i64 a0_0, .int .i64 a0_1, .slice A0_2 l0_2.length c0_2, .slice A0_3 l0_3.length c0_3] 24 (0, 0))) ∧ (w'.heap[gb735]? = some (.cells #[.slice A1_0 l1_0.length c1_0, .slice A1_1 l1_1.length c1_1] 48 (0, 0))) ∧ (Below w.heap.size w w')) ?_ ?_
 rotate_left
 {
 intro hJ3_5_6_7
 refine join_ (σ := Unit) 11 (B_ 17 63) (fun s_ => [(34, .string (strOfNums t738)), (36, .agg #[.int .i64 t746, .int .i64 t747, .slice A0_2 l0_2.length c0_2, .slice A0_3 l0_3.length c0_3]), (38, .agg #[.slice A1_0 l1_0.length c1_0, .slice A1_1 l1_1.length c1_1])]) (fun s_ w' => (w'.cell? ⟨gb734, 0, none⟩ = some (.int .i64 a0_0) ∧ w'.cell? ⟨gb734, 1, none⟩ = some (.int .i64 a0_1) ∧ w'.cell? ⟨gb734, 2, none⟩ = some (.slice A0_2 l0_2.length c0_2) ∧ w'.cell? ⟨gb734, 3, none⟩ = some (.slice A0_3 l0_3.length c0_3) ∧ w'.cell? ⟨gb735, 0, none⟩ = some (.slice A1_0 l1_0.length c1_0) ∧ w'.cell? ⟨gb735, 1, none⟩ = some (.slice A1_1 l1_1.length c1_1)) ∧ (Kd.V (Kd.int .u8) 5 w' w.heap.size (fun k_ => k_ ≠ gb734 ∧ k_ ≠ gb735) v739 t738) ∧ (w'.heap[gb734]? = some (.cells #[.int .i64 a0_0, .int .i64 a0_1, .slice A0_2 l0_2.length c0_2, .slice A0_3 l0_3.length c0_3] 24 (0, 0))) ∧ (w'.heap[gb735]? = some (.cells #[.slice A1_0 l1_0.length c1_0, .slice A1_1 l1_1.length c1_1] 48 (0, 0))) ∧ (Below w.heap.size w w')) ?_ ?_
 rotate_left
 {
 intro hJ1_3_5
 refine join_ (σ := Value) 11 (B_ 17 125) (fun s_ => [(36, .agg #[.int .i64 t746, .int .i64 t747, .slice A0_2 l0_2.length c0_2, .slice A0_3 l0_3.length c0_3]), (38, .agg #[.slice A1_0 l1_0.length c1_0, .slice A1_1 l1_1.length c1_1]), (39, s_)]) (fun s_ w' => (w'.cell? ⟨gb734, 0, none⟩ = some (.int .i64 a0_0) ∧ w'.cell? ⟨gb734, 1, none⟩ = some (.int .i64 a0_1) ∧ w'.cell? ⟨gb734, 2, none⟩ = some (.slice A0_2 l0_2.length c0_2) ∧ w'.cell? ⟨gb734, 3, none⟩ = some (.slice A0_3 l0_3.length c0_3) ∧ w'.cell? ⟨gb735, 0, none⟩ = some (.slice A1_0 l1_0.length c1_0) ∧ w'.cell? ⟨gb735, 1, none⟩ = some (.slice A1_1 l1_1.length c1_1)) ∧ (Kd.V (Kd.int .u8) 5 w' w.heap.size (fun k_ => some k_ ≠ (s_ : Value).ownBlock ∧ k_ ≠ gb734 ∧ k_ ≠ gb735) v739 t738) ∧ (Kd.R (Kd.int .u8) 5 w' w.heap.size (fun _ => True) s_ t748) ∧ (w'.heap[gb734]? = some (.cells #[.int .i64 a0_0, .int .i64 a0_1, .slice A0_2 l0_2.length c0_2, .slice A0_3 l0_3.length c0_3] 24 (0, 0))) ∧ (w'.heap[gb735]? = some (.cells #[.slice A1_0 l1_0.length c1_0, .slice A1_1 l1_1.length c1_1] 48 (0, 0))) ∧ (Below w.heap.size w w')) ?_ ?_
 rotate_left
 {
 intro hJ3_5_6
 refine join_ (σ := Unit) 12 (B_ 17 31) (fun s_ => [(34, .string (strOfNums t738)), (36, .agg #[.int .i64 t746, .int .i64 t747, .slice A0_2 l0_2.length c0_2, .slice A0_3 l0_3.length c0_3])]) (fun s_ w' => (w'.cell? ⟨gb734, 0, none⟩ = some (.int .i64 a0_0) ∧ w'.cell? ⟨gb734, 1, none⟩ = some (.int .i64 a0_1) ∧ w'.cell? ⟨gb734, 2, none⟩ = some (.slice A0_2 l0_2.length c0_2) ∧ w'.cell? ⟨gb734, 3, none⟩ = some (.slice A0_3 l0_3.length c0_3) ∧ w'.cell? ⟨gb735, 0, none⟩ = some (.slice A1_0 l1_0.length c1_0) ∧ w'.cell? ⟨gb735, 1, none⟩ = some (.slice A1_1 l1_1.length c1_1)) ∧ (Kd.V (Kd.int .u8) 5 w' w.heap.size (fun k_ => k_ ≠ gb734 ∧ k_ ≠ gb735) v739 t738) ∧ (w'.heap[gb734]? = some (.cells #[.int .i64 a0_0, .int .i64 a0_1, .slice A0_2 l0_2.length c0_2, .slice A0_3 l0_3.length c0_3] 24 (0, 0))) ∧ (w'.heap[gb735]? = some (.cells #[.slice A1_0 l1_0.length c1_0, .slice A1_1 l1_1.length c1_1] 48 (0, 0))) ∧ (Below w.heap.size w w')) ?_ ?_
 rotate_left
 {
 intro hJ1_3
 refine join_ (σ := Unit) 12 (B_ 17 61) (fun s_ => [(36, .agg #[.int .i64 t746, .int .i64 t747, .slice A0_2 l0_2.length c0_2, .slice A0_3 l0_3.length c0_3]), (38, .agg #[.slice A1_0 l1_0.length c1_0, .slice A1_1 l1_1.length c1_1])]) (fun s_ w' => (w'.cell? ⟨gb734, 0, none⟩ = some (.int .i64 a0_0) ∧ w'.cell? ⟨gb734, 1, none⟩ = some (.int .i64 a0_1) ∧ w'.cell? ⟨gb734, 2, none⟩ = some (.slice A0_2 l0_2.length c0_2) ∧ w'.cell? ⟨gb734, 3, none⟩ = some (.slice A0_3 l0_3.length c0_3) ∧ w'.cell? ⟨gb735, 0, none⟩ = some (.slice A1_0 l1_0.length c1_0) ∧ w'.cell? ⟨gb735, 1, none⟩ = some (.slice A1_1 l1_1.length c1_1)) ∧ (Kd.V (Kd.int .u8) 5 w' w.heap.size (fun k_ => k_ ≠ gb734 ∧ k_ ≠ gb735) v739 t738) ∧ (w'.heap[gb734]? = some (.cells #[.int .i64 a0_0, .int .i64 a0_1, .slice A0_2 l0_2.length c0_2, .slice A0_3 l0_3.length c0_3] 24 (0, 0))) ∧ (w'.heap[gb735]? = some (.cells #[.slice A1_0 l1_0.length c1_0, .slice A1_1 l1_1.length c1_1] 48 (0, 0))) ∧ (Below w.heap.size w w')) ?_ ?_
 rotate_left
 {
 intro hJ3_5
 refine join_ (σ := Unit) 13 (B_ 17 23) (fun s_ => [(34, .string (strOfNums t738))]) (fun s_ w' => (w'.cell? ⟨gb734, 0, none⟩ = some (.int .i64 a0_0) ∧ w'.cell? ⟨gb734, 1, none⟩ = some (.int .i64 a0_1) ∧ w'.cell? ⟨gb734, 2, none⟩ = some (.slice A0_2 l0_2.length c0_2) ∧ w'.cell? ⟨gb734, 3, none⟩ = some (.slice A0_3 l0_3.length c0_3) ∧ w'.cell? ⟨gb735, 0, none⟩ = some (.slice A1_0 l1_0.length c1_0) ∧ w'.cell? ⟨gb735, 1, none⟩ = some (.slice A1_1 l1_1.length c1_1)) ∧ (Kd.V (Kd.int .u8) 5 w' w.heap.size (fun k_ => k_ ≠ gb734 ∧ k_ ≠ gb735) v739 t738) ∧ (w'.heap[gb734]? = some (.cells #[.int .i64 a0_0, .int .i64 a0_1, .slice A0_2 l0_2.length c0_2, .slice A0_3 l0_3.length c0_3] 24 (0, 0))) ∧ (w'.heap[gb735]? = some (.cells #[.slice A1_0 l1_0.length c1_0, .slice A1_1 l1_1.length c1_1] 48 (0, 0))) ∧ (Below w.heap.size w w')) ?_ ?_
 rotate_left
 {
 intro hJ1
 refine join_ (σ := Unit) 13 (B_ 17 29) (fun s_ => [(36, .agg #[.int .i64 t746, .int .i64 t747, .slice A0_2 l0_2.length c0_2, .slice A0_3 l0_3.length c0_3])]) (fun s_ w' => (w'.cell? ⟨gb734, 0, none⟩ = some (.int .i64 a0_0) ∧ w'.cell? ⟨gb734, 1, none⟩ = some (.int .i64 a0_1) ∧ w'.cell? ⟨gb734, 2, none⟩ = some (.slice A0_2 l0_2.length c0_2) ∧ w'.cell? ⟨gb734, 3, none⟩ = some (.slice A0_3 l0_3.length c0_3) ∧ w'.cell? ⟨gb735, 0, none⟩ = some (.slice A1_0 l1_0.length c1_0) ∧ w'.cell? ⟨gb735, 1, none⟩ = some (.slice A1_1 l1_1.length c1_1)) ∧ (Kd.V (Kd.int .u8) 5 w' w.heap.size (fun k_ => k_ ≠ gb734 ∧ k_ ≠ gb735) v739 t738) ∧ (w'.heap[gb734]? = some (.cells #[.int .i64 a0_0, .int .i64 a0_1, .slice A0_2 l0_2.length c0_2, .slice A0_3 l0_3.length c0_3] 24 (0, 0))) ∧ (w'.heap[gb735]? = some (.cells #[.slice A1_0 l1_0.length c1_0, .slice A1_1 l1_1.length c1_1] 48 (0, 0))) ∧ (Below w.heap.size w w')) ?_ ?_
 rotate_left
 {
 intro hJ3
 refine two_ (i := 1) (j := 3) (Ni := some 34) (Nj := some 36) (B_ 17 23) (B_ 17 29) rfl rfl rfl rfl (two_of HT_.out kf_) (by decide) (by decide) (fun K hK => ?_) (fun K hK => ?_)
 {
 skip
 obtain ⟨Ao9740, co9740, eo9740⟩ := Kd.V_slice HO740.out
 subst eo9740
 have hcv38 := Kd.C_string (c := co9740) (P := Try.prog) Try.underlying34 Try.underlying5 Try.underlying9 (Kd.V_reads' HO740.out).2.2
 refine value_ (w1 := ?_) (v := ?_) (by rfl) rfl ?_ ?_
 rotate_left 2
 {
 go_simp
 constructor
 {
 rfl}
 {
 rfl}}
 clear hcv38
 refine hK.out _ _ ⟨ce_ BK734 0, ce_ BK734 1, ce_ BK734 2, ce_ BK734 3, ce_ BK735 0, ce_ BK735 1⟩ (fun hHeld => ?_)
 clear hK K
 refine norm_ (a' := ?_) ?_ ?_
 rotate_left
 {
 show Act.put _ (some 34) _ = _
 exact sp_}
 exact norm_ (by first | (simp only [putAll, Act.put, List.setIfInBounds_toArray, List.set_cons_zero, List.set_cons_succ]; done) | (simp only [putAll, Act.put, List.setIfInBounds_toArray, List.set_cons_zero, List.set_cons_succ]; rfl)) (hJ1 () _ ⟨hHeld, (kV_ HO740), (bk_ BK734), (bk_ BK735), (bl_ HB)⟩)}
 {
 skip
 refine goes_ Try.func19 kf_ rfl #[.agg #[.int .i64 a0_0, .int .i64 a0_1, .slice A0_2 l0_2.length c0_2, .slice A0_3 l0_3.length c0_3]] (by rfl) rfl rfl ar_ ?_
 with_reducible refine (psalterylaw16_As.calls a0_0 a0_1 _ _ l0_2 _ _ l0_3 t746 t747 _ ?side1 ?side2 ?side3 ?side4 A18.out).mono ?_
 (case side1 => exact kC_ HR0_2 HB)
 (case side2 => exact HC0_2.out)
 (case side3 => exact kC_ HR0_3 HB)
 (case side4 => exact HC0_3.out)
 rintro e w38 ⟨rfl, hb⟩
 refine ⟨_, rfl, ?_⟩
 replace HO740 := FV_ HO740 hb
 replace BK734 := FB_ BK734 hb
 replace BK735 := FB_ BK735 hb
 replace HB := BS_ HB hb
 (try clear hb)
 refine hK.out _ _ ⟨ce_ BK734 0, ce_ BK734 1, ce_ BK734 2, ce_ BK734 3, ce_ BK735 0, ce_ BK735 1⟩ (fun hHeld => ?_)
 clear hK K
 refine norm_ (a' := ?_) ?_ ?_
 rotate_left
 {
 show Act.put _ (some 36) _ = _
 exact sp_}
 exact norm_ (by first | (simp only [putAll, Act.put, List.setIfInBounds_toArray, List.set_cons_zero, List.set_cons_succ]; done) | (simp only [putAll, Act.put, List.setIfInBounds_toArray, List.set_cons_zero, List.set_cons_succ]; rfl)) (hJ3 () _ ⟨hHeld, (kV_ HO740), (bk_ BK734), (bk_ BK735), (bl_ HB)⟩)}}
 {
 skip
 rintro _ w39 ⟨hS_, h0_, h1_, h2_, h3_⟩
 have n0_ : Aside0 (Kd.V (Kd.int .u8) 5 w39 w.heap.size (fun k_ => k_ ≠ gb734 ∧ k_ ≠ gb735) v739 t738) := ⟨h0_⟩
 have n1_ : Aside0 (w39.heap[gb734]? = some (.cells #[.int .i64 a0_0, .int .i64 a0_1, .slice A0_2 l0_2.length c0_2, .slice A0_3 l0_3.length c0_3] 24 (0, 0))) := ⟨h1_⟩
 have n2_ : Aside0 (w39.heap[gb735]? = some (.cells #[.slice A1_0 l1_0.length c1_0, .slice A1_1 l1_1.length c1_1] 48 (0, 0))) := ⟨h2_⟩
 have n3_ : Aside0 (Below w.heap.size w w39) := ⟨h3_⟩
 clear HO740
 clear BK734
 clear BK735
 clear HB
 clear h0_ h1_ h2_ h3_
 have HO740 := n0_
 have BK734 := n1_
 have BK735 := n2_
 have HB := n3_
 clear n0_ n1_ n2_ n3_
 have hHeld : w39.cell? ⟨gb734, 0, none⟩ = some (.int .i64 a0_0) ∧ w39.cell? ⟨gb734, 1, none⟩ = some (.int .i64 a0_1) ∧ w39.cell? ⟨gb734, 2, none⟩ = some (.slice A0_2 l0_2.length c0_2) ∧ w39.cell? ⟨gb734, 3, none⟩ = some (.slice A0_3 l0_3.length c0_3) ∧ w39.cell? ⟨gb735, 0, none⟩ = some (.slice A1_0 l1_0.length c1_0) ∧ w39.cell? ⟨gb735, 1, none⟩ = some (.slice A1_1 l1_1.length c1_1) := hS_
 refine norm_ (a' := ?_) ?_ ?_
 rotate_left
 {
 simp only [putAll, Act.put, List.setIfInBounds_toArray, List.set_cons_zero, List.set_cons_succ]
 rfl}
 refine two_ (i := 1) (j := 5) (Ni := some 34) (Nj := some 38) (B_ 17 31) (B_ 17 61) rfl rfl rfl rfl (two_of HT_.out kf_) (by decide) (by decide) (fun K hK => ?_) (fun K hK => ?_)
 {
 skip
 obtain ⟨Ao9740, co9740, eo9740⟩ := Kd.V_slice HO740.out
 subst eo9740
 have hcv40 := Kd.C_string (c := co9740) (P := Try.prog) Try.underlying34 Try.underlying5 Try.underlying9 (Kd.V_reads' HO740.out).2.2
 refine value_ (w1 := ?_) (v := ?_) (by rfl) rfl ?_ ?_
 rotate_left 2
 {
 go_simp
 constructor
 {
 rfl}
 {
 rfl}}
 clear hcv40
 refine hK.out _ _ ⟨ce_ BK734 0, ce_ BK734 1, ce_ BK734 2, ce_ BK734 3, ce_ BK735 0, ce_ BK735 1⟩ (fun hHeld => ?_)
 clear hK K
 refine norm_ (a' := ?_) ?_ ?_
 rotate_left
 {
 show Act.put _ (some 34) _ = _
 exact sp_}
 exact norm_ (by first | (simp only [putAll, Act.put, List.setIfInBounds_toArray, List.set_cons_zero, List.set_cons_succ]; done) | (simp only [putAll, Act.put, List.setIfInBounds_toArray, List.set_cons_zero, List.set_cons_succ]; rfl)) (hJ1_3 () _ ⟨hHeld, (kV_ HO740), (bk_ BK734), (bk_ BK735), (bl_ HB)⟩)}
 {
 skip
 refine goes_ Try.func31 kf_ rfl #[.agg #[.slice A1_0 l1_0.length c1_0, .slice A1_1 l1_1.length c1_1]] (by rfl) rfl rfl ar_ ?_
 with_reducible refine (psalterylaw17_As.calls _ _ l1_0 _ _ l1_1  _ ?side1 ?side2 ?side3 ?side4 A19.out).mono ?_
 (case side1 => exact kC_ HR1_0 HB)
 (case side2 => exact HC1_0.out)
 (case side3 => exact kC_ HR1_1 HB)
 (case side4 => exact HC1_1.out)
 rintro e w40 ⟨rfl, hb⟩
 refine ⟨_, rfl, ?_⟩
 replace HO740 := FV_ HO740 hb
 replace BK734 := FB_ BK734 hb
 replace BK735 := FB_ BK735 hb
 replace HB := BS_ HB hb
 (try clear hb)
 refine hK.out _ _ ⟨ce_ BK734 0, ce_ BK734 1, ce_ BK734 2, ce_ BK734 3, ce_ BK735 0, ce_ BK735 1⟩ (fun hHeld => ?_)
 clear hK K
 refine norm_ (a' := ?_) ?_ ?_
 rotate_left
 {
 show Act.put _ (some 38) _ = _
 exact sp_}
 exact norm_ (by first | (simp only [putAll, Act.put, List.setIfInBounds_toArray, List.set_cons_zero, List.set_cons_succ]; done) | (simp only [putAll, Act.put, List.setIfInBounds_toArray, List.set_cons_zero, List.set_cons_succ]; rfl)) (hJ3_5 () _ ⟨hHeld, (kV_ HO740), (bk_ BK734), (bk_ BK735), (bl_ HB)⟩)}}}
 {
 skip
 rintro _ w39 ⟨hS_, h0_, h1_, h2_, h3_⟩
 have n0_ : Aside0 (Kd.V (Kd.int .u8) 5 w39 w.heap.size (fun k_ => k_ ≠ gb734 ∧ k_ ≠ gb735) v739 t738) := ⟨h0_⟩
 have n1_ : Aside0 (w39.heap[gb734]? = some (.cells #[.int .i64 a0_0, .int .i64 a0_1, .slice A0_2 l0_2.length c0_2, .slice A0_3 l0_3.length c0_3] 24 (0, 0))) := ⟨h1_⟩
 have n2_ : Aside0 (w39.heap[gb735]? = some (.cells #[.slice A1_0 l1_0.length c1_0, .slice A1_1 l1_1.length c1_1] 48 (0, 0))) := ⟨h2_⟩
 have n3_ : Aside0 (Below w.heap.size w w39) := ⟨h3_⟩
 clear HO740
 clear BK734
 clear BK735
 clear HB
 clear h0_ h1_ h2_ h3_
 have HO740 := n0_
 have BK734 := n1_
 have BK735 := n2_
 have HB := n3_
 clear n0_ n1_ n2_ n3_
 have hHeld : w39.cell? ⟨gb734, 0, none⟩ = some (.int .i64 a0_0) ∧ w39.cell? ⟨gb734, 1, none⟩ = some (.int .i64 a0_1) ∧ w39.cell? ⟨gb734, 2, none⟩ = some (.slice A0_2 l0_2.length c0_2) ∧ w39.cell? ⟨gb734, 3, none⟩ = some (.slice A0_3 l0_3.length c0_3) ∧ w39.cell? ⟨gb735, 0, none⟩ = some (.slice A1_0 l1_0.length c1_0) ∧ w39.cell? ⟨gb735, 1, none⟩ = some (.slice A1_1 l1_1.length c1_1) := hS_
 refine norm_ (a' := ?_) ?_ ?_
 rotate_left
 {
 simp only [putAll, Act.put, List.setIfInBounds_toArray, List.set_cons_zero, List.set_cons_succ]
 rfl}
 refine one_ (i := 3) (N := some 36) (B_ 17 31) rfl rfl (one_of HT_.out kf_) (by decide) (fun K hK => ?_)
 refine goes_ Try.func19 kf_ rfl #[.agg #[.int .i64 a0_0, .int .i64 a0_1, .slice A0_2 l0_2.length c0_2, .slice A0_3 l0_3.length c0_3]] (by rfl) rfl rfl ar_ ?_
 with_reducible refine (psalterylaw16_As.calls a0_0 a0_1 _ _ l0_2 _ _ l0_3 t746 t747 _ ?side1 ?side2 ?side3 ?side4 A18.out).mono ?_
 (case side1 => exact kC_ HR0_2 HB)
 (case side2 => exact HC0_2.out)
 (case side3 => exact kC_ HR0_3 HB)
 (case side4 => exact HC0_3.out)
 rintro e w40 ⟨rfl, hb⟩
 refine ⟨_, rfl, ?_⟩
 replace HO740 := FV_ HO740 hb
 replace BK734 := FB_ BK734 hb
 replace BK735 := FB_ BK735 hb
 replace HB := BS_ HB hb
 (try clear hb)
 refine hK.out _ _ ⟨ce_ BK734 0, ce_ BK734 1, ce_ BK734 2, ce_ BK734 3, ce_ BK735 0, ce_ BK735 1⟩ (fun hHeld => ?_)
 clear hK K
 refine norm_ (a' := ?_) ?_ ?_
 rotate_left
 {
 show Act.put _ (some 36) _ = _
 exact sp_}
 exact norm_ (by first | (simp only [putAll, Act.put, List.setIfInBounds_toArray, List.set_cons_zero, List.set_cons_succ]; done) | (simp only [putAll, Act.put, List.setIfInBounds_toArray, List.set_cons_zero, List.set_cons_succ]; rfl)) (hJ1_3 () _ ⟨hHeld, (kV_ HO740), (bk_ BK734), (bk_ BK735), (bl_ HB)⟩)}}
 {
 skip
 rintro _ w40 ⟨hS_, h0_, h1_, h2_, h3_⟩
 have n0_ : Aside0 (Kd.V (Kd.int .u8) 5 w40 w.heap.size (fun k_ => k_ ≠ gb734 ∧ k_ ≠ gb735) v739 t738) := ⟨h0_⟩
 have n1_ : Aside0 (w40.heap[gb734]? = some (.cells #[.int .i64 a0_0, .int .i64 a0_1, .slice A0_2 l0_2.length c0_2, .slice A0_3 l0_3.length c0_3] 24 (0, 0))) := ⟨h1_⟩
 have n2_ : Aside0 (w40.heap[gb735]? = some (.cells #[.slice A1_0 l1_0.length c1_0, .slice A1_1 l1_1.length c1_1] 48 (0, 0))) := ⟨h2_⟩
 have n3_ : Aside0 (Below w.heap.size w w40) := ⟨h3_⟩
 clear HO740
 clear BK734
 clear BK735
 clear HB
 clear h0_ h1_ h2_ h3_
 have HO740 := n0_
 have BK734 := n1_
 have BK735 := n2_
 have HB := n3_
 clear n0_ n1_ n2_ n3_
 have hHeld : w40.cell? ⟨gb734, 0, none⟩ = some (.int .i64 a0_0) ∧ w40.cell? ⟨gb734, 1, none⟩ = some (.int .i64 a0_1) ∧ w40.cell? ⟨gb734, 2, none⟩ = some (.slice A0_2 l0_2.length c0_2) ∧ w40.cell? ⟨gb734, 3, none⟩ = some (.slice A0_3 l0_3.length c0_3) ∧ w40.cell? ⟨gb735, 0, none⟩ = some (.slice A1_0 l1_0.length c1_0) ∧ w40.cell? ⟨gb735, 1, none⟩ = some (.slice A1_1 l1_1.length c1_1) := hS_
 refine norm_ (a' := ?_) ?_ ?_
 rotate_left
 {
 simp only [putAll, Act.put, List.setIfInBounds_toArray, List.set_cons_zero, List.set_cons_succ]
 rfl}
 refine two_ (i := 1) (j := 6) (Ni := some 34) (Nj := some 39) (B_ 17 63) (B_ 17 125) rfl rfl rfl rfl (two_of HT_.out kf_) (by decide) (by decide) (fun K hK => ?_) (fun K hK => ?_)
 {
 skip
 obtain ⟨Ao9740, co9740, eo9740⟩ := Kd.V_slice HO740.out
 subst eo9740
 have hcv41 := Kd.C_string (c := co9740) (P := Try.prog) Try.underlying34 Try.underlying5 Try.underlying9 (Kd.V_reads' HO740.out).2.2
 refine value_ (w1 := ?_) (v := ?_) (by rfl) rfl ?_ ?_
 rotate_left 2
 {
 go_simp
 constructor
 {
 rfl}
 {
 rfl}}
 clear hcv41
 refine hK.out _ _ ⟨ce_ BK734 0, ce_ BK734 1, ce_ BK734 2, ce_ BK734 3, ce_ BK735 0, ce_ BK735 1⟩ (fun hHeld => ?_)
 clear hK K
 refine norm_ (a' := ?_) ?_ ?_
 rotate_left
 {
 show Act.put _ (some 34) _ = _
 exact sp_}
 exact norm_ (by first | (simp only [putAll, Act.put, List.setIfInBounds_toArray, List.set_cons_zero, List.set_cons_succ]; done) | (simp only [putAll, Act.put, List.setIfInBounds_toArray, List.set_cons_zero, List.set_cons_succ]; rfl)) (hJ1_3_5 () _ ⟨hHeld, (kV_ HO740), (bk_ BK734), (bk_ BK735), (bl_ HB)⟩)}
 {
 skip
 refine goes_ Try.func33 kf_ rfl #[.agg #[.int .i64 t746, .int .i64 t747, .slice A0_2 l0_2.length c0_2, .slice A0_3 l0_3.length c0_3], .agg #[.slice A1_0 l1_0.length c1_0, .slice A1_1 l1_1.length c1_1]] (by rfl) rfl rfl ar_ ?_
 with_reducible refine (psalteryref17_Write.calls k t746 t747 _ _ l0_2 _ _ l0_3 _ _ l1_0 _ _ l1_1 t748 _ ?side1 ?side2 ?side3 ?side4 ?side5 ?side6 ?side7 ?side8 A20.out).mono ?_
 (case side1 => exact kC_ HR0_2 HB)
 (case side2 => exact HC0_2.out)
 (case side3 => exact kC_ HR0_3 HB)
 (case side4 => exact HC0_3.out)
 (case side5 => exact kC_ HR1_0 HB)
 (case side6 => exact HC1_0.out)
 (case side7 => exact kC_ HR1_1 HB)
 (case side8 => exact HC1_1.out)
 rintro e w41 ⟨v749, rfl, ho0, hb⟩
 refine ⟨_, rfl, ?_⟩
 replace HO740 := Aside0.mk (Kd.V_elder' (kV_ HO740) (Kd.R_base ho0) hb)
 have HO750 := Aside0.mk (Kd.R_lower ho0 (bs_ HB))
 replace BK734 := FB_ BK734 hb
 replace BK735 := FB_ BK735 hb
 replace HB := BS_ HB hb
 (try clear hb)
 (try clear ho0)
 refine hK.out _ _ ⟨ce_ BK734 0, ce_ BK734 1, ce_ BK734 2, ce_ BK734 3, ce_ BK735 0, ce_ BK735 1⟩ (fun hHeld => ?_)
 clear hK K
 refine norm_ (a' := ?_) ?_ ?_
 rotate_left
 {
 show Act.put _ (some 39) _ = _
 exact sp_}
 exact norm_ (by first | (simp only [putAll, Act.put, List.setIfInBounds_toArray, List.set_cons_zero, List.set_cons_succ]; done) | (simp only [putAll, Act.put, List.setIfInBounds_toArray, List.set_cons_zero, List.set_cons_succ]; rfl)) (hJ3_5_6 (v749) _ ⟨hHeld, (by (with_reducible repeat (first | apply Kd.V_alloc | apply Kd.V_drewN | apply Kd.V_drew)); exact Kd.V_mono HO740.out (fun _ hk => ⟨hk.2, ⟨hk.1.1, hk.1.2⟩⟩)), (kR_ HO750), (bk_ BK734), (bk_ BK735), (bl_ HB)⟩)}}}
 {
 skip
 rintro _ w40 ⟨hS_, h0_, h1_, h2_, h3_⟩
 have n0_ : Aside0 (Kd.V (Kd.int .u8) 5 w40 w.heap.size (fun k_ => k_ ≠ gb734 ∧ k_ ≠ gb735) v739 t738) := ⟨h0_⟩
 have n1_ : Aside0 (w40.heap[gb734]? = some (.cells #[.int .i64 a0_0, .int .i64 a0_1, .slice A0_2 l0_2.length c0_2, .slice A0_3 l0_3.length c0_3] 24 (0, 0))) := ⟨h1_⟩
 have n2_ : Aside0 (w40.heap[gb735]? = some (.cells #[.slice A1_0 l1_0.length c1_0, .slice A1_1 l1_1.length c1_1] 48 (0, 0))) := ⟨h2_⟩
 have n3_ : Aside0 (Below w.heap.size w w40) := ⟨h3_⟩
 clear HO740
 clear BK734
 clear BK735
 clear HB
 clear h0_ h1_ h2_ h3_
 have HO740 := n0_
 have BK734 := n1_
 have BK735 := n2_
 have HB := n3_
 clear n0_ n1_ n2_ n3_
 have hHeld : w40.cell? ⟨gb734, 0, none⟩ = some (.int .i64 a0_0) ∧ w40.cell? ⟨gb734, 1, none⟩ = some (.int .i64 a0_1) ∧ w40.cell? ⟨gb734, 2, none⟩ = some (.slice A0_2 l0_2.length c0_2) ∧ w40.cell? ⟨gb734, 3, none⟩ = some (.slice A0_3 l0_3.length c0_3) ∧ w40.cell? ⟨gb735, 0, none⟩ = some (.slice A1_0 l1_0.length c1_0) ∧ w40.cell? ⟨gb735, 1, none⟩ = some (.slice A1_1 l1_1.length c1_1) := hS_
 refine norm_ (a' := ?_) ?_ ?_
 rotate_left
 {
 simp only [putAll, Act.put, List.setIfInBounds_toArray, List.set_cons_zero, List.set_cons_succ]
 rfl}
 refine one_ (i := 5) (N := some 38) (B_ 17 63) rfl rfl (one_of HT_.out kf_) (by decide) (fun K hK => ?_)
 refine goes_ Try.func31 kf_ rfl #[.agg #[.slice A1_0 l1_0.length c1_0, .slice A1_1 l1_1.length c1_1]] (by rfl) rfl rfl ar_ ?_
 with_reducible refine (psalterylaw17_As.calls _ _ l1_0 _ _ l1_1  _ ?side1 ?side2 ?side3 ?side4 A19.out).mono ?_
 (case side1 => exact kC_ HR1_0 HB)
 (case side2 => exact HC1_0.out)
 (case side3 => exact kC_ HR1_1 HB)
 (case side4 => exact HC1_1.out)
 rintro e w41 ⟨rfl, hb⟩
 refine ⟨_, rfl, ?_⟩
 replace HO740 := FV_ HO740 hb
 replace BK734 := FB_ BK734 hb
 replace BK735 := FB_ BK735 hb
 replace HB := BS_ HB hb
 (try clear hb)
 refine hK.out _ _ ⟨ce_ BK734 0, ce_ BK734 1, ce_ BK734 2, ce_ BK734 3, ce_ BK735 0, ce_ BK735 1⟩ (fun hHeld => ?_)
 clear hK K
 refine norm_ (a' := ?_) ?_ ?_
 rotate_left
 {
 show Act.put _ (some 38) _ = _
 exact sp_}
 exact norm_ (by first | (simp only [putAll, Act.put, List.setIfInBounds_toArray, List.set_cons_zero, List.set_cons_succ]; done) | (simp only [putAll, Act.put, List.setIfInBounds_toArray, List.set_cons_zero, List.set_cons_succ]; rfl)) (hJ1_3_5 () _ ⟨hHeld, (kV_ HO740), (bk_ BK734), (bk_ BK735), (bl_ HB)⟩)}}
 {
 skip
 rintro v749 w41 ⟨hS_, h0_, h1_, h2_, h3_, h4_⟩
 have n0_ : Aside0 (Kd.V (Kd.int .u8) 5 w41 w.heap.size (fun k_ => some k_ ≠ (v749 : Value).ownBlock ∧ k_ ≠ gb734 ∧ k_ ≠ gb735) v739 t738) := ⟨h0_⟩
 have n1_ : Aside0 (Kd.R (Kd.int .u8) 5 w41 w.heap.size (fun _ => True) v749 t748) := ⟨h1_⟩
 have n2_ : Aside0 (w41.heap[gb734]? = some (.cells #[.int .i64 a0_0, .int .i64 a0_1, .slice A0_2 l0_2.length c0_2, .slice A0_3 l0_3.length c0_3] 24 (0, 0))) := ⟨h2_⟩
 have n3_ : Aside0 (w41.heap[gb735]? = some (.cells #[.slice A1_0 l1_0.length c1_0, .slice A1_1 l1_1.length c1_1] 48 (0, 0))) := ⟨h3_⟩
 have n4_ : Aside0 (Below w.heap.size w w41) := ⟨h4_⟩
 clear HO740
 clear BK734
 clear BK735
 clear HB
 clear h0_ h1_ h2_ h3_ h4_
 have HO740 := n0_
 have HO750 := n1_
 have BK734 := n2_
 have BK735 := n3_
 have HB := n4_
 clear n0_ n1_ n2_ n3_ n4_
 have hHeld : w41.cell? ⟨gb734, 0, none⟩ = some (.int .i64 a0_0) ∧ w41.cell? ⟨gb734, 1, none⟩ = some (.int .i64 a0_1) ∧ w41.cell? ⟨gb734, 2, none⟩ = some (.slice A0_2 l0_2.length c0_2) ∧ w41.cell? ⟨gb734, 3, none⟩ = some (.slice A0_3 l0_3.length c0_3) ∧ w41.cell? ⟨gb735, 0, none⟩ = some (.slice A1_0 l1_0.length c1_0) ∧ w41.cell? ⟨gb735, 1, none⟩ = some (.slice A1_1 l1_1.length c1_1) := hS_
 refine norm_ (a' := ?_) ?_ ?_
 rotate_left
 {
 simp only [putAll, Act.put, List.setIfInBounds_toArray, List.set_cons_zero, List.set_cons_succ]
 rfl}
 refine two_ (i := 1) (j := 7) (Ni := some 34) (Nj := some 40) (B_ 17 127) (B_ 17 253) rfl rfl rfl rfl (two_of HT_.out kf_) (by decide) (by decide) (fun K hK => ?_) (fun K hK => ?_)
 {
 skip
 obtain ⟨Ao9740, co9740, eo9740⟩ := Kd.V_slice HO740.out
 subst eo9740
 have hcv42 := Kd.C_string (c := co9740) (P := Try.prog) Try.underlying34 Try.underlying5 Try.underlying9 (Kd.V_reads' HO740.out).2.2
 refine value_ (w1 := ?_) (v := ?_) (by rfl) rfl ?_ ?_
 rotate_left 2
 {
 go_simp
 constructor
 {
 rfl}
 {
 rfl}}
 clear hcv42
 refine hK.out _ _ ⟨ce_ BK734 0, ce_ BK734 1, ce_ BK734 2, ce_ BK734 3, ce_ BK735 0, ce_ BK735 1⟩ (fun hHeld => ?_)
 clear hK K
 refine norm_ (a' := ?_) ?_ ?_
 rotate_left
 {
 show Act.put _ (some 34) _ = _
 exact sp_}
 exact norm_ (by first | (simp only [putAll, Act.put, List.setIfInBounds_toArray, List.set_cons_zero, List.set_cons_succ]; done) | (simp only [putAll, Act.put, List.setIfInBounds_toArray, List.set_cons_zero, List.set_cons_succ]; rfl)) (hJ1_3_5_6 (v749) _ ⟨hHeld, (kV_ HO740), (kR_ HO750), (bk_ BK734), (bk_ BK735), (bl_ HB)⟩)}
 {
 skip
 have hcv42 := own_string (P := Try.prog) Try.underlying34 Try.underlying5 Try.underlying9 (Kd.own_of_R HO750.out)
 refine value_ (w1 := ?_) (v := ?_) (by rfl) rfl ?_ ?_
 rotate_left 2
 {
 go_simp
 constructor
 {
 rfl}
 {
 rfl}}
 clear hcv42
 refine hK.out _ _ ⟨ce_ BK734 0, ce_ BK734 1, ce_ BK734 2, ce_ BK734 3, ce_ BK735 0, ce_ BK735 1⟩ (fun hHeld => ?_)
 clear hK K
 refine norm_ (a' := ?_) ?_ ?_
 rotate_left
 {
 show Act.put _ (some 40) _ = _
 exact sp_}
 exact norm_ (by first | (simp only [putAll, Act.put, List.setIfInBounds_toArray, List.set_cons_zero, List.set_cons_succ]; done) | (simp only [putAll, Act.put, List.setIfInBounds_toArray, List.set_cons_zero, List.set_cons_succ]; rfl)) (hJ3_5_6_7 (v749) _ ⟨hHeld, (kV_ HO740), (kR_ HO750), (bk_ BK734), (bk_ BK735), (bl_ HB)⟩)}}}
 {
 skip
 rintro _ w41 ⟨hS_, h0_, h1_, h2_, h3_⟩
 have n0_ : Aside0 (Kd.V (Kd.int .u8) 5 w41 w.heap.size (fun k_ => k_ ≠ gb734 ∧ k_ ≠ gb735) v739 t738) := ⟨h0_⟩
 have n1_ : Aside0 (w41.heap[gb734]? = some (.cells #[.int .i64 a0_0, .int .i64 a0_1, .slice A0_2 l0_2.length c0_2, .slice A0_3 l0_3.length c0_3] 24 (0, 0))) := ⟨h1_⟩
 have n2_ : Aside0 (w41.heap[gb735]? = some (.cells #[.slice A1_0 l1_0.length c1_0, .slice A1_1 l1_1.length c1_1] 48 (0, 0))) := ⟨h2_⟩
 have n3_ : Aside0 (Below w.heap.size w w41) := ⟨h3_⟩
 clear HO740
 clear BK734
 clear BK735
 clear HB
 clear h0_ h1_ h2_ h3_
 have HO740 := n0_
 have BK734 := n1_
 have BK735 := n2_
 have HB := n3_
 clear n0_ n1_ n2_ n3_
 have hHeld : w41.cell? ⟨gb734, 0, none⟩ = some (.int .i64 a0_0) ∧ w41.cell? ⟨gb734, 1, none⟩ = some (.int .i64 a0_1) ∧ w41.cell? ⟨gb734, 2, none⟩ = some (.slice A0_2 l0_2.length c0_2) ∧ w41.cell? ⟨gb734, 3, none⟩ = some (.slice A0_3 l0_3.length c0_3) ∧ w41.cell? ⟨gb735, 0, none⟩ = some (.slice A1_0 l1_0.length c1_0) ∧ w41.cell? ⟨gb735, 1, none⟩ = some (.slice A1_1 l1_1.length c1_1) := hS_
 refine norm_ (a' := ?_) ?_ ?_
 rotate_left
 {
 simp only [putAll, Act.put, List.setIfInBounds_toArray, List.set_cons_zero, List.set_cons_succ]
 rfl}
 refine one_ (i := 6) (N := some 39) (B_ 17 127) rfl rfl (one_of HT_.out kf_) (by decide) (fun K hK => ?_)
 refine goes_ Try.func33 kf_ rfl #[.agg #[.int .i64 t746, .int .i64 t747, .slice A0_2 l0_2.length c0_2, .slice A0_3 l0_3.length c0_3], .agg #[.slice A1_0 l1_0.length c1_0, .slice A1_1 l1_1.length c1_1]] (by rfl) rfl rfl ar_ ?_
 with_reducible refine (psalteryref17_Write.calls k t746 t747 _ _ l0_2 _ _ l0_3 _ _ l1_0 _ _ l1_1 t748 _ ?side1 ?side2 ?side3 ?side4 ?side5 ?side6 ?side7 ?side8 A20.out).mono ?_
 (case side1 => exact kC_ HR0_2 HB)
 (case side2 => exact HC0_2.out)
 (case side3 => exact kC_ HR0_3 HB)
 (case side4 => exact HC0_3.out)
 (case side5 => exact kC_ HR1_0 HB)
 (case side6 => exact HC1_0.out)
 (case side7 => exact kC_ HR1_1 HB)
 (case side8 => exact HC1_1.out)
 rintro e w42 ⟨v749, rfl, ho0, hb⟩
 refine ⟨_, rfl, ?_⟩
 replace HO740 := Aside0.mk (Kd.V_elder' (kV_ HO740) (Kd.R_base ho0) hb)
 have HO750 := Aside0.mk (Kd.R_lower ho0 (bs_ HB))
 replace BK734 := FB_ BK734 hb
 replace BK735 := FB_ BK735 hb
 replace HB := BS_ HB hb
 (try clear hb)
 (try clear ho0)
 refine hK.out _ _ ⟨ce_ BK734 0, ce_ BK734 1, ce_ BK734 2, ce_ BK734 3, ce_ BK735 0, ce_ BK735 1⟩ (fun hHeld => ?_)
 clear hK K
 refine norm_ (a' := ?_) ?_ ?_
 rotate_left
 {
 show Act.put _ (some 39) _ = _
 exact sp_}
 exact norm_ (by first | (simp only [putAll, Act.put, List.setIfInBounds_toArray, List.set_cons_zero, List.set_cons_succ]; done) | (simp only [putAll, Act.put, List.setIfInBounds_toArray, List.set_cons_zero, List.set_cons_succ]; rfl)) (hJ1_3_5_6 (v749) _ ⟨hHeld, (by (with_reducible repeat (first | apply Kd.V_alloc | apply Kd.V_drewN | apply Kd.V_drew)); exact Kd.V_mono HO740.out (fun _ hk => ⟨hk.2, ⟨hk.1.1, hk.1.2⟩⟩)), (kR_ HO750), (bk_ BK734), (bk_ BK735), (bl_ HB)⟩)}}
 {
 skip
 rintro v749 w42 ⟨hS_, h0_, h1_, h2_, h3_, h4_⟩
 have n0_ : Aside0 (Kd.V (Kd.int .u8) 5 w42 w.heap.size (fun k_ => some k_ ≠ (v749 : Value).ownBlock ∧ k_ ≠ gb734 ∧ k_ ≠ gb735) v739 t738) := ⟨h0_⟩
 have n1_ : Aside0 (Kd.R (Kd.int .u8) 5 w42 w.heap.size (fun _ => True) v749 t748) := ⟨h1_⟩
 have n2_ : Aside0 (w42.heap[gb734]? = some (.cells #[.int .i64 a0_0, .int .i64 a0_1, .slice A0_2 l0_2.length c0_2, .slice A0_3 l0_3.length c0_3] 24 (0, 0))) := ⟨h2_⟩
 have n3_ : Aside0 (w42.heap[gb735]? = some (.cells #[.slice A1_0 l1_0.length c1_0, .slice A1_1 l1_1.length c1_1] 48 (0, 0))) := ⟨h3_⟩
 have n4_ : Aside0 (Below w.heap.size w w42) := ⟨h4_⟩
 clear HO740
 clear BK734
 clear BK735
 clear HB
 clear h0_ h1_ h2_ h3_ h4_
 have HO740 := n0_
 have HO750 := n1_
 have BK734 := n2_
 have BK735 := n3_
 have HB := n4_
 clear n0_ n1_ n2_ n3_ n4_
 have hHeld : w42.cell? ⟨gb734, 0, none⟩ = some (.int .i64 a0_0) ∧ w42.cell? ⟨gb734, 1, none⟩ = some (.int .i64 a0_1) ∧ w42.cell? ⟨gb734, 2, none⟩ = some (.slice A0_2 l0_2.length c0_2) ∧ w42.cell? ⟨gb734, 3, none⟩ = some (.slice A0_3 l0_3.length c0_3) ∧ w42.cell? ⟨gb735, 0, none⟩ = some (.slice A1_0 l1_0.length c1_0) ∧ w42.cell? ⟨gb735, 1, none⟩ = some (.slice A1_1 l1_1.length c1_1) := hS_
 refine norm_ (a' := ?_) ?_ ?_
 rotate_left
 {
 simp only [putAll, Act.put, List.setIfInBounds_toArray, List.set_cons_zero, List.set_cons_succ]
 rfl}
 refine one_ (i := 1) (N := some 34) (B_ 17 255) rfl rfl (one_of HT_.out kf_) (by decide) (fun K hK => ?_)
 obtain ⟨Ao9740, co9740, eo9740⟩ := Kd.V_slice HO740.out
 subst eo9740
 have hcv43 := Kd.C_string (c := co9740) (P := Try.prog) Try.underlying34 Try.underlying5 Try.underlying9 (Kd.V_reads' HO740.out).2.2
 refine value_ (w1 := ?_) (v := ?_) (by rfl) rfl ?_ ?_
 rotate_left 2
 {
 go_simp
 constructor
 {
 rfl}
 {
 rfl}}
 clear hcv43
 refine hK.out _ _ ⟨ce_ BK734 0, ce_ BK734 1, ce_ BK734 2, ce_ BK734 3, ce_ BK735 0, ce_ BK735 1⟩ (fun hHeld => ?_)
 clear hK K
 refine norm_ (a' := ?_) ?_ ?_
 rotate_left
 {
 show Act.put _ (some 34) _ = _
 exact sp_}
 exact norm_ (by first | (simp only [putAll, Act.put, List.setIfInBounds_toArray, List.set_cons_zero, List.set_cons_succ]; done) | (simp only [putAll, Act.put, List.setIfInBounds_toArray, List.set_cons_zero, List.set_cons_succ]; rfl)) (hJ1_3_5_6_7 (v749) _ ⟨hHeld, (kV_ HO740), (kR_ HO750), (bk_ BK734), (bk_ BK735), (bl_ HB)⟩)}}
 {
 skip
 rintro v749 w42 ⟨hS_, h0_, h1_, h2_, h3_, h4_⟩
 have n0_ : Aside0 (Kd.V (Kd.int .u8) 5 w42 w.heap.size (fun k_ => some k_ ≠ (v749 : Value).ownBlock ∧ k_ ≠ gb734 ∧ k_ ≠ gb735) v739 t738) := ⟨h0_⟩
 have n1_ : Aside0 (Kd.R (Kd.int .u8) 5 w42 w.heap.size (fun _ => True) v749 t748) := ⟨h1_⟩
 have n2_ : Aside0 (w42.heap[gb734]? = some (.cells #[.int .i64 a0_0, .int .i64 a0_1, .slice A0_2 l0_2.length c0_2, .slice A0_3 l0_3.length c0_3] 24 (0, 0))) := ⟨h2_⟩
 have n3_ : Aside0 (w42.heap[gb735]? = some (.cells #[.slice A1_0 l1_0.length c1_0, .slice A1_1 l1_1.length c1_1] 48 (0, 0))) := ⟨h3_⟩
 have n4_ : Aside0 (Below w.heap.size w w42) := ⟨h4_⟩
 clear HO740
 clear BK734
 clear BK735
 clear HB
 clear h0_ h1_ h2_ h3_ h4_
 have HO740 := n0_
 have HO750 := n1_
 have BK734 := n2_
 have BK735 := n3_
 have HB := n4_
 clear n0_ n1_ n2_ n3_ n4_
 have hHeld : w42.cell? ⟨gb734, 0, none⟩ = some (.int .i64 a0_0) ∧ w42.cell? ⟨gb734, 1, none⟩ = some (.int .i64 a0_1) ∧ w42.cell? ⟨gb734, 2, none⟩ = some (.slice A0_2 l0_2.length c0_2) ∧ w42.cell? ⟨gb734, 3, none⟩ = some (.slice A0_3 l0_3.length c0_3) ∧ w42.cell? ⟨gb735, 0, none⟩ = some (.slice A1_0 l1_0.length c1_0) ∧ w42.cell? ⟨gb735, 1, none⟩ = some (.slice A1_1 l1_1.length c1_1) := hS_
 refine norm_ (a' := ?_) ?_ ?_
 rotate_left
 {
 simp only [putAll, Act.put, List.setIfInBounds_toArray, List.set_cons_zero, List.set_cons_succ]
 rfl}
 refine one_ (i := 7) (N := some 40) (B_ 17 255) rfl rfl (one_of HT_.out kf_) (by decide) (fun K hK => ?_)
 have hcv43 := own_string (P := Try.prog) Try.underlying34 Try.underlying5 Try.underlying9 (Kd.own_of_R HO750.out)
 refine value_ (w1 := ?_) (v := ?_) (by rfl) rfl ?_ ?_
 rotate_left 2
 {
 go_simp
 constructor
 {
 rfl}
 {
 rfl}}
 clear hcv43
 refine hK.out _ _ ⟨ce_ BK734 0, ce_ BK734 1, ce_ BK734 2, ce_ BK734 3, ce_ BK735 0, ce_ BK735 1⟩ (fun hHeld => ?_)
 clear hK K
 refine norm_ (a' := ?_) ?_ ?_
 rotate_left
 {
 show Act.put _ (some 40) _ = _
 exact sp_}
 exact norm_ (by first | (simp only [putAll, Act.put, List.setIfInBounds_toArray, List.set_cons_zero, List.set_cons_succ]; done) | (simp only [putAll, Act.put, List.setIfInBounds_toArray, List.set_cons_zero, List.set_cons_succ]; rfl)) (hJ1_3_5_6_7 (v749) _ ⟨hHeld, (kV_ HO740), (kR_ HO750), (bk_ BK734), (bk_ BK735), (bl_ HB)⟩)}}
 rintro v749 w43 ⟨hS_, h0_, h1_, h2_, h3_, h4_⟩
 have n0_ : Aside0 (Kd.V (Kd.int .u8) 5 w43 w.heap.size (fun k_ => some k_ ≠ (v749 : Value).ownBlock ∧ k_ ≠ gb734 ∧ k_ ≠ gb735) v739 t738) := ⟨h0_⟩
 have n1_ : Aside0 (Kd.R (Kd.int .u8) 5 w43 w.heap.size (fun _ => True) v749 t748) := ⟨h1_⟩
 have n2_ : Aside0 (w43.heap[gb734]? = some (.cells #[.int .i64 a0_0, .int .i64 a0_1, .slice A0_2 l0_2.length c0_2, .slice A0_3 l0_3.length c0_3] 24 (0, 0))) := ⟨h2_⟩
 have n3_ : Aside0 (w43.heap[gb735]? = some (.cells #[.slice A1_0 l1_0.length c1_0, .slice A1_1 l1_1.length c1_1] 48 (0, 0))) := ⟨h3_⟩
 have n4_ : Aside0 (Below w.heap.size w w43) := ⟨h4_⟩
 clear HO740
 clear BK734
 clear BK735
 clear HB
 clear h0_ h1_ h2_ h3_ h4_
 have HO740 := n0_
 have HO750 := n1_
 have BK734 := n2_
 have BK735 := n3_
 have HB := n4_
 clear n0_ n1_ n2_ n3_ n4_
 have hHeld : w43.cell? ⟨gb734, 0, none⟩ = some (.int .i64 a0_0) ∧ w43.cell? ⟨gb734, 1, none⟩ = some (.int .i64 a0_1) ∧ w43.cell? ⟨gb734, 2, none⟩ = some (.slice A0_2 l0_2.length c0_2) ∧ w43.cell? ⟨gb734, 3, none⟩ = some (.slice A0_3 l0_3.length c0_3) ∧ w43.cell? ⟨gb735, 0, none⟩ = some (.slice A1_0 l1_0.length c1_0) ∧ w43.cell? ⟨gb735, 1, none⟩ = some (.slice A1_1 l1_1.length c1_1) := hS_
 refine norm_ (a' := ?_) ?_ ?_
 rotate_left
 {
 simp only [putAll, Act.put, List.setIfInBounds_toArray, List.set_cons_zero, List.set_cons_succ]
 rfl}
 refine pu_ 8 (some 41) (B_ 17 511) HT_ ?_
 refine pu_ 9 (some 42) (B_ 17 1023) HT_ ?_
 refine pu_ 10 (some 43) (B_ 17 2047) HT_ ?_
 refine pu_ 11 (some 44) (B_ 17 4095) HT_ ?_
 refine pu_ 12 (some 45) (B_ 17 8191) HT_ ?_
 refine pu_ 13 (some 46) (B_ 17 16383) HT_ ?_
 refine one_ (i := 14) (N := some 47) (B_ 17 32767) rfl rfl (one_of HT_.out kf_) (by decide) (fun K hK => ?_)
 refine goes_ Try.func28 kf_ rfl #[] (by rfl) rfl rfl ar_ ?_
 with_reducible refine (psalterylaw17_knows.calls k  t751 _ A23.out).mono ?_
 rintro e w44 ⟨rfl, hb⟩
 refine ⟨_, rfl, ?_⟩
 replace HO740 := FV_ HO740 hb
 replace HO750 := FR_ HO750 hb
 replace BK734 := FB_ BK734 hb
 replace BK735 := FB_ BK735 hb
 replace HB := BS_ HB hb
 (try clear hb)
 refine hK.out _ _ ⟨ce_ BK734 0, ce_ BK734 1, ce_ BK734 2, ce_ BK734 3, ce_ BK735 0, ce_ BK735 1⟩ (fun hHeld => ?_)
 clear hK K
 refine norm_ (a' := ?_) ?_ ?_
 rotate_left
 {
 show Act.put _ (some 47) _ = _
 exact sp_}
 refine pu_ 15 (some 48) (B_ 17 65535) HT_ ?_
 refine pu_ 16 (some 4) (B_ 17 131071) HT_ ?_
 refine done_ (done_of HT_.out kf_) ?_
 try go_wp2
 go_ret
 exact ⟨by first | rfl | (simp [errW_none, errW_some] <;> rfl) | (simp [*, errW_none, errW_some] <;> rfl), bl_ HB⟩}
 {
 rw [if_neg c22] at H
 have c22b0 : (t741 == 0) = false := beq_eq_false_iff_ne.mpr c22
 have c22b1 : (t741 != 0) = true := bne_iff_ne.mpr c22
 exact absurd ((Option.some.inj H).trans HT.out) (by decide)}}
 {
 rw [if_neg c21] at H
 have c21b0 : ((strOfNums t738).toList == (strOfNums t748).toList) = false := beq_eq_false_iff_ne.mpr c21
 have c21b1 : ((strOfNums t738).toList != (strOfNums t748).toList) = true := bne_iff_ne.mpr c21
 exact absurd ((Option.some.inj H).trans HT.out) (by decide)}}
 {
 replace c17 := Bool.eq_false_iff.mpr c17
 subst c17
 rw [if_neg (show ¬ (false = true) by decide)] at H
 by_cases c45 : (t738.length : Int) = 0
 {
 rw [if_pos c45] at H
 have c45b0 : ((t738.length : Int) == 0) = true := beq_iff_eq.mpr c45
 have c45b1 : ((t738.length : Int) != 0) = false := bne_eq_false_iff_eq.mpr c45
 clear c45
 by_cases c46 : t741 = 1
 {
 rw [if_pos c46] at H
 have c46b0 : (t741 == 1) = true := beq_iff_eq.mpr c46
 have c46b1 : (t741 != 1) = false := bne_eq_false_iff_eq.mpr c46
 clear c46
 replace H := Option.bind_eq_some_iff.mp H
 obtain ⟨t745, A470, H⟩ := H
 replace H : (some t745) = some r := H
 have A47 := Aside0.mk A470
 clear A470
 obtain rfl := Option.some.inj H
 go_enter Try.func10, Try.ntmps10
 try go_wp2_with (first | ((with_reducible refine gate_dst (N := 2) rfl ?_); refine bx_ HB 2 #[.int .i64 a0_0, .int .i64 a0_1, .slice A0_2 l0_2.length c0_2, .slice A0_3 l0_3.length c0_3] 24 ?_; clear HB; intro gb734 hg w48 hb BK734 GE734 HB; have GW734 := GE734; clear hb hg) | ((with_reducible refine gate_dst (N := 3) rfl ?_); refine bx_ HB 3 #[.slice A1_0 l1_0.length c1_0, .slice A1_1 l1_1.length c1_1] 48 ?_; clear HB; intro gb735 hg w49 hb BK735 GE735 HB; have GW735 := GE735; obtain ⟨NB734_735, NB735_734⟩ := NN_ BK734 hg; replace BK734 := FB_ BK734 hb; clear hb hg; have hnb50 := NB734_735.out; have hnc50 := NB735_734.out; obtain ⟨hcz51_0, hcz51_1, hcz51_2, hcz51_3, hfz51_0, hfz51_1, hfz51_2, hfz51_3⟩ := e4_ BK734; obtain ⟨hcz52_0, hcz52_1, hfz52_0, hfz52_1⟩ := e2_ BK735) | ((with_reducible refine gate_callee (f := 27) rfl ?_); refine gL_ (some 9) Try.func27 #[.agg #[.int .i64 a0_0, .int .i64 a0_1, .slice A0_2 l0_2.length c0_2, .slice A0_3 l0_3.length c0_3], .agg #[.slice A1_0 l1_0.length c1_0, .slice A1_1 l1_1.length c1_1]] ?_; (with_reducible refine (psalterylaw17_great.calls k a0_0 a0_1 _ _ l0_2 _ _ l0_3 _ _ l1_0 _ _ l1_1 false _ ?side1 ?side2 ?side3 ?side4 ?side5 ?side6 ?side7 ?side8 A3.out).mono ?_); (case side1 => exact kC_ HR0_2 HB); (case side2 => exact HC0_2.out); (case side3 => exact kC_ HR0_3 HB); (case side4 => exact HC0_3.out); (case side5 => exact kC_ HR1_0 HB); (case side6 => exact HC1_0.out); (case side7 => exact kC_ HR1_1 HB); (case side8 => exact HC1_1.out); rintro e w53 ⟨rfl, hb⟩; refine ⟨_, rfl, ?_⟩; replace BK734 := FB_ BK734 hb; replace BK735 := FB_ BK735 hb; replace HB := BS_ HB hb; (try clear hb); obtain ⟨hcz54_0, hcz54_1, hcz54_2, hcz54_3, hfz54_0, hfz54_1, hfz54_2, hfz54_3⟩ := e4_ BK734; obtain ⟨hcz55_0, hcz55_1, hfz55_0, hfz55_1⟩ := e2_ BK735) | ((with_reducible refine gate_callee (f := 32) rfl ?_); refine gL_ (some 14) Try.func32 #[.agg #[.int .i64 a0_0, .int .i64 a0_1, .slice A0_2 l0_2.length c0_2, .slice A0_3 l0_3.length c0_3], .agg #[.slice A1_0 l1_0.length c1_0, .slice A1_1 l1_1.length c1_1]] ?_; (with_reducible refine (vpack_Write.calls k a0_0 a0_1 _ _ l0_2 _ _ l0_3 _ _ l1_0 _ _ l1_1 t738 t741 _ ?side1 ?side2 ?side3 ?side4 ?side5 ?side6 ?side7 ?side8 A13.out).mono ?_); (case side1 => exact kC_ HR0_2 HB); (case side2 => exact HC0_2.out); (case side3 => exact kC_ HR0_3 HB); (case side4 => exact HC0_3.out); (case side5 => exact kC_ HR1_0 HB); (case side6 => exact HC1_0.out); (case side7 => exact kC_ HR1_1 HB); (case side8 => exact HC1_1.out); rintro e w56 ⟨v739, rfl, ho0, hb⟩; refine ⟨_, rfl, ?_⟩; have HO740 := Aside0.mk (Kd.V_lower (Kd.V_mono (ok' := fun k_ => k_ ≠ gb734 ∧ k_ ≠ gb735) ho0 (fun k_ hk_ => ⟨(Kd.freshB (g := gb734) (o := .cells #[.int .i64 a0_0, .int .i64 a0_1, .slice A0_2 l0_2.length c0_2, .slice A0_3 l0_3.length c0_3] 24 (0, 0)) (bk_ BK734) k_ hk_), (Kd.freshB (g := gb735) (o := .cells #[.slice A1_0 l1_0.length c1_0, .slice A1_1 l1_1.length c1_1] 48 (0, 0)) (bk_ BK735) k_ hk_)⟩)) (bs_ HB)); replace BK734 := FB_ BK734 hb; replace BK735 := FB_ BK735 hb; replace HB := BS_ HB hb; (try clear hb); (try clear ho0)))
 replace HO740 := Aside0.mk (Kd.V_drew HO740.out)
 replace BK734 := Aside0.mk (blk_drew BK734.out)
 replace BK735 := Aside0.mk (blk_drew BK735.out)
 replace HB := Aside0.mk (below_drew1 HB.out)
 refine start_ (n := 6) (S := fun w' => w'.cell? ⟨gb734, 0, none⟩ = some (.int .i64 a0_0) ∧ w'.cell? ⟨gb734, 1, none⟩ = some (.int .i64 a0_1) ∧ w'.cell? ⟨gb734, 2, none⟩ = some (.slice A0_2 l0_2.length c0_2) ∧ w'.cell? ⟨gb734, 3, none⟩ = some (.slice A0_3 l0_3.length c0_3) ∧ w'.cell? ⟨gb735, 0, none⟩ = some (.slice A1_0 l1_0.length c1_0) ∧ w'.cell? ⟨gb735, 1, none⟩ = some (.slice A1_1 l1_1.length c1_1)) (ds := []) (B_ 6 0) kf_ rfl rfl ⟨ce_ BK734 0, ce_ BK734 1, ce_ BK734 2, ce_ BK734 3, ce_ BK735 0, ce_ BK735 1⟩ (fun hHeld => ?_)
 generalize w56.drew = w57 at HO740 BK734 BK735 HB hHeld ⊢
 refine take_ (i := 0) (N := some 17) (v := ?_) (a' := ?_) (B_ 6 1) rfl rfl kf_ (fun _ _ _ h => h) (Or.inl ⟨by rfl, ?_⟩) hHeld ?_ ?_
 rotate_left
 {
 rintro w' ⟨s0, s1, s2, s3, s4, s5⟩
 go_simp
 with_reducible rfl}
 rotate_left
 {
 exact sp_}
 refine take_ (i := 2) (N := some 19) (v := ?_) (a' := ?_) (B_ 6 5) rfl rfl kf_ (fun _ _ _ h => h) (Or.inl ⟨by rfl, ?_⟩) hHeld ?_ ?_
 rotate_left
 {
 rintro w' ⟨s0, s1, s2, s3, s4, s5⟩
 go_simp
 with_reducible rfl}
 rotate_left
 {
 exact sp_}
 refine one_ (i := 1) (N := some 18) (B_ 6 7) rfl rfl kf_ (by decide) (fun K hK => ?_)
 refine goes_ Try.func19 kf_ rfl #[.agg #[.int .i64 a0_0, .int .i64 a0_1, .slice A0_2 l0_2.length c0_2, .slice A0_3 l0_3.length c0_3]] (by rfl) rfl rfl ar_ ?_
 with_reducible refine (psalterylaw16_As.calls a0_0 a0_1 _ _ l0_2 _ _ l0_3 t742 t743 _ ?side1 ?side2 ?side3 ?side4 A14.out).mono ?_
 (case side1 => exact kC_ HR0_2 HB)
 (case side2 => exact HC0_2.out)
 (case side3 => exact kC_ HR0_3 HB)
 (case side4 => exact HC0_3.out)
 rintro e w58 ⟨rfl, hb⟩
 refine ⟨_, rfl, ?_⟩
 replace HO740 := FV_ HO740 hb
 replace BK734 := FB_ BK734 hb
 replace BK735 := FB_ BK735 hb
 replace HB := BS_ HB hb
 (try clear hb)
 refine hK.out _ _ ⟨ce_ BK734 0, ce_ BK734 1, ce_ BK734 2, ce_ BK734 3, ce_ BK735 0, ce_ BK735 1⟩ (fun hHeld => ?_)
 clear hK K
 refine norm_ (a' := ?_) ?_ ?_
 rotate_left
 {
 show Act.put _ (some 18) _ = _
 exact sp_}
 refine one_ (i := 3) (N := some 20) (B_ 6 15) rfl rfl kf_ (by decide) (fun K hK => ?_)
 refine goes_ Try.func31 kf_ rfl #[.agg #[.slice A1_0 l1_0.length c1_0, .slice A1_1 l1_1.length c1_1]] (by rfl) rfl rfl ar_ ?_
 with_reducible refine (psalterylaw17_As.calls _ _ l1_0 _ _ l1_1  _ ?side1 ?side2 ?side3 ?side4 A15.out).mono ?_
 (case side1 => exact kC_ HR1_0 HB)
 (case side2 => exact HC1_0.out)
 (case side3 => exact kC_ HR1_1 HB)
 (case side4 => exact HC1_1.out)
 rintro e w59 ⟨rfl, hb⟩
 refine ⟨_, rfl, ?_⟩
 replace HO740 := FV_ HO740 hb
 replace BK734 := FB_ BK734 hb
 replace BK735 := FB_ BK735 hb
 replace HB := BS_ HB hb
 (try clear hb)
 refine hK.out _ _ ⟨ce_ BK734 0, ce_ BK734 1, ce_ BK734 2, ce_ BK734 3, ce_ BK735 0, ce_ BK735 1⟩ (fun hHeld => ?_)
 clear hK K
 refine norm_ (a' := ?_) ?_ ?_
 rotate_left
 {
 show Act.put _ (some 20) _ = _
 exact sp_}
 refine one_ (i := 4) (N := some 21) (B_ 6 31) rfl rfl kf_ (by decide) (fun K hK => ?_)
 refine goes_ Try.func30 kf_ rfl #[.agg #[.int .i64 t742, .int .i64 t743, .slice A0_2 l0_2.length c0_2, .slice A0_3 l0_3.length c0_3], .agg #[.slice A1_0 l1_0.length c1_0, .slice A1_1 l1_1.length c1_1]] (by rfl) rfl rfl ar_ ?_
 with_reducible refine (psalteryref17_Right.calls k t742 t743 _ _ l0_2 _ _ l0_3 _ _ l1_0 _ _ l1_1 false _ ?side1 ?side2 ?side3 ?side4 ?side5 ?side6 ?side7 ?side8 A16.out).mono ?_
 (case side1 => exact kC_ HR0_2 HB)
 (case side2 => exact HC0_2.out)
 (case side3 => exact kC_ HR0_3 HB)
 (case side4 => exact HC0_3.out)
 (case side5 => exact kC_ HR1_0 HB)
 (case side6 => exact HC1_0.out)
 (case side7 => exact kC_ HR1_1 HB)
 (case side8 => exact HC1_1.out)
 rintro e w60 ⟨rfl, hb⟩
 refine ⟨_, rfl, ?_⟩
 replace HO740 := FV_ HO740 hb
 replace BK734 := FB_ BK734 hb
 replace BK735 := FB_ BK735 hb
 replace HB := BS_ HB hb
 (try clear hb)
 refine hK.out _ _ ⟨ce_ BK734 0, ce_ BK734 1, ce_ BK734 2, ce_ BK734 3, ce_ BK735 0, ce_ BK735 1⟩ (fun hHeld => ?_)
 clear hK K
 refine norm_ (a' := ?_) ?_ ?_
 rotate_left
 {
 show Act.put _ (some 21) _ = _
 exact sp_}
 refine pure_ (i := 5) (N := some 22) (v := ?_) (a' := ?_) (B_ 6 63) rfl rfl kf_ (fun _ _ _ h => h) (Or.inl ⟨by rfl, ?_⟩) ?_ ?_
 rotate_left
 {
 intro w'
 go_simp
 with_reducible rfl}
 rotate_left
 {
 exact sp_}
 refine done_ kf_ ?_
 obtain ⟨Ao61, co61, eo61⟩ := Kd.V_slice HO740.out
 subst eo61
 try go_wp2_with (first | (go_at_call 28; (with_reducible refine (psalterylaw17_knows.calls k  t745 _ A47.out).mono ?_); rintro e w62 ⟨rfl, hb⟩; replace HO740 := FV_ HO740 hb; replace BK734 := FB_ BK734 hb; replace BK735 := FB_ BK735 hb; replace HB := BS_ HB hb; (try clear hb)))
 go_ret
 exact ⟨by first | rfl | (simp [errW_none, errW_some] <;> rfl) | (simp [*, errW_none, errW_some] <;> rfl), bl_ HB⟩}
 {
 rw [if_neg c46] at H
 have c46b0 : (t741 == 1) = false := beq_eq_false_iff_ne.mpr c46
 have c46b1 : (t741 != 1) = true := bne_iff_ne.mpr c46
 exact absurd ((Option.some.inj H).trans HT.out) (by decide)}}
 {
 rw [if_neg c45] at H
 have c45b0 : ((t738.length : Int) == 0) = false := beq_eq_false_iff_ne.mpr c45
 have c45b1 : ((t738.length : Int) != 0) = true := bne_iff_ne.mpr c45
 have c45b2 : ¬ (t738 = []) := fun h_ => c45 (by rw [h_]; rfl)
 exact absurd ((Option.some.inj H).trans HT.out) (by decide)}}}
def psalterylaw17_BodyWrites.Pure : Prop := ∀ (a0_0 : Int) (a0_1 : Int) (l0_2 : List Int) (l0_3 : List Int) (l1_0 : List (List Int)) (l1_1 : List (List Int)), (Lit.int .i64 a0_0).wf = true → (Lit.int .i64 a0_1).wf = true → (l0_2.length ≤ maxLen ∧ ∀ x0_ ∈ l0_2, (Lit.int .i64 x0_).wf = true) → (l0_3.length ≤ maxLen ∧ ∀ x0_ ∈ l0_3, (Lit.int .i64 x0_).wf = true) → (l1_0.length ≤ maxLen ∧ ∀ x0_ ∈ l1_0, (x0_.length ≤ maxLen ∧ ∀ x1_ ∈ x0_, (Lit.int .i64 x1_).wf = true)) → (l1_1.length ≤ maxLen ∧ ∀ x0_ ∈ l1_1, (x0_.length ≤ maxLen ∧ ∀ x1_ ∈ x0_, (Lit.int .i64 x1_).wf = true)) → ∃ k, psalterylaw17_BodyWrites.f k a0_0 a0_1 l0_2 l0_3 l1_0 l1_1 = some true
theorem psalterylaw17_BodyWrites.walk (P : psalterylaw17_BodyWrites.Pure) (a0_0 : Int) (a0_1 : Int) (A0_2 : Option Addr) (c0_2 : Nat) (l0_2 : List Int) (A0_3 : Option Addr) (c0_3 : Nat) (l0_3 : List Int) (A1_0 : Option Addr) (c1_0 : Nat) (l1_0 : List (List Int)) (A1_1 : Option Addr) (c1_1 : Nat) (l1_1 : List (List Int)) (w : World) (hr0_2 : Kd.C (Kd.int .i64) w A0_2 l0_2.length l0_2) (hc0_2 : l0_2.length ≤ c0_2) (hr0_3 : Kd.C (Kd.int .i64) w A0_3 l0_3.length l0_3) (hc0_3 : l0_3.length ≤ c0_3) (hr1_0 : Kd.C (Kd.slice 3 (Kd.int .i64)) w A1_0 l1_0.length l1_0) (hc1_0 : l1_0.length ≤ c1_0) (hr1_1 : Kd.C (Kd.slice 2 (Kd.int .i64)) w A1_1 l1_1.length l1_1) (hc1_1 : l1_1.length ≤ c1_1) (w0_0 : (Lit.int .i64 a0_0).wf = true) (w0_1 : (Lit.int .i64 a0_1).wf = true) (w0_2 : (l0_2.length ≤ maxLen ∧ ∀ x0_ ∈ l0_2, (Lit.int .i64 x0_).wf = true)) (w0_3 : (l0_3.length ≤ maxLen ∧ ∀ x0_ ∈ l0_3, (Lit.int .i64 x0_).wf = true)) (w1_0 : (l1_0.length ≤ maxLen ∧ ∀ x0_ ∈ l1_0, (x0_.length ≤ maxLen ∧ ∀ x1_ ∈ x0_, (Lit.int .i64 x1_).wf = true))) (w1_1 : (l1_1.length ≤ maxLen ∧ ∀ x0_ ∈ l1_1, (x0_.length ≤ maxLen ∧ ∀ x1_ ∈ x0_, (Lit.int .i64 x1_).wf = true))) :
    Calls Try.prog 10 #[.agg #[.int .i64 a0_0, .int .i64 a0_1, .slice A0_2 l0_2.length c0_2, .slice A0_3 l0_3.length c0_3], .agg #[.slice A1_0 l1_0.length c1_0, .slice A1_1 l1_1.length c1_1]] w fun e w' => e = .returned (.bool true) ∧ Below w.heap.size w w' := by
  obtain ⟨k, h⟩ := P a0_0 a0_1 l0_2 l0_3 l1_0 l1_1 w0_0 w0_1 w0_2 w0_3 w1_0 w1_1
  refine (psalterylaw17_BodyWrites.calls k a0_0 a0_1 _ _ l0_2 _ _ l0_3 _ _ l1_0 _ _ l1_1 true w hr0_2 hc0_2 hr0_3 hc0_3 hr1_0 hc1_0 hr1_1 hc1_1 h rfl).mono ?_
  rintro e w' ⟨rfl, hd⟩
  exact ⟨rfl, hd⟩

end Go.Proofs.Ytpdfdaoohknfoaa.P
