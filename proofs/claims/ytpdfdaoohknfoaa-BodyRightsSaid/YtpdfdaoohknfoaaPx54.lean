/- Walks. -/
import Derived.Test.YtpdfdaoohknfoaaQ1
import Derived.Test.YtpdfdaoohknfoaaPx16
import Derived.Test.YtpdfdaoohknfoaaQ3
import Derived.Test.YtpdfdaoohknfoaaPx52
import Derived.Test.YtpdfdaoohknfoaaPx53
namespace Go.Proofs.Ytpdfdaoohknfoaa.P
open Go.RowKit Go.Proofs.YtpdfdaoohknfoaaW.PrintWords Go.Proofs.YtpdfdaoohknfoaaW.PrintLast Go.Proofs.YtpdfdaoohknfoaaW.PrintMore
attribute [local go_sem] max2_int min2_int max_two min_two max_three min_three max_four min_four   -- for this text's walks alone
set_option linter.unusedVariables false
set_option linter.unusedSimpArgs false

def psalterylaw17_BodyRights.f (k : Nat) (a0_0 : Int) (a0_1 : Int) (l0_2 : List Int) (l0_3 : List Int) (l1_0 : List (List Int)) (l1_1 : List (List Int)) : Option (Bool) := (psalterylaw17_great.f k a0_0 a0_1 l0_2 l0_3 l1_0 l1_1).bind fun t660 => (if t660 = true then ((psalterylaw17_knows.f k).bind fun t661 => (some t661)) else ((vpack_Right.f k a0_0 a0_1 l0_2 l0_3 l1_0 l1_1).bind fun t662 => ((psalterylaw16_As.f a0_0 a0_1 l0_2 l0_3).bind fun bt663 => ((psalterylaw17_As.f l1_0 l1_1).bind fun _ => ((psalteryref17_Right.f k bt663.1 bt663.2 l0_2 l0_3 l1_0 l1_1).bind fun t665 => (if (t662 == t665) = true then ((psalterylaw17_knows.f k).bind fun t666 => (some t666)) else (some false)))))))
theorem psalterylaw17_BodyRights.mono : ∀ a0 a1 a2 a3 a4 a5 k, LeO (psalterylaw17_BodyRights.f k a0 a1 a2 a3 a4 a5) (psalterylaw17_BodyRights.f (k + 1) a0 a1 a2 a3 a4 a5) := by
  intro a0 a1 a2 a3 a4 a5 k
  unfold psalterylaw17_BodyRights.f
  with_reducible repeat' first
   | exact psalterylaw17_great.mono _ _ _ _ _ _ _
   | exact psalterylaw17_knows.mono _
   | exact psalteryref17_Right.mono _ _ _ _ _ _ _
   | exact vpack_Right.mono _ _ _ _ _ _ _
   | exact LeO.refl _
   | exact LeO.none _
   | refine LeO.ite ?_ ?_
   | refine LeO.bind ?_ (fun _ => ?_)
def psalterylaw17_BodyRights.T3 : Bool × List (List Nat × List Nat) := (true, [([], []), ([], []), ([0, 1], [0, 1]), ([], []), ([3, 2], [3]), ([], []), ([5, 4], [5]), ([4, 6, 6], [4, 6]), ([2, 7], [2, 7]), ([8, 7], [8]), ([9, 9], [9]), ([9, 10], [9, 10]), ([11, 10, 0, 1, 2, 3, 4, 5, 6, 7, 8, 9, 10, 11], [11])])
def psalterylaw17_BodyRights.B3 : List Nat := [0, 0, 3, 0, 15, 0, 63, 127, 255, 511, 1023, 2047, 4095]
theorem psalterylaw17_BodyRights.tab3 : rtab .any (opsOf Try.f9 3) = psalterylaw17_BodyRights.T3 := by kernel_rfl
theorem psalterylaw17_BodyRights.bits3 : waitsOk psalterylaw17_BodyRights.T3.2 psalterylaw17_BodyRights.B3 = true := by kernel_rfl
set_option maxHeartbeats 8000000 in
set_option maxRecDepth 100000 in
theorem psalterylaw17_BodyRights.calls (k : Nat) (a0_0 : Int) (a0_1 : Int) (A0_2 : Option Addr) (c0_2 : Nat) (l0_2 : List Int) (A0_3 : Option Addr) (c0_3 : Nat) (l0_3 : List Int) (A1_0 : Option Addr) (c1_0 : Nat) (l1_0 : List (List Int)) (A1_1 : Option Addr) (c1_1 : Nat) (l1_1 : List (List Int)) (r : Bool) (w : World) (hr0_2 : Kd.C (Kd.int .i64) w A0_2 l0_2.length l0_2) (hc0_2 : l0_2.length ≤ c0_2) (hr0_3 : Kd.C (Kd.int .i64) w A0_3 l0_3.length l0_3) (hc0_3 : l0_3.length ≤ c0_3) (hr1_0 : Kd.C (Kd.slice 3 (Kd.int .i64)) w A1_0 l1_0.length l1_0) (hc1_0 : l1_0.length ≤ c1_0) (hr1_1 : Kd.C (Kd.slice 2 (Kd.int .i64)) w A1_1 l1_1.length l1_1) (hc1_1 : l1_1.length ≤ c1_1) (h : psalterylaw17_BodyRights.f k a0_0 a0_1 l0_2 l0_3 l1_0 l1_1 = some r) (hT : r = true) :
    Calls Try.prog 9 #[.agg #[.int .i64 a0_0, .int .i64 a0_1, .slice A0_2 l0_2.length c0_2, .slice A0_3 l0_3.length c0_3], .agg #[.slice A1_0 l1_0.length c1_0, .slice A1_1 l1_1.length c1_1]] w fun e w' => e = .returned (.bool r) ∧ Below w.heap.size w w' := by
 have hu24 := Try.underlying24
 have hu48 := Try.underlying48
 have HR0_2 := Aside0.mk hr0_2
 have HC0_2 := Aside0.mk hc0_2
 clear hr0_2 hc0_2
 have HR0_3 := Aside0.mk hr0_3
 have HC0_3 := Aside0.mk hc0_3
 clear hr0_3 hc0_3
 have HR1_0 := Aside0.mk hr1_0
 have HC1_0 := Aside0.mk hc1_0
 clear hr1_0 hc1_0
 have HR1_1 := Aside0.mk hr1_1
 have HC1_1 := Aside0.mk hc1_1
 clear hr1_1 hc1_1
 have HB := Aside0.mk (Below.refl w.heap.size w)
 have H : ((psalterylaw17_great.f k a0_0 a0_1 l0_2 l0_3 l1_0 l1_1).bind fun t660 => (if t660 = true then ((psalterylaw17_knows.f k).bind fun t661 => (some t661)) else ((vpack_Right.f k a0_0 a0_1 l0_2 l0_3 l1_0 l1_1).bind fun t662 => ((psalterylaw16_As.f a0_0 a0_1 l0_2 l0_3).bind fun bt663 => ((psalterylaw17_As.f l1_0 l1_1).bind fun _ => ((psalteryref17_Right.f k bt663.1 bt663.2 l0_2 l0_3 l1_0 l1_1).bind fun t665 => (if (t662 == t665) = true then ((psalterylaw17_knows.f k).bind fun t666 => (some t666)) else (some false)))))))) = some r := h
 clear h
 have HT := Aside0.mk hT
 clear hT
 obtain ⟨t660, A3, H⟩ := ob_ H
 (try dsimp only at H)
 by_cases c4 : t660 = true
 {
 subst c4
 rw [if_pos rfl] at H
 replace H := Option.bind_eq_some_iff.mp H
 obtain ⟨t661, A50, H⟩ := H
 replace H : (some t661) = some r := H
 have A5 := Aside0.mk A50
 clear A50
 obtain rfl := Option.some.inj H
 go_enter Try.func9, Try.ntmps9
 go_wp2_with (first | ((with_reducible refine gate_dst (N := 2) rfl ?_); refine bx_ HB 2 #[.int .i64 a0_0, .int .i64 a0_1, .slice A0_2 l0_2.length c0_2, .slice A0_3 l0_3.length c0_3] 24 ?_; clear HB; intro gb658 hg w6 hb BK658 GE658 HB; have GW658 := GE658; clear hb hg) | ((with_reducible refine gate_dst (N := 3) rfl ?_); refine bx_ HB 3 #[.slice A1_0 l1_0.length c1_0, .slice A1_1 l1_1.length c1_1] 48 ?_; clear HB; intro gb659 hg w7 hb BK659 GE659 HB; have GW659 := GE659; obtain ⟨NB658_659, NB659_658⟩ := NN_ BK658 hg; replace BK658 := FB_ BK658 hb; clear hb hg; have hnb8 := NB658_659.out; have hnc8 := NB659_658.out; obtain ⟨hcz9_0, hcz9_1, hcz9_2, hcz9_3, hfz9_0, hfz9_1, hfz9_2, hfz9_3⟩ := e4_ BK658; obtain ⟨hcz10_0, hcz10_1, hfz10_0, hfz10_1⟩ := e2_ BK659) | ((with_reducible refine gate_callee (f := 27) rfl ?_); refine gL_ (some 7) Try.func27 #[.agg #[.int .i64 a0_0, .int .i64 a0_1, .slice A0_2 l0_2.length c0_2, .slice A0_3 l0_3.length c0_3], .agg #[.slice A1_0 l1_0.length c1_0, .slice A1_1 l1_1.length c1_1]] ?_; (with_reducible refine (psalterylaw17_great.calls k a0_0 a0_1 _ _ l0_2 _ _ l0_3 _ _ l1_0 _ _ l1_1 true _ ?side1 ?side2 ?side3 ?side4 ?side5 ?side6 ?side7 ?side8 A3.out).mono ?_); (case side1 => exact kC_ HR0_2 HB); (case side2 => exact HC0_2.out); (case side3 => exact kC_ HR0_3 HB); (case side4 => exact HC0_3.out); (case side5 => exact kC_ HR1_0 HB); (case side6 => exact HC1_0.out); (case side7 => exact kC_ HR1_1 HB); (case side8 => exact HC1_1.out); rintro e w11 ⟨rfl, hb⟩; refine ⟨_, rfl, ?_⟩; replace BK658 := FB_ BK658 hb; replace BK659 := FB_ BK659 hb; replace HB := BS_ HB hb; (try clear hb)) | ((with_reducible refine gate_callee (f := 28) rfl ?_); refine gL_ (some 8) Try.func28 #[] ?_; (with_reducible refine (psalterylaw17_knows.calls k  t661 _ A5.out).mono ?_); rintro e w12 ⟨rfl, hb⟩; refine ⟨_, rfl, ?_⟩; replace BK658 := FB_ BK658 hb; replace BK659 := FB_ BK659 hb; replace HB := BS_ HB hb; (try clear hb)))
 go_ret
 exact ⟨by first | rfl | (simp [errW_none, errW_some] <;> rfl) | (simp [*, errW_none, errW_some] <;> rfl), bl_ HB⟩}
 {
 replace c4 := Bool.eq_false_iff.mpr c4
 subst c4
 rw [if_neg (show ¬ (false = true) by decide)] at H
 obtain ⟨t662, A13, H⟩ := ob_ H
 (try dsimp only at H)
 obtain ⟨⟨t663, t664⟩, A14, H⟩ := ob_ H
 (try dsimp only at H)
 obtain ⟨_, A15, H⟩ := ob_ H
 (try dsimp only at H)
 obtain ⟨t665, A16, H⟩ := ob_ H
 (try dsimp only at H)
 by_cases c17 : (t662 == t665) = true
 {
 rw [if_pos c17] at H
 have c17b0 : (t662 == t665) = true := c17
 (try (have c17b1 : decide (t662 = t665) = true := by simpa using c17))
 (try (have c17b2 : (t662 == t665) = true := by simpa using c17))
 clear c17
 replace H := Option.bind_eq_some_iff.mp H
 obtain ⟨t666, A180, H⟩ := H
 replace H : (some t666) = some r := H
 have A18 := Aside0.mk A180
 clear A180
 obtain rfl := Option.some.inj H
 go_enter Try.func9, Try.ntmps9
 try go_wp2_with (first | ((with_reducible refine gate_dst (N := 2) rfl ?_); refine bx_ HB 2 #[.int .i64 a0_0, .int .i64 a0_1, .slice A0_2 l0_2.length c0_2, .slice A0_3 l0_3.length c0_3] 24 ?_; clear HB; intro gb658 hg w19 hb BK658 GE658 HB; have GW658 := GE658; clear hb hg) | ((with_reducible refine gate_dst (N := 3) rfl ?_); refine bx_ HB 3 #[.slice A1_0 l1_0.length c1_0, .slice A1_1 l1_1.length c1_1] 48 ?_; clear HB; intro gb659 hg w20 hb BK659 GE659 HB; have GW659 := GE659; obtain ⟨NB658_659, NB659_658⟩ := NN_ BK658 hg; replace BK658 := FB_ BK658 hb; clear hb hg; have hnb21 := NB658_659.out; have hnc21 := NB659_658.out; obtain ⟨hcz22_0, hcz22_1, hcz22_2, hcz22_3, hfz22_0, hfz22_1, hfz22_2, hfz22_3⟩ := e4_ BK658; obtain ⟨hcz23_0, hcz23_1, hfz23_0, hfz23_1⟩ := e2_ BK659) | ((with_reducible refine gate_callee (f := 27) rfl ?_); refine gL_ (some 7) Try.func27 #[.agg #[.int .i64 a0_0, .int .i64 a0_1, .slice A0_2 l0_2.length c0_2, .slice A0_3 l0_3.length c0_3], .agg #[.slice A1_0 l1_0.length c1_0, .slice A1_1 l1_1.length c1_1]] ?_; (with_reducible refine (psalterylaw17_great.calls k a0_0 a0_1 _ _ l0_2 _ _ l0_3 _ _ l1_0 _ _ l1_1 false _ ?side1 ?side2 ?side3 ?side4 ?side5 ?side6 ?side7 ?side8 A3.out).mono ?_); (case side1 => exact kC_ HR0_2 HB); (case side2 => exact HC0_2.out); (case side3 => exact kC_ HR0_3 HB); (case side4 => exact HC0_3.out); (case side5 => exact kC_ HR1_0 HB); (case side6 => exact HC1_0.out); (case side7 => exact kC_ HR1_1 HB); (case side8 => exact HC1_1.out); rintro e w24 ⟨rfl, hb⟩; refine ⟨_, rfl, ?_⟩; replace BK658 := FB_ BK658 hb; replace BK659 := FB_ BK659 hb; replace HB := BS_ HB hb; (try clear hb)))
 replace BK658 := Aside0.mk (blk_drew BK658.out)
 replace BK659 := Aside0.mk (blk_drew BK659.out)
 replace HB := Aside0.mk (below_drew1 HB.out)
 refine start_ (n := 13) (S := fun w' => w'.cell? ⟨gb658, 0, none⟩ = some (.int .i64 a0_0) ∧ w'.cell? ⟨gb658, 1, none⟩ = some (.int .i64 a0_1) ∧ w'.cell? ⟨gb658, 2, none⟩ = some (.slice A0_2 l0_2.length c0_2) ∧ w'.cell? ⟨gb658, 3, none⟩ = some (.slice A0_3 l0_3.length c0_3) ∧ w'.cell? ⟨gb659, 0, none⟩ = some (.slice A1_0 l1_0.length c1_0) ∧ w'.cell? ⟨gb659, 1, none⟩ = some (.slice A1_1 l1_1.length c1_1)) (ds := []) (B_ 13 0) kf_ rfl rfl ⟨ce_ BK658 0, ce_ BK658 1, ce_ BK658 2, ce_ BK658 3, ce_ BK659 0, ce_ BK659 1⟩ (fun hHeld => ?_); refine with_tabW psalterylaw17_BodyRights.tab3 psalterylaw17_BodyRights.bits3 (fun HT_ HW_ => ?_)
 generalize w24.drew = w25 at BK658 BK659 HB hHeld ⊢
 refine take_ (i := 0) (N := some 9) (v := ?_) (a' := ?_) (B_ 13 1) rfl rfl (take_ofW HT_.out HW_.out kf_) (fun _ _ _ h => h) (Or.inl ⟨by rfl, ?_⟩) hHeld ?_ ?_
 rotate_left
 {
 rintro w' ⟨s0, s1, s2, s3, s4, s5⟩
 go_simp
 with_reducible rfl}
 rotate_left
 {
 exact sp_}
 refine take_ (i := 1) (N := some 10) (v := ?_) (a' := ?_) (B_ 13 3) rfl rfl (take_ofW HT_.out HW_.out kf_) (fun _ _ _ h => h) (Or.inl ⟨by rfl, ?_⟩) hHeld ?_ ?_
 rotate_left
 {
 rintro w' ⟨s0, s1, s2, s3, s4, s5⟩
 go_simp
 with_reducible rfl}
 rotate_left
 {
 exact sp_}
 refine take_ (i := 3) (N := some 12) (v := ?_) (a' := ?_) (B_ 13 11) rfl rfl (take_ofW HT_.out HW_.out kf_) (fun _ _ _ h => h) (Or.inl ⟨by rfl, ?_⟩) hHeld ?_ ?_
 rotate_left
 {
 rintro w' ⟨s0, s1, s2, s3, s4, s5⟩
 go_simp
 with_reducible rfl}
 rotate_left
 {
 exact sp_}
 refine take_ (i := 5) (N := some 14) (v := ?_) (a' := ?_) (B_ 13 43) rfl rfl (take_ofW HT_.out HW_.out kf_) (fun _ _ _ h => h) (Or.inl ⟨by rfl, ?_⟩) hHeld ?_ ?_
 rotate_left
 {
 rintro w' ⟨s0, s1, s2, s3, s4, s5⟩
 go_simp
 with_reducible rfl}
 rotate_left
 {
 exact sp_}
 refine one_ (i := 2) (N := some 11) (B_ 13 47) rfl rfl (one_of HT_.out kf_) (by decide) (fun K hK => ?_)
 refine goes_ Try.func29 kf_ rfl #[.agg #[.int .i64 a0_0, .int .i64 a0_1, .slice A0_2 l0_2.length c0_2, .slice A0_3 l0_3.length c0_3], .agg #[.slice A1_0 l1_0.length c1_0, .slice A1_1 l1_1.length c1_1]] (by rfl) rfl rfl ar_ ?_
 with_reducible refine (vpack_Right.calls k a0_0 a0_1 _ _ l0_2 _ _ l0_3 _ _ l1_0 _ _ l1_1 t662 _ ?side1 ?side2 ?side3 ?side4 ?side5 ?side6 ?side7 ?side8 A13.out).mono ?_
 (case side1 => exact kC_ HR0_2 HB)
 (case side2 => exact HC0_2.out)
 (case side3 => exact kC_ HR0_3 HB)
 (case side4 => exact HC0_3.out)
 (case side5 => exact kC_ HR1_0 HB)
 (case side6 => exact HC1_0.out)
 (case side7 => exact kC_ HR1_1 HB)
 (case side8 => exact HC1_1.out)
 rintro e w26 ⟨rfl, hb⟩
 refine ⟨_, rfl, ?_⟩
 replace BK658 := FB_ BK658 hb
 replace BK659 := FB_ BK659 hb
 replace HB := BS_ HB hb
 (try clear hb)
 refine hK.out _ _ ⟨ce_ BK658 0, ce_ BK658 1, ce_ BK658 2, ce_ BK658 3, ce_ BK659 0, ce_ BK659 1⟩ (fun hHeld => ?_)
 clear hK K
 refine norm_ (a' := ?_) ?_ ?_
 rotate_left
 {
 show Act.put _ (some 11) _ = _
 exact sp_}
 refine one_ (i := 4) (N := some 13) (B_ 13 63) rfl rfl (one_of HT_.out kf_) (by decide) (fun K hK => ?_)
 refine goes_ Try.func19 kf_ rfl #[.agg #[.int .i64 a0_0, .int .i64 a0_1, .slice A0_2 l0_2.length c0_2, .slice A0_3 l0_3.length c0_3]] (by rfl) rfl rfl ar_ ?_
 with_reducible refine (psalterylaw16_As.calls a0_0 a0_1 _ _ l0_2 _ _ l0_3 t663 t664 _ ?side1 ?side2 ?side3 ?side4 A14.out).mono ?_
 (case side1 => exact kC_ HR0_2 HB)
 (case side2 => exact HC0_2.out)
 (case side3 => exact kC_ HR0_3 HB)
 (case side4 => exact HC0_3.out)
 rintro e w27 ⟨rfl, hb⟩
 refine ⟨_, rfl, ?_⟩
 replace BK658 := FB_ BK658 hb
 replace BK659 := FB_ BK659 hb
 replace HB := BS_ HB hb
 (try clear hb)
 refine hK.out _ _ ⟨ce_ BK658 0, ce_ BK658 1, ce_ BK658 2, ce_ BK658 3, ce_ BK659 0, ce_ BK659 1⟩ (fun hHeld => ?_)
 clear hK K
 refine norm_ (a' := ?_) ?_ ?_
 rotate_left
 {
 show Act.put _ (some 13) _ = _
 exact sp_}
 refine one_ (i := 6) (N := some 15) (B_ 13 127) rfl rfl (one_of HT_.out kf_) (by decide) (fun K hK => ?_)
 refine goes_ Try.func31 kf_ rfl #[.agg #[.slice A1_0 l1_0.length c1_0, .slice A1_1 l1_1.length c1_1]] (by rfl) rfl rfl ar_ ?_
 with_reducible refine (psalterylaw17_As.calls _ _ l1_0 _ _ l1_1  _ ?side1 ?side2 ?side3 ?side4 A15.out).mono ?_
 (case side1 => exact kC_ HR1_0 HB)
 (case side2 => exact HC1_0.out)
 (case side3 => exact kC_ HR1_1 HB)
 (case side4 => exact HC1_1.out)
 rintro e w28 ⟨rfl, hb⟩
 refine ⟨_, rfl, ?_⟩
 replace BK658 := FB_ BK658 hb
 replace BK659 := FB_ BK659 hb
 replace HB := BS_ HB hb
 (try clear hb)
 refine hK.out _ _ ⟨ce_ BK658 0, ce_ BK658 1, ce_ BK658 2, ce_ BK658 3, ce_ BK659 0, ce_ BK659 1⟩ (fun hHeld => ?_)
 clear hK K
 refine norm_ (a' := ?_) ?_ ?_
 rotate_left
 {
 show Act.put _ (some 15) _ = _
 exact sp_}
 refine one_ (i := 7) (N := some 16) (B_ 13 255) rfl rfl (one_of HT_.out kf_) (by decide) (fun K hK => ?_)
 refine goes_ Try.func30 kf_ rfl #[.agg #[.int .i64 t663, .int .i64 t664, .slice A0_2 l0_2.length c0_2, .slice A0_3 l0_3.length c0_3], .agg #[.slice A1_0 l1_0.length c1_0, .slice A1_1 l1_1.length c1_1]] (by rfl) rfl rfl ar_ ?_
 with_reducible refine (psalteryref17_Right.calls k t663 t664 _ _ l0_2 _ _ l0_3 _ _ l1_0 _ _ l1_1 t665 _ ?side1 ?side2 ?side3 ?side4 ?side5 ?side6 ?side7 ?side8 A16.out).mono ?_
 (case side1 => exact kC_ HR0_2 HB)
 (case side2 => exact HC0_2.out)
 (case side3 => exact kC_ HR0_3 HB)
 (case side4 => exact HC0_3.out)
 (case side5 => exact kC_ HR1_0 HB)
 (case side6 => exact HC1_0.out)
 (case side7 => exact kC_ HR1_1 HB)
 (case side8 => exact HC1_1.out)
 rintro e w29 ⟨rfl, hb⟩
 refine ⟨_, rfl, ?_⟩
 replace BK658 := FB_ BK658 hb
 replace BK659 := FB_ BK659 hb
 replace HB := BS_ HB hb
 (try clear hb)
 refine hK.out _ _ ⟨ce_ BK658 0, ce_ BK658 1, ce_ BK658 2, ce_ BK658 3, ce_ BK659 0, ce_ BK659 1⟩ (fun hHeld => ?_)
 clear hK K
 refine norm_ (a' := ?_) ?_ ?_
 rotate_left
 {
 show Act.put _ (some 16) _ = _
 exact sp_}
 refine pu_ 8 (some 17) (B_ 13 511) HT_ ?_
 refine pu_ 9 (some 18) (B_ 13 1023) HT_ ?_
 refine one_ (i := 10) (N := some 19) (B_ 13 2047) rfl rfl (one_of HT_.out kf_) (by decide) (fun K hK => ?_)
 refine goes_ Try.func28 kf_ rfl #[] (by rfl) rfl rfl ar_ ?_
 with_reducible refine (psalterylaw17_knows.calls k  t666 _ A18.out).mono ?_
 rintro e w30 ⟨rfl, hb⟩
 refine ⟨_, rfl, ?_⟩
 replace BK658 := FB_ BK658 hb
 replace BK659 := FB_ BK659 hb
 replace HB := BS_ HB hb
 (try clear hb)
 refine hK.out _ _ ⟨ce_ BK658 0, ce_ BK658 1, ce_ BK658 2, ce_ BK658 3, ce_ BK659 0, ce_ BK659 1⟩ (fun hHeld => ?_)
 clear hK K
 refine norm_ (a' := ?_) ?_ ?_
 rotate_left
 {
 show Act.put _ (some 19) _ = _
 exact sp_}
 refine pu_ 11 (some 20) (B_ 13 4095) HT_ ?_
 refine pu_ 12 (some 4) (B_ 13 8191) HT_ ?_
 refine done_ (done_of HT_.out kf_) ?_
 try go_wp2
 go_ret
 exact ⟨by first | rfl | (simp [errW_none, errW_some] <;> rfl) | (simp [*, errW_none, errW_some] <;> rfl), bl_ HB⟩}
 {
 rw [if_neg c17] at H
 have c17b0 : (t662 == t665) = false := by simpa using c17
 (try (have c17b1 : decide (t662 = t665) = false := by simpa using c17))
 (try (have c17b2 : (t662 == t665) = false := by simpa using c17))
 (try (have c17b3 : ¬ (t662 = t665) := by simpa using c17))
 clear c17
 exact absurd ((Option.some.inj H).trans HT.out) (by decide)}}
def psalterylaw17_BodyRights.Pure : Prop := ∀ (a0_0 : Int) (a0_1 : Int) (l0_2 : List Int) (l0_3 : List Int) (l1_0 : List (List Int)) (l1_1 : List (List Int)), (Lit.int .i64 a0_0).wf = true → (Lit.int .i64 a0_1).wf = true → (l0_2.length ≤ maxLen ∧ ∀ x0_ ∈ l0_2, (Lit.int .i64 x0_).wf = true) → (l0_3.length ≤ maxLen ∧ ∀ x0_ ∈ l0_3, (Lit.int .i64 x0_).wf = true) → (l1_0.length ≤ maxLen ∧ ∀ x0_ ∈ l1_0, (x0_.length ≤ maxLen ∧ ∀ x1_ ∈ x0_, (Lit.int .i64 x1_).wf = true)) → (l1_1.length ≤ maxLen ∧ ∀ x0_ ∈ l1_1, (x0_.length ≤ maxLen ∧ ∀ x1_ ∈ x0_, (Lit.int .i64 x1_).wf = true)) → ∃ k, psalterylaw17_BodyRights.f k a0_0 a0_1 l0_2 l0_3 l1_0 l1_1 = some true
theorem psalterylaw17_BodyRights.walk (P : psalterylaw17_BodyRights.Pure) (a0_0 : Int) (a0_1 : Int) (A0_2 : Option Addr) (c0_2 : Nat) (l0_2 : List Int) (A0_3 : Option Addr) (c0_3 : Nat) (l0_3 : List Int) (A1_0 : Option Addr) (c1_0 : Nat) (l1_0 : List (List Int)) (A1_1 : Option Addr) (c1_1 : Nat) (l1_1 : List (List Int)) (w : World) (hr0_2 : Kd.C (Kd.int .i64) w A0_2 l0_2.length l0_2) (hc0_2 : l0_2.length ≤ c0_2) (hr0_3 : Kd.C (Kd.int .i64) w A0_3 l0_3.length l0_3) (hc0_3 : l0_3.length ≤ c0_3) (hr1_0 : Kd.C (Kd.slice 3 (Kd.int .i64)) w A1_0 l1_0.length l1_0) (hc1_0 : l1_0.length ≤ c1_0) (hr1_1 : Kd.C (Kd.slice 2 (Kd.int .i64)) w A1_1 l1_1.length l1_1) (hc1_1 : l1_1.length ≤ c1_1) (w0_0 : (Lit.int .i64 a0_0).wf = true) (w0_1 : (Lit.int .i64 a0_1).wf = true) (w0_2 : (l0_2.length ≤ maxLen ∧ ∀ x0_ ∈ l0_2, (Lit.int .i64 x0_).wf = true)) (w0_3 : (l0_3.length ≤ maxLen ∧ ∀ x0_ ∈ l0_3, (Lit.int .i64 x0_).wf = true)) (w1_0 : (l1_0.length ≤ maxLen ∧ ∀ x0_ ∈ l1_0, (x0_.length ≤ maxLen ∧ ∀ x1_ ∈ x0_, (Lit.int .i64 x1_).wf = true))) (w1_1 : (l1_1.length ≤ maxLen ∧ ∀ x0_ ∈ l1_1, (x0_.length ≤ maxLen ∧ ∀ x1_ ∈ x0_, (Lit.int .i64 x1_).wf = true))) :
    Calls Try.prog 9 #[.agg #[.int .i64 a0_0, .int .i64 a0_1, .slice A0_2 l0_2.length c0_2, .slice A0_3 l0_3.length c0_3], .agg #[.slice A1_0 l1_0.length c1_0, .slice A1_1 l1_1.length c1_1]] w fun e w' => e = .returned (.bool true) ∧ Below w.heap.size w w' := by
  obtain ⟨k, h⟩ := P a0_0 a0_1 l0_2 l0_3 l1_0 l1_1 w0_0 w0_1 w0_2 w0_3 w1_0 w1_1
  refine (psalterylaw17_BodyRights.calls k a0_0 a0_1 _ _ l0_2 _ _ l0_3 _ _ l1_0 _ _ l1_1 true w hr0_2 hc0_2 hr0_3 hc0_3 hr1_0 hc1_0 hr1_1 hc1_1 h rfl).mono ?_
  rintro e w' ⟨rfl, hd⟩
  exact ⟨rfl, hd⟩

end Go.Proofs.Ytpdfdaoohknfoaa.P
