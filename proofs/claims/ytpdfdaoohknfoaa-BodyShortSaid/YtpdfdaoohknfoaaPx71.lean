/- Walks. -/
import Derived.Test.YtpdfdaoohknfoaaQ1
import Derived.Test.YtpdfdaoohknfoaaQ2
import Derived.Test.YtpdfdaoohknfoaaQ3
namespace Go.Proofs.Ytpdfdaoohknfoaa.P
open Go.RowKit Go.Proofs.YtpdfdaoohknfoaaW.PrintWords Go.Proofs.YtpdfdaoohknfoaaW.PrintLast Go.Proofs.YtpdfdaoohknfoaaW.PrintMore
attribute [local go_sem] max2_int min2_int max_two min_two max_three min_three max_four min_four   -- for this text's walks alone
set_option linter.unusedVariables false
set_option linter.unusedSimpArgs false

def psalterylaw17_BodyShort.f (k : Nat) (a0_0 : Int) (a0_1 : Int) (l0_2 : List Int) (l0_3 : List Int) (l1_0 : List (List Int)) (l1_1 : List (List Int)) : Option (Bool) := (psalterylaw17_great.f k a0_0 a0_1 l0_2 l0_3 l1_0 l1_1).bind fun t916 => (if t916 = true then ((psalterylaw17_knows.f k).bind fun t917 => (some t917)) else ((vpack_Write.f k a0_0 a0_1 l0_2 l0_3 l1_0 l1_1).bind fun bt918 => (if bt918.2 = 0 then (if (bt918.1.length : Int) ≥ 1 then (if (bt918.1.length : Int) ≤ 400 then ((psalterylaw17_knows.f k).bind fun t922 => (some t922)) else (some false)) else (some false)) else (if (bt918.1.length : Int) = 0 then ((psalterylaw17_knows.f k).bind fun t923 => (some t923)) else (some false)))))
theorem psalterylaw17_BodyShort.mono : ∀ a0 a1 a2 a3 a4 a5 k, LeO (psalterylaw17_BodyShort.f k a0 a1 a2 a3 a4 a5) (psalterylaw17_BodyShort.f (k + 1) a0 a1 a2 a3 a4 a5) := by
  intro a0 a1 a2 a3 a4 a5 k
  unfold psalterylaw17_BodyShort.f
  with_reducible repeat' first
   | exact psalterylaw17_great.mono _ _ _ _ _ _ _
   | exact psalterylaw17_knows.mono _
   | exact vpack_Write.mono _ _ _ _ _ _ _
   | exact LeO.refl _
   | exact LeO.none _
   | refine LeO.ite ?_ ?_
   | refine LeO.bind ?_ (fun _ => ?_)
set_option maxHeartbeats 8000000 in
set_option maxRecDepth 100000 in
theorem psalterylaw17_BodyShort.calls (k : Nat) (a0_0 : Int) (a0_1 : Int) (A0_2 : Option Addr) (c0_2 : Nat) (l0_2 : List Int) (A0_3 : Option Addr) (c0_3 : Nat) (l0_3 : List Int) (A1_0 : Option Addr) (c1_0 : Nat) (l1_0 : List (List Int)) (A1_1 : Option Addr) (c1_1 : Nat) (l1_1 : List (List Int)) (r : Bool) (w : World) (hr0_2 : Kd.C (Kd.int .i64) w A0_2 l0_2.length l0_2) (hc0_2 : l0_2.length ≤ c0_2) (hr0_3 : Kd.C (Kd.int .i64) w A0_3 l0_3.length l0_3) (hc0_3 : l0_3.length ≤ c0_3) (hr1_0 : Kd.C (Kd.slice 3 (Kd.int .i64)) w A1_0 l1_0.length l1_0) (hc1_0 : l1_0.length ≤ c1_0) (hr1_1 : Kd.C (Kd.slice 2 (Kd.int .i64)) w A1_1 l1_1.length l1_1) (hc1_1 : l1_1.length ≤ c1_1) (h : psalterylaw17_BodyShort.f k a0_0 a0_1 l0_2 l0_3 l1_0 l1_1 = some r) (hT : r = true) :
    Calls Try.prog 14 #[.agg #[.int .i64 a0_0, .int .i64 a0_1, .slice A0_2 l0_2.length c0_2, .slice A0_3 l0_3.length c0_3], .agg #[.slice A1_0 l1_0.length c1_0, .slice A1_1 l1_1.length c1_1]] w fun e w' => e = .returned (.bool r) ∧ Below w.heap.size w w' := by
 have hu24 := Try.underlying24
 have hu48 := Try.underlying48
 have HR0_2 := Aside0.mk hr0_2
 have HC0_2 := Aside0.mk hc0_2
 clear hr0_2 hc0_2
 have HR0_3 := Aside0.mk hr0_3
 have HC0_3 := Aside0.mk hc0_3
 clear hr0_3 hc0_3
 have HR1_0 := Aside0.mk hr1_0
 have HC1_0 := Aside0.mk hc1_0
 clear hr1_0 hc1_0
 have HR1_1 := Aside0.mk hr1_1
 have HC1_1 := Aside0.mk hc1_1
 clear hr1_1 hc1_1
 have HB := Aside0.mk (Below.refl w.heap.size w)
 have H : ((psalterylaw17_great.f k a0_0 a0_1 l0_2 l0_3 l1_0 l1_1).bind fun t916 => (if t916 = true then ((psalterylaw17_knows.f k).bind fun t917 => (some t917)) else ((vpack_Write.f k a0_0 a0_1 l0_2 l0_3 l1_0 l1_1).bind fun bt918 => (if bt918.2 = 0 then (if (bt918.1.length : Int) ≥ 1 then (if (bt918.1.length : Int) ≤ 400 then ((psalterylaw17_knows.f k).bind fun t922 => (some t922)) else (some false)) else (some false)) else (if (bt918.1.length : Int) = 0 then ((psalterylaw17_knows.f k).bind fun t923 => (some t923)) else (some false)))))) = some r := h
 clear h
 have HT := Aside0.mk hT
 clear hT
 obtain ⟨t916, A3, H⟩ := ob_ H
 (try dsimp only at H)
 by_cases c4 : t916 = true
 {
 subst c4
 rw [if_pos rfl] at H
 replace H := Option.bind_eq_some_iff.mp H
 obtain ⟨t917, A50, H⟩ := H
 replace H : (some t917) = some r := H
 have A5 := Aside0.mk A50
 clear A50
 obtain rfl := Option.some.inj H
 go_enter Try.func14, Try.ntmps14
 go_wp2_with (first | ((with_reducible refine gate_dst (N := 2) rfl ?_); (try (refine gate_guard (by rfl) ?_; dsimp only)); refine bx_ HB 2 #[.int .i64 a0_0, .int .i64 a0_1, .slice A0_2 l0_2.length c0_2, .slice A0_3 l0_3.length c0_3] 24 ?_; clear HB; intro gb914 hg w6 hb BK914 GE914 HB; have GW914 := GE914; clear hb hg) | ((with_reducible refine gate_dst (N := 3) rfl ?_); (try (refine gate_guard (by rfl) ?_; dsimp only)); refine bx_ HB 3 #[.slice A1_0 l1_0.length c1_0, .slice A1_1 l1_1.length c1_1] 48 ?_; clear HB; intro gb915 hg w7 hb BK915 GE915 HB; have GW915 := GE915; obtain ⟨NB914_915, NB915_914⟩ := NN_ BK914 hg; replace BK914 := FB_ BK914 hb; clear hb hg; have hnb8 := NB914_915.out; have hnc8 := NB915_914.out; obtain ⟨hcz9_0, hcz9_1, hcz9_2, hcz9_3, hfz9_0, hfz9_1, hfz9_2, hfz9_3⟩ := e4_ BK914; obtain ⟨hcz10_0, hcz10_1, hfz10_0, hfz10_1⟩ := e2_ BK915) | ((with_reducible refine gate_callee (f := 27) rfl ?_); refine gL_ (some 9) Try.func27 #[.agg #[.int .i64 a0_0, .int .i64 a0_1, .slice A0_2 l0_2.length c0_2, .slice A0_3 l0_3.length c0_3], .agg #[.slice A1_0 l1_0.length c1_0, .slice A1_1 l1_1.length c1_1]] ?_; (with_reducible refine (psalterylaw17_great.calls k a0_0 a0_1 _ _ l0_2 _ _ l0_3 _ _ l1_0 _ _ l1_1 true _ ?side1 ?side2 ?side3 ?side4 ?side5 ?side6 ?side7 ?side8 A3.out).mono ?_); (case side1 => exact kC_ HR0_2 HB); (case side2 => exact HC0_2.out); (case side3 => exact kC_ HR0_3 HB); (case side4 => exact HC0_3.out); (case side5 => exact kC_ HR1_0 HB); (case side6 => exact HC1_0.out); (case side7 => exact kC_ HR1_1 HB); (case side8 => exact HC1_1.out); rintro e w11 ⟨rfl, hb⟩; refine ⟨_, rfl, ?_⟩; replace BK914 := FB_ BK914 hb; replace BK915 := FB_ BK915 hb; replace HB := BS_ HB hb; (try clear hb)) | ((with_reducible refine gate_callee (f := 28) rfl ?_); refine gL_ (some 10) Try.func28 #[] ?_; (with_reducible refine (psalterylaw17_knows.calls k  t917 _ A5.out).mono ?_); rintro e w12 ⟨rfl, hb⟩; refine ⟨_, rfl, ?_⟩; replace BK914 := FB_ BK914 hb; replace BK915 := FB_ BK915 hb; replace HB := BS_ HB hb; (try clear hb)))
 go_ret
 exact ⟨by first | rfl | (simp [errW_none, errW_some] <;> rfl) | (simp [*, errW_none, errW_some] <;> rfl), bl_ HB⟩}
 {
 replace c4 := Bool.eq_false_iff.mpr c4
 subst c4
 rw [if_neg (show ¬ (false = true) by decide)] at H
 obtain ⟨⟨t918, t921⟩, A13, H⟩ := ob_ H
 (try dsimp only at H)
 by_cases c14 : t921 = 0
 {
 rw [if_pos c14] at H
 have c14b0 : (t921 == 0) = true := beq_iff_eq.mpr c14
 have c14b1 : (t921 != 0) = false := bne_eq_false_iff_eq.mpr c14
 clear c14
 by_cases c15 : (t918.length : Int) ≥ 1
 {
 rw [if_pos c15] at H
 have c15b0 : decide (1 ≤ (t918.length : Int)) = true := decide_eq_true c15
 have c15b1 : decide (1 ≤ t918.length) = true := decide_eq_true (by omega)
 clear c15
 by_cases c16 : (t918.length : Int) ≤ 400
 {
 rw [if_pos c16] at H
 have c16b0 : decide ((t918.length : Int) ≤ 400) = true := decide_eq_true c16
 have c16b1 : decide (t918.length ≤ 400) = true := decide_eq_true (by omega)
 clear c16
 replace H := Option.bind_eq_some_iff.mp H
 obtain ⟨t922, A170, H⟩ := H
 replace H : (some t922) = some r := H
 have A17 := Aside0.mk A170
 clear A170
 obtain rfl := Option.some.inj H
 go_enter Try.func14, Try.ntmps14
 go_wp2_with (first | ((with_reducible refine gate_dst (N := 2) rfl ?_); (try (refine gate_guard (by rfl) ?_; dsimp only)); refine bx_ HB 2 #[.int .i64 a0_0, .int .i64 a0_1, .slice A0_2 l0_2.length c0_2, .slice A0_3 l0_3.length c0_3] 24 ?_; clear HB; intro gb914 hg w18 hb BK914 GE914 HB; have GW914 := GE914; clear hb hg) | ((with_reducible refine gate_dst (N := 3) rfl ?_); (try (refine gate_guard (by rfl) ?_; dsimp only)); refine bx_ HB 3 #[.slice A1_0 l1_0.length c1_0, .slice A1_1 l1_1.length c1_1] 48 ?_; clear HB; intro gb915 hg w19 hb BK915 GE915 HB; have GW915 := GE915; obtain ⟨NB914_915, NB915_914⟩ := NN_ BK914 hg; replace BK914 := FB_ BK914 hb; clear hb hg; have hnb20 := NB914_915.out; have hnc20 := NB915_914.out; obtain ⟨hcz21_0, hcz21_1, hcz21_2, hcz21_3, hfz21_0, hfz21_1, hfz21_2, hfz21_3⟩ := e4_ BK914; obtain ⟨hcz22_0, hcz22_1, hfz22_0, hfz22_1⟩ := e2_ BK915) | ((with_reducible refine gate_callee (f := 27) rfl ?_); refine gL_ (some 9) Try.func27 #[.agg #[.int .i64 a0_0, .int .i64 a0_1, .slice A0_2 l0_2.length c0_2, .slice A0_3 l0_3.length c0_3], .agg #[.slice A1_0 l1_0.length c1_0, .slice A1_1 l1_1.length c1_1]] ?_; (with_reducible refine (psalterylaw17_great.calls k a0_0 a0_1 _ _ l0_2 _ _ l0_3 _ _ l1_0 _ _ l1_1 false _ ?side1 ?side2 ?side3 ?side4 ?side5 ?side6 ?side7 ?side8 A3.out).mono ?_); (case side1 => exact kC_ HR0_2 HB); (case side2 => exact HC0_2.out); (case side3 => exact kC_ HR0_3 HB); (case side4 => exact HC0_3.out); (case side5 => exact kC_ HR1_0 HB); (case side6 => exact HC1_0.out); (case side7 => exact kC_ HR1_1 HB); (case side8 => exact HC1_1.out); rintro e w23 ⟨rfl, hb⟩; refine ⟨_, rfl, ?_⟩; replace BK914 := FB_ BK914 hb; replace BK915 := FB_ BK915 hb; replace HB := BS_ HB hb; (try clear hb); obtain ⟨hcz24_0, hcz24_1, hcz24_2, hcz24_3, hfz24_0, hfz24_1, hfz24_2, hfz24_3⟩ := e4_ BK914; obtain ⟨hcz25_0, hcz25_1, hfz25_0, hfz25_1⟩ := e2_ BK915) | ((with_reducible refine gate_callee (f := 32) rfl ?_); refine gL_ (some 14) Try.func32 #[.agg #[.int .i64 a0_0, .int .i64 a0_1, .slice A0_2 l0_2.length c0_2, .slice A0_3 l0_3.length c0_3], .agg #[.slice A1_0 l1_0.length c1_0, .slice A1_1 l1_1.length c1_1]] ?_; (with_reducible refine (vpack_Write.calls k a0_0 a0_1 _ _ l0_2 _ _ l0_3 _ _ l1_0 _ _ l1_1 t918 t921 _ ?side1 ?side2 ?side3 ?side4 ?side5 ?side6 ?side7 ?side8 A13.out).mono ?_); (case side1 => exact kC_ HR0_2 HB); (case side2 => exact HC0_2.out); (case side3 => exact kC_ HR0_3 HB); (case side4 => exact HC0_3.out); (case side5 => exact kC_ HR1_0 HB); (case side6 => exact HC1_0.out); (case side7 => exact kC_ HR1_1 HB); (case side8 => exact HC1_1.out); rintro e w26 ⟨v919, rfl, ho0, hb⟩; refine ⟨_, rfl, ?_⟩; have HO920 := Aside0.mk (Kd.V_lower (Kd.V_mono (ok' := fun k_ => k_ ≠ gb914 ∧ k_ ≠ gb915) ho0 (fun k_ hk_ => ⟨(Kd.freshB (g := gb914) (o := .cells #[.int .i64 a0_0, .int .i64 a0_1, .slice A0_2 l0_2.length c0_2, .slice A0_3 l0_3.length c0_3] 24 (0, 0)) (bk_ BK914) k_ hk_), (Kd.freshB (g := gb915) (o := .cells #[.slice A1_0 l1_0.length c1_0, .slice A1_1 l1_1.length c1_1] 48 (0, 0)) (bk_ BK915) k_ hk_)⟩)) (bs_ HB)); replace BK914 := FB_ BK914 hb; replace BK915 := FB_ BK915 hb; replace HB := BS_ HB hb; (try clear hb); (try clear ho0); obtain ⟨Ao27, co27, eo27⟩ := Kd.V_slice HO920.out; subst eo27) | (go_at_call 28; (with_reducible refine (psalterylaw17_knows.calls k  t922 _ A17.out).mono ?_); rintro e w28 ⟨rfl, hb⟩; replace HO920 := FV_ HO920 hb; replace BK914 := FB_ BK914 hb; replace BK915 := FB_ BK915 hb; replace HB := BS_ HB hb; (try clear hb)))
 go_ret
 exact ⟨by first | rfl | (simp [errW_none, errW_some] <;> rfl) | (simp [*, errW_none, errW_some] <;> rfl), bl_ HB⟩}
 {
 rw [if_neg c16] at H
 have c16b0 : decide ((t918.length : Int) ≤ 400) = false := decide_eq_false c16
 have c16b1 : decide (t918.length ≤ 400) = false := decide_eq_false (by omega)
 clear c16
 exact absurd ((Option.some.inj H).trans HT.out) (by decide)}}
 {
 rw [if_neg c15] at H
 have c15b0 : decide (1 ≤ (t918.length : Int)) = false := decide_eq_false c15
 have c15b1 : decide (1 ≤ t918.length) = false := decide_eq_false (by omega)
 clear c15
 exact absurd ((Option.some.inj H).trans HT.out) (by decide)}}
 {
 rw [if_neg c14] at H
 have c14b0 : (t921 == 0) = false := beq_eq_false_iff_ne.mpr c14
 have c14b1 : (t921 != 0) = true := bne_iff_ne.mpr c14
 by_cases c29 : (t918.length : Int) = 0
 {
 rw [if_pos c29] at H
 have c29b0 : ((t918.length : Int) == 0) = true := beq_iff_eq.mpr c29
 have c29b1 : ((t918.length : Int) != 0) = false := bne_eq_false_iff_eq.mpr c29
 clear c29
 replace H := Option.bind_eq_some_iff.mp H
 obtain ⟨t923, A300, H⟩ := H
 replace H : (some t923) = some r := H
 have A30 := Aside0.mk A300
 clear A300
 obtain rfl := Option.some.inj H
 go_enter Try.func14, Try.ntmps14
 go_wp2_with (first | ((with_reducible refine gate_dst (N := 2) rfl ?_); (try (refine gate_guard (by rfl) ?_; dsimp only)); refine bx_ HB 2 #[.int .i64 a0_0, .int .i64 a0_1, .slice A0_2 l0_2.length c0_2, .slice A0_3 l0_3.length c0_3] 24 ?_; clear HB; intro gb914 hg w31 hb BK914 GE914 HB; have GW914 := GE914; clear hb hg) | ((with_reducible refine gate_dst (N := 3) rfl ?_); (try (refine gate_guard (by rfl) ?_; dsimp only)); refine bx_ HB 3 #[.slice A1_0 l1_0.length c1_0, .slice A1_1 l1_1.length c1_1] 48 ?_; clear HB; intro gb915 hg w32 hb BK915 GE915 HB; have GW915 := GE915; obtain ⟨NB914_915, NB915_914⟩ := NN_ BK914 hg; replace BK914 := FB_ BK914 hb; clear hb hg; have hnb33 := NB914_915.out; have hnc33 := NB915_914.out; obtain ⟨hcz34_0, hcz34_1, hcz34_2, hcz34_3, hfz34_0, hfz34_1, hfz34_2, hfz34_3⟩ := e4_ BK914; obtain ⟨hcz35_0, hcz35_1, hfz35_0, hfz35_1⟩ := e2_ BK915) | ((with_reducible refine gate_callee (f := 27) rfl ?_); refine gL_ (some 9) Try.func27 #[.agg #[.int .i64 a0_0, .int .i64 a0_1, .slice A0_2 l0_2.length c0_2, .slice A0_3 l0_3.length c0_3], .agg #[.slice A1_0 l1_0.length c1_0, .slice A1_1 l1_1.length c1_1]] ?_; (with_reducible refine (psalterylaw17_great.calls k a0_0 a0_1 _ _ l0_2 _ _ l0_3 _ _ l1_0 _ _ l1_1 false _ ?side1 ?side2 ?side3 ?side4 ?side5 ?side6 ?side7 ?side8 A3.out).mono ?_); (case side1 => exact kC_ HR0_2 HB); (case side2 => exact HC0_2.out); (case side3 => exact kC_ HR0_3 HB); (case side4 => exact HC0_3.out); (case side5 => exact kC_ HR1_0 HB); (case side6 => exact HC1_0.out); (case side7 => exact kC_ HR1_1 HB); (case side8 => exact HC1_1.out); rintro e w36 ⟨rfl, hb⟩; refine ⟨_, rfl, ?_⟩; replace BK914 := FB_ BK914 hb; replace BK915 := FB_ BK915 hb; replace HB := BS_ HB hb; (try clear hb); obtain ⟨hcz37_0, hcz37_1, hcz37_2, hcz37_3, hfz37_0, hfz37_1, hfz37_2, hfz37_3⟩ := e4_ BK914; obtain ⟨hcz38_0, hcz38_1, hfz38_0, hfz38_1⟩ := e2_ BK915) | ((with_reducible refine gate_callee (f := 32) rfl ?_); refine gL_ (some 14) Try.func32 #[.agg #[.int .i64 a0_0, .int .i64 a0_1, .slice A0_2 l0_2.length c0_2, .slice A0_3 l0_3.length c0_3], .agg #[.slice A1_0 l1_0.length c1_0, .slice A1_1 l1_1.length c1_1]] ?_; (with_reducible refine (vpack_Write.calls k a0_0 a0_1 _ _ l0_2 _ _ l0_3 _ _ l1_0 _ _ l1_1 t918 t921 _ ?side1 ?side2 ?side3 ?side4 ?side5 ?side6 ?side7 ?side8 A13.out).mono ?_); (case side1 => exact kC_ HR0_2 HB); (case side2 => exact HC0_2.out); (case side3 => exact kC_ HR0_3 HB); (case side4 => exact HC0_3.out); (case side5 => exact kC_ HR1_0 HB); (case side6 => exact HC1_0.out); (case side7 => exact kC_ HR1_1 HB); (case side8 => exact HC1_1.out); rintro e w39 ⟨v919, rfl, ho0, hb⟩; refine ⟨_, rfl, ?_⟩; have HO920 := Aside0.mk (Kd.V_lower (Kd.V_mono (ok' := fun k_ => k_ ≠ gb914 ∧ k_ ≠ gb915) ho0 (fun k_ hk_ => ⟨(Kd.freshB (g := gb914) (o := .cells #[.int .i64 a0_0, .int .i64 a0_1, .slice A0_2 l0_2.length c0_2, .slice A0_3 l0_3.length c0_3] 24 (0, 0)) (bk_ BK914) k_ hk_), (Kd.freshB (g := gb915) (o := .cells #[.slice A1_0 l1_0.length c1_0, .slice A1_1 l1_1.length c1_1] 48 (0, 0)) (bk_ BK915) k_ hk_)⟩)) (bs_ HB)); replace BK914 := FB_ BK914 hb; replace BK915 := FB_ BK915 hb; replace HB := BS_ HB hb; (try clear hb); (try clear ho0); obtain ⟨Ao40, co40, eo40⟩ := Kd.V_slice HO920.out; subst eo40) | (go_at_call 28; (with_reducible refine (psalterylaw17_knows.calls k  t923 _ A30.out).mono ?_); rintro e w41 ⟨rfl, hb⟩; replace HO920 := FV_ HO920 hb; replace BK914 := FB_ BK914 hb; replace BK915 := FB_ BK915 hb; replace HB := BS_ HB hb; (try clear hb)))
 go_ret
 exact ⟨by first | rfl | (simp [errW_none, errW_some] <;> rfl) | (simp [*, errW_none, errW_some] <;> rfl), bl_ HB⟩}
 {
 rw [if_neg c29] at H
 have c29b0 : ((t918.length : Int) == 0) = false := beq_eq_false_iff_ne.mpr c29
 have c29b1 : ((t918.length : Int) != 0) = true := bne_iff_ne.mpr c29
 have c29b2 : ¬ (t918 = []) := fun h_ => c29 (by rw [h_]; rfl)
 exact absurd ((Option.some.inj H).trans HT.out) (by decide)}}}
def psalterylaw17_BodyShort.Pure : Prop := ∀ (a0_0 : Int) (a0_1 : Int) (l0_2 : List Int) (l0_3 : List Int) (l1_0 : List (List Int)) (l1_1 : List (List Int)), (Lit.int .i64 a0_0).wf = true → (Lit.int .i64 a0_1).wf = true → (l0_2.length ≤ maxLen ∧ ∀ x0_ ∈ l0_2, (Lit.int .i64 x0_).wf = true) → (l0_3.length ≤ maxLen ∧ ∀ x0_ ∈ l0_3, (Lit.int .i64 x0_).wf = true) → (l1_0.length ≤ maxLen ∧ ∀ x0_ ∈ l1_0, (x0_.length ≤ maxLen ∧ ∀ x1_ ∈ x0_, (Lit.int .i64 x1_).wf = true)) → (l1_1.length ≤ maxLen ∧ ∀ x0_ ∈ l1_1, (x0_.length ≤ maxLen ∧ ∀ x1_ ∈ x0_, (Lit.int .i64 x1_).wf = true)) → ∃ k, psalterylaw17_BodyShort.f k a0_0 a0_1 l0_2 l0_3 l1_0 l1_1 = some true
theorem psalterylaw17_BodyShort.walk (P : psalterylaw17_BodyShort.Pure) (a0_0 : Int) (a0_1 : Int) (A0_2 : Option Addr) (c0_2 : Nat) (l0_2 : List Int) (A0_3 : Option Addr) (c0_3 : Nat) (l0_3 : List Int) (A1_0 : Option Addr) (c1_0 : Nat) (l1_0 : List (List Int)) (A1_1 : Option Addr) (c1_1 : Nat) (l1_1 : List (List Int)) (w : World) (hr0_2 : Kd.C (Kd.int .i64) w A0_2 l0_2.length l0_2) (hc0_2 : l0_2.length ≤ c0_2) (hr0_3 : Kd.C (Kd.int .i64) w A0_3 l0_3.length l0_3) (hc0_3 : l0_3.length ≤ c0_3) (hr1_0 : Kd.C (Kd.slice 3 (Kd.int .i64)) w A1_0 l1_0.length l1_0) (hc1_0 : l1_0.length ≤ c1_0) (hr1_1 : Kd.C (Kd.slice 2 (Kd.int .i64)) w A1_1 l1_1.length l1_1) (hc1_1 : l1_1.length ≤ c1_1) (w0_0 : (Lit.int .i64 a0_0).wf = true) (w0_1 : (Lit.int .i64 a0_1).wf = true) (w0_2 : (l0_2.length ≤ maxLen ∧ ∀ x0_ ∈ l0_2, (Lit.int .i64 x0_).wf = true)) (w0_3 : (l0_3.length ≤ maxLen ∧ ∀ x0_ ∈ l0_3, (Lit.int .i64 x0_).wf = true)) (w1_0 : (l1_0.length ≤ maxLen ∧ ∀ x0_ ∈ l1_0, (x0_.length ≤ maxLen ∧ ∀ x1_ ∈ x0_, (Lit.int .i64 x1_).wf = true))) (w1_1 : (l1_1.length ≤ maxLen ∧ ∀ x0_ ∈ l1_1, (x0_.length ≤ maxLen ∧ ∀ x1_ ∈ x0_, (Lit.int .i64 x1_).wf = true))) :
    Calls Try.prog 14 #[.agg #[.int .i64 a0_0, .int .i64 a0_1, .slice A0_2 l0_2.length c0_2, .slice A0_3 l0_3.length c0_3], .agg #[.slice A1_0 l1_0.length c1_0, .slice A1_1 l1_1.length c1_1]] w fun e w' => e = .returned (.bool true) ∧ Below w.heap.size w w' := by
  obtain ⟨k, h⟩ := P a0_0 a0_1 l0_2 l0_3 l1_0 l1_1 w0_0 w0_1 w0_2 w0_3 w1_0 w1_1
  refine (psalterylaw17_BodyShort.calls k a0_0 a0_1 _ _ l0_2 _ _ l0_3 _ _ l1_0 _ _ l1_1 true w hr0_2 hc0_2 hr0_3 hc0_3 hr1_0 hc1_0 hr1_1 hc1_1 h rfl).mono ?_
  rintro e w' ⟨rfl, hd⟩
  exact ⟨rfl, hd⟩

end Go.Proofs.Ytpdfdaoohknfoaa.P
