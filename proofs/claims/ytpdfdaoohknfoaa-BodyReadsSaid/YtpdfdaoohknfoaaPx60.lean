/- Walks. -/
import Derived.Test.YtpdfdaoohknfoaaQ1
import Derived.Test.YtpdfdaoohknfoaaPx26
namespace Go.Proofs.Ytpdfdaoohknfoaa.P
open Go.RowKit Go.Proofs.YtpdfdaoohknfoaaW.PrintWords Go.Proofs.YtpdfdaoohknfoaaW.PrintLast Go.Proofs.YtpdfdaoohknfoaaW.PrintMore
attribute [local go_sem] max2_int min2_int max_two min_two max_three min_three max_four min_four   -- for this text's walks alone
set_option linter.unusedVariables false
set_option linter.unusedSimpArgs false

def psalteryref17_some.f (k : Nat) (l0 : List Int) (a1_0 : Int) (a1_1 : Int) (a2 : Int) : Option (Int × Int × Int) := (psalteryref01_Get.f k l0 a1_0 a2).bind fun bt754 => (if bt754.2 = 0 then (some (wrap64 (a1_0 + a2), 0, wrap64 (bt754.1))) else (some (a1_0, bt754.2, 0)))
theorem psalteryref17_some.mono : ∀ a0 a1 a2 a3 k, LeO (psalteryref17_some.f k a0 a1 a2 a3) (psalteryref17_some.f (k + 1) a0 a1 a2 a3) := by
  intro a0 a1 a2 a3 k
  unfold psalteryref17_some.f
  with_reducible repeat' first
   | exact psalteryref01_Get.mono _ _ _ _
   | exact LeO.refl _
   | exact LeO.none _
   | refine LeO.ite ?_ ?_
   | refine LeO.bind ?_ (fun _ => ?_)
set_option maxHeartbeats 8000000 in
set_option maxRecDepth 100000 in
theorem psalteryref17_some.calls (k : Nat) (A0 : Option Addr) (c0 : Nat) (l0 : List Int) (a1_0 : Int) (a1_1 : Int) (a2 : Int) (r1 : Int) (r2 : Int) (r3 : Int) (w : World) (hr0 : Kd.C (Kd.int .u8) w A0 l0.length l0) (hc0 : l0.length ≤ c0) (h : psalteryref17_some.f k l0 a1_0 a1_1 a2 = some (r1, r2, r3)) :
    Calls Try.prog 58 #[.slice A0 l0.length c0, .agg #[.int .i64 a1_0, .int .i64 a1_1], .int .i64 a2] w fun e w' => e = .returned (.tuple #[.agg #[.int .i64 r1, .int .i64 r2], .int .i64 r3]) ∧ Below w.heap.size w w' := by
 have hu101 := Try.underlying101
 have HR0 := Aside0.mk hr0
 have HC0 := Aside0.mk hc0
 clear hr0 hc0
 have HB := Aside0.mk (Below.refl w.heap.size w)
 have H : ((psalteryref01_Get.f k l0 a1_0 a2).bind fun bt754 => (if bt754.2 = 0 then (some (wrap64 (a1_0 + a2), 0, wrap64 (bt754.1))) else (some (a1_0, bt754.2, 0)))) = some (r1, r2, r3) := h
 clear h
 obtain ⟨⟨t754, t755⟩, A4, H⟩ := ob_ H
 (try dsimp only at H)
 by_cases c5 : t755 = 0
 {
 rw [if_pos c5] at H
 have c5b0 : (t755 == 0) = true := beq_iff_eq.mpr c5
 have c5b1 : (t755 != 0) = false := bne_eq_false_iff_eq.mpr c5
 clear c5
 simp only [Option.some.injEq, Prod.mk.injEq] at H
 obtain ⟨rfl, rfl, rfl⟩ := H
 go_enter Try.func58, Try.ntmps58
 go_wp2_with (first | ((with_reducible refine gate_dst (N := 4) rfl ?_); refine bx_ HB 4 #[.int .i64 a1_0, .int .i64 a1_1] 101 ?_; clear HB; intro gb752 hg w6 hb BK752 GE752 HB; have GW752 := GE752; clear hb hg) | ((with_reducible refine gate_dst (N := 6) rfl ?_); refine bx_ HB 6 #[.int .i64 0, .int .i64 0] 101 ?_; clear HB; intro gb753 hg w7 hb BK753 GE753 HB; have GW753 := GE753; obtain ⟨NB752_753, NB753_752⟩ := NN_ BK752 hg; replace BK752 := FB_ BK752 hb; clear hb hg; have hnb8 := NB752_753.out; have hnc8 := NB753_752.out; obtain ⟨hcz9_0, hcz9_1, hfz9_0, hfz9_1⟩ := e2_ BK752) | ((with_reducible refine gate_callee (f := 65) rfl ?_); refine gL_ (some 15) Try.func65 #[.slice A0 l0.length c0, .int .i64 a1_0, .int .i64 a2] ?_; (with_reducible refine (psalteryref01_Get.calls k _ _ l0 a1_0 a2 t754 t755 _ ?side1 ?side2 A4.out).mono ?_); (case side1 => exact kC_ HR0 HB); (case side2 => exact HC0.out); rintro e w10 ⟨rfl, hb⟩; refine ⟨_, rfl, ?_⟩; replace BK752 := FB_ BK752 hb; replace BK753 := FB_ BK753 hb; replace HB := BS_ HB hb; (try clear hb); obtain ⟨hcz11_0, hcz11_1, hfz11_0, hfz11_1⟩ := e2_ BK752; obtain ⟨hcz12_0, hcz12_1, hfz12_0, hfz12_1⟩ := e2_ BK753))
 refine bodyPost_ret (results_ct rfl _ _ gb753 101 #[.int .i64 (wrap64 (a1_0 + a2)), .int .i64 0] (0, 0) _ rfl (bp_ BK753) Try.underlying101 rfl kf_) rfl ?_
 exact ⟨by first | rfl | (simp [errW_none, errW_some] <;> rfl) | (simp [*, errW_none, errW_some] <;> rfl), bl_ HB⟩}
 {
 rw [if_neg c5] at H
 have c5b0 : (t755 == 0) = false := beq_eq_false_iff_ne.mpr c5
 have c5b1 : (t755 != 0) = true := bne_iff_ne.mpr c5
 simp only [Option.some.injEq, Prod.mk.injEq] at H
 obtain ⟨rfl, rfl, rfl⟩ := H
 go_enter Try.func58, Try.ntmps58
 go_wp2_with (first | ((with_reducible refine gate_dst (N := 4) rfl ?_); refine bx_ HB 4 #[.int .i64 a1_0, .int .i64 a1_1] 101 ?_; clear HB; intro gb752 hg w13 hb BK752 GE752 HB; have GW752 := GE752; clear hb hg) | ((with_reducible refine gate_dst (N := 6) rfl ?_); refine bx_ HB 6 #[.int .i64 0, .int .i64 0] 101 ?_; clear HB; intro gb753 hg w14 hb BK753 GE753 HB; have GW753 := GE753; obtain ⟨NB752_753, NB753_752⟩ := NN_ BK752 hg; replace BK752 := FB_ BK752 hb; clear hb hg; have hnb15 := NB752_753.out; have hnc15 := NB753_752.out; obtain ⟨hcz16_0, hcz16_1, hfz16_0, hfz16_1⟩ := e2_ BK752) | ((with_reducible refine gate_callee (f := 65) rfl ?_); refine gL_ (some 15) Try.func65 #[.slice A0 l0.length c0, .int .i64 a1_0, .int .i64 a2] ?_; (with_reducible refine (psalteryref01_Get.calls k _ _ l0 a1_0 a2 t754 t755 _ ?side1 ?side2 A4.out).mono ?_); (case side1 => exact kC_ HR0 HB); (case side2 => exact HC0.out); rintro e w17 ⟨rfl, hb⟩; refine ⟨_, rfl, ?_⟩; replace BK752 := FB_ BK752 hb; replace BK753 := FB_ BK753 hb; replace HB := BS_ HB hb; (try clear hb); obtain ⟨hcz18_0, hcz18_1, hfz18_0, hfz18_1⟩ := e2_ BK752; obtain ⟨hcz19_0, hcz19_1, hfz19_0, hfz19_1⟩ := e2_ BK753))
 refine bodyPost_ret (results_ct rfl _ _ gb753 101 #[.int .i64 a1_0, .int .i64 t755] (0, 0) _ rfl (bp_ BK753) Try.underlying101 rfl kf_) rfl ?_
 exact ⟨by first | rfl | (simp [errW_none, errW_some] <;> rfl) | (simp [*, errW_none, errW_some] <;> rfl), bl_ HB⟩}
end Go.Proofs.Ytpdfdaoohknfoaa.P
