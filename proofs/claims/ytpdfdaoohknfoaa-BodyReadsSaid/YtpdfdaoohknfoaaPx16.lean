/- Walks. -/
import Derived.Test.YtpdfdaoohknfoaaQ1
namespace Go.Proofs.Ytpdfdaoohknfoaa.P
open Go.RowKit Go.Proofs.YtpdfdaoohknfoaaW.PrintWords Go.Proofs.YtpdfdaoohknfoaaW.PrintLast Go.Proofs.YtpdfdaoohknfoaaW.PrintMore
attribute [local go_sem] max2_int min2_int max_two min_two max_three min_three max_four min_four   -- for this text's walks alone
set_option linter.unusedVariables false
set_option linter.unusedSimpArgs false

def psalterylaw16_As.f (a0_0 : Int) (a0_1 : Int) (l0_2 : List Int) (l0_3 : List Int) : Option (Int × Int) := some (a0_0, a0_1)
set_option maxHeartbeats 8000000 in
set_option maxRecDepth 100000 in
theorem psalterylaw16_As.calls (a0_0 : Int) (a0_1 : Int) (A0_2 : Option Addr) (c0_2 : Nat) (l0_2 : List Int) (A0_3 : Option Addr) (c0_3 : Nat) (l0_3 : List Int) (r1 : Int) (r2 : Int) (w : World) (hr0_2 : Kd.C (Kd.int .i64) w A0_2 l0_2.length l0_2) (hc0_2 : l0_2.length ≤ c0_2) (hr0_3 : Kd.C (Kd.int .i64) w A0_3 l0_3.length l0_3) (hc0_3 : l0_3.length ≤ c0_3) (h : psalterylaw16_As.f a0_0 a0_1 l0_2 l0_3 = some (r1, r2)) :
    Calls Try.prog 19 #[.agg #[.int .i64 a0_0, .int .i64 a0_1, .slice A0_2 l0_2.length c0_2, .slice A0_3 l0_3.length c0_3]] w fun e w' => e = .returned (.agg #[.int .i64 r1, .int .i64 r2, .slice A0_2 l0_2.length c0_2, .slice A0_3 l0_3.length c0_3]) ∧ Below w.heap.size w w' := by
 have hu24 := Try.underlying24
 have hu28 := Try.underlying28
 have HR0_2 := Aside0.mk hr0_2
 have HC0_2 := Aside0.mk hc0_2
 clear hr0_2 hc0_2
 have HR0_3 := Aside0.mk hr0_3
 have HC0_3 := Aside0.mk hc0_3
 clear hr0_3 hc0_3
 have HB := Aside0.mk (Below.refl w.heap.size w)
 have H : (some (a0_0, a0_1)) = some (r1, r2) := h
 clear h
 simp only [Option.some.injEq, Prod.mk.injEq] at H
 obtain ⟨rfl, rfl⟩ := H
 go_enter Try.func19, Try.ntmps19
 go_wp2_with (first | ((with_reducible refine gate_dst (N := 1) rfl ?_); refine bx_ HB 1 #[.int .i64 a0_0, .int .i64 a0_1, .slice A0_2 l0_2.length c0_2, .slice A0_3 l0_3.length c0_3] 24 ?_; clear HB; intro gb163 hg w2 hb BK163 GE163 HB; have GW163 := GE163; clear hb hg) | ((with_reducible refine gate_dst (N := 2) rfl ?_); refine bx_ HB 2 #[.int .i64 0, .int .i64 0, .slice none 0 0, .slice none 0 0] 28 ?_; clear HB; intro gb164 hg w3 hb BK164 GE164 HB; have GW164 := GE164; obtain ⟨NB163_164, NB164_163⟩ := NN_ BK163 hg; replace BK163 := FB_ BK163 hb; clear hb hg; have hnb4 := NB163_164.out; have hnc4 := NB164_163.out; obtain ⟨hcz5_0, hcz5_1, hcz5_2, hcz5_3, hfz5_0, hfz5_1, hfz5_2, hfz5_3⟩ := e4_ BK163; obtain ⟨hcz6_0, hcz6_1, hcz6_2, hcz6_3, hfz6_0, hfz6_1, hfz6_2, hfz6_3⟩ := e4_ BK164))
 refine bodyPost_ret (results_cell_row rfl _ _ gb164 28 #[.int .i64 a0_0, .int .i64 a0_1, .slice A0_2 l0_2.length c0_2, .slice A0_3 l0_3.length c0_3] (0, 0) _ rfl (bp_ BK164) Try.underlying28 rfl kf_) rfl ?_
 exact ⟨by first | rfl | (simp [errW_none, errW_some] <;> rfl) | (simp [*, errW_none, errW_some] <;> rfl), bl_ HB⟩
end Go.Proofs.Ytpdfdaoohknfoaa.P
