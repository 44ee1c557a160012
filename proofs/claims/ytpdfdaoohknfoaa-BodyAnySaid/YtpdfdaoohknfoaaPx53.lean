/- Walks. -/
import Derived.Test.YtpdfdaoohknfoaaQ1
namespace Go.Proofs.Ytpdfdaoohknfoaa.P
open Go.RowKit Go.Proofs.YtpdfdaoohknfoaaW.PrintWords Go.Proofs.YtpdfdaoohknfoaaW.PrintLast Go.Proofs.YtpdfdaoohknfoaaW.PrintMore
attribute [local go_sem] max2_int min2_int max_two min_two max_three min_three max_four min_four   -- for this text's walks alone
set_option linter.unusedVariables false
set_option linter.unusedSimpArgs false

def psalterylaw17_As.f (l0_0 : List (List Int)) (l0_1 : List (List Int)) : Option (Unit) := some ()
set_option maxHeartbeats 8000000 in
set_option maxRecDepth 100000 in
theorem psalterylaw17_As.calls (A0_0 : Option Addr) (c0_0 : Nat) (l0_0 : List (List Int)) (A0_1 : Option Addr) (c0_1 : Nat) (l0_1 : List (List Int)) (w : World) (hr0_0 : Kd.C (Kd.slice 3 (Kd.int .i64)) w A0_0 l0_0.length l0_0) (hc0_0 : l0_0.length ≤ c0_0) (hr0_1 : Kd.C (Kd.slice 2 (Kd.int .i64)) w A0_1 l0_1.length l0_1) (hc0_1 : l0_1.length ≤ c0_1) (h : psalterylaw17_As.f l0_0 l0_1 = some ()) :
    Calls Try.prog 31 #[.agg #[.slice A0_0 l0_0.length c0_0, .slice A0_1 l0_1.length c0_1]] w fun e w' => e = .returned (.agg #[.slice A0_0 l0_0.length c0_0, .slice A0_1 l0_1.length c0_1]) ∧ Below w.heap.size w w' := by
 have hu48 := Try.underlying48
 have hu51 := Try.underlying51
 have HR0_0 := Aside0.mk hr0_0
 have HC0_0 := Aside0.mk hc0_0
 clear hr0_0 hc0_0
 have HR0_1 := Aside0.mk hr0_1
 have HC0_1 := Aside0.mk hc0_1
 clear hr0_1 hc0_1
 have HB := Aside0.mk (Below.refl w.heap.size w)
 have H : (some ()) = some () := h
 clear h
 go_enter Try.func31, Try.ntmps31
 go_wp2_with (first | ((with_reducible refine gate_dst (N := 1) rfl ?_); refine bx_ HB 1 #[.slice A0_0 l0_0.length c0_0, .slice A0_1 l0_1.length c0_1] 48 ?_; clear HB; intro gb656 hg w2 hb BK656 GE656 HB; have GW656 := GE656; clear hb hg) | ((with_reducible refine gate_dst (N := 2) rfl ?_); refine bx_ HB 2 #[.slice none 0 0, .slice none 0 0] 51 ?_; clear HB; intro gb657 hg w3 hb BK657 GE657 HB; have GW657 := GE657; obtain ⟨NB656_657, NB657_656⟩ := NN_ BK656 hg; replace BK656 := FB_ BK656 hb; clear hb hg; have hnb4 := NB656_657.out; have hnc4 := NB657_656.out; obtain ⟨hcz5_0, hcz5_1, hfz5_0, hfz5_1⟩ := e2_ BK656; obtain ⟨hcz6_0, hcz6_1, hfz6_0, hfz6_1⟩ := e2_ BK657))
 refine bodyPost_ret (results_cell_row rfl _ _ gb657 51 #[.slice A0_0 l0_0.length c0_0, .slice A0_1 l0_1.length c0_1] (0, 0) _ rfl (bp_ BK657) Try.underlying51 rfl kf_) rfl ?_
 exact ⟨by first | rfl | (simp [errW_none, errW_some] <;> rfl) | (simp [*, errW_none, errW_some] <;> rfl), bl_ HB⟩
end Go.Proofs.Ytpdfdaoohknfoaa.P
