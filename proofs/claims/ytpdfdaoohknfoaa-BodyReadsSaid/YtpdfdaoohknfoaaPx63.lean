/- Walks. -/
import Derived.Test.YtpdfdaoohknfoaaQ1
import Derived.Test.YtpdfdaoohknfoaaPx62
namespace Go.Proofs.Ytpdfdaoohknfoaa.P
open Go.RowKit Go.Proofs.YtpdfdaoohknfoaaW.PrintWords Go.Proofs.YtpdfdaoohknfoaaW.PrintLast Go.Proofs.YtpdfdaoohknfoaaW.PrintMore
attribute [local go_sem] max2_int min2_int max_two min_two max_three min_three max_four min_four   -- for this text's walks alone
set_option linter.unusedVariables false
set_option linter.unusedSimpArgs false

def psalteryref17_symbol.f (k : Nat) (l0 : List Int) (a1_0 : Int) (a1_1 : Int) (l2 : List Int) : Option (Int × Int × Int) := (psalteryref04_Read.f k l0 a1_0 l2).bind fun bt769 => (some (wrap64 (a1_0 + bt769.2.1), bt769.2.2, bt769.1))
theorem psalteryref17_symbol.mono : ∀ a0 a1 a2 a3 k, LeO (psalteryref17_symbol.f k a0 a1 a2 a3) (psalteryref17_symbol.f (k + 1) a0 a1 a2 a3) := by
  intro a0 a1 a2 a3 k
  unfold psalteryref17_symbol.f
  with_reducible repeat' first
   | exact psalteryref04_Read.mono _ _ _ _
   | exact LeO.refl _
   | exact LeO.none _
   | refine LeO.ite ?_ ?_
   | refine LeO.bind ?_ (fun _ => ?_)
set_option maxHeartbeats 8000000 in
set_option maxRecDepth 100000 in
theorem psalteryref17_symbol.calls (k : Nat) (A0 : Option Addr) (c0 : Nat) (l0 : List Int) (a1_0 : Int) (a1_1 : Int) (A2 : Option Addr) (c2 : Nat) (l2 : List Int) (r1 : Int) (r2 : Int) (r3 : Int) (w : World) (hr0 : Kd.C (Kd.int .u8) w A0 l0.length l0) (hc0 : l0.length ≤ c0) (hr2 : Kd.C (Kd.int .i64) w A2 l2.length l2) (hc2 : l2.length ≤ c2) (h : psalteryref17_symbol.f k l0 a1_0 a1_1 l2 = some (r1, r2, r3)) :
    Calls Try.prog 59 #[.slice A0 l0.length c0, .agg #[.int .i64 a1_0, .int .i64 a1_1], .slice A2 l2.length c2] w fun e w' => e = .returned (.tuple #[.agg #[.int .i64 r1, .int .i64 r2], .int .i64 r3]) ∧ Below w.heap.size w w' := by
 have hu101 := Try.underlying101
 have HR0 := Aside0.mk hr0
 have HC0 := Aside0.mk hc0
 clear hr0 hc0
 have HR2 := Aside0.mk hr2
 have HC2 := Aside0.mk hc2
 clear hr2 hc2
 have HB := Aside0.mk (Below.refl w.heap.size w)
 have H : ((psalteryref04_Read.f k l0 a1_0 l2).bind fun bt769 => (some (wrap64 (a1_0 + bt769.2.1), bt769.2.2, bt769.1))) = some (r1, r2, r3) := h
 clear h
 obtain ⟨⟨t769, t770, t771⟩, A4, H⟩ := ob_ H
 (try dsimp only at H)
 simp only [Option.some.injEq, Prod.mk.injEq] at H
 obtain ⟨rfl, rfl, rfl⟩ := H
 go_enter Try.func59, Try.ntmps59
 go_wp2_with (first | ((with_reducible refine gate_dst (N := 4) rfl ?_); refine bx_ HB 4 #[.int .i64 a1_0, .int .i64 a1_1] 101 ?_; clear HB; intro gb767 hg w5 hb BK767 GE767 HB; have GW767 := GE767; clear hb hg) | ((with_reducible refine gate_dst (N := 6) rfl ?_); refine bx_ HB 6 #[.int .i64 0, .int .i64 0] 101 ?_; clear HB; intro gb768 hg w6 hb BK768 GE768 HB; have GW768 := GE768; obtain ⟨NB767_768, NB768_767⟩ := NN_ BK767 hg; replace BK767 := FB_ BK767 hb; clear hb hg; have hnb7 := NB767_768.out; have hnc7 := NB768_767.out; obtain ⟨hcz8_0, hcz8_1, hfz8_0, hfz8_1⟩ := e2_ BK767) | ((with_reducible refine gate_callee (f := 70) rfl ?_); refine gL_ (some 16) Try.func70 #[.slice A0 l0.length c0, .int .i64 a1_0, .slice A2 l2.length c2] ?_; (with_reducible refine (psalteryref04_Read.calls k _ _ l0 a1_0 _ _ l2 t769 t770 t771 _ ?side1 ?side2 ?side3 ?side4 A4.out).mono ?_); (case side1 => exact kC_ HR0 HB); (case side2 => exact HC0.out); (case side3 => exact kC_ HR2 HB); (case side4 => exact HC2.out); rintro e w9 ⟨rfl, hb⟩; refine ⟨_, rfl, ?_⟩; replace BK767 := FB_ BK767 hb; replace BK768 := FB_ BK768 hb; replace HB := BS_ HB hb; (try clear hb); obtain ⟨hcz10_0, hcz10_1, hfz10_0, hfz10_1⟩ := e2_ BK767; obtain ⟨hcz11_0, hcz11_1, hfz11_0, hfz11_1⟩ := e2_ BK768))
 refine bodyPost_ret (results_ct rfl _ _ gb768 101 #[.int .i64 (wrap64 (a1_0 + t770)), .int .i64 t771] (0, 0) _ rfl (bp_ BK768) Try.underlying101 rfl kf_) rfl ?_
 exact ⟨by first | rfl | (simp [errW_none, errW_some] <;> rfl) | (simp [*, errW_none, errW_some] <;> rfl), bl_ HB⟩
end Go.Proofs.Ytpdfdaoohknfoaa.P
