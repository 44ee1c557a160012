/- Walks. -/
import Derived.Test.YtpdfdaoohknfoaaQ1
import Derived.Test.YtpdfdaoohknfoaaQ4
import Derived.Test.YtpdfdaoohknfoaaPx66
namespace Go.Proofs.Ytpdfdaoohknfoaa.P
open Go.RowKit Go.Proofs.YtpdfdaoohknfoaaW.PrintWords Go.Proofs.YtpdfdaoohknfoaaW.PrintLast Go.Proofs.YtpdfdaoohknfoaaW.PrintMore
attribute [local go_sem] max2_int min2_int max_two min_two max_three min_three max_four min_four   -- for this text's walks alone
set_option linter.unusedVariables false
set_option linter.unusedSimpArgs false

mutual
def psalteryref17_Same.j0 : Nat → Bool → List (List Int) → List (List Int) → List (List Int) → List (List Int) → Option (Bool)
  | 0, _, _, _, _, _ => none
  | k + 1, x22, x825000, x825001, x826000, x826001 => if x22 = true then (some false) else (psalteryref17_Same.l0 k 0 x825000 x825001 x826000 x826001)
def psalteryref17_Same.l0 : Nat → Int → List (List Int) → List (List Int) → List (List Int) → List (List Int) → Option (Bool)
  | 0, _, _, _, _, _ => none
  | k + 1, x5, x825000, x825001, x826000, x826001 => if x5 < (x825000.length : Int) then (if 0 ≤ x5 then (if x5 < (x826000.length : Int) then ((psalteryref06_Same.f k (rd_L1 x825000 x5) (rd_L1 x826000 x5)).bind fun t828 => (if t828 = true then (psalteryref17_Same.l0 k (wrap64 (x5 + 1)) x825000 x825001 x826000 x826001) else (some false))) else (none)) else (none)) else (psalteryref17_Same.l1 k 0 x825000 x825001 x826000 x826001)
def psalteryref17_Same.l1 : Nat → Int → List (List Int) → List (List Int) → List (List Int) → List (List Int) → Option (Bool)
  | 0, _, _, _, _, _ => none
  | k + 1, x6, x825000, x825001, x826000, x826001 => if x6 < (x825001.length : Int) then (if 0 ≤ x6 then (if x6 < (x826001.length : Int) then ((psalteryref07_Same.f k (rd_L5 x825001 x6) (rd_L5 x826001 x6)).bind fun t831 => (if t831 = true then (psalteryref17_Same.l1 k (wrap64 (x6 + 1)) x825000 x825001 x826000 x826001) else (some false))) else (none)) else (none)) else (some true)
end
def psalteryref17_Same.f (k : Nat) (l0_0 : List (List Int)) (l0_1 : List (List Int)) (l1_0 : List (List Int)) (l1_1 : List (List Int)) : Option (Bool) := if (l0_0.length : Int) = (l1_0.length : Int) then (psalteryref17_Same.j0 k ((l0_1.length : Int) != (l1_1.length : Int)) l0_0 l0_1 l1_0 l1_1) else (psalteryref17_Same.j0 k true l0_0 l0_1 l1_0 l1_1)
theorem psalteryref17_Same.mono_l : ∀ k, (∀ y0 y1 y2 y3 y4, LeO (psalteryref17_Same.j0 k y0 y1 y2 y3 y4) (psalteryref17_Same.j0 (k + 1) y0 y1 y2 y3 y4)) ∧ (∀ y0 y1 y2 y3 y4, LeO (psalteryref17_Same.l0 k y0 y1 y2 y3 y4) (psalteryref17_Same.l0 (k + 1) y0 y1 y2 y3 y4)) ∧ (∀ y0 y1 y2 y3 y4, LeO (psalteryref17_Same.l1 k y0 y1 y2 y3 y4) (psalteryref17_Same.l1 (k + 1) y0 y1 y2 y3 y4))
  | 0 => ⟨fun _ _ _ _ _ r h => by simp [psalteryref17_Same.j0] at h, fun _ _ _ _ _ r h => by simp [psalteryref17_Same.l0] at h, fun _ _ _ _ _ r h => by simp [psalteryref17_Same.l1] at h⟩
  | k + 1 => by
    obtain ⟨ih0, ih1, ih2⟩ := psalteryref17_Same.mono_l k
    refine ⟨?_, ?_, ?_⟩
    all_goals (intros; first | unfold psalteryref17_Same.j0 | unfold psalteryref17_Same.l0 | unfold psalteryref17_Same.l1)
    all_goals with_reducible repeat' first
     | exact ih0 _ _ _ _ _
     | exact ih1 _ _ _ _ _
     | exact ih2 _ _ _ _ _
     | exact psalteryref06_Same.mono _ _ _
     | exact psalteryref07_Same.mono _ _ _
     | exact LeO.refl _
     | exact LeO.none _
     | refine LeO.ite ?_ ?_
     | refine LeO.bind ?_ (fun _ => ?_)
theorem psalteryref17_Same.mono : ∀ a0 a1 a2 a3 k, LeO (psalteryref17_Same.f k a0 a1 a2 a3) (psalteryref17_Same.f (k + 1) a0 a1 a2 a3) := by
  intro a0 a1 a2 a3 k
  obtain ⟨ih0, ih1, ih2⟩ := psalteryref17_Same.mono_l k
  unfold psalteryref17_Same.f
  with_reducible repeat' first
   | exact ih0 _ _ _ _ _
   | exact ih1 _ _ _ _ _
   | exact ih2 _ _ _ _ _
   | exact psalteryref06_Same.mono _ _ _
   | exact psalteryref07_Same.mono _ _ _
   | exact LeO.refl _
   | exact LeO.none _
   | refine LeO.ite ?_ ?_
   | refine LeO.bind ?_ (fun _ => ?_)
set_option maxHeartbeats 8000000 in
set_option maxRecDepth 100000 in
theorem psalteryref17_Same.calls (k : Nat) (A0_0 : Option Addr) (c0_0 : Nat) (l0_0 : List (List Int)) (A0_1 : Option Addr) (c0_1 : Nat) (l0_1 : List (List Int)) (A1_0 : Option Addr) (c1_0 : Nat) (l1_0 : List (List Int)) (A1_1 : Option Addr) (c1_1 : Nat) (l1_1 : List (List Int)) (r : Bool) (w : World) (hr0_0 : Kd.C (Kd.slice 3 (Kd.int .i64)) w A0_0 l0_0.length l0_0) (hc0_0 : l0_0.length ≤ c0_0) (hr0_1 : Kd.C (Kd.slice 2 (Kd.int .i64)) w A0_1 l0_1.length l0_1) (hc0_1 : l0_1.length ≤ c0_1) (hr1_0 : Kd.C (Kd.slice 3 (Kd.int .i64)) w A1_0 l1_0.length l1_0) (hc1_0 : l1_0.length ≤ c1_0) (hr1_1 : Kd.C (Kd.slice 2 (Kd.int .i64)) w A1_1 l1_1.length l1_1) (hc1_1 : l1_1.length ≤ c1_1) (h : psalteryref17_Same.f k l0_0 l0_1 l1_0 l1_1 = some r) :
    Calls Try.prog 36 #[.agg #[.slice A0_0 l0_0.length c0_0, .slice A0_1 l0_1.length c0_1], .agg #[.slice A1_0 l1_0.length c1_0, .slice A1_1 l1_1.length c1_1]] w fun e w' => e = .returned (.bool r) ∧ Below w.heap.size w w' := by
 have hu51 := Try.underlying51
 have HR0_0 := Aside0.mk hr0_0
 have HC0_0 := Aside0.mk hc0_0
 clear hr0_0 hc0_0
 have HR0_1 := Aside0.mk hr0_1
 have HC0_1 := Aside0.mk hc0_1
 clear hr0_1 hc0_1
 have HR1_0 := Aside0.mk hr1_0
 have HC1_0 := Aside0.mk hc1_0
 clear hr1_0 hc1_0
 have HR1_1 := Aside0.mk hr1_1
 have HC1_1 := Aside0.mk hc1_1
 clear hr1_1 hc1_1
 have HB := Aside0.mk (Below.refl w.heap.size w)
 have H : (if (l0_0.length : Int) = (l1_0.length : Int) then (psalteryref17_Same.j0 k ((l0_1.length : Int) != (l1_1.length : Int)) l0_0 l0_1 l1_0 l1_1) else (psalteryref17_Same.j0 k true l0_0 l0_1 l1_0 l1_1)) = some r := h
 clear h
 have HC3 := Aside0.mk H
 clear H
 go_enter Try.func36, Try.ntmps36
 go_upto_region 1 with (first | ((with_reducible refine gate_dst (N := 2) rfl ?_); (try (refine gate_guard (by rfl) ?_; dsimp only)); refine bx_ HB 2 #[.slice A0_0 l0_0.length c0_0, .slice A0_1 l0_1.length c0_1] 51 ?_; clear HB; intro gb824 hg w4 hb BK824 GE824 HB; have GW824 := GE824; clear hb hg) | ((with_reducible refine gate_dst (N := 3) rfl ?_); (try (refine gate_guard (by rfl) ?_; dsimp only)); refine bx_ HB 3 #[.slice A1_0 l1_0.length c1_0, .slice A1_1 l1_1.length c1_1] 51 ?_; clear HB; intro gb825 hg w5 hb BK825 GE825 HB; have GW825 := GE825; obtain ⟨NB824_825, NB825_824⟩ := NN_ BK824 hg; replace BK824 := FB_ BK824 hb; clear hb hg))
 repeat (go_quiet (first | ((with_reducible refine gate_dst (N := 2) rfl ?_); (try (refine gate_guard (by rfl) ?_; dsimp only)); refine bx_ HB 2 #[.slice A0_0 l0_0.length c0_0, .slice A0_1 l0_1.length c0_1] 51 ?_; clear HB; intro gb824 hg w4 hb BK824 GE824 HB; have GW824 := GE824; clear hb hg) | ((with_reducible refine gate_dst (N := 3) rfl ?_); (try (refine gate_guard (by rfl) ?_; dsimp only)); refine bx_ HB 3 #[.slice A1_0 l1_0.length c1_0, .slice A1_1 l1_1.length c1_1] 51 ?_; clear HB; intro gb825 hg w5 hb BK825 GE825 HB; have GW825 := GE825; obtain ⟨NB824_825, NB825_824⟩ := NN_ BK824 hg; replace BK824 := FB_ BK824 hb; clear hb hg)); go_upto_region 1 with (first | ((with_reducible refine gate_dst (N := 2) rfl ?_); (try (refine gate_guard (by rfl) ?_; dsimp only)); refine bx_ HB 2 #[.slice A0_0 l0_0.length c0_0, .slice A0_1 l0_1.length c0_1] 51 ?_; clear HB; intro gb824 hg w4 hb BK824 GE824 HB; have GW824 := GE824; clear hb hg) | ((with_reducible refine gate_dst (N := 3) rfl ?_); (try (refine gate_guard (by rfl) ?_; dsimp only)); refine bx_ HB 3 #[.slice A1_0 l1_0.length c1_0, .slice A1_1 l1_1.length c1_1] 51 ?_; clear HB; intro gb825 hg w5 hb BK825 GE825 HB; have GW825 := GE825; obtain ⟨NB824_825, NB825_824⟩ := NN_ BK824 hg; replace BK824 := FB_ BK824 hb; clear hb hg)))
 (try simp only [Act.put, List.setIfInBounds_toArray, List.set_cons_zero, List.set_cons_succ])
 go_cut [22] (fun v22 wc => ∃ (kq : Nat) (x22_2 : Bool), v22 = .bool x22_2 ∧ Aside0 (psalteryref17_Same.j0 kq x22_2 l0_0 l0_1 l1_0 l1_1 = some r) ∧ Aside0 (kq ≤ k) ∧ Aside0 (wc.heap[gb824]? = some (.cells #[(.slice A0_0 l0_0.length c0_0), (.slice A0_1 l0_1.length c0_1)] 51 (0, 0))) ∧ Aside0 (wc.heap[gb825]? = some (.cells #[(.slice A1_0 l1_0.length c1_0), (.slice A1_1 l1_1.length c1_1)] 51 (0, 0))) ∧ Aside0 (Below w.heap.size w wc))
 case first => (
 have H := HC3.out
 clear HC3
 by_cases c6 : (l0_0.length : Int) = (l1_0.length : Int)
 {
 rw [if_pos c6] at H
 have c6b0 : ((l0_0.length : Int) == (l1_0.length : Int)) = true := beq_iff_eq.mpr c6
 have c6b1 : ((l0_0.length : Int) != (l1_0.length : Int)) = false := bne_eq_false_iff_eq.mpr c6
 have c6b2 : (l0_0.length == l1_0.length) = true := by first | simpa using c6 | (simp at c6 ⊢; omega)
 clear c6
 (first | rw [c6b0] | (simp only [i64_w, i32_w]; rw [c6b0]) | skip)
 have H' := Aside0.mk H
 clear H
 have hnb7 := NB824_825.out
 have hnc7 := NB825_824.out
 obtain ⟨hcz8_0, hcz8_1, hfz8_0, hfz8_1⟩ := e2_ BK824
 obtain ⟨hcz9_0, hcz9_1, hfz9_0, hfz9_1⟩ := e2_ BK825
 go_wp2
 repeat (go_quiet (fail); try go_wp2)
 go_meet
 case rel => exact ⟨_, (((l0_1.length : Int) != (l1_1.length : Int))), rs_, H', ⟨ol_⟩, ⟨bk_ BK824⟩, ⟨bk_ BK825⟩, ⟨bl_ HB⟩⟩}
 {
 rw [if_neg c6] at H
 have c6b0 : ((l0_0.length : Int) == (l1_0.length : Int)) = false := beq_eq_false_iff_ne.mpr c6
 have c6b1 : ((l0_0.length : Int) != (l1_0.length : Int)) = true := bne_iff_ne.mpr c6
 have c6b2 : (l0_0.length == l1_0.length) = false := by first | simpa using c6 | (simp at c6 ⊢; omega)
 (first | rw [c6b0] | (simp only [i64_w, i32_w]; rw [c6b0]) | skip)
 have H' := Aside0.mk H
 clear H
 have hnb10 := NB824_825.out
 have hnc10 := NB825_824.out
 obtain ⟨hcz11_0, hcz11_1, hfz11_0, hfz11_1⟩ := e2_ BK824
 obtain ⟨hcz12_0, hcz12_1, hfz12_0, hfz12_1⟩ := e2_ BK825
 go_wp2
 repeat (go_quiet (fail); try go_wp2)
 go_meet
 case rel => exact ⟨_, (true), rs_, H', ⟨ol_⟩, ⟨bk_ BK824⟩, ⟨bk_ BK825⟩, ⟨bl_ HB⟩⟩})
 case rest => (
 clear HC3
 obtain ⟨kq, x22_2, rfl, HA, HJ2, BK824, BK825, HB⟩ := hcut
 cases kq with
 | zero => exact absurd HA.out (by simp [psalteryref17_Same.j0])
 | succ kj2 => (
 have H := HA.out
 clear HA
 simp only [psalteryref17_Same.j0] at H
 by_cases c13 : x22_2 = true
 {
 subst c13
 rw [if_pos rfl] at H
 obtain rfl := Option.some.inj H
 go_wp2
 repeat (go_quiet (fail); try go_wp2)
 go_ret
 exact ⟨by first | rfl | (simp [errW_none, errW_some] <;> rfl) | (simp [*, errW_none, errW_some] <;> rfl), bl_ HB⟩}
 {
 replace c13 := Bool.eq_false_iff.mpr c13
 subst c13
 rw [if_neg (show ¬ (false = true) by decide)] at H
 have H' := Aside0.mk H
 clear H
 go_wp2
 repeat (go_quiet (fail); try go_wp2)
 go_loopg [5] kj2 (fun kq v5 w' => ∃ (x5_2 : Int), v5 = .int .i64 x5_2 ∧ Aside0 (psalteryref17_Same.l0 kq x5_2 l0_0 l0_1 l1_0 l1_1 = some r) ∧ Aside0 (kq ≤ kj2) ∧ Aside0 (w'.heap[gb824]? = some (.cells #[(.slice A0_0 l0_0.length c0_0), (.slice A0_1 l0_1.length c0_1)] 51 (0, 0))) ∧ Aside0 (w'.heap[gb825]? = some (.cells #[(.slice A1_0 l1_0.length c1_0), (.slice A1_1 l1_1.length c1_1)] 51 (0, 0))) ∧ Aside0 (Below w.heap.size w w'))
 case atStart => exact ⟨(0), rs_, H', ⟨Nat.le_refl _⟩, ⟨bk_ BK824⟩, ⟨bk_ BK825⟩, ⟨bl_ HB⟩⟩
 case round => (
 clear H'
 try clear c13
 obtain ⟨x5_2, rfl, HA, HK2, BK824, BK825, HB⟩ := hrel
 cases gk with
 | zero => exact absurd HA.out (by simp [psalteryref17_Same.l0])
 | succ k2 => (
 have H := HA.out
 clear HA
 simp only [psalteryref17_Same.l0] at H
 by_cases c14 : x5_2 < (l0_0.length : Int)
 {
 rw [if_pos c14] at H
 have c14b0 : decide (x5_2 < (l0_0.length : Int)) = true := decide_eq_true c14
 clear c14
 by_cases c15 : 0 ≤ x5_2
 {
 rw [if_pos c15] at H
 have c15b0 : decide (0 ≤ x5_2) = true := decide_eq_true c15
 clear c15
 by_cases c16 : x5_2 < (l1_0.length : Int)
 {
 rw [if_pos c16] at H
 have c16b0 : decide (x5_2 < (l1_0.length : Int)) = true := decide_eq_true c16
 clear c16
 obtain ⟨t828, A17, H⟩ := ob_ H
 (try dsimp only at H)
 by_cases c18 : t828 = true
 {
 subst c18
 rw [if_pos rfl] at H
 have H' := Aside0.mk H
 clear H
 have hnb19 := NB824_825.out
 have hnc19 := NB825_824.out
 obtain ⟨hcz20_0, hcz20_1, hfz20_0, hfz20_1⟩ := e2_ BK824
 have p826 : 0 ≤ (x5_2 : Int) := of_decide_eq_true am_
 have q826 : x5_2 < (l0_0.length : Int) := of_decide_eq_true am_
 obtain ⟨ad826, A826_0, c826_0, e826, hx826_0, hl826_0, hi826_0⟩ := at_L1 HR0_0.out x5_2 p826 q826
 cases e826
 replace hx826_0 := (HB.out.cell (World.block_lt_of_cell? w _ hx826_0)).trans hx826_0
 have HR826_0 := Aside0.mk hi826_0
 have HC826_0 := Aside0.mk hl826_0
 clear hi826_0 hl826_0
 replace p826 := eq_true p826
 replace q826 := eq_true q826
 obtain ⟨hcz21_0, hcz21_1, hfz21_0, hfz21_1⟩ := e2_ BK825
 have p827 : 0 ≤ (x5_2 : Int) := of_decide_eq_true am_
 have q827 : x5_2 < (l1_0.length : Int) := of_decide_eq_true am_
 obtain ⟨ad827, A827_0, c827_0, e827, hx827_0, hl827_0, hi827_0⟩ := at_L1 HR1_0.out x5_2 p827 q827
 cases e827
 replace hx827_0 := (HB.out.cell (World.block_lt_of_cell? w _ hx827_0)).trans hx827_0
 have HR827_0 := Aside0.mk hi827_0
 have HC827_0 := Aside0.mk hl827_0
 clear hi827_0 hl827_0
 replace p827 := eq_true p827
 replace q827 := eq_true q827
 go_wp2_with (first | (go_at_call 39; (with_reducible refine (psalteryref06_Same.calls k2 _ _ (rd_L1 l0_0 x5_2) _ _ (rd_L1 l1_0 x5_2) true _ ?side1 ?side2 ?side3 ?side4 A17.out).mono ?_); (case side1 => exact kC_ HR826_0 HB); (case side2 => exact HC826_0.out); (case side3 => exact kC_ HR827_0 HB); (case side4 => exact HC827_0.out); rintro e w' ⟨rfl, ⟨nd, rfl⟩⟩; (try first | exact ⟨rfl, _, World.drewN_drewN _ _ _⟩ | exact ⟨rfl, _, Eq.trans (World.drewN_drewN _ _ _) (congrArg (World.drewN _) (Nat.add_assoc _ _ _))⟩)))
 repeat (go_quiet (first | (go_at_call 39; (with_reducible refine (psalteryref06_Same.calls k2 _ _ (rd_L1 l0_0 x5_2) _ _ (rd_L1 l1_0 x5_2) true _ ?side1 ?side2 ?side3 ?side4 A17.out).mono ?_); (case side1 => exact kC_ HR826_0 HB); (case side2 => exact HC826_0.out); (case side3 => exact kC_ HR827_0 HB); (case side4 => exact HC827_0.out); rintro e w' ⟨rfl, ⟨nd, rfl⟩⟩; (try first | exact ⟨rfl, _, World.drewN_drewN _ _ _⟩ | exact ⟨rfl, _, Eq.trans (World.drewN_drewN _ _ _) (congrArg (World.drewN _) (Nat.add_assoc _ _ _))⟩))); try go_wp2_with (first | (go_at_call 39; (with_reducible refine (psalteryref06_Same.calls k2 _ _ (rd_L1 l0_0 x5_2) _ _ (rd_L1 l1_0 x5_2) true _ ?side1 ?side2 ?side3 ?side4 A17.out).mono ?_); (case side1 => exact kC_ HR826_0 HB); (case side2 => exact HC826_0.out); (case side3 => exact kC_ HR827_0 HB); (case side4 => exact HC827_0.out); rintro e w' ⟨rfl, ⟨nd, rfl⟩⟩; (try first | exact ⟨rfl, _, World.drewN_drewN _ _ _⟩ | exact ⟨rfl, _, Eq.trans (World.drewN_drewN _ _ _) (congrArg (World.drewN _) (Nat.add_assoc _ _ _))⟩))))
 go_roundg k2
 case measure => have := HJ2.out; have := HK2.out; omega
 case rel => exact ⟨(wrap64 (x5_2 + 1)), rs_, H', ⟨by have := HJ2.out; have := HK2.out; omega⟩, ⟨bk_ BK824⟩, ⟨bk_ BK825⟩, ⟨bl_ HB⟩⟩}
 {
 replace c18 := Bool.eq_false_iff.mpr c18
 subst c18
 rw [if_neg (show ¬ (false = true) by decide)] at H
 obtain rfl := Option.some.inj H
 have hnb22 := NB824_825.out
 have hnc22 := NB825_824.out
 obtain ⟨hcz23_0, hcz23_1, hfz23_0, hfz23_1⟩ := e2_ BK824
 have p826 : 0 ≤ (x5_2 : Int) := of_decide_eq_true am_
 have q826 : x5_2 < (l0_0.length : Int) := of_decide_eq_true am_
 obtain ⟨ad826, A826_0, c826_0, e826, hx826_0, hl826_0, hi826_0⟩ := at_L1 HR0_0.out x5_2 p826 q826
 cases e826
 replace hx826_0 := (HB.out.cell (World.block_lt_of_cell? w _ hx826_0)).trans hx826_0
 have HR826_0 := Aside0.mk hi826_0
 have HC826_0 := Aside0.mk hl826_0
 clear hi826_0 hl826_0
 replace p826 := eq_true p826
 replace q826 := eq_true q826
 obtain ⟨hcz24_0, hcz24_1, hfz24_0, hfz24_1⟩ := e2_ BK825
 have p827 : 0 ≤ (x5_2 : Int) := of_decide_eq_true am_
 have q827 : x5_2 < (l1_0.length : Int) := of_decide_eq_true am_
 obtain ⟨ad827, A827_0, c827_0, e827, hx827_0, hl827_0, hi827_0⟩ := at_L1 HR1_0.out x5_2 p827 q827
 cases e827
 replace hx827_0 := (HB.out.cell (World.block_lt_of_cell? w _ hx827_0)).trans hx827_0
 have HR827_0 := Aside0.mk hi827_0
 have HC827_0 := Aside0.mk hl827_0
 clear hi827_0 hl827_0
 replace p827 := eq_true p827
 replace q827 := eq_true q827
 go_wp2_with (first | (go_at_call 39; (with_reducible refine (psalteryref06_Same.calls k2 _ _ (rd_L1 l0_0 x5_2) _ _ (rd_L1 l1_0 x5_2) false _ ?side1 ?side2 ?side3 ?side4 A17.out).mono ?_); (case side1 => exact kC_ HR826_0 HB); (case side2 => exact HC826_0.out); (case side3 => exact kC_ HR827_0 HB); (case side4 => exact HC827_0.out); rintro e w' ⟨rfl, ⟨nd, rfl⟩⟩; (try first | exact ⟨rfl, _, World.drewN_drewN _ _ _⟩ | exact ⟨rfl, _, Eq.trans (World.drewN_drewN _ _ _) (congrArg (World.drewN _) (Nat.add_assoc _ _ _))⟩)))
 repeat (go_quiet (first | (go_at_call 39; (with_reducible refine (psalteryref06_Same.calls k2 _ _ (rd_L1 l0_0 x5_2) _ _ (rd_L1 l1_0 x5_2) false _ ?side1 ?side2 ?side3 ?side4 A17.out).mono ?_); (case side1 => exact kC_ HR826_0 HB); (case side2 => exact HC826_0.out); (case side3 => exact kC_ HR827_0 HB); (case side4 => exact HC827_0.out); rintro e w' ⟨rfl, ⟨nd, rfl⟩⟩; (try first | exact ⟨rfl, _, World.drewN_drewN _ _ _⟩ | exact ⟨rfl, _, Eq.trans (World.drewN_drewN _ _ _) (congrArg (World.drewN _) (Nat.add_assoc _ _ _))⟩))); try go_wp2_with (first | (go_at_call 39; (with_reducible refine (psalteryref06_Same.calls k2 _ _ (rd_L1 l0_0 x5_2) _ _ (rd_L1 l1_0 x5_2) false _ ?side1 ?side2 ?side3 ?side4 A17.out).mono ?_); (case side1 => exact kC_ HR826_0 HB); (case side2 => exact HC826_0.out); (case side3 => exact kC_ HR827_0 HB); (case side4 => exact HC827_0.out); rintro e w' ⟨rfl, ⟨nd, rfl⟩⟩; (try first | exact ⟨rfl, _, World.drewN_drewN _ _ _⟩ | exact ⟨rfl, _, Eq.trans (World.drewN_drewN _ _ _) (congrArg (World.drewN _) (Nat.add_assoc _ _ _))⟩))))
 go_ret
 exact ⟨by first | rfl | (simp [errW_none, errW_some] <;> rfl) | (simp [*, errW_none, errW_some] <;> rfl), bl_ HB⟩}}
 {
 rw [if_neg c16] at H
 exact absurd H (by simp)}}
 {
 rw [if_neg c15] at H
 exact absurd H (by simp)}}
 {
 rw [if_neg c14] at H
 have c14b0 : decide (x5_2 < (l0_0.length : Int)) = false := decide_eq_false c14
 clear c14
 have H' := Aside0.mk H
 clear H
 have hnb25 := NB824_825.out
 have hnc25 := NB825_824.out
 obtain ⟨hcz26_0, hcz26_1, hfz26_0, hfz26_1⟩ := e2_ BK824
 go_wp2
 repeat (go_quiet (fail); try go_wp2)
 go_loopg [6] k2 (fun kq v6 w' => ∃ (x6_3 : Int), v6 = .int .i64 x6_3 ∧ Aside0 (psalteryref17_Same.l1 kq x6_3 l0_0 l0_1 l1_0 l1_1 = some r) ∧ Aside0 (kq ≤ k2) ∧ Aside0 (w'.heap[gb824]? = some (.cells #[(.slice A0_0 l0_0.length c0_0), (.slice A0_1 l0_1.length c0_1)] 51 (0, 0))) ∧ Aside0 (w'.heap[gb825]? = some (.cells #[(.slice A1_0 l1_0.length c1_0), (.slice A1_1 l1_1.length c1_1)] 51 (0, 0))) ∧ Aside0 (Below w.heap.size w w'))
 case atStart => exact ⟨(0), rs_, H', ⟨Nat.le_refl _⟩, ⟨bk_ BK824⟩, ⟨bk_ BK825⟩, ⟨bl_ HB⟩⟩
 case round => (
 clear H'
 try clear c13
 try clear c14
 try clear c14b0
 try clear hcz26_0
 try clear hcz26_1
 try clear hfz26_0
 try clear hfz26_1
 obtain ⟨x6_3, rfl, HA, HK3, BK824, BK825, HB⟩ := hrel
 cases gk with
 | zero => exact absurd HA.out (by simp [psalteryref17_Same.l1])
 | succ k3 => (
 have H := HA.out
 clear HA
 simp only [psalteryref17_Same.l1] at H
 by_cases c27 : x6_3 < (l0_1.length : Int)
 {
 rw [if_pos c27] at H
 have c27b0 : decide (x6_3 < (l0_1.length : Int)) = true := decide_eq_true c27
 clear c27
 by_cases c28 : 0 ≤ x6_3
 {
 rw [if_pos c28] at H
 have c28b0 : decide (0 ≤ x6_3) = true := decide_eq_true c28
 clear c28
 by_cases c29 : x6_3 < (l1_1.length : Int)
 {
 rw [if_pos c29] at H
 have c29b0 : decide (x6_3 < (l1_1.length : Int)) = true := decide_eq_true c29
 clear c29
 obtain ⟨t831, A30, H⟩ := ob_ H
 (try dsimp only at H)
 by_cases c31 : t831 = true
 {
 subst c31
 rw [if_pos rfl] at H
 have H' := Aside0.mk H
 clear H
 have hnb32 := NB824_825.out
 have hnc32 := NB825_824.out
 obtain ⟨hcz33_0, hcz33_1, hfz33_0, hfz33_1⟩ := e2_ BK824
 have p829 : 0 ≤ (x6_3 : Int) := of_decide_eq_true am_
 have q829 : x6_3 < (l0_1.length : Int) := of_decide_eq_true am_
 obtain ⟨ad829, A829_0, c829_0, e829, hx829_0, hl829_0, hi829_0⟩ := at_L5 HR0_1.out x6_3 p829 q829
 cases e829
 replace hx829_0 := (HB.out.cell (World.block_lt_of_cell? w _ hx829_0)).trans hx829_0
 have HR829_0 := Aside0.mk hi829_0
 have HC829_0 := Aside0.mk hl829_0
 clear hi829_0 hl829_0
 replace p829 := eq_true p829
 replace q829 := eq_true q829
 obtain ⟨hcz34_0, hcz34_1, hfz34_0, hfz34_1⟩ := e2_ BK825
 have p830 : 0 ≤ (x6_3 : Int) := of_decide_eq_true am_
 have q830 : x6_3 < (l1_1.length : Int) := of_decide_eq_true am_
 obtain ⟨ad830, A830_0, c830_0, e830, hx830_0, hl830_0, hi830_0⟩ := at_L5 HR1_1.out x6_3 p830 q830
 cases e830
 replace hx830_0 := (HB.out.cell (World.block_lt_of_cell? w _ hx830_0)).trans hx830_0
 have HR830_0 := Aside0.mk hi830_0
 have HC830_0 := Aside0.mk hl830_0
 clear hi830_0 hl830_0
 replace p830 := eq_true p830
 replace q830 := eq_true q830
 go_wp2_with (first | (go_at_call 62; (with_reducible refine (psalteryref07_Same.calls k3 _ _ (rd_L5 l0_1 x6_3) _ _ (rd_L5 l1_1 x6_3) true _ ?side1 ?side2 ?side3 ?side4 A30.out).mono ?_); (case side1 => exact kC_ HR829_0 HB); (case side2 => exact HC829_0.out); (case side3 => exact kC_ HR830_0 HB); (case side4 => exact HC830_0.out); rintro e w' ⟨rfl, ⟨nd, rfl⟩⟩; (try first | exact ⟨rfl, _, World.drewN_drewN _ _ _⟩ | exact ⟨rfl, _, Eq.trans (World.drewN_drewN _ _ _) (congrArg (World.drewN _) (Nat.add_assoc _ _ _))⟩)))
 repeat (go_quiet (first | (go_at_call 62; (with_reducible refine (psalteryref07_Same.calls k3 _ _ (rd_L5 l0_1 x6_3) _ _ (rd_L5 l1_1 x6_3) true _ ?side1 ?side2 ?side3 ?side4 A30.out).mono ?_); (case side1 => exact kC_ HR829_0 HB); (case side2 => exact HC829_0.out); (case side3 => exact kC_ HR830_0 HB); (case side4 => exact HC830_0.out); rintro e w' ⟨rfl, ⟨nd, rfl⟩⟩; (try first | exact ⟨rfl, _, World.drewN_drewN _ _ _⟩ | exact ⟨rfl, _, Eq.trans (World.drewN_drewN _ _ _) (congrArg (World.drewN _) (Nat.add_assoc _ _ _))⟩))); try go_wp2_with (first | (go_at_call 62; (with_reducible refine (psalteryref07_Same.calls k3 _ _ (rd_L5 l0_1 x6_3) _ _ (rd_L5 l1_1 x6_3) true _ ?side1 ?side2 ?side3 ?side4 A30.out).mono ?_); (case side1 => exact kC_ HR829_0 HB); (case side2 => exact HC829_0.out); (case side3 => exact kC_ HR830_0 HB); (case side4 => exact HC830_0.out); rintro e w' ⟨rfl, ⟨nd, rfl⟩⟩; (try first | exact ⟨rfl, _, World.drewN_drewN _ _ _⟩ | exact ⟨rfl, _, Eq.trans (World.drewN_drewN _ _ _) (congrArg (World.drewN _) (Nat.add_assoc _ _ _))⟩))))
 go_roundg k3
 case measure => have := HJ2.out; have := HK2.out; have := HK3.out; omega
 case rel => exact ⟨(wrap64 (x6_3 + 1)), rs_, H', ⟨by have := HJ2.out; have := HK2.out; have := HK3.out; omega⟩, ⟨bk_ BK824⟩, ⟨bk_ BK825⟩, ⟨bl_ HB⟩⟩}
 {
 replace c31 := Bool.eq_false_iff.mpr c31
 subst c31
 rw [if_neg (show ¬ (false = true) by decide)] at H
 obtain rfl := Option.some.inj H
 have hnb35 := NB824_825.out
 have hnc35 := NB825_824.out
 obtain ⟨hcz36_0, hcz36_1, hfz36_0, hfz36_1⟩ := e2_ BK824
 have p829 : 0 ≤ (x6_3 : Int) := of_decide_eq_true am_
 have q829 : x6_3 < (l0_1.length : Int) := of_decide_eq_true am_
 obtain ⟨ad829, A829_0, c829_0, e829, hx829_0, hl829_0, hi829_0⟩ := at_L5 HR0_1.out x6_3 p829 q829
 cases e829
 replace hx829_0 := (HB.out.cell (World.block_lt_of_cell? w _ hx829_0)).trans hx829_0
 have HR829_0 := Aside0.mk hi829_0
 have HC829_0 := Aside0.mk hl829_0
 clear hi829_0 hl829_0
 replace p829 := eq_true p829
 replace q829 := eq_true q829
 obtain ⟨hcz37_0, hcz37_1, hfz37_0, hfz37_1⟩ := e2_ BK825
 have p830 : 0 ≤ (x6_3 : Int) := of_decide_eq_true am_
 have q830 : x6_3 < (l1_1.length : Int) := of_decide_eq_true am_
 obtain ⟨ad830, A830_0, c830_0, e830, hx830_0, hl830_0, hi830_0⟩ := at_L5 HR1_1.out x6_3 p830 q830
 cases e830
 replace hx830_0 := (HB.out.cell (World.block_lt_of_cell? w _ hx830_0)).trans hx830_0
 have HR830_0 := Aside0.mk hi830_0
 have HC830_0 := Aside0.mk hl830_0
 clear hi830_0 hl830_0
 replace p830 := eq_true p830
 replace q830 := eq_true q830
 go_wp2_with (first | (go_at_call 62; (with_reducible refine (psalteryref07_Same.calls k3 _ _ (rd_L5 l0_1 x6_3) _ _ (rd_L5 l1_1 x6_3) false _ ?side1 ?side2 ?side3 ?side4 A30.out).mono ?_); (case side1 => exact kC_ HR829_0 HB); (case side2 => exact HC829_0.out); (case side3 => exact kC_ HR830_0 HB); (case side4 => exact HC830_0.out); rintro e w' ⟨rfl, ⟨nd, rfl⟩⟩; (try first | exact ⟨rfl, _, World.drewN_drewN _ _ _⟩ | exact ⟨rfl, _, Eq.trans (World.drewN_drewN _ _ _) (congrArg (World.drewN _) (Nat.add_assoc _ _ _))⟩)))
 repeat (go_quiet (first | (go_at_call 62; (with_reducible refine (psalteryref07_Same.calls k3 _ _ (rd_L5 l0_1 x6_3) _ _ (rd_L5 l1_1 x6_3) false _ ?side1 ?side2 ?side3 ?side4 A30.out).mono ?_); (case side1 => exact kC_ HR829_0 HB); (case side2 => exact HC829_0.out); (case side3 => exact kC_ HR830_0 HB); (case side4 => exact HC830_0.out); rintro e w' ⟨rfl, ⟨nd, rfl⟩⟩; (try first | exact ⟨rfl, _, World.drewN_drewN _ _ _⟩ | exact ⟨rfl, _, Eq.trans (World.drewN_drewN _ _ _) (congrArg (World.drewN _) (Nat.add_assoc _ _ _))⟩))); try go_wp2_with (first | (go_at_call 62; (with_reducible refine (psalteryref07_Same.calls k3 _ _ (rd_L5 l0_1 x6_3) _ _ (rd_L5 l1_1 x6_3) false _ ?side1 ?side2 ?side3 ?side4 A30.out).mono ?_); (case side1 => exact kC_ HR829_0 HB); (case side2 => exact HC829_0.out); (case side3 => exact kC_ HR830_0 HB); (case side4 => exact HC830_0.out); rintro e w' ⟨rfl, ⟨nd, rfl⟩⟩; (try first | exact ⟨rfl, _, World.drewN_drewN _ _ _⟩ | exact ⟨rfl, _, Eq.trans (World.drewN_drewN _ _ _) (congrArg (World.drewN _) (Nat.add_assoc _ _ _))⟩))))
 go_ret
 exact ⟨by first | rfl | (simp [errW_none, errW_some] <;> rfl) | (simp [*, errW_none, errW_some] <;> rfl), bl_ HB⟩}}
 {
 rw [if_neg c29] at H
 exact absurd H (by simp)}}
 {
 rw [if_neg c28] at H
 exact absurd H (by simp)}}
 {
 rw [if_neg c27] at H
 have c27b0 : decide (x6_3 < (l0_1.length : Int)) = false := decide_eq_false c27
 clear c27
 obtain rfl := Option.some.inj H
 have hnb38 := NB824_825.out
 have hnc38 := NB825_824.out
 obtain ⟨hcz39_0, hcz39_1, hfz39_0, hfz39_1⟩ := e2_ BK824
 go_wp2
 repeat (go_quiet (fail); try go_wp2)
 go_ret
 exact ⟨by first | rfl | (simp [errW_none, errW_some] <;> rfl) | (simp [*, errW_none, errW_some] <;> rfl), bl_ HB⟩}))}))}))
end Go.Proofs.Ytpdfdaoohknfoaa.P
