/- Walks. -/
import Derived.Test.YtpdfdaoohknfoaaQ1
import Derived.Test.YtpdfdaoohknfoaaQ4
import Derived.Test.YtpdfdaoohknfoaaPx60
import Derived.Test.YtpdfdaoohknfoaaPx63
import Derived.Test.YtpdfdaoohknfoaaPx64
namespace Go.Proofs.Ytpdfdaoohknfoaa.P
open Go.RowKit Go.Proofs.YtpdfdaoohknfoaaW.PrintWords Go.Proofs.YtpdfdaoohknfoaaW.PrintLast Go.Proofs.YtpdfdaoohknfoaaW.PrintMore
attribute [local go_sem] max2_int min2_int max_two min_two max_three min_three max_four min_four   -- for this text's walks alone
set_option linter.unusedVariables false
set_option linter.unusedSimpArgs false

mutual
def psalteryref17_Read.l0 : Nat → List Int → Int → Int → Int → List Int → List Int → Int → Int → List (List Int) → Option ((List (List Int)) × (List (List Int)) × Int)
  | 0, _, _, _, _, _, _, _, _, _ => none
  | k + 1, x1, x8, x785000, x785001, x785002, x785003, x788000, x788001, x789000 => if x8 < x785000 then ((psalteryref17_some.f k x1 x788000 x788001 1).bind fun bt789 => (if bt789.2.1 = 0 then (psalteryref17_Read.l1 k x1 x8 bt789.2.2 ([] : List Int) 0 x785000 x785001 x785002 x785003 bt789.1 bt789.2.1 x789000) else (some (([] : List (List Int)), ([] : List (List Int)), bt789.2.1)))) else (psalteryref17_Read.l2 k x1 0 x785000 x785001 x785002 x785003 x788000 x788001 x789000 ([] : List (List Int)))
def psalteryref17_Read.l1 : Nat → List Int → Int → Int → List Int → Int → Int → Int → List Int → List Int → Int → Int → List (List Int) → Option ((List (List Int)) × (List (List Int)) × Int)
  | 0, _, _, _, _, _, _, _, _, _, _, _, _ => none
  | k + 1, x1, x8, x10, x11, x12, x785000, x785001, x785002, x785003, x788000, x788001, x789000 => if x12 < 6 then (psalteryref17_Read.j2 k x1 x8 x10 x11 x12 (x10 == 1) x785000 x785001 x785002 x785003 x788000 x788001 x789000) else (psalteryref17_Read.j2 k x1 x8 x10 x11 x12 false x785000 x785001 x785002 x785003 x788000 x788001 x789000)
def psalteryref17_Read.j2 : Nat → List Int → Int → Int → List Int → Int → Bool → Int → Int → List Int → List Int → Int → Int → List (List Int) → Option ((List (List Int)) × (List (List Int)) × Int)
  | 0, _, _, _, _, _, _, _, _, _, _, _, _, _ => none
  | k + 1, x1, x8, x10, x11, x12, x51, x785000, x785001, x785002, x785003, x788000, x788001, x789000 => if x51 = true then ((psalteryref17_symbol.f k x1 x788000 x788001 x785002).bind fun bt793 => (if bt793.2.1 = 0 then (if x11.length < 17592186044416 then (psalteryref17_Read.l1 k x1 x8 x10 (x11 ++ [bt793.2.2]) (wrap64 (x12 + 1)) x785000 x785001 x785002 x785003 bt793.1 bt793.2.1 x789000) else (none)) else (some (([] : List (List Int)), ([] : List (List Int)), bt793.2.1)))) else (if x789000.length < 5864062014805 then (psalteryref17_Read.l0 k x1 (wrap64 (x8 + 1)) x785000 x785001 x785002 x785003 x788000 x788001 (x789000 ++ [x11])) else (none))
def psalteryref17_Read.l2 : Nat → List Int → Int → Int → Int → List Int → List Int → Int → Int → List (List Int) → List (List Int) → Option ((List (List Int)) × (List (List Int)) × Int)
  | 0, _, _, _, _, _, _, _, _, _, _ => none
  | k + 1, x1, x15, x785000, x785001, x785002, x785003, x788000, x788001, x789000, x789001 => if x15 < x785000 then (psalteryref17_Read.l3 k x1 x15 ([] : List Int) 0 x785000 x785001 x785002 x785003 x788000 x788001 x789000 x789001) else ((psalteryref01_Bits.f k x1).bind fun t814 => (if 0 ≤ x788000 then (if x788000 ≤ (t814.length : Int) then ((some (t814.drop (x788000 : Int).toNat : List Int)).bind fun y817 => (if (y817.length : Int) ≥ 8 then (some (([] : List (List Int)), ([] : List (List Int)), 2)) else (psalteryref17_Read.l4 k y817 0 x789000 x789001))) else (none)) else (none)))
def psalteryref17_Read.l3 : Nat → List Int → Int → List Int → Int → Int → Int → List Int → List Int → Int → Int → List (List Int) → List (List Int) → Option ((List (List Int)) × (List (List Int)) × Int)
  | 0, _, _, _, _, _, _, _, _, _, _, _, _ => none
  | k + 1, x1, x15, x16, x17, x785000, x785001, x785002, x785003, x788000, x788001, x789000, x789001 => if x17 < 16 then (if 0 ≤ x15 then (if x15 < (x789000.length : Int) then (psalteryref17_Read.j5 k x1 x15 x16 x17 (decide (((rd_L1 x789000 x15).length : Int) > 0)) x785000 x785001 x785002 x785003 x788000 x788001 x789000 x789001) else (none)) else (none)) else (psalteryref17_Read.j5 k x1 x15 x16 x17 false x785000 x785001 x785002 x785003 x788000 x788001 x789000 x789001)
def psalteryref17_Read.j5 : Nat → List Int → Int → List Int → Int → Bool → Int → Int → List Int → List Int → Int → Int → List (List Int) → List (List Int) → Option ((List (List Int)) × (List (List Int)) × Int)
  | 0, _, _, _, _, _, _, _, _, _, _, _, _, _ => none
  | k + 1, x1, x15, x16, x17, x95, x785000, x785001, x785002, x785003, x788000, x788001, x789000, x789001 => if x95 = true then ((psalteryref17_value.f k x1 x788000 x788001 x785003).bind fun bt804 => (if bt804.2.1 = 0 then (if x16.length < 17592186044416 then (psalteryref17_Read.l3 k x1 x15 (x16 ++ [bt804.2.2]) (wrap64 (x17 + 1)) x785000 x785001 x785002 x785003 bt804.1 bt804.2.1 x789000 x789001) else (none)) else (some (([] : List (List Int)), ([] : List (List Int)), bt804.2.1)))) else (if x789001.length < 5864062014805 then (psalteryref17_Read.l2 k x1 (wrap64 (x15 + 1)) x785000 x785001 x785002 x785003 x788000 x788001 x789000 (x789001 ++ [x16])) else (none))
def psalteryref17_Read.l4 : Nat → List Int → Int → List (List Int) → List (List Int) → Option ((List (List Int)) × (List (List Int)) × Int)
  | 0, _, _, _, _ => none
  | k + 1, x20, x21, x789000, x789001 => if x21 < (x20.length : Int) then (if 0 ≤ x21 then (if (rd x20 x21) = 0 then (psalteryref17_Read.l4 k x20 (wrap64 (x21 + 1)) x789000 x789001) else (some (([] : List (List Int)), ([] : List (List Int)), 2))) else (none)) else (some (x789000, x789001, 0))
end
def psalteryref17_Read.f (k : Nat) (a0_0 : Int) (a0_1 : Int) (l0_2 : List Int) (l0_3 : List Int) (l1 : List Int) : Option ((List (List Int)) × (List (List Int)) × Int) := (psalteryref16_Right.f k a0_0 a0_1 l0_2 l0_3).bind fun t786 => (if t786 = true then (psalteryref17_Read.l0 k l1 0 a0_0 a0_1 l0_2 l0_3 0 0 ([] : List (List Int))) else (some (([] : List (List Int)), ([] : List (List Int)), 1)))
theorem psalteryref17_Read.mono_l : ∀ k, (∀ y0 y1 y2 y3 y4 y5 y6 y7 y8, LeO (psalteryref17_Read.l0 k y0 y1 y2 y3 y4 y5 y6 y7 y8) (psalteryref17_Read.l0 (k + 1) y0 y1 y2 y3 y4 y5 y6 y7 y8)) ∧ (∀ y0 y1 y2 y3 y4 y5 y6 y7 y8 y9 y10 y11, LeO (psalteryref17_Read.l1 k y0 y1 y2 y3 y4 y5 y6 y7 y8 y9 y10 y11) (psalteryref17_Read.l1 (k + 1) y0 y1 y2 y3 y4 y5 y6 y7 y8 y9 y10 y11)) ∧ (∀ y0 y1 y2 y3 y4 y5 y6 y7 y8 y9 y10 y11 y12, LeO (psalteryref17_Read.j2 k y0 y1 y2 y3 y4 y5 y6 y7 y8 y9 y10 y11 y12) (psalteryref17_Read.j2 (k + 1) y0 y1 y2 y3 y4 y5 y6 y7 y8 y9 y10 y11 y12)) ∧ (∀ y0 y1 y2 y3 y4 y5 y6 y7 y8 y9, LeO (psalteryref17_Read.l2 k y0 y1 y2 y3 y4 y5 y6 y7 y8 y9) (psalteryref17_Read.l2 (k + 1) y0 y1 y2 y3 y4 y5 y6 y7 y8 y9)) ∧ (∀ y0 y1 y2 y3 y4 y5 y6 y7 y8 y9 y10 y11, LeO (psalteryref17_Read.l3 k y0 y1 y2 y3 y4 y5 y6 y7 y8 y9 y10 y11) (psalteryref17_Read.l3 (k + 1) y0 y1 y2 y3 y4 y5 y6 y7 y8 y9 y10 y11)) ∧ (∀ y0 y1 y2 y3 y4 y5 y6 y7 y8 y9 y10 y11 y12, LeO (psalteryref17_Read.j5 k y0 y1 y2 y3 y4 y5 y6 y7 y8 y9 y10 y11 y12) (psalteryref17_Read.j5 (k + 1) y0 y1 y2 y3 y4 y5 y6 y7 y8 y9 y10 y11 y12)) ∧ (∀ y0 y1 y2 y3, LeO (psalteryref17_Read.l4 k y0 y1 y2 y3) (psalteryref17_Read.l4 (k + 1) y0 y1 y2 y3))
  | 0 => ⟨fun _ _ _ _ _ _ _ _ _ r h => by simp [psalteryref17_Read.l0] at h, fun _ _ _ _ _ _ _ _ _ _ _ _ r h => by simp [psalteryref17_Read.l1] at h, fun _ _ _ _ _ _ _ _ _ _ _ _ _ r h => by simp [psalteryref17_Read.j2] at h, fun _ _ _ _ _ _ _ _ _ _ r h => by simp [psalteryref17_Read.l2] at h, fun _ _ _ _ _ _ _ _ _ _ _ _ r h => by simp [psalteryref17_Read.l3] at h, fun _ _ _ _ _ _ _ _ _ _ _ _ _ r h => by simp [psalteryref17_Read.j5] at h, fun _ _ _ _ r h => by simp [psalteryref17_Read.l4] at h⟩
  | k + 1 => by
    obtain ⟨ih0, ih1, ih2, ih3, ih4, ih5, ih6⟩ := psalteryref17_Read.mono_l k
    refine ⟨?_, ?_, ?_, ?_, ?_, ?_, ?_⟩
    all_goals (intros; first | unfold psalteryref17_Read.l0 | unfold psalteryref17_Read.l1 | unfold psalteryref17_Read.j2 | unfold psalteryref17_Read.l2 | unfold psalteryref17_Read.l3 | unfold psalteryref17_Read.j5 | unfold psalteryref17_Read.l4)
    all_goals with_reducible repeat' first
     | exact ih0 _ _ _ _ _ _ _ _ _
     | exact ih1 _ _ _ _ _ _ _ _ _ _ _ _
     | exact ih2 _ _ _ _ _ _ _ _ _ _ _ _ _
     | exact ih3 _ _ _ _ _ _ _ _ _ _
     | exact ih4 _ _ _ _ _ _ _ _ _ _ _ _
     | exact ih5 _ _ _ _ _ _ _ _ _ _ _ _ _
     | exact ih6 _ _ _ _
     | exact psalteryref01_Bits.mono _ _
     | exact psalteryref16_Right.mono _ _ _ _ _
     | exact psalteryref17_some.mono _ _ _ _ _
     | exact psalteryref17_symbol.mono _ _ _ _ _
     | exact psalteryref17_value.mono _ _ _ _ _
     | exact LeO.refl _
     | exact LeO.none _
     | refine LeO.ite ?_ ?_
     | refine LeO.bind ?_ (fun _ => ?_)
theorem psalteryref17_Read.mono : ∀ a0 a1 a2 a3 a4 k, LeO (psalteryref17_Read.f k a0 a1 a2 a3 a4) (psalteryref17_Read.f (k + 1) a0 a1 a2 a3 a4) := by
  intro a0 a1 a2 a3 a4 k
  obtain ⟨ih0, ih1, ih2, ih3, ih4, ih5, ih6⟩ := psalteryref17_Read.mono_l k
  unfold psalteryref17_Read.f
  with_reducible repeat' first
   | exact ih0 _ _ _ _ _ _ _ _ _
   | exact ih1 _ _ _ _ _ _ _ _ _ _ _ _
   | exact ih2 _ _ _ _ _ _ _ _ _ _ _ _ _
   | exact ih3 _ _ _ _ _ _ _ _ _ _
   | exact ih4 _ _ _ _ _ _ _ _ _ _ _ _
   | exact ih5 _ _ _ _ _ _ _ _ _ _ _ _ _
   | exact ih6 _ _ _ _
   | exact psalteryref01_Bits.mono _ _
   | exact psalteryref16_Right.mono _ _ _ _ _
   | exact psalteryref17_some.mono _ _ _ _ _
   | exact psalteryref17_symbol.mono _ _ _ _ _
   | exact psalteryref17_value.mono _ _ _ _ _
   | exact LeO.refl _
   | exact LeO.none _
   | refine LeO.ite ?_ ?_
   | refine LeO.bind ?_ (fun _ => ?_)
set_option maxHeartbeats 8000000 in
set_option maxRecDepth 100000 in
theorem psalteryref17_Read.calls (k : Nat) (a0_0 : Int) (a0_1 : Int) (A0_2 : Option Addr) (c0_2 : Nat) (l0_2 : List Int) (A0_3 : Option Addr) (c0_3 : Nat) (l0_3 : List Int) (A1 : Option Addr) (c1 : Nat) (l1 : List Int) (r1 : List (List Int)) (r2 : List (List Int)) (r3 : Int) (w : World) (hr0_2 : Kd.C (Kd.int .i64) w A0_2 l0_2.length l0_2) (hc0_2 : l0_2.length ≤ c0_2) (hr0_3 : Kd.C (Kd.int .i64) w A0_3 l0_3.length l0_3) (hc0_3 : l0_3.length ≤ c0_3) (hr1 : Kd.C (Kd.int .u8) w A1 l1.length l1) (hc1 : l1.length ≤ c1) (h : psalteryref17_Read.f k a0_0 a0_1 l0_2 l0_3 l1 = some (r1, r2, r3)) :
    Calls Try.prog 35 #[.agg #[.int .i64 a0_0, .int .i64 a0_1, .slice A0_2 l0_2.length c0_2, .slice A0_3 l0_3.length c0_3], .slice A1 l1.length c1] w fun e w' => ∃ v0_ v1_ : Value, e = .returned (.tuple #[.agg #[v0_, v1_], .int .i64 r3]) ∧ Kd.S (Kd.slice 3 (Kd.int .i64)) 22 w' w.heap.size (fun _ => True) v0_ r1 ∧ Kd.S (Kd.slice 2 (Kd.int .i64)) 84 w' w.heap.size (fun _ => True) v1_ r2 ∧ Below w.heap.size w w' := by
 have hu28 := Try.underlying28
 have hu51 := Try.underlying51
 have hu101 := Try.underlying101
 have HR0_2 := Aside0.mk hr0_2
 have HC0_2 := Aside0.mk hc0_2
 clear hr0_2 hc0_2
 have HR0_3 := Aside0.mk hr0_3
 have HC0_3 := Aside0.mk hc0_3
 clear hr0_3 hc0_3
 have HR1 := Aside0.mk hr1
 have HC1 := Aside0.mk hc1
 clear hr1 hc1
 have HB := Aside0.mk (Below.refl w.heap.size w)
 have H : ((psalteryref16_Right.f k a0_0 a0_1 l0_2 l0_3).bind fun t786 => (if t786 = true then (psalteryref17_Read.l0 k l1 0 a0_0 a0_1 l0_2 l0_3 0 0 ([] : List (List Int))) else (some (([] : List (List Int)), ([] : List (List Int)), 1)))) = some (r1, r2, r3) := h
 clear h
 obtain ⟨t786, A3, H⟩ := ob_ H
 (try dsimp only at H)
 by_cases c4 : t786 = true
 {
 subst c4
 rw [if_pos rfl] at H
 have H' := Aside0.mk H
 clear H
 go_enter Try.func35, Try.ntmps35
 go_wp2_with (first | ((with_reducible refine gate_dst (N := 2) rfl ?_); (try (refine gate_guard (by rfl) ?_; dsimp only)); refine bx_ HB 2 #[.int .i64 a0_0, .int .i64 a0_1, .slice A0_2 l0_2.length c0_2, .slice A0_3 l0_3.length c0_3] 28 ?_; clear HB; intro gb784 hg w5 hb BK784 GE784 HB; have GW784 := GE784; clear hb hg) | ((with_reducible refine gate_dst (N := 4) rfl ?_); (try (refine gate_guard (by rfl) ?_; dsimp only)); refine bx_ HB 4 #[.slice none 0 0, .slice none 0 0] 51 ?_; clear HB; intro gb785 hg w6 hb BK785 GE785 HB; have GW785 := GE785; obtain ⟨NB784_785, NB785_784⟩ := NN_ BK784 hg; replace BK784 := FB_ BK784 hb; clear hb hg; have hnb7 := NB784_785.out; have hnc7 := NB785_784.out; obtain ⟨hcz8_0, hcz8_1, hcz8_2, hcz8_3, hfz8_0, hfz8_1, hfz8_2, hfz8_3⟩ := e4_ BK784) | ((with_reducible refine gate_callee (f := 18) rfl ?_); refine gL_ (some 23) Try.func18 #[.agg #[.int .i64 a0_0, .int .i64 a0_1, .slice A0_2 l0_2.length c0_2, .slice A0_3 l0_3.length c0_3]] ?_; (with_reducible refine (psalteryref16_Right.calls k a0_0 a0_1 _ _ l0_2 _ _ l0_3 true _ ?side1 ?side2 ?side3 ?side4 A3.out).mono ?_); (case side1 => exact kC_ HR0_2 HB); (case side2 => exact HC0_2.out); (case side3 => exact kC_ HR0_3 HB); (case side4 => exact HC0_3.out); rintro e w9 ⟨rfl, hb⟩; refine ⟨_, rfl, ?_⟩; replace BK784 := FB_ BK784 hb; replace BK785 := FB_ BK785 hb; replace HB := BS_ HB hb; (try clear hb)) | ((with_reducible refine gate_dst (N := 6) rfl ?_); (try (refine gate_guard (by rfl) ?_; dsimp only)); refine bx_ HB 6 #[.int .i64 0, .int .i64 0] 101 ?_; clear HB; intro gb787 hg w10 hb BK787 GE787 HB; have GW787 := GE787; obtain ⟨NB784_787, NB787_784⟩ := NN_ BK784 hg; replace BK784 := FB_ BK784 hb; obtain ⟨NB785_787, NB787_785⟩ := NN_ BK785 hg; replace BK785 := FB_ BK785 hb; clear hb hg; have hnb11 := NB787_784.out; have hnc11 := NB784_787.out; have hnb12 := NB787_785.out; have hnc12 := NB785_787.out; obtain ⟨hcz13_0, hcz13_1, hfz13_0, hfz13_1⟩ := e2_ BK787) | ((with_reducible refine gate_dst (N := 7) rfl ?_); (try (refine gate_guard (by rfl) ?_; dsimp only)); refine bx_ HB 7 #[.slice none 0 0, .slice none 0 0] 51 ?_; clear HB; intro gb788 hg w14 hb BK788 GE788 HB; have GW788 := GE788; obtain ⟨NB784_788, NB788_784⟩ := NN_ BK784 hg; replace BK784 := FB_ BK784 hb; obtain ⟨NB785_788, NB788_785⟩ := NN_ BK785 hg; replace BK785 := FB_ BK785 hb; obtain ⟨NB787_788, NB788_787⟩ := NP_ (.cells #[.int .i64 0, .int .i64 0] 101 (0, 0)) BK787 hg; replace BK787 := Aside0.mk (blk_below (g := gb787) (o := .cells #[.int .i64 0, .int .i64 0] 101 (0, 0)) (bp_ BK787) hb); clear hb hg))
 go_loopg [8] k (fun kq v8 w' => ∃ (x8_1 : Int) (x788000_1 : Int) (x788001_1 : Int) (x789000_1 : List (List Int)) (u789000 : Value), v8 = .int .i64 x8_1 ∧ Aside0 (psalteryref17_Read.l0 kq l1 x8_1 a0_0 a0_1 l0_2 l0_3 x788000_1 x788001_1 x789000_1 = some (r1, r2, r3)) ∧ Aside0 (kq ≤ k) ∧ Aside0 (Kd.S (Kd.slice 3 (Kd.int .i64)) 22 w' w.heap.size (fun _ => True) u789000 x789000_1) ∧ Aside0 (w'.heap[gb784]? = some (.cells #[.int .i64 a0_0, .int .i64 a0_1, (.slice A0_2 l0_2.length c0_2), (.slice A0_3 l0_3.length c0_3)] 28 (0, 0))) ∧ Aside0 (w'.heap[gb785]? = some (.cells #[(.slice none 0 0), (.slice none 0 0)] 51 (0, 0))) ∧ Aside0 (w'.heap[gb787]? = some (.cells #[.int .i64 x788000_1, .int .i64 x788001_1] 101 (0, 0))) ∧ Aside0 (w'.heap[gb788]? = some (.cells #[u789000, (.slice none 0 0)] 51 (0, 0))) ∧ Aside0 (Below w.heap.size w w'))
 case atStart => exact ⟨(0), (0), (0), (([] : List (List Int))), (.slice none 0 0), rs_, H', ⟨Nat.le_refl _⟩, ⟨kn_⟩, ⟨bk_ BK784⟩, ⟨bk_ BK785⟩, ⟨bk_ BK787⟩, ⟨bk_ BK788⟩, ⟨bl_ HB⟩⟩
 case round => (
 clear H'
 try clear c4
 try clear hcz13_0
 try clear hcz13_1
 try clear hcz8_0
 try clear hcz8_1
 try clear hcz8_2
 try clear hcz8_3
 try clear hfz13_0
 try clear hfz13_1
 try clear hfz8_0
 try clear hfz8_1
 try clear hfz8_2
 try clear hfz8_3
 obtain ⟨x8_1, x788000_1, x788001_1, x789000_1, u789000, rfl, HA, HK1, HO_789000, BK784, BK785, BK787, BK788, HB⟩ := hrel
 cases gk with
 | zero => exact absurd HA.out (by simp [psalteryref17_Read.l0])
 | succ k1 => (
 have H := HA.out
 clear HA
 simp only [psalteryref17_Read.l0] at H
 by_cases c15 : x8_1 < a0_0
 {
 rw [if_pos c15] at H
 have c15b0 : decide (x8_1 < a0_0) = true := decide_eq_true c15
 clear c15
 obtain ⟨⟨t789, t790, t791⟩, A16, H⟩ := ob_ H
 (try dsimp only at H)
 by_cases c17 : t790 = 0
 {
 rw [if_pos c17] at H
 have c17b0 : (t790 == 0) = true := beq_iff_eq.mpr c17
 have c17b1 : (t790 != 0) = false := bne_eq_false_iff_eq.mpr c17
 clear c17
 have H' := Aside0.mk H
 clear H
 have hnb18 := NB784_785.out
 have hnc18 := NB785_784.out
 have hnb19 := NB784_787.out
 have hnc19 := NB787_784.out
 have hnb20 := NB784_788.out
 have hnc20 := NB788_784.out
 obtain ⟨hcz21_0, hcz21_1, hcz21_2, hcz21_3, hfz21_0, hfz21_1, hfz21_2, hfz21_3⟩ := e4_ BK784
 have hnb22 := NB787_785.out
 have hnc22 := NB785_787.out
 have hnb23 := NB787_788.out
 have hnc23 := NB788_787.out
 obtain ⟨hcz24_0, hcz24_1, hfz24_0, hfz24_1⟩ := e2_ BK787
 go_wp2_with (first | ((with_reducible refine gate_callee (f := 58) rfl ?_); refine gL_ (some 36) Try.func58 #[.slice A1 l1.length c1, .agg #[.int .i64 x788000_1, .int .i64 x788001_1], .int .i64 1] ?_; (with_reducible refine (psalteryref17_some.calls k1 _ _ l1 x788000_1 x788001_1 1 t789 t790 t791 _ ?side1 ?side2 A16.out).mono ?_); (case side1 => exact kC_ HR1 HB); (case side2 => exact HC1.out); rintro e w25 ⟨rfl, hb⟩; refine ⟨_, rfl, ?_⟩; replace HO_789000 := FS_ HO_789000 hb; replace BK784 := FB_ BK784 hb; replace BK785 := FB_ BK785 hb; replace BK787 := FB_ BK787 hb; replace BK788 := FB_ BK788 hb; replace HB := BS_ HB hb; (try clear hb)) | ((with_reducible refine gate_dst (N := 9) rfl ?_); (try (refine gate_guard (by rfl) ?_; dsimp only)); refine bx_ HB 9 #[.int .i64 0, .int .i64 0] 101 ?_; clear HB; intro gb792 hg w26 hb BK792 GE792 HB; have GW792 := GE792; replace HO_789000 := FS_ HO_789000 hb; obtain ⟨NB784_792, NB792_784⟩ := NN_ BK784 hg; replace BK784 := FB_ BK784 hb; obtain ⟨NB785_792, NB792_785⟩ := NN_ BK785 hg; replace BK785 := FB_ BK785 hb; obtain ⟨NB787_792, NB792_787⟩ := NN_ BK787 hg; replace BK787 := FB_ BK787 hb; obtain ⟨NB788_792, NB792_788⟩ := NN_ BK788 hg; replace BK788 := FB_ BK788 hb; clear hb hg; have hnb27 := NB792_784.out; have hnc27 := NB784_792.out; have hnb28 := NB792_785.out; have hnc28 := NB785_792.out; have hnb29 := NB792_787.out; have hnc29 := NB787_792.out; have hnb30 := NB792_788.out; have hnc30 := NB788_792.out; obtain ⟨hcz31_0, hcz31_1, hfz31_0, hfz31_1⟩ := e2_ BK792; obtain ⟨hcz32_0, hcz32_1, hfz32_0, hfz32_1⟩ := e2_ BK787))
 go_loopg [11, 12] k1 (fun kq v11 v12 w' => ∃ (x11_2 : List Int) (x12_2 : Int) (x788000_2 : Int) (x788001_2 : Int), v12 = .int .i64 x12_2 ∧ Aside0 (psalteryref17_Read.l1 kq l1 x8_1 t791 x11_2 x12_2 a0_0 a0_1 l0_2 l0_3 x788000_2 x788001_2 x789000_1 = some (r1, r2, r3)) ∧ Aside0 (kq ≤ k1) ∧ Aside0 (Kd.R (Kd.int .i64) 3 w' w.heap.size (fun _ => True) v11 x11_2) ∧ Aside0 (Kd.S (Kd.slice 3 (Kd.int .i64)) 22 w' w.heap.size (fun k_ => some k_ ≠ (v11 : Value).ownBlock) u789000 x789000_1) ∧ Aside0 (w'.heap[gb784]? = some (.cells #[.int .i64 a0_0, .int .i64 a0_1, (.slice A0_2 l0_2.length c0_2), (.slice A0_3 l0_3.length c0_3)] 28 (0, 0))) ∧ Aside0 (w'.heap[gb785]? = some (.cells #[(.slice none 0 0), (.slice none 0 0)] 51 (0, 0))) ∧ Aside0 (w'.heap[gb787]? = some (.cells #[.int .i64 x788000_2, .int .i64 x788001_2] 101 (0, 0))) ∧ Aside0 (w'.heap[gb788]? = some (.cells #[u789000, (.slice none 0 0)] 51 (0, 0))) ∧ Aside0 (w'.heap[gb792]? = some (.cells #[.int .i64 t789, .int .i64 t790] 101 (0, 0))) ∧ Aside0 (Below w.heap.size w w'))
 case atStart => exact ⟨(([] : List Int)), (0), (t789), (t790), rs_, H', ⟨Nat.le_refl _⟩, ⟨by first | exact Kd.R_nil _ _ _ _ _ | exact Kd.N_nil _ _ _ _ _ | exact Kd.V_nil _ _ _ _ _ | exact Kd.Q_nil _ _ _ _ _ | exact Kd.S_nil _ _ _ _ _⟩, ⟨by (with_reducible repeat (first | apply Kd.S_alloc | apply Kd.S_drewN | apply Kd.S_drew)); exact Kd.S_mono (Kd.S_far (p := ⟨gb787, 1, none⟩) (Kd.S_far (p := ⟨gb787, 0, none⟩) (Kd.S_far (p := ⟨gb792, 1, none⟩) (Kd.S_far (p := ⟨gb792, 0, none⟩) (Kd.S_types (Kd.S_types HO_789000.out BK792.out (by decide)) BK787.out (by decide)) (fun _ hk => hk.1.2) (.int .i64 t789)) (fun _ hk => hk.1.2) (.int .i64 t790)) (fun _ hk => hk.2) (.int .i64 t789)) (fun _ hk => hk.2) (.int .i64 t790)) (fun _ hk => (by simp [Value.ownBlock]))⟩, ⟨bk_ BK784⟩, ⟨bk_ BK785⟩, ⟨bp_ BK787⟩, ⟨bk_ BK788⟩, ⟨bp_ BK792⟩, ⟨bl_ HB⟩⟩
 case round => (
 clear H'
 try clear c1
 try clear c4
 try clear c15
 try clear c15b0
 try clear c17
 try clear c17b0
 try clear c17b1
 try clear hcz13_0
 try clear hcz13_1
 try clear hcz21_0
 try clear hcz21_1
 try clear hcz21_2
 try clear hcz21_3
 try clear hcz24_0
 try clear hcz24_1
 try clear hcz31_0
 try clear hcz31_1
 try clear hcz32_0
 try clear hcz32_1
 try clear hcz8_0
 try clear hcz8_1
 try clear hcz8_2
 try clear hcz8_3
 try clear hfz13_0
 try clear hfz13_1
 try clear hfz21_0
 try clear hfz21_1
 try clear hfz21_2
 try clear hfz21_3
 try clear hfz24_0
 try clear hfz24_1
 try clear hfz31_0
 try clear hfz31_1
 try clear hfz32_0
 try clear hfz32_1
 try clear hfz8_0
 try clear hfz8_1
 try clear hfz8_2
 try clear hfz8_3
 obtain ⟨x11_2, x12_2, x788000_2, x788001_2, rfl, HA, HK2, HO_11, HO_789000, BK784, BK785, BK787, BK788, BK792, HB⟩ := hrel
 cases gk with
 | zero => exact absurd HA.out (by simp [psalteryref17_Read.l1])
 | succ k2 => (
 have H := HA.out
 clear HA
 simp only [psalteryref17_Read.l1] at H
 have HC33 := Aside0.mk H
 clear H
 go_upto_region 14 with (fail)
 go_cut [51] (fun v51 wc => ∃ (kq : Nat) (x51_32 : Bool), v51 = .bool x51_32 ∧ Aside0 (psalteryref17_Read.j2 kq l1 x8_1 t791 x11_2 x12_2 x51_32 a0_0 a0_1 l0_2 l0_3 x788000_2 x788001_2 x789000_1 = some (r1, r2, r3)) ∧ Aside0 (kq ≤ k2) ∧ Aside0 (Kd.R (Kd.int .i64) 3 wc w.heap.size (fun _ => True) u11 x11_2) ∧ Aside0 (Kd.S (Kd.slice 3 (Kd.int .i64)) 22 wc w.heap.size (fun k_ => some k_ ≠ (u11 : Value).ownBlock) u789000 x789000_1) ∧ Aside0 (wc.heap[gb784]? = some (.cells #[.int .i64 a0_0, .int .i64 a0_1, (.slice A0_2 l0_2.length c0_2), (.slice A0_3 l0_3.length c0_3)] 28 (0, 0))) ∧ Aside0 (wc.heap[gb785]? = some (.cells #[(.slice none 0 0), (.slice none 0 0)] 51 (0, 0))) ∧ Aside0 (wc.heap[gb787]? = some (.cells #[.int .i64 x788000_2, .int .i64 x788001_2] 101 (0, 0))) ∧ Aside0 (wc.heap[gb788]? = some (.cells #[u789000, (.slice none 0 0)] 51 (0, 0))) ∧ Aside0 (wc.heap[gb792]? = some (.cells #[.int .i64 t789, .int .i64 t790] 101 (0, 0))) ∧ Aside0 (Below w.heap.size w wc))
 case first => (
 have H := HC33.out
 clear HC33
 by_cases c34 : x12_2 < 6
 {
 rw [if_pos c34] at H
 have c34b0 : decide (x12_2 < 6) = true := decide_eq_true c34
 clear c34
 (first | rw [c34b0] | (simp only [i64_w, i32_w]; rw [c34b0]) | skip)
 have H' := Aside0.mk H
 clear H
 go_wp2
 go_meet
 case rel => exact ⟨_, ((t791 == 1)), rs_, H', ⟨by have := HK1.out; have := HK2.out; first | omega | exact Nat.le_refl _⟩, ⟨kR_ HO_11⟩, ⟨kS_ HO_789000⟩, ⟨bk_ BK784⟩, ⟨bk_ BK785⟩, ⟨bk_ BK787⟩, ⟨bk_ BK788⟩, ⟨bk_ BK792⟩, ⟨bl_ HB⟩⟩}
 {
 rw [if_neg c34] at H
 have c34b0 : decide (x12_2 < 6) = false := decide_eq_false c34
 clear c34
 (first | rw [c34b0] | (simp only [i64_w, i32_w]; rw [c34b0]) | skip)
 have H' := Aside0.mk H
 clear H
 go_wp2
 go_meet
 case rel => exact ⟨_, (false), rs_, H', ⟨by have := HK1.out; have := HK2.out; first | omega | exact Nat.le_refl _⟩, ⟨kR_ HO_11⟩, ⟨kS_ HO_789000⟩, ⟨bk_ BK784⟩, ⟨bk_ BK785⟩, ⟨bk_ BK787⟩, ⟨bk_ BK788⟩, ⟨bk_ BK792⟩, ⟨bl_ HB⟩⟩})
 case rest => (
 clear HC33
 try clear c1
 try clear c4
 try clear c15
 try clear c15b0
 try clear c17
 try clear c17b0
 try clear c17b1
 try clear hcz13_0
 try clear hcz13_1
 try clear hcz21_0
 try clear hcz21_1
 try clear hcz21_2
 try clear hcz21_3
 try clear hcz24_0
 try clear hcz24_1
 try clear hcz31_0
 try clear hcz31_1
 try clear hcz32_0
 try clear hcz32_1
 try clear hcz8_0
 try clear hcz8_1
 try clear hcz8_2
 try clear hcz8_3
 try clear hfz13_0
 try clear hfz13_1
 try clear hfz21_0
 try clear hfz21_1
 try clear hfz21_2
 try clear hfz21_3
 try clear hfz24_0
 try clear hfz24_1
 try clear hfz31_0
 try clear hfz31_1
 try clear hfz32_0
 try clear hfz32_1
 try clear hfz8_0
 try clear hfz8_1
 try clear hfz8_2
 try clear hfz8_3
 obtain ⟨kq, x51_32, rfl, HA, HJ32, HO_11, HO_789000, BK784, BK785, BK787, BK788, BK792, HB⟩ := hcut
 cases kq with
 | zero => exact absurd HA.out (by simp [psalteryref17_Read.j2])
 | succ kj32 => (
 have H := HA.out
 clear HA
 simp only [psalteryref17_Read.j2] at H
 by_cases c35 : x51_32 = true
 {
 subst c35
 rw [if_pos rfl] at H
 obtain ⟨⟨t793, t794, t795⟩, A36, H⟩ := ob_ H
 (try dsimp only at H)
 by_cases c37 : t794 = 0
 {
 rw [if_pos c37] at H
 have c37b0 : (t794 == 0) = true := beq_iff_eq.mpr c37
 have c37b1 : (t794 != 0) = false := bne_eq_false_iff_eq.mpr c37
 clear c37
 by_cases c38 : x11_2.length < 17592186044416
 {
 rw [if_pos c38] at H
 have LMc38 := Aside0.mk c38
 clear c38
 obtain ⟨y797, hy797⟩ : ∃ y_ : List Int, y_ = (x11_2 ++ [t795]) := ⟨_, rfl⟩
 replace H : (psalteryref17_Read.l1 kj32 l1 x8_1 t791 y797 (wrap64 (x12_2 + 1)) a0_0 a0_1 l0_2 l0_3 t793 t794 x789000_1) = some (r1, r2, r3) := by first | (rw [hy797]; with_reducible exact H) | (have H2_ := (Option.bind_some _ _).symm.trans H; rw [hy797]; with_reducible exact H2_) | (have H2_ := (Option.bind_some _ _).symm.trans H; with_reducible exact H2_) | with_reducible exact H | (rw [hy797]; exact H) | exact H
 have Ny797 := Aside0.mk hy797
 clear hy797
 have H' := Aside0.mk H
 clear H
 have hnb39 := NB787_784.out
 have hnc39 := NB784_787.out
 have hnb40 := NB787_785.out
 have hnc40 := NB785_787.out
 have hnb41 := NB787_788.out
 have hnc41 := NB788_787.out
 have hnb42 := NB787_792.out
 have hnc42 := NB792_787.out
 obtain ⟨hcz43_0, hcz43_1, hfz43_0, hfz43_1⟩ := e2_ BK787
 have hnb44 := NB784_785.out
 have hnc44 := NB785_784.out
 have hnb45 := NB784_788.out
 have hnc45 := NB788_784.out
 have hnb46 := NB784_792.out
 have hnc46 := NB792_784.out
 obtain ⟨hcz47_0, hcz47_1, hcz47_2, hcz47_3, hfz47_0, hfz47_1, hfz47_2, hfz47_3⟩ := e4_ BK784
 go_wp2_with (first | ((with_reducible refine gate_callee (f := 59) rfl ?_); refine gL_ (some 59) Try.func59 #[.slice A1 l1.length c1, .agg #[.int .i64 x788000_2, .int .i64 x788001_2], .slice A0_2 l0_2.length c0_2] ?_; (with_reducible refine (psalteryref17_symbol.calls kj32 _ _ l1 x788000_2 x788001_2 _ _ l0_2 t793 t794 t795 _ ?side1 ?side2 ?side3 ?side4 A36.out).mono ?_); (case side1 => exact kC_ HR1 HB); (case side2 => exact HC1.out); (case side3 => exact kC_ HR0_2 HB); (case side4 => exact HC0_2.out); rintro e w48 ⟨rfl, hb⟩; refine ⟨_, rfl, ?_⟩; replace HO_11 := FR_ HO_11 hb; replace HO_789000 := FS_ HO_789000 hb; replace BK784 := FB_ BK784 hb; replace BK785 := FB_ BK785 hb; replace BK787 := FB_ BK787 hb; replace BK788 := FB_ BK788 hb; replace BK792 := FB_ BK792 hb; replace HB := BS_ HB hb; (try clear hb); (try clear hk)) | ((with_reducible refine gate_dst (N := 13) rfl ?_); (try (refine gate_guard (by rfl) ?_; dsimp only)); refine bx_ HB 13 #[.int .i64 0, .int .i64 0] 101 ?_; clear HB; intro gb796 hg w49 hb BK796 GE796 HB; have GW796 := GE796; replace HO_11 := FR_ HO_11 hb; replace HO_789000 := FS_ HO_789000 hb; obtain ⟨NB784_796, NB796_784⟩ := NN_ BK784 hg; replace BK784 := FB_ BK784 hb; obtain ⟨NB785_796, NB796_785⟩ := NN_ BK785 hg; replace BK785 := FB_ BK785 hb; obtain ⟨NB787_796, NB796_787⟩ := NN_ BK787 hg; replace BK787 := FB_ BK787 hb; obtain ⟨NB788_796, NB796_788⟩ := NN_ BK788 hg; replace BK788 := FB_ BK788 hb; obtain ⟨NB792_796, NB796_792⟩ := NN_ BK792 hg; replace BK792 := FB_ BK792 hb; clear hb hg; have hnb50 := NB796_784.out; have hnc50 := NB784_796.out; have hnb51 := NB796_785.out; have hnc51 := NB785_796.out; have hnb52 := NB796_787.out; have hnc52 := NB787_796.out; have hnb53 := NB796_788.out; have hnc53 := NB788_796.out; have hnb54 := NB796_792.out; have hnc54 := NB792_796.out; obtain ⟨hcz55_0, hcz55_1, hfz55_0, hfz55_1⟩ := e2_ BK796; obtain ⟨hcz56_0, hcz56_1, hfz56_0, hfz56_1⟩ := e2_ BK787) | ((with_reducible refine gate_builtin (b := .append) (xs := #[.tmp 69, .tmp 71]) rfl ?_); (try (refine gate_guard (by rfl) ?_; dsimp only)); at_builtin; refine Kd.R_append (Kd.int .i64) (w0 := w) w.heap.size rfl (.tmp 69) (.tmp 71) 22 3 (.int .i64 0) 8 rfl Try.underlying22 info3 rfl (by decide) (by omega) u11 x11_2 t795 [.int .i64 t795] (fun _ => True) (fun _ => False) rfl (by first | (go_simp; done) | (go_simp; rfl)) ?aP (fun _ hk => hk.elim) ?aF ?aO ?aB ?aS ?aL ?_; (case aP => exact rfl); (case aB => exact (bl_ HB)); (case aF => exact (fun _ _ => trivial)); (case aO => exact (by (with_reducible repeat (first | apply Kd.R_alloc | apply Kd.R_drewN | apply Kd.R_drew)); exact Kd.R_mono (Kd.R_far (p := ⟨gb787, 1, none⟩) (Kd.R_far (p := ⟨gb787, 0, none⟩) (Kd.R_far (p := ⟨gb796, 1, none⟩) (Kd.R_far (p := ⟨gb796, 0, none⟩) (Kd.R_types (Kd.R_types HO_11.out BK796.out (by decide)) BK787.out (by decide)) (fun _ hk => hk.1.2) (.int .i64 t793)) (fun _ hk => hk.1.2) (.int .i64 t794)) (fun _ hk => hk.2) (.int .i64 t793)) (fun _ hk => hk.2) (.int .i64 t794)) (fun _ hk => trivial))); (case aS => exact (bs_ HB)); (case aL => have := LMc38.out; omega); intro v798 w57 ho hb hg hat; rw [← Ny797.out] at ho; replace HO_789000 := Aside0.mk (Kd.S_after (ok := (fun _ => True)) (by (with_reducible repeat (first | apply Kd.S_alloc | apply Kd.S_drewN | apply Kd.S_drew)); exact Kd.S_mono (Kd.S_far (p := ⟨gb787, 1, none⟩) (Kd.S_far (p := ⟨gb787, 0, none⟩) (Kd.S_far (p := ⟨gb796, 1, none⟩) (Kd.S_far (p := ⟨gb796, 0, none⟩) (Kd.S_types (Kd.S_types HO_789000.out BK796.out (by decide)) BK787.out (by decide)) (fun _ hk => hk.1.2) (.int .i64 t793)) (fun _ hk => hk.1.2) (.int .i64 t794)) (fun _ hk => hk.2) (.int .i64 t793)) (fun _ hk => hk.2) (.int .i64 t794)) (fun _ hk => ⟨trivial, hk.1.1⟩)) hg hat); replace BK784 := (FG_ BK784 hg (Kd.R_ne HO_11.out BK784.out (by decide))); replace BK785 := (FG_ BK785 hg (Kd.R_ne HO_11.out BK785.out (by decide))); replace BK787 := Aside0.mk (blk_grown (g := gb787) (o := .cells #[.int .i64 t793, .int .i64 t794] 101 (0, 0)) (bp_ BK787) hg (Kd.R_ne HO_11.out BK787.out (by decide))); replace BK788 := (FG_ BK788 hg (Kd.R_ne HO_11.out BK788.out (by decide))); replace BK792 := (FG_ BK792 hg (Kd.R_ne HO_11.out BK792.out (by decide))); replace BK796 := Aside0.mk (blk_grown (g := gb796) (o := .cells #[.int .i64 t793, .int .i64 t794] 101 (0, 0)) (bp_ BK796) hg (Kd.R_ne HO_11.out BK796.out (by decide))); replace HB := Aside0.mk (hb); have HO799 := Aside0.mk (ho); clear HO_11; clear ho hb hg hat))
 go_roundg kj32
 case measure => have := HK1.out; have := HK2.out; have := HJ32.out; omega
 case rel => exact ⟨(y797), (wrap64 (x12_2 + 1)), (t793), (t794), rs_, H', ⟨by have := HK1.out; have := HK2.out; have := HJ32.out; omega⟩, ⟨kR_ HO799⟩, ⟨by (with_reducible repeat (first | apply Kd.S_alloc | apply Kd.S_drewN | apply Kd.S_drew)); exact Kd.S_mono HO_789000.out (fun _ hk => hk.2)⟩, ⟨bk_ BK784⟩, ⟨bk_ BK785⟩, ⟨bk_ BK787⟩, ⟨bk_ BK788⟩, ⟨bk_ BK792⟩, ⟨bl_ HB⟩⟩}
 {
 rw [if_neg c38] at H
 exact absurd H (by simp)}}
 {
 rw [if_neg c37] at H
 have c37b0 : (t794 == 0) = false := beq_eq_false_iff_ne.mpr c37
 have c37b1 : (t794 != 0) = true := bne_iff_ne.mpr c37
 simp only [Option.some.injEq, Prod.mk.injEq] at H
 obtain ⟨rfl, rfl, rfl⟩ := H
 have hnb58 := NB787_784.out
 have hnc58 := NB784_787.out
 have hnb59 := NB787_785.out
 have hnc59 := NB785_787.out
 have hnb60 := NB787_788.out
 have hnc60 := NB788_787.out
 have hnb61 := NB787_792.out
 have hnc61 := NB792_787.out
 obtain ⟨hcz62_0, hcz62_1, hfz62_0, hfz62_1⟩ := e2_ BK787
 have hnb63 := NB784_785.out
 have hnc63 := NB785_784.out
 have hnb64 := NB784_788.out
 have hnc64 := NB788_784.out
 have hnb65 := NB784_792.out
 have hnc65 := NB792_784.out
 obtain ⟨hcz66_0, hcz66_1, hcz66_2, hcz66_3, hfz66_0, hfz66_1, hfz66_2, hfz66_3⟩ := e4_ BK784
 try go_wp2_with (first | ((with_reducible refine gate_callee (f := 59) rfl ?_); refine gL_ (some 59) Try.func59 #[.slice A1 l1.length c1, .agg #[.int .i64 x788000_2, .int .i64 x788001_2], .slice A0_2 l0_2.length c0_2] ?_; (with_reducible refine (psalteryref17_symbol.calls kj32 _ _ l1 x788000_2 x788001_2 _ _ l0_2 t793 t794 t795 _ ?side1 ?side2 ?side3 ?side4 A36.out).mono ?_); (case side1 => exact kC_ HR1 HB); (case side2 => exact HC1.out); (case side3 => exact kC_ HR0_2 HB); (case side4 => exact HC0_2.out); rintro e w67 ⟨rfl, hb⟩; refine ⟨_, rfl, ?_⟩; replace HO_11 := FR_ HO_11 hb; replace HO_789000 := FS_ HO_789000 hb; replace BK784 := FB_ BK784 hb; replace BK785 := FB_ BK785 hb; replace BK787 := FB_ BK787 hb; replace BK788 := FB_ BK788 hb; replace BK792 := FB_ BK792 hb; replace HB := BS_ HB hb; (try clear hb)) | ((with_reducible refine gate_dst (N := 13) rfl ?_); (try (refine gate_guard (by rfl) ?_; dsimp only)); refine bx_ HB 13 #[.int .i64 0, .int .i64 0] 101 ?_; clear HB; intro gb796 hg w68 hb BK796 GE796 HB; have GW796 := GE796; replace HO_11 := FR_ HO_11 hb; replace HO_789000 := FS_ HO_789000 hb; obtain ⟨NB784_796, NB796_784⟩ := NN_ BK784 hg; replace BK784 := FB_ BK784 hb; obtain ⟨NB785_796, NB796_785⟩ := NN_ BK785 hg; replace BK785 := FB_ BK785 hb; obtain ⟨NB787_796, NB796_787⟩ := NN_ BK787 hg; replace BK787 := FB_ BK787 hb; obtain ⟨NB788_796, NB796_788⟩ := NN_ BK788 hg; replace BK788 := FB_ BK788 hb; obtain ⟨NB792_796, NB796_792⟩ := NN_ BK792 hg; replace BK792 := FB_ BK792 hb; clear hb hg; have hnb69 := NB796_784.out; have hnc69 := NB784_796.out; have hnb70 := NB796_785.out; have hnc70 := NB785_796.out; have hnb71 := NB796_787.out; have hnc71 := NB787_796.out; have hnb72 := NB796_788.out; have hnc72 := NB788_796.out; have hnb73 := NB796_792.out; have hnc73 := NB792_796.out; obtain ⟨hcz74_0, hcz74_1, hfz74_0, hfz74_1⟩ := e2_ BK796))
 have n0_ : Aside0 (Kd.R (Kd.int .i64) 3 ((w68.setCell ⟨gb796, 0, none⟩ (.int .i64 t793)).setCell ⟨gb796, 1, none⟩ (.int .i64 t794)) w.heap.size (fun _ => True) u11 x11_2) := ⟨by (with_reducible repeat (first | apply Kd.R_alloc | apply Kd.R_drewN | apply Kd.R_drew)); exact Kd.R_mono (Kd.R_far (p := ⟨gb796, 1, none⟩) (Kd.R_far (p := ⟨gb796, 0, none⟩) (Kd.R_types HO_11.out BK796.out (by decide)) (fun _ hk => hk.2) (.int .i64 t793)) (fun _ hk => hk.2) (.int .i64 t794)) (fun _ hk => trivial)⟩
 have n1_ : Aside0 (Kd.S (Kd.slice 3 (Kd.int .i64)) 22 ((w68.setCell ⟨gb796, 0, none⟩ (.int .i64 t793)).setCell ⟨gb796, 1, none⟩ (.int .i64 t794)) w.heap.size (fun k_ => some k_ ≠ (u11 : Value).ownBlock) u789000 x789000_1) := ⟨kSk_ HO_789000 BK796⟩
 have n2_ : Aside0 (((w68.setCell ⟨gb796, 0, none⟩ (.int .i64 t793)).setCell ⟨gb796, 1, none⟩ (.int .i64 t794)).heap[gb784]? = some (.cells #[.int .i64 a0_0, .int .i64 a0_1, .slice A0_2 l0_2.length c0_2, .slice A0_3 l0_3.length c0_3] 28 (0, 0))) := ⟨bk_ BK784⟩
 have n3_ : Aside0 (((w68.setCell ⟨gb796, 0, none⟩ (.int .i64 t793)).setCell ⟨gb796, 1, none⟩ (.int .i64 t794)).heap[gb785]? = some (.cells #[.slice none 0 0, .slice none 0 0] 51 (0, 0))) := ⟨bk_ BK785⟩
 have n4_ : Aside0 (((w68.setCell ⟨gb796, 0, none⟩ (.int .i64 t793)).setCell ⟨gb796, 1, none⟩ (.int .i64 t794)).heap[gb787]? = some (.cells #[.int .i64 x788000_2, .int .i64 x788001_2] 101 (0, 0))) := ⟨bk_ BK787⟩
 have n5_ : Aside0 (((w68.setCell ⟨gb796, 0, none⟩ (.int .i64 t793)).setCell ⟨gb796, 1, none⟩ (.int .i64 t794)).heap[gb788]? = some (.cells #[u789000, .slice none 0 0] 51 (0, 0))) := ⟨bk_ BK788⟩
 have n6_ : Aside0 (((w68.setCell ⟨gb796, 0, none⟩ (.int .i64 t793)).setCell ⟨gb796, 1, none⟩ (.int .i64 t794)).heap[gb792]? = some (.cells #[.int .i64 t789, .int .i64 t790] 101 (0, 0))) := ⟨bk_ BK792⟩
 have n7_ : Aside0 (((w68.setCell ⟨gb796, 0, none⟩ (.int .i64 t793)).setCell ⟨gb796, 1, none⟩ (.int .i64 t794)).heap[gb796]? = some (.cells #[.int .i64 t793, .int .i64 t794] 101 (0, 0))) := ⟨bp_ BK796⟩
 have n8_ : Aside0 (Below w.heap.size w ((w68.setCell ⟨gb796, 0, none⟩ (.int .i64 t793)).setCell ⟨gb796, 1, none⟩ (.int .i64 t794))) := ⟨bl_ HB⟩
 (try clear HO_11)
 (try clear HO_789000)
 (try clear BK784)
 (try clear BK785)
 (try clear BK787)
 (try clear BK788)
 (try clear BK792)
 (try clear BK796)
 (try clear HB)
 generalize ((w68.setCell ⟨gb796, 0, none⟩ (.int .i64 t793)).setCell ⟨gb796, 1, none⟩ (.int .i64 t794)) = w75 at n0_ n1_ n2_ n3_ n4_ n5_ n6_ n7_ n8_ ⊢
 have HO_11 := n0_
 have HO_789000 := n1_
 have BK784 := n2_
 have BK785 := n3_
 have BK787 := n4_
 have BK788 := n5_
 have BK792 := n6_
 have BK796 := n7_
 have HB := n8_
 clear n0_ n1_ n2_ n3_ n4_ n5_ n6_ n7_ n8_
 replace HO_11 := Aside0.mk (Kd.R_drew HO_11.out)
 replace HO_789000 := Aside0.mk (Kd.S_drew HO_789000.out)
 replace BK784 := Aside0.mk (blk_drew BK784.out)
 replace BK785 := Aside0.mk (blk_drew BK785.out)
 replace BK787 := Aside0.mk (blk_drew BK787.out)
 replace BK788 := Aside0.mk (blk_drew BK788.out)
 replace BK792 := Aside0.mk (blk_drew BK792.out)
 replace BK796 := Aside0.mk (blk_drew BK796.out)
 replace HB := Aside0.mk (below_drew1 HB.out)
 refine start_ (n := 5) (S := fun w' => w'.cell? ⟨gb796, 0, none⟩ = some (.int .i64 t793) ∧ w'.cell? ⟨gb796, 1, none⟩ = some (.int .i64 t794)) (ds := []) (B_ 5 0) kf_ rfl rfl ⟨ce_ BK796 0, ce_ BK796 1⟩ (fun hHeld => ?_)
 generalize w75.drew = w76 at HO_11 HO_789000 BK784 BK785 BK787 BK788 BK792 BK796 HB hHeld ⊢
 refine pure_ (i := 0) (N := some 65) (v := ?_) (a' := ?_) (B_ 5 1) rfl rfl kf_ (fun _ _ _ h => h) (Or.inl ⟨by rfl, ?_⟩) ?_ ?_
 rotate_left
 {
 intro w'
 go_simp
 with_reducible rfl}
 rotate_left
 {
 exact sp_}
 refine pure_ (i := 1) (N := some 66) (v := ?_) (a' := ?_) (B_ 5 3) rfl rfl kf_ (fun _ _ _ h => h) (Or.inl ⟨by rfl, ?_⟩) ?_ ?_
 rotate_left
 {
 intro w'
 go_simp
 with_reducible rfl}
 rotate_left
 {
 exact sp_}
 refine take_ (i := 2) (N := some 67) (v := ?_) (a' := ?_) (B_ 5 7) rfl rfl kf_ (fun _ _ _ h => h) (Or.inl ⟨by rfl, ?_⟩) hHeld ?_ ?_
 rotate_left
 {
 rintro w' ⟨s0, s1⟩
 go_simp
 with_reducible rfl}
 rotate_left
 {
 exact sp_}
 refine one_ (i := 3) (N := none) (B_ 5 15) rfl rfl kf_ (by decide) (fun K hK => ?_)
 have hs77 : w76.cell? ⟨gb785, 0, none⟩ = some (.slice none 0 0) := ce_ BK785 0
 have hfs77 := blk_frozen BK785.out 0
 have hns77_0 := NB784_785.out
 have hns77_2 := NB787_785.out
 have hns77_3 := NB788_785.out
 have hns77_4 := NB792_785.out
 have hns77_5 := NB796_785.out
 have hms77_0 := NB785_784.out
 have hms77_2 := NB785_787.out
 have hms77_3 := NB785_788.out
 have hms77_4 := NB785_792.out
 have hms77_5 := NB785_796.out
 have hs78 : w76.cell? ⟨gb785, 1, none⟩ = some (.slice none 0 0) := ce_ BK785 1
 have hfs78 := blk_frozen BK785.out 1
 have hns78_0 := NB784_785.out
 have hns78_2 := NB787_785.out
 have hns78_3 := NB788_785.out
 have hns78_4 := NB792_785.out
 have hns78_5 := NB796_785.out
 have hms78_0 := NB785_784.out
 have hms78_2 := NB785_787.out
 have hms78_3 := NB785_788.out
 have hms78_4 := NB785_792.out
 have hms78_5 := NB785_796.out
 refine skip_ (w1 := ?_) (by rfl) rfl ?_ ?_
 rotate_left
 {
 go_simp
 rfl}
 refine hK.out _ _ ⟨((cell_far (p := ⟨gb785, _, none⟩) NB796_785.out _).trans (((cell_far (p := ⟨gb785, _, none⟩) NB796_785.out _).trans (hHeld.1)))), ((cell_far (p := ⟨gb785, _, none⟩) NB796_785.out _).trans (((cell_far (p := ⟨gb785, _, none⟩) NB796_785.out _).trans (hHeld.2))))⟩ (fun hHeld => ?_)
 clear hK K
 refine pure_ (i := 4) (N := some 5) (v := ?_) (a' := ?_) (B_ 5 31) rfl rfl kf_ (fun _ _ _ h => h) (Or.inl ⟨by rfl, ?_⟩) ?_ ?_
 rotate_left
 {
 intro w'
 go_simp
 with_reducible rfl}
 rotate_left
 {
 exact sp_}
 refine done_ kf_ ?_
 try go_wp2
 refine bodyPost_ret (results_ct rfl _ _ gb785 51 #[.slice none 0 0, .slice none 0 0] (0, 0) _ rfl (bp_ BK785) Try.underlying51 rfl kf_) rfl ?_
 exact ⟨_, _, by first | rfl | (simp [errW_none, errW_some] <;> rfl) | (simp [*, errW_none, errW_some] <;> rfl), by first | exact Kd.S_nil _ _ _ _ _ | exact Kd.N_nil _ _ _ _ _ | exact Kd.V_nil _ _ _ _ _ | exact Kd.Q_nil _ _ _ _ _ | exact Kd.R_nil _ _ _ _ _, by first | exact Kd.S_nil _ _ _ _ _ | exact Kd.N_nil _ _ _ _ _ | exact Kd.V_nil _ _ _ _ _ | exact Kd.Q_nil _ _ _ _ _ | exact Kd.R_nil _ _ _ _ _, bl_ HB⟩}}
 {
 replace c35 := Bool.eq_false_iff.mpr c35
 subst c35
 rw [if_neg (show ¬ (false = true) by decide)] at H
 by_cases c79 : x789000_1.length < 5864062014805
 {
 rw [if_pos c79] at H
 have LMc79 := Aside0.mk c79
 clear c79
 obtain ⟨y800, hy800⟩ : ∃ y_ : List (List Int), y_ = (x789000_1 ++ [x11_2]) := ⟨_, rfl⟩
 replace H : (psalteryref17_Read.l0 kj32 l1 (wrap64 (x8_1 + 1)) a0_0 a0_1 l0_2 l0_3 x788000_2 x788001_2 y800) = some (r1, r2, r3) := by first | (rw [hy800]; with_reducible exact H) | (have H2_ := (Option.bind_some _ _).symm.trans H; rw [hy800]; with_reducible exact H2_) | (have H2_ := (Option.bind_some _ _).symm.trans H; with_reducible exact H2_) | with_reducible exact H | (rw [hy800]; exact H) | exact H
 have Ny800 := Aside0.mk hy800
 clear hy800
 have H' := Aside0.mk H
 clear H
 have hnb80 := NB788_784.out
 have hnc80 := NB784_788.out
 have hnb81 := NB788_785.out
 have hnc81 := NB785_788.out
 have hnb82 := NB788_787.out
 have hnc82 := NB787_788.out
 have hnb83 := NB788_792.out
 have hnc83 := NB792_788.out
 obtain ⟨hcz84_0, hcz84_1, hfz84_0, hfz84_1⟩ := e2_ BK788
 obtain ⟨Ao86, co86, eo86⟩ := Kd.R_slice HO_11.out
 subst eo86
 go_wp2_with (first | ((with_reducible refine gate_builtin (b := .append) (xs := #[.tmp 74, .tmp 76]) rfl ?_); (try (refine gate_guard (by rfl) ?_; dsimp only)); at_builtin; refine Kd.S_append (Kd.slice 3 (Kd.int .i64)) (w0 := w) w.heap.size rfl (.tmp 74) (.tmp 76) 45 22 (.slice none 0 0) 24 rfl Try.underlying45 info22 rfl (by decide) (by omega) u789000 x789000_1 x11_2 [.slice Ao86 x11_2.length co86] (fun _ => True) (fun k_ => some k_ = (.slice Ao86 x11_2.length co86 : Value).ownBlock) rfl rfl ?aP (fun k_ hk_ => ((Kd.R_mono (ok' := fun k_ => ((fun _ => True)) k_ ∧ some k_ ≠ (u789000 : Value).ownBlock) (Kd.R_apart' (HO_11.out) (Kd.S_typed HO_789000.out) (by decide)) (fun k_ hk => ⟨trivial, hk.2⟩))).1 k_ hk_.symm) ?aF ?aO ?aB ?aS ?aL ?_; (case aP => exact Kd.M_row (Kd.R_mono (Kd.R_tight rfl (Kd.R_mono (ok' := fun k_ => ((fun _ => True)) k_ ∧ some k_ ≠ (u789000 : Value).ownBlock) (Kd.R_apart' (HO_11.out) (Kd.S_typed HO_789000.out) (by decide)) (fun k_ hk => ⟨trivial, hk.2⟩))) (fun _ h_ => h_))); (case aB => exact (bl_ HB)); (case aF => exact (fun _ _ => trivial)); (case aO => exact (by (with_reducible repeat (first | apply Kd.S_alloc | apply Kd.S_drewN | apply Kd.S_drew)); exact Kd.S_mono HO_789000.out (fun k_ hk => ⟨trivial, fun e_ => hk e_⟩))); (case aS => exact (bs_ HB)); (case aL => have := LMc79.out; omega); intro v801 w85 ho hb hg hat; rw [← Ny800.out] at ho; replace BK784 := (FG_ BK784 hg (Kd.S_ne HO_789000.out BK784.out (by decide))); replace BK785 := (FG_ BK785 hg (Kd.S_ne HO_789000.out BK785.out (by decide))); replace BK787 := (FG_ BK787 hg (Kd.S_ne HO_789000.out BK787.out (by decide))); replace BK788 := (FG_ BK788 hg (Kd.S_ne HO_789000.out BK788.out (by decide))); replace BK792 := (FG_ BK792 hg (Kd.S_ne HO_789000.out BK792.out (by decide))); replace HB := Aside0.mk (hb); have HO802 := Aside0.mk (ho); clear HO_789000 HO_11; clear ho hb hg hat; obtain ⟨Ao87, co87, eo87⟩ := Kd.S_slice HO802.out; subst eo87; obtain ⟨hcz88_0, hcz88_1, hfz88_0, hfz88_1⟩ := e2_ BK788))
 go_roundg kj32
 case measure => have := HK1.out; have := HK2.out; have := HJ32.out; omega
 case rel => exact ⟨(wrap64 (x8_1 + 1)), (x788000_2), (x788001_2), (y800), (.slice Ao87 y800.length co87), rs_, H', ⟨by have := HK1.out; have := HK2.out; have := HJ32.out; omega⟩, ⟨by (with_reducible repeat (first | apply Kd.S_alloc | apply Kd.S_drewN | apply Kd.S_drew)); exact Kd.S_mono (Kd.S_far (p := ⟨gb788, 0, none⟩) (Kd.S_types HO802.out BK788.out (by decide)) (fun _ hk => hk.2) (.slice Ao87 y800.length co87)) (fun _ hk => trivial)⟩, ⟨bk_ BK784⟩, ⟨bk_ BK785⟩, ⟨bk_ BK787⟩, ⟨bp_ BK788⟩, ⟨bl_ HB⟩⟩}
 {
 rw [if_neg c79] at H
 exact absurd H (by simp)}}))))}
 {
 rw [if_neg c17] at H
 have c17b0 : (t790 == 0) = false := beq_eq_false_iff_ne.mpr c17
 have c17b1 : (t790 != 0) = true := bne_iff_ne.mpr c17
 simp only [Option.some.injEq, Prod.mk.injEq] at H
 obtain ⟨rfl, rfl, rfl⟩ := H
 have hnb89 := NB784_785.out
 have hnc89 := NB785_784.out
 have hnb90 := NB784_787.out
 have hnc90 := NB787_784.out
 have hnb91 := NB784_788.out
 have hnc91 := NB788_784.out
 obtain ⟨hcz92_0, hcz92_1, hcz92_2, hcz92_3, hfz92_0, hfz92_1, hfz92_2, hfz92_3⟩ := e4_ BK784
 have hnb93 := NB787_785.out
 have hnc93 := NB785_787.out
 have hnb94 := NB787_788.out
 have hnc94 := NB788_787.out
 obtain ⟨hcz95_0, hcz95_1, hfz95_0, hfz95_1⟩ := e2_ BK787
 try go_wp2_with (first | ((with_reducible refine gate_callee (f := 58) rfl ?_); refine gL_ (some 36) Try.func58 #[.slice A1 l1.length c1, .agg #[.int .i64 x788000_1, .int .i64 x788001_1], .int .i64 1] ?_; (with_reducible refine (psalteryref17_some.calls k1 _ _ l1 x788000_1 x788001_1 1 t789 t790 t791 _ ?side1 ?side2 A16.out).mono ?_); (case side1 => exact kC_ HR1 HB); (case side2 => exact HC1.out); rintro e w96 ⟨rfl, hb⟩; refine ⟨_, rfl, ?_⟩; replace HO_789000 := FS_ HO_789000 hb; replace BK784 := FB_ BK784 hb; replace BK785 := FB_ BK785 hb; replace BK787 := FB_ BK787 hb; replace BK788 := FB_ BK788 hb; replace HB := BS_ HB hb; (try clear hb)) | ((with_reducible refine gate_dst (N := 9) rfl ?_); (try (refine gate_guard (by rfl) ?_; dsimp only)); refine bx_ HB 9 #[.int .i64 0, .int .i64 0] 101 ?_; clear HB; intro gb792 hg w97 hb BK792 GE792 HB; have GW792 := GE792; replace HO_789000 := FS_ HO_789000 hb; obtain ⟨NB784_792, NB792_784⟩ := NN_ BK784 hg; replace BK784 := FB_ BK784 hb; obtain ⟨NB785_792, NB792_785⟩ := NN_ BK785 hg; replace BK785 := FB_ BK785 hb; obtain ⟨NB787_792, NB792_787⟩ := NN_ BK787 hg; replace BK787 := FB_ BK787 hb; obtain ⟨NB788_792, NB792_788⟩ := NN_ BK788 hg; replace BK788 := FB_ BK788 hb; clear hb hg; have hnb98 := NB792_784.out; have hnc98 := NB784_792.out; have hnb99 := NB792_785.out; have hnc99 := NB785_792.out; have hnb100 := NB792_787.out; have hnc100 := NB787_792.out; have hnb101 := NB792_788.out; have hnc101 := NB788_792.out; obtain ⟨hcz102_0, hcz102_1, hfz102_0, hfz102_1⟩ := e2_ BK792))
 have n0_ : Aside0 (Kd.S (Kd.slice 3 (Kd.int .i64)) 22 ((w97.setCell ⟨gb792, 0, none⟩ (.int .i64 t789)).setCell ⟨gb792, 1, none⟩ (.int .i64 t790)) w.heap.size (fun _ => True) u789000 x789000_1) := ⟨by (with_reducible repeat (first | apply Kd.S_alloc | apply Kd.S_drewN | apply Kd.S_drew)); exact Kd.S_mono (Kd.S_far (p := ⟨gb792, 1, none⟩) (Kd.S_far (p := ⟨gb792, 0, none⟩) (Kd.S_types HO_789000.out BK792.out (by decide)) (fun _ hk => hk.2) (.int .i64 t789)) (fun _ hk => hk.2) (.int .i64 t790)) (fun _ hk => trivial)⟩
 have n1_ : Aside0 (((w97.setCell ⟨gb792, 0, none⟩ (.int .i64 t789)).setCell ⟨gb792, 1, none⟩ (.int .i64 t790)).heap[gb784]? = some (.cells #[.int .i64 a0_0, .int .i64 a0_1, .slice A0_2 l0_2.length c0_2, .slice A0_3 l0_3.length c0_3] 28 (0, 0))) := ⟨bk_ BK784⟩
 have n2_ : Aside0 (((w97.setCell ⟨gb792, 0, none⟩ (.int .i64 t789)).setCell ⟨gb792, 1, none⟩ (.int .i64 t790)).heap[gb785]? = some (.cells #[.slice none 0 0, .slice none 0 0] 51 (0, 0))) := ⟨bk_ BK785⟩
 have n3_ : Aside0 (((w97.setCell ⟨gb792, 0, none⟩ (.int .i64 t789)).setCell ⟨gb792, 1, none⟩ (.int .i64 t790)).heap[gb787]? = some (.cells #[.int .i64 x788000_1, .int .i64 x788001_1] 101 (0, 0))) := ⟨bk_ BK787⟩
 have n4_ : Aside0 (((w97.setCell ⟨gb792, 0, none⟩ (.int .i64 t789)).setCell ⟨gb792, 1, none⟩ (.int .i64 t790)).heap[gb788]? = some (.cells #[u789000, .slice none 0 0] 51 (0, 0))) := ⟨bk_ BK788⟩
 have n5_ : Aside0 (((w97.setCell ⟨gb792, 0, none⟩ (.int .i64 t789)).setCell ⟨gb792, 1, none⟩ (.int .i64 t790)).heap[gb792]? = some (.cells #[.int .i64 t789, .int .i64 t790] 101 (0, 0))) := ⟨bp_ BK792⟩
 have n6_ : Aside0 (Below w.heap.size w ((w97.setCell ⟨gb792, 0, none⟩ (.int .i64 t789)).setCell ⟨gb792, 1, none⟩ (.int .i64 t790))) := ⟨bl_ HB⟩
 (try clear HO_789000)
 (try clear BK784)
 (try clear BK785)
 (try clear BK787)
 (try clear BK788)
 (try clear BK792)
 (try clear HB)
 generalize ((w97.setCell ⟨gb792, 0, none⟩ (.int .i64 t789)).setCell ⟨gb792, 1, none⟩ (.int .i64 t790)) = w103 at n0_ n1_ n2_ n3_ n4_ n5_ n6_ ⊢
 have HO_789000 := n0_
 have BK784 := n1_
 have BK785 := n2_
 have BK787 := n3_
 have BK788 := n4_
 have BK792 := n5_
 have HB := n6_
 clear n0_ n1_ n2_ n3_ n4_ n5_ n6_
 replace HO_789000 := Aside0.mk (Kd.S_drew HO_789000.out)
 replace BK784 := Aside0.mk (blk_drew BK784.out)
 replace BK785 := Aside0.mk (blk_drew BK785.out)
 replace BK787 := Aside0.mk (blk_drew BK787.out)
 replace BK788 := Aside0.mk (blk_drew BK788.out)
 replace BK792 := Aside0.mk (blk_drew BK792.out)
 replace HB := Aside0.mk (below_drew1 HB.out)
 refine start_ (n := 5) (S := fun w' => w'.cell? ⟨gb792, 0, none⟩ = some (.int .i64 t789) ∧ w'.cell? ⟨gb792, 1, none⟩ = some (.int .i64 t790)) (ds := []) (B_ 5 0) kf_ rfl rfl ⟨ce_ BK792 0, ce_ BK792 1⟩ (fun hHeld => ?_)
 generalize w103.drew = w104 at HO_789000 BK784 BK785 BK787 BK788 BK792 HB hHeld ⊢
 refine pure_ (i := 0) (N := some 42) (v := ?_) (a' := ?_) (B_ 5 1) rfl rfl kf_ (fun _ _ _ h => h) (Or.inl ⟨by rfl, ?_⟩) ?_ ?_
 rotate_left
 {
 intro w'
 go_simp
 with_reducible rfl}
 rotate_left
 {
 exact sp_}
 refine pure_ (i := 1) (N := some 43) (v := ?_) (a' := ?_) (B_ 5 3) rfl rfl kf_ (fun _ _ _ h => h) (Or.inl ⟨by rfl, ?_⟩) ?_ ?_
 rotate_left
 {
 intro w'
 go_simp
 with_reducible rfl}
 rotate_left
 {
 exact sp_}
 refine take_ (i := 2) (N := some 44) (v := ?_) (a' := ?_) (B_ 5 7) rfl rfl kf_ (fun _ _ _ h => h) (Or.inl ⟨by rfl, ?_⟩) hHeld ?_ ?_
 rotate_left
 {
 rintro w' ⟨s0, s1⟩
 go_simp
 with_reducible rfl}
 rotate_left
 {
 exact sp_}
 refine one_ (i := 3) (N := none) (B_ 5 15) rfl rfl kf_ (by decide) (fun K hK => ?_)
 have hs105 : w104.cell? ⟨gb785, 0, none⟩ = some (.slice none 0 0) := ce_ BK785 0
 have hfs105 := blk_frozen BK785.out 0
 have hns105_0 := NB784_785.out
 have hns105_2 := NB787_785.out
 have hns105_3 := NB788_785.out
 have hns105_4 := NB792_785.out
 have hms105_0 := NB785_784.out
 have hms105_2 := NB785_787.out
 have hms105_3 := NB785_788.out
 have hms105_4 := NB785_792.out
 have hs106 : w104.cell? ⟨gb785, 1, none⟩ = some (.slice none 0 0) := ce_ BK785 1
 have hfs106 := blk_frozen BK785.out 1
 have hns106_0 := NB784_785.out
 have hns106_2 := NB787_785.out
 have hns106_3 := NB788_785.out
 have hns106_4 := NB792_785.out
 have hms106_0 := NB785_784.out
 have hms106_2 := NB785_787.out
 have hms106_3 := NB785_788.out
 have hms106_4 := NB785_792.out
 refine skip_ (w1 := ?_) (by rfl) rfl ?_ ?_
 rotate_left
 {
 go_simp
 rfl}
 refine hK.out _ _ ⟨((cell_far (p := ⟨gb785, _, none⟩) NB792_785.out _).trans (((cell_far (p := ⟨gb785, _, none⟩) NB792_785.out _).trans (hHeld.1)))), ((cell_far (p := ⟨gb785, _, none⟩) NB792_785.out _).trans (((cell_far (p := ⟨gb785, _, none⟩) NB792_785.out _).trans (hHeld.2))))⟩ (fun hHeld => ?_)
 clear hK K
 refine pure_ (i := 4) (N := some 5) (v := ?_) (a' := ?_) (B_ 5 31) rfl rfl kf_ (fun _ _ _ h => h) (Or.inl ⟨by rfl, ?_⟩) ?_ ?_
 rotate_left
 {
 intro w'
 go_simp
 with_reducible rfl}
 rotate_left
 {
 exact sp_}
 refine done_ kf_ ?_
 try go_wp2
 refine bodyPost_ret (results_ct rfl _ _ gb785 51 #[.slice none 0 0, .slice none 0 0] (0, 0) _ rfl (bp_ BK785) Try.underlying51 rfl kf_) rfl ?_
 exact ⟨_, _, by first | rfl | (simp [errW_none, errW_some] <;> rfl) | (simp [*, errW_none, errW_some] <;> rfl), by first | exact Kd.S_nil _ _ _ _ _ | exact Kd.N_nil _ _ _ _ _ | exact Kd.V_nil _ _ _ _ _ | exact Kd.Q_nil _ _ _ _ _ | exact Kd.R_nil _ _ _ _ _, by first | exact Kd.S_nil _ _ _ _ _ | exact Kd.N_nil _ _ _ _ _ | exact Kd.V_nil _ _ _ _ _ | exact Kd.Q_nil _ _ _ _ _ | exact Kd.R_nil _ _ _ _ _, bl_ HB⟩}}
 {
 rw [if_neg c15] at H
 have c15b0 : decide (x8_1 < a0_0) = false := decide_eq_false c15
 clear c15
 have H' := Aside0.mk H
 clear H
 have hnb107 := NB784_785.out
 have hnc107 := NB785_784.out
 have hnb108 := NB784_787.out
 have hnc108 := NB787_784.out
 have hnb109 := NB784_788.out
 have hnc109 := NB788_784.out
 obtain ⟨hcz110_0, hcz110_1, hcz110_2, hcz110_3, hfz110_0, hfz110_1, hfz110_2, hfz110_3⟩ := e4_ BK784
 go_wp2
 go_loopg [15] k1 (fun kq v15 w' => ∃ (x15_2 : Int) (x788000_2 : Int) (x788001_2 : Int) (x789001_2 : List (List Int)) (u789001 : Value), v15 = .int .i64 x15_2 ∧ Aside0 (psalteryref17_Read.l2 kq l1 x15_2 a0_0 a0_1 l0_2 l0_3 x788000_2 x788001_2 x789000_1 x789001_2 = some (r1, r2, r3)) ∧ Aside0 (kq ≤ k1) ∧ Aside0 (Kd.S (Kd.slice 3 (Kd.int .i64)) 22 w' w.heap.size (fun _ => True) u789000 x789000_1) ∧ Aside0 (Kd.S (Kd.slice 2 (Kd.int .i64)) 84 w' w.heap.size (fun _ => True) u789001 x789001_2) ∧ Aside0 (w'.heap[gb784]? = some (.cells #[.int .i64 a0_0, .int .i64 a0_1, (.slice A0_2 l0_2.length c0_2), (.slice A0_3 l0_3.length c0_3)] 28 (0, 0))) ∧ Aside0 (w'.heap[gb785]? = some (.cells #[(.slice none 0 0), (.slice none 0 0)] 51 (0, 0))) ∧ Aside0 (w'.heap[gb787]? = some (.cells #[.int .i64 x788000_2, .int .i64 x788001_2] 101 (0, 0))) ∧ Aside0 (w'.heap[gb788]? = some (.cells #[u789000, u789001] 51 (0, 0))) ∧ Aside0 (Below w.heap.size w w'))
 case atStart => exact ⟨(0), (x788000_1), (x788001_1), (([] : List (List Int))), (.slice none 0 0), rs_, H', ⟨Nat.le_refl _⟩, ⟨kS_ HO_789000⟩, ⟨kn_⟩, ⟨bk_ BK784⟩, ⟨bk_ BK785⟩, ⟨bk_ BK787⟩, ⟨bk_ BK788⟩, ⟨bl_ HB⟩⟩
 case round => (
 clear H'
 try clear c4
 try clear c15
 try clear c15b0
 try clear hcz110_0
 try clear hcz110_1
 try clear hcz110_2
 try clear hcz110_3
 try clear hcz13_0
 try clear hcz13_1
 try clear hcz8_0
 try clear hcz8_1
 try clear hcz8_2
 try clear hcz8_3
 try clear hfz110_0
 try clear hfz110_1
 try clear hfz110_2
 try clear hfz110_3
 try clear hfz13_0
 try clear hfz13_1
 try clear hfz8_0
 try clear hfz8_1
 try clear hfz8_2
 try clear hfz8_3
 obtain ⟨x15_2, x788000_2, x788001_2, x789001_2, u789001, rfl, HA, HK2, HO_789000, HO_789001, BK784, BK785, BK787, BK788, HB⟩ := hrel
 cases gk with
 | zero => exact absurd HA.out (by simp [psalteryref17_Read.l2])
 | succ k2 => (
 have H := HA.out
 clear HA
 simp only [psalteryref17_Read.l2] at H
 by_cases c111 : x15_2 < a0_0
 {
 rw [if_pos c111] at H
 have c111b0 : decide (x15_2 < a0_0) = true := decide_eq_true c111
 clear c111
 have H' := Aside0.mk H
 clear H
 have hnb112 := NB784_785.out
 have hnc112 := NB785_784.out
 have hnb113 := NB784_787.out
 have hnc113 := NB787_784.out
 have hnb114 := NB784_788.out
 have hnc114 := NB788_784.out
 obtain ⟨hcz115_0, hcz115_1, hcz115_2, hcz115_3, hfz115_0, hfz115_1, hfz115_2, hfz115_3⟩ := e4_ BK784
 go_wp2
 go_loopg [16, 17] k2 (fun kq v16 v17 w' => ∃ (x16_3 : List Int) (x17_3 : Int) (x788000_3 : Int) (x788001_3 : Int), v17 = .int .i64 x17_3 ∧ Aside0 (psalteryref17_Read.l3 kq l1 x15_2 x16_3 x17_3 a0_0 a0_1 l0_2 l0_3 x788000_3 x788001_3 x789000_1 x789001_2 = some (r1, r2, r3)) ∧ Aside0 (kq ≤ k2) ∧ Aside0 (Kd.R (Kd.int .i64) 2 w' w.heap.size (fun _ => True) v16 x16_3) ∧ Aside0 (Kd.S (Kd.slice 3 (Kd.int .i64)) 22 w' w.heap.size (fun _ => True) u789000 x789000_1) ∧ Aside0 (Kd.S (Kd.slice 2 (Kd.int .i64)) 84 w' w.heap.size (fun k_ => some k_ ≠ (v16 : Value).ownBlock) u789001 x789001_2) ∧ Aside0 (w'.heap[gb784]? = some (.cells #[.int .i64 a0_0, .int .i64 a0_1, (.slice A0_2 l0_2.length c0_2), (.slice A0_3 l0_3.length c0_3)] 28 (0, 0))) ∧ Aside0 (w'.heap[gb785]? = some (.cells #[(.slice none 0 0), (.slice none 0 0)] 51 (0, 0))) ∧ Aside0 (w'.heap[gb787]? = some (.cells #[.int .i64 x788000_3, .int .i64 x788001_3] 101 (0, 0))) ∧ Aside0 (w'.heap[gb788]? = some (.cells #[u789000, u789001] 51 (0, 0))) ∧ Aside0 (Below w.heap.size w w'))
 case atStart => exact ⟨(([] : List Int)), (0), (x788000_2), (x788001_2), rs_, H', ⟨Nat.le_refl _⟩, ⟨by first | exact Kd.R_nil _ _ _ _ _ | exact Kd.N_nil _ _ _ _ _ | exact Kd.V_nil _ _ _ _ _ | exact Kd.Q_nil _ _ _ _ _ | exact Kd.S_nil _ _ _ _ _⟩, ⟨kS_ HO_789000⟩, ⟨by (with_reducible repeat (first | apply Kd.S_alloc | apply Kd.S_drewN | apply Kd.S_drew)); exact Kd.S_mono HO_789001.out (fun _ hk => (by simp [Value.ownBlock]))⟩, ⟨bk_ BK784⟩, ⟨bk_ BK785⟩, ⟨bk_ BK787⟩, ⟨bk_ BK788⟩, ⟨bl_ HB⟩⟩
 case round => (
 clear H'
 try clear c4
 try clear c15
 try clear c15b0
 try clear c111
 try clear c111b0
 try clear hcz110_0
 try clear hcz110_1
 try clear hcz110_2
 try clear hcz110_3
 try clear hcz115_0
 try clear hcz115_1
 try clear hcz115_2
 try clear hcz115_3
 try clear hcz13_0
 try clear hcz13_1
 try clear hcz8_0
 try clear hcz8_1
 try clear hcz8_2
 try clear hcz8_3
 try clear hfz110_0
 try clear hfz110_1
 try clear hfz110_2
 try clear hfz110_3
 try clear hfz115_0
 try clear hfz115_1
 try clear hfz115_2
 try clear hfz115_3
 try clear hfz13_0
 try clear hfz13_1
 try clear hfz8_0
 try clear hfz8_1
 try clear hfz8_2
 try clear hfz8_3
 obtain ⟨x16_3, x17_3, x788000_3, x788001_3, rfl, HA, HK3, HO_16, HO_789000, HO_789001, BK784, BK785, BK787, BK788, HB⟩ := hrel
 cases gk with
 | zero => exact absurd HA.out (by simp [psalteryref17_Read.l3])
 | succ k3 => (
 have H := HA.out
 clear HA
 simp only [psalteryref17_Read.l3] at H
 have HC116 := Aside0.mk H
 clear H
 go_upto_region 27 with (fail)
 go_cut [95] (fun v95 wc => ∃ (kq : Nat) (x95_115 : Bool), v95 = .bool x95_115 ∧ Aside0 (psalteryref17_Read.j5 kq l1 x15_2 x16_3 x17_3 x95_115 a0_0 a0_1 l0_2 l0_3 x788000_3 x788001_3 x789000_1 x789001_2 = some (r1, r2, r3)) ∧ Aside0 (kq ≤ k3) ∧ Aside0 (Kd.R (Kd.int .i64) 2 wc w.heap.size (fun _ => True) u16 x16_3) ∧ Aside0 (Kd.S (Kd.slice 3 (Kd.int .i64)) 22 wc w.heap.size (fun _ => True) u789000 x789000_1) ∧ Aside0 (Kd.S (Kd.slice 2 (Kd.int .i64)) 84 wc w.heap.size (fun k_ => some k_ ≠ (u16 : Value).ownBlock) u789001 x789001_2) ∧ Aside0 (wc.heap[gb784]? = some (.cells #[.int .i64 a0_0, .int .i64 a0_1, (.slice A0_2 l0_2.length c0_2), (.slice A0_3 l0_3.length c0_3)] 28 (0, 0))) ∧ Aside0 (wc.heap[gb785]? = some (.cells #[(.slice none 0 0), (.slice none 0 0)] 51 (0, 0))) ∧ Aside0 (wc.heap[gb787]? = some (.cells #[.int .i64 x788000_3, .int .i64 x788001_3] 101 (0, 0))) ∧ Aside0 (wc.heap[gb788]? = some (.cells #[u789000, u789001] 51 (0, 0))) ∧ Aside0 (Below w.heap.size w wc))
 case first => (
 have H := HC116.out
 clear HC116
 by_cases c117 : x17_3 < 16
 {
 rw [if_pos c117] at H
 have c117b0 : decide (x17_3 < 16) = true := decide_eq_true c117
 clear c117
 (first | rw [c117b0] | (simp only [i64_w, i32_w]; rw [c117b0]) | skip)
 by_cases c118 : 0 ≤ x15_2
 {
 rw [if_pos c118] at H
 have c118b0 : decide (0 ≤ x15_2) = true := decide_eq_true c118
 clear c118
 by_cases c119 : x15_2 < (x789000_1.length : Int)
 {
 rw [if_pos c119] at H
 have c119b0 : decide (x15_2 < (x789000_1.length : Int)) = true := decide_eq_true c119
 clear c119
 have H' := Aside0.mk H
 clear H
 have hnb120 := NB788_784.out
 have hnc120 := NB784_788.out
 have hnb121 := NB788_785.out
 have hnc121 := NB785_788.out
 have hnb122 := NB788_787.out
 have hnc122 := NB787_788.out
 obtain ⟨hcz123_0, hcz123_1, hfz123_0, hfz123_1⟩ := e2_ BK788
 obtain ⟨Ao124, co124, eo124⟩ := Kd.S_slice HO_789000.out
 subst eo124
 have p803 : 0 ≤ (x15_2 : Int) := of_decide_eq_true am_
 have q803 : x15_2 < (x789000_1.length : Int) := of_decide_eq_true am_
 obtain ⟨ad803, A803_0, c803_0, e803, hx803_0, hl803_0, hi803_0⟩ := at_L1 (Kd.S_reads' HO_789000.out).2.2 x15_2 p803 q803
 cases e803
 obtain ⟨ce803, hce803, hMe803, hcc803⟩ := Kd.S_get HO_789000.out [] x15_2 p803 (by first | exact q803 | exact of_decide_eq_true am_ | (have e_ := (Kd.S_reads' HO_789000.out).1; omega))
 obtain ⟨ve803_0, rfl, ge803_0⟩ := hMe803
 have hv803_0 := hcc803 0 _ rfl
 rw [Nat.add_zero, show ((Kd.slice 3 (Kd.int .i64))).sz = 1 from rfl, Nat.mul_one] at hv803_0
 replace hv803_0 := Option.some.inj (hv803_0.symm.trans hx803_0)
 rw [hv803_0] at ge803_0
 have HL803_0 := Aside0.mk (show Kd.R (Kd.int .i64) 3 _ _ _ _ (rd_L1 x789000_1 x15_2) from ge803_0)
 clear hv803_0 ge803_0
 clear hcc803 hce803
 have HR803_0 := Aside0.mk hi803_0
 have HC803_0 := Aside0.mk hl803_0
 clear hi803_0 hl803_0
 replace p803 := eq_true p803
 replace q803 := eq_true q803
 go_wp2
 go_meet
 case rel => exact ⟨_, (decide (((rd_L1 x789000_1 x15_2).length : Int) > 0)), rs_, H', ⟨by have := HK1.out; have := HK2.out; have := HK3.out; first | omega | exact Nat.le_refl _⟩, ⟨kR_ HO_16⟩, ⟨kS_ HO_789000⟩, ⟨kS_ HO_789001⟩, ⟨bk_ BK784⟩, ⟨bk_ BK785⟩, ⟨bk_ BK787⟩, ⟨bk_ BK788⟩, ⟨bl_ HB⟩⟩}
 {
 rw [if_neg c119] at H
 exact absurd H (by simp)}}
 {
 rw [if_neg c118] at H
 exact absurd H (by simp)}}
 {
 rw [if_neg c117] at H
 have c117b0 : decide (x17_3 < 16) = false := decide_eq_false c117
 clear c117
 (first | rw [c117b0] | (simp only [i64_w, i32_w]; rw [c117b0]) | skip)
 have H' := Aside0.mk H
 clear H
 go_wp2
 go_meet
 case rel => exact ⟨_, (false), rs_, H', ⟨by have := HK1.out; have := HK2.out; have := HK3.out; first | omega | exact Nat.le_refl _⟩, ⟨kR_ HO_16⟩, ⟨kS_ HO_789000⟩, ⟨kS_ HO_789001⟩, ⟨bk_ BK784⟩, ⟨bk_ BK785⟩, ⟨bk_ BK787⟩, ⟨bk_ BK788⟩, ⟨bl_ HB⟩⟩})
 case rest => (
 clear HC116
 try clear c4
 try clear c15
 try clear c15b0
 try clear c111
 try clear c111b0
 try clear hcz110_0
 try clear hcz110_1
 try clear hcz110_2
 try clear hcz110_3
 try clear hcz115_0
 try clear hcz115_1
 try clear hcz115_2
 try clear hcz115_3
 try clear hcz13_0
 try clear hcz13_1
 try clear hcz8_0
 try clear hcz8_1
 try clear hcz8_2
 try clear hcz8_3
 try clear hfz110_0
 try clear hfz110_1
 try clear hfz110_2
 try clear hfz110_3
 try clear hfz115_0
 try clear hfz115_1
 try clear hfz115_2
 try clear hfz115_3
 try clear hfz13_0
 try clear hfz13_1
 try clear hfz8_0
 try clear hfz8_1
 try clear hfz8_2
 try clear hfz8_3
 obtain ⟨kq, x95_115, rfl, HA, HJ115, HO_16, HO_789000, HO_789001, BK784, BK785, BK787, BK788, HB⟩ := hcut
 cases kq with
 | zero => exact absurd HA.out (by simp [psalteryref17_Read.j5])
 | succ kj115 => (
 have H := HA.out
 clear HA
 simp only [psalteryref17_Read.j5] at H
 by_cases c125 : x95_115 = true
 {
 subst c125
 rw [if_pos rfl] at H
 obtain ⟨⟨t804, t805, t806⟩, A126, H⟩ := ob_ H
 (try dsimp only at H)
 by_cases c127 : t805 = 0
 {
 rw [if_pos c127] at H
 have c127b0 : (t805 == 0) = true := beq_iff_eq.mpr c127
 have c127b1 : (t805 != 0) = false := bne_eq_false_iff_eq.mpr c127
 clear c127
 by_cases c128 : x16_3.length < 17592186044416
 {
 rw [if_pos c128] at H
 have LMc128 := Aside0.mk c128
 clear c128
 obtain ⟨y808, hy808⟩ : ∃ y_ : List Int, y_ = (x16_3 ++ [t806]) := ⟨_, rfl⟩
 replace H : (psalteryref17_Read.l3 kj115 l1 x15_2 y808 (wrap64 (x17_3 + 1)) a0_0 a0_1 l0_2 l0_3 t804 t805 x789000_1 x789001_2) = some (r1, r2, r3) := by first | (rw [hy808]; with_reducible exact H) | (have H2_ := (Option.bind_some _ _).symm.trans H; rw [hy808]; with_reducible exact H2_) | (have H2_ := (Option.bind_some _ _).symm.trans H; with_reducible exact H2_) | with_reducible exact H | (rw [hy808]; exact H) | exact H
 have Ny808 := Aside0.mk hy808
 clear hy808
 have H' := Aside0.mk H
 clear H
 have hnb129 := NB787_784.out
 have hnc129 := NB784_787.out
 have hnb130 := NB787_785.out
 have hnc130 := NB785_787.out
 have hnb131 := NB787_788.out
 have hnc131 := NB788_787.out
 obtain ⟨hcz132_0, hcz132_1, hfz132_0, hfz132_1⟩ := e2_ BK787
 have hnb133 := NB784_785.out
 have hnc133 := NB785_784.out
 have hnb134 := NB784_788.out
 have hnc134 := NB788_784.out
 obtain ⟨hcz135_0, hcz135_1, hcz135_2, hcz135_3, hfz135_0, hfz135_1, hfz135_2, hfz135_3⟩ := e4_ BK784
 go_wp2_with (first | ((with_reducible refine gate_callee (f := 60) rfl ?_); refine gL_ (some 103) Try.func60 #[.slice A1 l1.length c1, .agg #[.int .i64 x788000_3, .int .i64 x788001_3], .slice A0_3 l0_3.length c0_3] ?_; (with_reducible refine (psalteryref17_value.calls kj115 _ _ l1 x788000_3 x788001_3 _ _ l0_3 t804 t805 t806 _ ?side1 ?side2 ?side3 ?side4 A126.out).mono ?_); (case side1 => exact kC_ HR1 HB); (case side2 => exact HC1.out); (case side3 => exact kC_ HR0_3 HB); (case side4 => exact HC0_3.out); rintro e w136 ⟨rfl, hb⟩; refine ⟨_, rfl, ?_⟩; replace HO_16 := FR_ HO_16 hb; replace HO_789000 := FS_ HO_789000 hb; replace HO_789001 := FS_ HO_789001 hb; replace BK784 := FB_ BK784 hb; replace BK785 := FB_ BK785 hb; replace BK787 := FB_ BK787 hb; replace BK788 := FB_ BK788 hb; replace HB := BS_ HB hb; (try clear hb); (try clear hk)) | ((with_reducible refine gate_dst (N := 18) rfl ?_); (try (refine gate_guard (by rfl) ?_; dsimp only)); refine bx_ HB 18 #[.int .i64 0, .int .i64 0] 101 ?_; clear HB; intro gb807 hg w137 hb BK807 GE807 HB; have GW807 := GE807; replace HO_16 := FR_ HO_16 hb; replace HO_789000 := FS_ HO_789000 hb; replace HO_789001 := FS_ HO_789001 hb; obtain ⟨NB784_807, NB807_784⟩ := NN_ BK784 hg; replace BK784 := FB_ BK784 hb; obtain ⟨NB785_807, NB807_785⟩ := NN_ BK785 hg; replace BK785 := FB_ BK785 hb; obtain ⟨NB787_807, NB807_787⟩ := NN_ BK787 hg; replace BK787 := FB_ BK787 hb; obtain ⟨NB788_807, NB807_788⟩ := NN_ BK788 hg; replace BK788 := FB_ BK788 hb; clear hb hg; have hnb138 := NB807_784.out; have hnc138 := NB784_807.out; have hnb139 := NB807_785.out; have hnc139 := NB785_807.out; have hnb140 := NB807_787.out; have hnc140 := NB787_807.out; have hnb141 := NB807_788.out; have hnc141 := NB788_807.out; obtain ⟨hcz142_0, hcz142_1, hfz142_0, hfz142_1⟩ := e2_ BK807; obtain ⟨hcz143_0, hcz143_1, hfz143_0, hfz143_1⟩ := e2_ BK787) | ((with_reducible refine gate_builtin (b := .append) (xs := #[.tmp 113, .tmp 115]) rfl ?_); (try (refine gate_guard (by rfl) ?_; dsimp only)); at_builtin; refine Kd.R_append (Kd.int .i64) (w0 := w) w.heap.size rfl (.tmp 113) (.tmp 115) 84 2 (.int .i64 0) 8 rfl Try.underlying84 info2 rfl (by decide) (by omega) u16 x16_3 t806 [.int .i64 t806] (fun _ => True) (fun _ => False) rfl (by first | (go_simp; done) | (go_simp; rfl)) ?aP (fun _ hk => hk.elim) ?aF ?aO ?aB ?aS ?aL ?_; (case aP => exact rfl); (case aB => exact (bl_ HB)); (case aF => exact (fun _ _ => trivial)); (case aO => exact (by (with_reducible repeat (first | apply Kd.R_alloc | apply Kd.R_drewN | apply Kd.R_drew)); exact Kd.R_mono (Kd.R_far (p := ⟨gb787, 1, none⟩) (Kd.R_far (p := ⟨gb787, 0, none⟩) (Kd.R_far (p := ⟨gb807, 1, none⟩) (Kd.R_far (p := ⟨gb807, 0, none⟩) (Kd.R_types (Kd.R_types HO_16.out BK807.out (by decide)) BK787.out (by decide)) (fun _ hk => hk.1.2) (.int .i64 t804)) (fun _ hk => hk.1.2) (.int .i64 t805)) (fun _ hk => hk.2) (.int .i64 t804)) (fun _ hk => hk.2) (.int .i64 t805)) (fun _ hk => trivial))); (case aS => exact (bs_ HB)); (case aL => have := LMc128.out; omega); intro v809 w144 ho hb hg hat; rw [← Ny808.out] at ho; replace HO_789000 := Aside0.mk (Kd.S_over' (by (with_reducible repeat (first | apply Kd.S_alloc | apply Kd.S_drewN | apply Kd.S_drew)); exact (Kd.S_mono (Kd.S_mono (Kd.S_far (p := ⟨gb787, 1, none⟩) (Kd.S_far (p := ⟨gb787, 0, none⟩) (Kd.S_far (p := ⟨gb807, 1, none⟩) (Kd.S_far (p := ⟨gb807, 0, none⟩) (Kd.S_types (Kd.S_types HO_789000.out BK807.out (by decide)) BK787.out (by decide)) (fun _ hk => hk.1.2) (.int .i64 t804)) (fun _ hk => hk.1.2) (.int .i64 t805)) (fun _ hk => hk.2) (.int .i64 t804)) (fun _ hk => hk.2) (.int .i64 t805)) (fun _ h_ => h_.1)) (fun _ h_ => h_.1))) (Kd.R_typed (by (with_reducible repeat (first | apply Kd.R_alloc | apply Kd.R_drewN | apply Kd.R_drew)); exact (Kd.R_mono (Kd.R_mono (Kd.R_far (p := ⟨gb787, 1, none⟩) (Kd.R_far (p := ⟨gb787, 0, none⟩) (Kd.R_far (p := ⟨gb807, 1, none⟩) (Kd.R_far (p := ⟨gb807, 0, none⟩) (Kd.R_types (Kd.R_types HO_16.out BK807.out (by decide)) BK787.out (by decide)) (fun _ hk => hk.1.2) (.int .i64 t804)) (fun _ hk => hk.1.2) (.int .i64 t805)) (fun _ hk => hk.2) (.int .i64 t804)) (fun _ hk => hk.2) (.int .i64 t805)) (fun _ h_ => h_.1)) (fun _ h_ => h_.1)))) (by decide) hg); replace HO_789001 := Aside0.mk (Kd.S_after (ok := (fun _ => True)) (by (with_reducible repeat (first | apply Kd.S_alloc | apply Kd.S_drewN | apply Kd.S_drew)); exact Kd.S_mono (Kd.S_far (p := ⟨gb787, 1, none⟩) (Kd.S_far (p := ⟨gb787, 0, none⟩) (Kd.S_far (p := ⟨gb807, 1, none⟩) (Kd.S_far (p := ⟨gb807, 0, none⟩) (Kd.S_types (Kd.S_types HO_789001.out BK807.out (by decide)) BK787.out (by decide)) (fun _ hk => hk.1.2) (.int .i64 t804)) (fun _ hk => hk.1.2) (.int .i64 t805)) (fun _ hk => hk.2) (.int .i64 t804)) (fun _ hk => hk.2) (.int .i64 t805)) (fun _ hk => ⟨trivial, hk.1.1⟩)) hg hat); replace BK784 := (FG_ BK784 hg (Kd.R_ne HO_16.out BK784.out (by decide))); replace BK785 := (FG_ BK785 hg (Kd.R_ne HO_16.out BK785.out (by decide))); replace BK787 := Aside0.mk (blk_grown (g := gb787) (o := .cells #[.int .i64 t804, .int .i64 t805] 101 (0, 0)) (bp_ BK787) hg (Kd.R_ne HO_16.out BK787.out (by decide))); replace BK788 := (FG_ BK788 hg (Kd.R_ne HO_16.out BK788.out (by decide))); replace BK807 := Aside0.mk (blk_grown (g := gb807) (o := .cells #[.int .i64 t804, .int .i64 t805] 101 (0, 0)) (bp_ BK807) hg (Kd.R_ne HO_16.out BK807.out (by decide))); replace HB := Aside0.mk (hb); have HO810 := Aside0.mk (ho); clear HO_16; clear ho hb hg hat))
 go_roundg kj115
 case measure => have := HK1.out; have := HK2.out; have := HK3.out; have := HJ115.out; omega
 case rel => exact ⟨(y808), (wrap64 (x17_3 + 1)), (t804), (t805), rs_, H', ⟨by have := HK1.out; have := HK2.out; have := HK3.out; have := HJ115.out; omega⟩, ⟨kR_ HO810⟩, ⟨kS_ HO_789000⟩, ⟨by (with_reducible repeat (first | apply Kd.S_alloc | apply Kd.S_drewN | apply Kd.S_drew)); exact Kd.S_mono HO_789001.out (fun _ hk => hk.2)⟩, ⟨bk_ BK784⟩, ⟨bk_ BK785⟩, ⟨bk_ BK787⟩, ⟨bk_ BK788⟩, ⟨bl_ HB⟩⟩}
 {
 rw [if_neg c128] at H
 exact absurd H (by simp)}}
 {
 rw [if_neg c127] at H
 have c127b0 : (t805 == 0) = false := beq_eq_false_iff_ne.mpr c127
 have c127b1 : (t805 != 0) = true := bne_iff_ne.mpr c127
 simp only [Option.some.injEq, Prod.mk.injEq] at H
 obtain ⟨rfl, rfl, rfl⟩ := H
 have hnb145 := NB787_784.out
 have hnc145 := NB784_787.out
 have hnb146 := NB787_785.out
 have hnc146 := NB785_787.out
 have hnb147 := NB787_788.out
 have hnc147 := NB788_787.out
 obtain ⟨hcz148_0, hcz148_1, hfz148_0, hfz148_1⟩ := e2_ BK787
 have hnb149 := NB784_785.out
 have hnc149 := NB785_784.out
 have hnb150 := NB784_788.out
 have hnc150 := NB788_784.out
 obtain ⟨hcz151_0, hcz151_1, hcz151_2, hcz151_3, hfz151_0, hfz151_1, hfz151_2, hfz151_3⟩ := e4_ BK784
 try go_wp2_with (first | ((with_reducible refine gate_callee (f := 60) rfl ?_); refine gL_ (some 103) Try.func60 #[.slice A1 l1.length c1, .agg #[.int .i64 x788000_3, .int .i64 x788001_3], .slice A0_3 l0_3.length c0_3] ?_; (with_reducible refine (psalteryref17_value.calls kj115 _ _ l1 x788000_3 x788001_3 _ _ l0_3 t804 t805 t806 _ ?side1 ?side2 ?side3 ?side4 A126.out).mono ?_); (case side1 => exact kC_ HR1 HB); (case side2 => exact HC1.out); (case side3 => exact kC_ HR0_3 HB); (case side4 => exact HC0_3.out); rintro e w152 ⟨rfl, hb⟩; refine ⟨_, rfl, ?_⟩; replace HO_16 := FR_ HO_16 hb; replace HO_789000 := FS_ HO_789000 hb; replace HO_789001 := FS_ HO_789001 hb; replace BK784 := FB_ BK784 hb; replace BK785 := FB_ BK785 hb; replace BK787 := FB_ BK787 hb; replace BK788 := FB_ BK788 hb; replace HB := BS_ HB hb; (try clear hb)) | ((with_reducible refine gate_dst (N := 18) rfl ?_); (try (refine gate_guard (by rfl) ?_; dsimp only)); refine bx_ HB 18 #[.int .i64 0, .int .i64 0] 101 ?_; clear HB; intro gb807 hg w153 hb BK807 GE807 HB; have GW807 := GE807; replace HO_16 := FR_ HO_16 hb; replace HO_789000 := FS_ HO_789000 hb; replace HO_789001 := FS_ HO_789001 hb; obtain ⟨NB784_807, NB807_784⟩ := NN_ BK784 hg; replace BK784 := FB_ BK784 hb; obtain ⟨NB785_807, NB807_785⟩ := NN_ BK785 hg; replace BK785 := FB_ BK785 hb; obtain ⟨NB787_807, NB807_787⟩ := NN_ BK787 hg; replace BK787 := FB_ BK787 hb; obtain ⟨NB788_807, NB807_788⟩ := NN_ BK788 hg; replace BK788 := FB_ BK788 hb; clear hb hg; have hnb154 := NB807_784.out; have hnc154 := NB784_807.out; have hnb155 := NB807_785.out; have hnc155 := NB785_807.out; have hnb156 := NB807_787.out; have hnc156 := NB787_807.out; have hnb157 := NB807_788.out; have hnc157 := NB788_807.out; obtain ⟨hcz158_0, hcz158_1, hfz158_0, hfz158_1⟩ := e2_ BK807))
 have n0_ : Aside0 (Kd.R (Kd.int .i64) 2 ((w153.setCell ⟨gb807, 0, none⟩ (.int .i64 t804)).setCell ⟨gb807, 1, none⟩ (.int .i64 t805)) w.heap.size (fun _ => True) u16 x16_3) := ⟨by (with_reducible repeat (first | apply Kd.R_alloc | apply Kd.R_drewN | apply Kd.R_drew)); exact Kd.R_mono (Kd.R_far (p := ⟨gb807, 1, none⟩) (Kd.R_far (p := ⟨gb807, 0, none⟩) (Kd.R_types HO_16.out BK807.out (by decide)) (fun _ hk => hk.2) (.int .i64 t804)) (fun _ hk => hk.2) (.int .i64 t805)) (fun _ hk => trivial)⟩
 have n1_ : Aside0 (Kd.S (Kd.slice 3 (Kd.int .i64)) 22 ((w153.setCell ⟨gb807, 0, none⟩ (.int .i64 t804)).setCell ⟨gb807, 1, none⟩ (.int .i64 t805)) w.heap.size (fun _ => True) u789000 x789000_1) := ⟨by (with_reducible repeat (first | apply Kd.S_alloc | apply Kd.S_drewN | apply Kd.S_drew)); exact Kd.S_mono (Kd.S_far (p := ⟨gb807, 1, none⟩) (Kd.S_far (p := ⟨gb807, 0, none⟩) (Kd.S_types HO_789000.out BK807.out (by decide)) (fun _ hk => hk.2) (.int .i64 t804)) (fun _ hk => hk.2) (.int .i64 t805)) (fun _ hk => trivial)⟩
 have n2_ : Aside0 (Kd.S (Kd.slice 2 (Kd.int .i64)) 84 ((w153.setCell ⟨gb807, 0, none⟩ (.int .i64 t804)).setCell ⟨gb807, 1, none⟩ (.int .i64 t805)) w.heap.size (fun k_ => some k_ ≠ (u16 : Value).ownBlock) u789001 x789001_2) := ⟨kSk_ HO_789001 BK807⟩
 have n3_ : Aside0 (((w153.setCell ⟨gb807, 0, none⟩ (.int .i64 t804)).setCell ⟨gb807, 1, none⟩ (.int .i64 t805)).heap[gb784]? = some (.cells #[.int .i64 a0_0, .int .i64 a0_1, .slice A0_2 l0_2.length c0_2, .slice A0_3 l0_3.length c0_3] 28 (0, 0))) := ⟨bk_ BK784⟩
 have n4_ : Aside0 (((w153.setCell ⟨gb807, 0, none⟩ (.int .i64 t804)).setCell ⟨gb807, 1, none⟩ (.int .i64 t805)).heap[gb785]? = some (.cells #[.slice none 0 0, .slice none 0 0] 51 (0, 0))) := ⟨bk_ BK785⟩
 have n5_ : Aside0 (((w153.setCell ⟨gb807, 0, none⟩ (.int .i64 t804)).setCell ⟨gb807, 1, none⟩ (.int .i64 t805)).heap[gb787]? = some (.cells #[.int .i64 x788000_3, .int .i64 x788001_3] 101 (0, 0))) := ⟨bk_ BK787⟩
 have n6_ : Aside0 (((w153.setCell ⟨gb807, 0, none⟩ (.int .i64 t804)).setCell ⟨gb807, 1, none⟩ (.int .i64 t805)).heap[gb788]? = some (.cells #[u789000, u789001] 51 (0, 0))) := ⟨bk_ BK788⟩
 have n7_ : Aside0 (((w153.setCell ⟨gb807, 0, none⟩ (.int .i64 t804)).setCell ⟨gb807, 1, none⟩ (.int .i64 t805)).heap[gb807]? = some (.cells #[.int .i64 t804, .int .i64 t805] 101 (0, 0))) := ⟨bp_ BK807⟩
 have n8_ : Aside0 (Below w.heap.size w ((w153.setCell ⟨gb807, 0, none⟩ (.int .i64 t804)).setCell ⟨gb807, 1, none⟩ (.int .i64 t805))) := ⟨bl_ HB⟩
 (try clear HO_16)
 (try clear HO_789000)
 (try clear HO_789001)
 (try clear BK784)
 (try clear BK785)
 (try clear BK787)
 (try clear BK788)
 (try clear BK807)
 (try clear HB)
 generalize ((w153.setCell ⟨gb807, 0, none⟩ (.int .i64 t804)).setCell ⟨gb807, 1, none⟩ (.int .i64 t805)) = w159 at n0_ n1_ n2_ n3_ n4_ n5_ n6_ n7_ n8_ ⊢
 have HO_16 := n0_
 have HO_789000 := n1_
 have HO_789001 := n2_
 have BK784 := n3_
 have BK785 := n4_
 have BK787 := n5_
 have BK788 := n6_
 have BK807 := n7_
 have HB := n8_
 clear n0_ n1_ n2_ n3_ n4_ n5_ n6_ n7_ n8_
 replace HO_16 := Aside0.mk (Kd.R_drew HO_16.out)
 replace HO_789000 := Aside0.mk (Kd.S_drew HO_789000.out)
 replace HO_789001 := Aside0.mk (Kd.S_drew HO_789001.out)
 replace BK784 := Aside0.mk (blk_drew BK784.out)
 replace BK785 := Aside0.mk (blk_drew BK785.out)
 replace BK787 := Aside0.mk (blk_drew BK787.out)
 replace BK788 := Aside0.mk (blk_drew BK788.out)
 replace BK807 := Aside0.mk (blk_drew BK807.out)
 replace HB := Aside0.mk (below_drew1 HB.out)
 refine start_ (n := 5) (S := fun w' => w'.cell? ⟨gb807, 0, none⟩ = some (.int .i64 t804) ∧ w'.cell? ⟨gb807, 1, none⟩ = some (.int .i64 t805)) (ds := []) (B_ 5 0) kf_ rfl rfl ⟨ce_ BK807 0, ce_ BK807 1⟩ (fun hHeld => ?_)
 generalize w159.drew = w160 at HO_16 HO_789000 HO_789001 BK784 BK785 BK787 BK788 BK807 HB hHeld ⊢
 refine pure_ (i := 0) (N := some 109) (v := ?_) (a' := ?_) (B_ 5 1) rfl rfl kf_ (fun _ _ _ h => h) (Or.inl ⟨by rfl, ?_⟩) ?_ ?_
 rotate_left
 {
 intro w'
 go_simp
 with_reducible rfl}
 rotate_left
 {
 exact sp_}
 refine pure_ (i := 1) (N := some 110) (v := ?_) (a' := ?_) (B_ 5 3) rfl rfl kf_ (fun _ _ _ h => h) (Or.inl ⟨by rfl, ?_⟩) ?_ ?_
 rotate_left
 {
 intro w'
 go_simp
 with_reducible rfl}
 rotate_left
 {
 exact sp_}
 refine take_ (i := 2) (N := some 111) (v := ?_) (a' := ?_) (B_ 5 7) rfl rfl kf_ (fun _ _ _ h => h) (Or.inl ⟨by rfl, ?_⟩) hHeld ?_ ?_
 rotate_left
 {
 rintro w' ⟨s0, s1⟩
 go_simp
 with_reducible rfl}
 rotate_left
 {
 exact sp_}
 refine one_ (i := 3) (N := none) (B_ 5 15) rfl rfl kf_ (by decide) (fun K hK => ?_)
 have hs161 : w160.cell? ⟨gb785, 0, none⟩ = some (.slice none 0 0) := ce_ BK785 0
 have hfs161 := blk_frozen BK785.out 0
 have hns161_0 := NB784_785.out
 have hns161_2 := NB787_785.out
 have hns161_3 := NB788_785.out
 have hns161_4 := NB807_785.out
 have hms161_0 := NB785_784.out
 have hms161_2 := NB785_787.out
 have hms161_3 := NB785_788.out
 have hms161_4 := NB785_807.out
 have hs162 : w160.cell? ⟨gb785, 1, none⟩ = some (.slice none 0 0) := ce_ BK785 1
 have hfs162 := blk_frozen BK785.out 1
 have hns162_0 := NB784_785.out
 have hns162_2 := NB787_785.out
 have hns162_3 := NB788_785.out
 have hns162_4 := NB807_785.out
 have hms162_0 := NB785_784.out
 have hms162_2 := NB785_787.out
 have hms162_3 := NB785_788.out
 have hms162_4 := NB785_807.out
 refine skip_ (w1 := ?_) (by rfl) rfl ?_ ?_
 rotate_left
 {
 go_simp
 rfl}
 refine hK.out _ _ ⟨((cell_far (p := ⟨gb785, _, none⟩) NB807_785.out _).trans (((cell_far (p := ⟨gb785, _, none⟩) NB807_785.out _).trans (hHeld.1)))), ((cell_far (p := ⟨gb785, _, none⟩) NB807_785.out _).trans (((cell_far (p := ⟨gb785, _, none⟩) NB807_785.out _).trans (hHeld.2))))⟩ (fun hHeld => ?_)
 clear hK K
 refine pure_ (i := 4) (N := some 5) (v := ?_) (a' := ?_) (B_ 5 31) rfl rfl kf_ (fun _ _ _ h => h) (Or.inl ⟨by rfl, ?_⟩) ?_ ?_
 rotate_left
 {
 intro w'
 go_simp
 with_reducible rfl}
 rotate_left
 {
 exact sp_}
 refine done_ kf_ ?_
 try go_wp2
 refine bodyPost_ret (results_ct rfl _ _ gb785 51 #[.slice none 0 0, .slice none 0 0] (0, 0) _ rfl (bp_ BK785) Try.underlying51 rfl kf_) rfl ?_
 exact ⟨_, _, by first | rfl | (simp [errW_none, errW_some] <;> rfl) | (simp [*, errW_none, errW_some] <;> rfl), by first | exact Kd.S_nil _ _ _ _ _ | exact Kd.N_nil _ _ _ _ _ | exact Kd.V_nil _ _ _ _ _ | exact Kd.Q_nil _ _ _ _ _ | exact Kd.R_nil _ _ _ _ _, by first | exact Kd.S_nil _ _ _ _ _ | exact Kd.N_nil _ _ _ _ _ | exact Kd.V_nil _ _ _ _ _ | exact Kd.Q_nil _ _ _ _ _ | exact Kd.R_nil _ _ _ _ _, bl_ HB⟩}}
 {
 replace c125 := Bool.eq_false_iff.mpr c125
 subst c125
 rw [if_neg (show ¬ (false = true) by decide)] at H
 by_cases c163 : x789001_2.length < 5864062014805
 {
 rw [if_pos c163] at H
 have LMc163 := Aside0.mk c163
 clear c163
 obtain ⟨y811, hy811⟩ : ∃ y_ : List (List Int), y_ = (x789001_2 ++ [x16_3]) := ⟨_, rfl⟩
 replace H : (psalteryref17_Read.l2 kj115 l1 (wrap64 (x15_2 + 1)) a0_0 a0_1 l0_2 l0_3 x788000_3 x788001_3 x789000_1 y811) = some (r1, r2, r3) := by first | (rw [hy811]; with_reducible exact H) | (have H2_ := (Option.bind_some _ _).symm.trans H; rw [hy811]; with_reducible exact H2_) | (have H2_ := (Option.bind_some _ _).symm.trans H; with_reducible exact H2_) | with_reducible exact H | (rw [hy811]; exact H) | exact H
 have Ny811 := Aside0.mk hy811
 clear hy811
 have H' := Aside0.mk H
 clear H
 have hnb164 := NB788_784.out
 have hnc164 := NB784_788.out
 have hnb165 := NB788_785.out
 have hnc165 := NB785_788.out
 have hnb166 := NB788_787.out
 have hnc166 := NB787_788.out
 obtain ⟨hcz167_0, hcz167_1, hfz167_0, hfz167_1⟩ := e2_ BK788
 obtain ⟨Ao169, co169, eo169⟩ := Kd.R_slice HO_16.out
 subst eo169
 go_wp2_with (first | ((with_reducible refine gate_builtin (b := .append) (xs := #[.tmp 118, .tmp 120]) rfl ?_); (try (refine gate_guard (by rfl) ?_; dsimp only)); at_builtin; refine Kd.S_append (Kd.slice 2 (Kd.int .i64)) (w0 := w) w.heap.size rfl (.tmp 118) (.tmp 120) 46 84 (.slice none 0 0) 24 rfl Try.underlying46 info84 rfl (by decide) (by omega) u789001 x789001_2 x16_3 [.slice Ao169 x16_3.length co169] (fun _ => True) (fun k_ => some k_ = (.slice Ao169 x16_3.length co169 : Value).ownBlock) rfl rfl ?aP (fun k_ hk_ => ((Kd.R_mono (ok' := fun k_ => ((fun _ => True)) k_ ∧ some k_ ≠ (u789001 : Value).ownBlock) (Kd.R_apart' (HO_16.out) (Kd.S_typed HO_789001.out) (by decide)) (fun k_ hk => ⟨trivial, hk.2⟩))).1 k_ hk_.symm) ?aF ?aO ?aB ?aS ?aL ?_; (case aP => exact Kd.M_row (Kd.R_mono (Kd.R_tight rfl (Kd.R_mono (ok' := fun k_ => ((fun _ => True)) k_ ∧ some k_ ≠ (u789001 : Value).ownBlock) (Kd.R_apart' (HO_16.out) (Kd.S_typed HO_789001.out) (by decide)) (fun k_ hk => ⟨trivial, hk.2⟩))) (fun _ h_ => h_))); (case aB => exact (bl_ HB)); (case aF => exact (fun _ _ => trivial)); (case aO => exact (by (with_reducible repeat (first | apply Kd.S_alloc | apply Kd.S_drewN | apply Kd.S_drew)); exact Kd.S_mono HO_789001.out (fun k_ hk => ⟨trivial, fun e_ => hk e_⟩))); (case aS => exact (bs_ HB)); (case aL => have := LMc163.out; omega); intro v812 w168 ho hb hg hat; rw [← Ny811.out] at ho; replace HO_789000 := Aside0.mk (Kd.S_over' (kS_ HO_789000) (Kd.S_typed (kS_ HO_789001)) (by decide) hg); replace BK784 := (FG_ BK784 hg (Kd.S_ne HO_789001.out BK784.out (by decide))); replace BK785 := (FG_ BK785 hg (Kd.S_ne HO_789001.out BK785.out (by decide))); replace BK787 := (FG_ BK787 hg (Kd.S_ne HO_789001.out BK787.out (by decide))); replace BK788 := (FG_ BK788 hg (Kd.S_ne HO_789001.out BK788.out (by decide))); replace HB := Aside0.mk (hb); have HO813 := Aside0.mk (ho); clear HO_789001 HO_16; clear ho hb hg hat; obtain ⟨Ao170, co170, eo170⟩ := Kd.S_slice HO813.out; subst eo170; obtain ⟨hcz171_0, hcz171_1, hfz171_0, hfz171_1⟩ := e2_ BK788))
 go_roundg kj115
 case measure => have := HK1.out; have := HK2.out; have := HK3.out; have := HJ115.out; omega
 case rel => exact ⟨(wrap64 (x15_2 + 1)), (x788000_3), (x788001_3), (y811), (.slice Ao170 y811.length co170), rs_, H', ⟨by have := HK1.out; have := HK2.out; have := HK3.out; have := HJ115.out; omega⟩, ⟨by (with_reducible repeat (first | apply Kd.S_alloc | apply Kd.S_drewN | apply Kd.S_drew)); exact Kd.S_mono (Kd.S_far (p := ⟨gb788, 1, none⟩) (Kd.S_types HO_789000.out BK788.out (by decide)) (fun _ hk => hk.2) (.slice Ao170 y811.length co170)) (fun _ hk => trivial)⟩, ⟨by (with_reducible repeat (first | apply Kd.S_alloc | apply Kd.S_drewN | apply Kd.S_drew)); exact Kd.S_mono (Kd.S_far (p := ⟨gb788, 1, none⟩) (Kd.S_types HO813.out BK788.out (by decide)) (fun _ hk => hk.2) (.slice Ao170 y811.length co170)) (fun _ hk => trivial)⟩, ⟨bk_ BK784⟩, ⟨bk_ BK785⟩, ⟨bk_ BK787⟩, ⟨bp_ BK788⟩, ⟨bl_ HB⟩⟩}
 {
 rw [if_neg c163] at H
 exact absurd H (by simp)}}))))}
 {
 rw [if_neg c111] at H
 have c111b0 : decide (x15_2 < a0_0) = false := decide_eq_false c111
 clear c111
 obtain ⟨t814, A172, H⟩ := ob_ H
 (try dsimp only at H)
 by_cases c173 : 0 ≤ x788000_2
 {
 rw [if_pos c173] at H
 have c173b0 := eq_true c173
 have c173b1 : decide (0 ≤ x788000_2) = true := decide_eq_true c173
 clear c173
 by_cases c174 : x788000_2 ≤ (t814.length : Int)
 {
 rw [if_pos c174] at H
 have c174b0 := eq_true c174
 have c174b1 : decide (x788000_2 ≤ (t814.length : Int)) = true := decide_eq_true c174
 clear c174
 obtain ⟨y817, hy817⟩ : ∃ y_ : List Int, y_ = (t814.drop (x788000_2 : Int).toNat) := ⟨_, rfl⟩
 replace H : (if (y817.length : Int) ≥ 8 then (some (([] : List (List Int)), ([] : List (List Int)), 2)) else (psalteryref17_Read.l4 k2 y817 0 x789000_1 x789001_2)) = some (r1, r2, r3) := by first | (rw [hy817]; with_reducible exact H) | (have H2_ := (Option.bind_some _ _).symm.trans H; rw [hy817]; with_reducible exact H2_) | (have H2_ := (Option.bind_some _ _).symm.trans H; with_reducible exact H2_) | with_reducible exact H | (rw [hy817]; exact H) | exact H
 have Ny817 := Aside0.mk hy817
 clear hy817
 by_cases c175 : (y817.length : Int) ≥ 8
 {
 rw [if_pos c175] at H
 have c175b0 : decide (8 ≤ (y817.length : Int)) = true := decide_eq_true c175
 have c175b1 : decide (8 ≤ y817.length) = true := decide_eq_true (by omega)
 clear c175
 simp only [Option.some.injEq, Prod.mk.injEq] at H
 obtain ⟨rfl, rfl, rfl⟩ := H
 have hnb176 := NB784_785.out
 have hnc176 := NB785_784.out
 have hnb177 := NB784_787.out
 have hnc177 := NB787_784.out
 have hnb178 := NB784_788.out
 have hnc178 := NB788_784.out
 obtain ⟨hcz179_0, hcz179_1, hcz179_2, hcz179_3, hfz179_0, hfz179_1, hfz179_2, hfz179_3⟩ := e4_ BK784
 try go_wp2
 replace HO_789000 := Aside0.mk (Kd.S_drew HO_789000.out)
 replace HO_789001 := Aside0.mk (Kd.S_drew HO_789001.out)
 replace BK784 := Aside0.mk (blk_drew BK784.out)
 replace BK785 := Aside0.mk (blk_drew BK785.out)
 replace BK787 := Aside0.mk (blk_drew BK787.out)
 replace BK788 := Aside0.mk (blk_drew BK788.out)
 replace HB := Aside0.mk (below_drew1 HB.out)
 refine start_ (n := 6) (S := fun w' => w'.cell? ⟨gb787, 0, none⟩ = some (.int .i64 x788000_2) ∧ w'.cell? ⟨gb787, 1, none⟩ = some (.int .i64 x788001_2)) (ds := []) (B_ 6 0) kf_ rfl rfl ⟨ce_ BK787 0, ce_ BK787 1⟩ (fun hHeld => ?_)
 generalize wr.drew = w180 at HO_789000 HO_789001 BK784 BK785 BK787 BK788 HB hHeld ⊢
 refine pure_ (i := 0) (N := some 123) (v := ?_) (a' := ?_) (B_ 6 1) rfl rfl kf_ (fun _ _ _ h => h) (Or.inl ⟨by rfl, ?_⟩) ?_ ?_
 rotate_left
 {
 intro w'
 go_simp
 with_reducible rfl}
 rotate_left
 {
 exact sp_}
 refine pure_ (i := 2) (N := some 125) (v := ?_) (a' := ?_) (B_ 6 5) rfl rfl kf_ (fun _ _ _ h => h) (Or.inl ⟨by rfl, ?_⟩) ?_ ?_
 rotate_left
 {
 intro w'
 go_simp
 with_reducible rfl}
 rotate_left
 {
 exact sp_}
 refine take_ (i := 3) (N := some 126) (v := ?_) (a' := ?_) (B_ 6 13) rfl rfl kf_ (fun _ _ _ h => h) (Or.inl ⟨by rfl, ?_⟩) hHeld ?_ ?_
 rotate_left
 {
 rintro w' ⟨s0, s1⟩
 go_simp
 with_reducible rfl}
 rotate_left
 {
 exact sp_}
 refine one_ (i := 1) (N := some 124) (B_ 6 15) rfl rfl kf_ (by decide) (fun K hK => ?_)
 refine goes_ Try.func61 kf_ rfl #[.slice A1 l1.length c1] (by rfl) rfl rfl ar_ ?_
 with_reducible refine (psalteryref01_Bits.calls k2 _ _ l1 t814 _ ?side1 ?side2 A172.out).mono ?_
 (case side1 => exact kC_ HR1 HB)
 (case side2 => exact HC1.out)
 rintro e w181 ⟨v815, rfl, ho0, hb⟩
 refine ⟨_, rfl, ?_⟩
 replace HO_789000 := Aside0.mk (Kd.S_elder' (kS_ HO_789000) (Kd.R_base ho0) hb)
 replace HO_789001 := FS_ HO_789001 hb
 have HO816 := Aside0.mk (Kd.R_lower ho0 (bs_ HB))
 replace BK784 := FB_ BK784 hb
 replace BK785 := FB_ BK785 hb
 replace BK787 := FB_ BK787 hb
 replace BK788 := FB_ BK788 hb
 replace HB := BS_ HB hb
 (try clear hb)
 (try clear ho0)
 obtain ⟨Ao182, co182, eo182⟩ := Kd.R_slice HO816.out
 (first | subst eo182 | (injection eo182 with f1_ f2_ f3_; have f4_ := f1_.symm; have f5_ := f3_.symm; clear f1_ f2_ f3_; subst f4_; subst f5_))
 have q820 : (x788000_2 : Int) ≤ ((t814.length : Int) : Int) := of_decide_eq_true am_
 obtain ⟨i0820, hi0820, _, hsz820, _⟩ := info_parts info3
 have hroom820 : t814.length ≤ co182 := (Kd.R_reads' HO816.out).2.1
 have hC820 : Kd.C (Kd.int .i64) _ Ao182 t814.length t814 := (Kd.R_reads' HO816.out).2.2
 have q0820 : (0 : Int) ≤ (x788000_2 : Int) := of_decide_eq_true am_
 have hcut820 := cut_from (P := Try.prog) 22 3 .i64 Try.underlying22 hi0820 1 hsz820 Ao182 t814.length co182 x788000_2 q0820 q820
 have hr820 := Kd.C_drop (m := (x788000_2 : Int).toNat) (c := co182) hC820 (by omega) hroom820
 obtain ⟨A820, hA820⟩ : ∃ A1, A1 = (if co182 = (x788000_2 : Int).toNat then Ao182 else (Ao182 : Option Addr).map (·.add ((x788000_2 : Int).toNat * 1))) := ⟨_, rfl⟩
 obtain ⟨c820, hc820⟩ : ∃ c1, c1 = co182 - (x788000_2 : Int).toNat := ⟨_, rfl⟩
 have hy820 : y817.length = t814.length - (x788000_2 : Int).toNat := (by rw [Ny817.out, List.length_drop] <;> omega)
 rw [show (t814).drop (x788000_2 : Int).toNat = y817 from Ny817.out.symm] at hr820
 replace hr820 : Kd.C (Kd.int .i64) _ A820 y817.length y817 := (by rw [hA820]; exact hr820)
 rw [← hy820, ← hA820, ← hc820] at hcut820
 have HR820 := Aside0.mk hr820
 have HC820 := Aside0.mk (show y817.length ≤ c820 from by rw [hy820, hc820]; exact Nat.sub_le_sub_right hroom820 _)
 clear hr820 hC820 hroom820 hi0820 hsz820 hc820
 have KY820 := Aside0.mk hy820
 have KA820 := Aside0.mk hA820
 clear hy820 hA820
 have KL820 := Aside0.mk (show (x788000_2 : Int).toNat ≤ t814.length from by omega)
 replace q820 := eq_true q820
 refine hK.out _ _ ⟨ce_ BK787 0, ce_ BK787 1⟩ (fun hHeld => ?_)
 clear hK K
 refine norm_ (a' := ?_) ?_ ?_
 rotate_left
 {
 show Act.put _ (some 124) _ = _
 exact sp_}
 refine pure_ (i := 4) (N := some 127) (v := ?_) (a' := ?_) (B_ 6 31) rfl rfl kf_ (fun _ _ _ h => h) (Or.inl ⟨by rfl, ?_⟩) ?_ ?_
 rotate_left
 {
 intro w'
 go_simp
 with_reducible rfl}
 rotate_left
 {
 exact sp_}
 refine pure_ (i := 5) (N := some 20) (v := ?_) (a' := ?_) (B_ 6 63) rfl rfl kf_ (fun _ _ _ h => h) (Or.inl ⟨by rfl, ?_⟩) ?_ ?_
 rotate_left
 {
 intro w'
 go_simp
 with_reducible rfl}
 rotate_left
 {
 exact sp_}
 refine done_ kf_ ?_
 have hnb183 := NB785_787.out
 have hnc183 := NB787_785.out
 have hnb184 := NB785_788.out
 have hnc184 := NB788_785.out
 obtain ⟨hcz185_0, hcz185_1, hfz185_0, hfz185_1⟩ := e2_ BK785
 try go_wp2
 refine bodyPost_ret (results_ct rfl _ _ gb785 51 #[.slice none 0 0, .slice none 0 0] (0, 0) _ rfl (bp_ BK785) Try.underlying51 rfl kf_) rfl ?_
 exact ⟨_, _, by first | rfl | (simp [errW_none, errW_some] <;> rfl) | (simp [*, errW_none, errW_some] <;> rfl), by first | exact Kd.S_nil _ _ _ _ _ | exact Kd.N_nil _ _ _ _ _ | exact Kd.V_nil _ _ _ _ _ | exact Kd.Q_nil _ _ _ _ _ | exact Kd.R_nil _ _ _ _ _, by first | exact Kd.S_nil _ _ _ _ _ | exact Kd.N_nil _ _ _ _ _ | exact Kd.V_nil _ _ _ _ _ | exact Kd.Q_nil _ _ _ _ _ | exact Kd.R_nil _ _ _ _ _, bl_ HB⟩}
 {
 rw [if_neg c175] at H
 have c175b0 : decide (8 ≤ (y817.length : Int)) = false := decide_eq_false c175
 have c175b1 : decide (8 ≤ y817.length) = false := decide_eq_false (by omega)
 clear c175
 have H' := Aside0.mk H
 clear H
 have hnb186 := NB784_785.out
 have hnc186 := NB785_784.out
 have hnb187 := NB784_787.out
 have hnc187 := NB787_784.out
 have hnb188 := NB784_788.out
 have hnc188 := NB788_784.out
 obtain ⟨hcz189_0, hcz189_1, hcz189_2, hcz189_3, hfz189_0, hfz189_1, hfz189_2, hfz189_3⟩ := e4_ BK784
 try go_wp2
 replace HO_789000 := Aside0.mk (Kd.S_drew HO_789000.out)
 replace HO_789001 := Aside0.mk (Kd.S_drew HO_789001.out)
 replace BK784 := Aside0.mk (blk_drew BK784.out)
 replace BK785 := Aside0.mk (blk_drew BK785.out)
 replace BK787 := Aside0.mk (blk_drew BK787.out)
 replace BK788 := Aside0.mk (blk_drew BK788.out)
 replace HB := Aside0.mk (below_drew1 HB.out)
 refine start_ (n := 6) (S := fun w' => w'.cell? ⟨gb787, 0, none⟩ = some (.int .i64 x788000_2) ∧ w'.cell? ⟨gb787, 1, none⟩ = some (.int .i64 x788001_2)) (ds := []) (B_ 6 0) kf_ rfl rfl ⟨ce_ BK787 0, ce_ BK787 1⟩ (fun hHeld => ?_)
 generalize wr.drew = w190 at HO_789000 HO_789001 BK784 BK785 BK787 BK788 HB hHeld ⊢
 refine pure_ (i := 0) (N := some 123) (v := ?_) (a' := ?_) (B_ 6 1) rfl rfl kf_ (fun _ _ _ h => h) (Or.inl ⟨by rfl, ?_⟩) ?_ ?_
 rotate_left
 {
 intro w'
 go_simp
 with_reducible rfl}
 rotate_left
 {
 exact sp_}
 refine pure_ (i := 2) (N := some 125) (v := ?_) (a' := ?_) (B_ 6 5) rfl rfl kf_ (fun _ _ _ h => h) (Or.inl ⟨by rfl, ?_⟩) ?_ ?_
 rotate_left
 {
 intro w'
 go_simp
 with_reducible rfl}
 rotate_left
 {
 exact sp_}
 refine take_ (i := 3) (N := some 126) (v := ?_) (a' := ?_) (B_ 6 13) rfl rfl kf_ (fun _ _ _ h => h) (Or.inl ⟨by rfl, ?_⟩) hHeld ?_ ?_
 rotate_left
 {
 rintro w' ⟨s0, s1⟩
 go_simp
 with_reducible rfl}
 rotate_left
 {
 exact sp_}
 refine one_ (i := 1) (N := some 124) (B_ 6 15) rfl rfl kf_ (by decide) (fun K hK => ?_)
 refine goes_ Try.func61 kf_ rfl #[.slice A1 l1.length c1] (by rfl) rfl rfl ar_ ?_
 with_reducible refine (psalteryref01_Bits.calls k2 _ _ l1 t814 _ ?side1 ?side2 A172.out).mono ?_
 (case side1 => exact kC_ HR1 HB)
 (case side2 => exact HC1.out)
 rintro e w191 ⟨v815, rfl, ho0, hb⟩
 refine ⟨_, rfl, ?_⟩
 replace HO_789000 := Aside0.mk (Kd.S_elder' (kS_ HO_789000) (Kd.R_base ho0) hb)
 replace HO_789001 := FS_ HO_789001 hb
 have HO816 := Aside0.mk (Kd.R_lower ho0 (bs_ HB))
 replace BK784 := FB_ BK784 hb
 replace BK785 := FB_ BK785 hb
 replace BK787 := FB_ BK787 hb
 replace BK788 := FB_ BK788 hb
 replace HB := BS_ HB hb
 (try clear hb)
 (try clear ho0)
 obtain ⟨Ao192, co192, eo192⟩ := Kd.R_slice HO816.out
 (first | subst eo192 | (injection eo192 with f1_ f2_ f3_; have f4_ := f1_.symm; have f5_ := f3_.symm; clear f1_ f2_ f3_; subst f4_; subst f5_))
 have q820 : (x788000_2 : Int) ≤ ((t814.length : Int) : Int) := of_decide_eq_true am_
 obtain ⟨i0820, hi0820, _, hsz820, _⟩ := info_parts info3
 have hroom820 : t814.length ≤ co192 := (Kd.R_reads' HO816.out).2.1
 have hC820 : Kd.C (Kd.int .i64) _ Ao192 t814.length t814 := (Kd.R_reads' HO816.out).2.2
 have q0820 : (0 : Int) ≤ (x788000_2 : Int) := of_decide_eq_true am_
 have hcut820 := cut_from (P := Try.prog) 22 3 .i64 Try.underlying22 hi0820 1 hsz820 Ao192 t814.length co192 x788000_2 q0820 q820
 have hr820 := Kd.C_drop (m := (x788000_2 : Int).toNat) (c := co192) hC820 (by omega) hroom820
 obtain ⟨A820, hA820⟩ : ∃ A1, A1 = (if co192 = (x788000_2 : Int).toNat then Ao192 else (Ao192 : Option Addr).map (·.add ((x788000_2 : Int).toNat * 1))) := ⟨_, rfl⟩
 obtain ⟨c820, hc820⟩ : ∃ c1, c1 = co192 - (x788000_2 : Int).toNat := ⟨_, rfl⟩
 have hy820 : y817.length = t814.length - (x788000_2 : Int).toNat := (by rw [Ny817.out, List.length_drop] <;> omega)
 rw [show (t814).drop (x788000_2 : Int).toNat = y817 from Ny817.out.symm] at hr820
 replace hr820 : Kd.C (Kd.int .i64) _ A820 y817.length y817 := (by rw [hA820]; exact hr820)
 rw [← hy820, ← hA820, ← hc820] at hcut820
 have HR820 := Aside0.mk hr820
 have HC820 := Aside0.mk (show y817.length ≤ c820 from by rw [hy820, hc820]; exact Nat.sub_le_sub_right hroom820 _)
 clear hr820 hC820 hroom820 hi0820 hsz820 hc820
 have KY820 := Aside0.mk hy820
 have KA820 := Aside0.mk hA820
 clear hy820 hA820
 have KL820 := Aside0.mk (show (x788000_2 : Int).toNat ≤ t814.length from by omega)
 replace q820 := eq_true q820
 refine hK.out _ _ ⟨ce_ BK787 0, ce_ BK787 1⟩ (fun hHeld => ?_)
 clear hK K
 refine norm_ (a' := ?_) ?_ ?_
 rotate_left
 {
 show Act.put _ (some 124) _ = _
 exact sp_}
 refine pure_ (i := 4) (N := some 127) (v := ?_) (a' := ?_) (B_ 6 31) rfl rfl kf_ (fun _ _ _ h => h) (Or.inl ⟨by rfl, ?_⟩) ?_ ?_
 rotate_left
 {
 intro w'
 go_simp
 with_reducible rfl}
 rotate_left
 {
 exact sp_}
 refine pure_ (i := 5) (N := some 20) (v := ?_) (a' := ?_) (B_ 6 63) rfl rfl kf_ (fun _ _ _ h => h) (Or.inl ⟨by rfl, ?_⟩) ?_ ?_
 rotate_left
 {
 intro w'
 go_simp
 with_reducible rfl}
 rotate_left
 {
 exact sp_}
 refine done_ kf_ ?_
 try go_wp2
 go_loopg [21] k2 (fun kq v21 w' => ∃ (x21_3 : Int), v21 = .int .i64 x21_3 ∧ Aside0 (psalteryref17_Read.l4 kq y817 x21_3 x789000_1 x789001_2 = some (r1, r2, r3)) ∧ Aside0 (kq ≤ k2) ∧ Aside0 (Kd.S (Kd.slice 3 (Kd.int .i64)) 22 w' w.heap.size (fun _ => True) u789000 x789000_1) ∧ Aside0 (Kd.S (Kd.slice 2 (Kd.int .i64)) 84 w' w.heap.size (fun _ => True) u789001 x789001_2) ∧ Aside0 (w'.heap[gb784]? = some (.cells #[.int .i64 a0_0, .int .i64 a0_1, (.slice A0_2 l0_2.length c0_2), (.slice A0_3 l0_3.length c0_3)] 28 (0, 0))) ∧ Aside0 (w'.heap[gb785]? = some (.cells #[(.slice none 0 0), (.slice none 0 0)] 51 (0, 0))) ∧ Aside0 (w'.heap[gb787]? = some (.cells #[.int .i64 x788000_2, .int .i64 x788001_2] 101 (0, 0))) ∧ Aside0 (w'.heap[gb788]? = some (.cells #[u789000, u789001] 51 (0, 0))) ∧ Aside0 (Kd.C (Kd.int .i64) w' A820 y817.length y817) ∧ Aside0 (Below w.heap.size w w'))
 case atStart => exact ⟨(0), rs_, H', ⟨Nat.le_refl _⟩, ⟨by (with_reducible repeat (first | apply Kd.S_alloc | apply Kd.S_drewN | apply Kd.S_drew)); exact Kd.S_mono HO_789000.out (fun _ hk => trivial)⟩, ⟨kS_ HO_789001⟩, ⟨bk_ BK784⟩, ⟨bk_ BK785⟩, ⟨bk_ BK787⟩, ⟨bk_ BK788⟩, ⟨by repeat (first | (with_reducible exact HR820.out) | (with_reducible refine Kd.C_alloc ?_ _) | (with_reducible refine Kd.C_drewN ?_ _) | (with_reducible refine Kd.C_drew ?_) | exact HR820.out)⟩, ⟨bl_ HB⟩⟩
 case round => (
 clear H'
 try clear c1
 try clear c15
 try clear c111
 try clear c111b0
 try clear c173
 try clear c173b0
 try clear c173b1
 try clear c174
 try clear c174b0
 try clear c174b1
 try clear c175
 try clear c175b0
 try clear c175b1
 try clear hcz189_0
 try clear hcz189_1
 try clear hcz189_2
 try clear hcz189_3
 try clear hfz189_0
 try clear hfz189_1
 try clear hfz189_2
 try clear hfz189_3
 try clear q0820
 try clear q820
 obtain ⟨x21_3, rfl, HA, HK3, HO_789000, HO_789001, BK784, BK785, BK787, BK788, HR820, HB⟩ := hrel
 cases gk with
 | zero => exact absurd HA.out (by simp [psalteryref17_Read.l4])
 | succ k3 => (
 have H := HA.out
 clear HA
 simp only [psalteryref17_Read.l4] at H
 by_cases c193 : x21_3 < (y817.length : Int)
 {
 rw [if_pos c193] at H
 have c193b0 : decide (x21_3 < (y817.length : Int)) = true := decide_eq_true c193
 clear c193
 by_cases c194 : 0 ≤ x21_3
 {
 rw [if_pos c194] at H
 have c194b0 : decide (0 ≤ x21_3) = true := decide_eq_true c194
 clear c194
 by_cases c195 : (rd y817 x21_3) = 0
 {
 rw [if_pos c195] at H
 have c195b0 : ((rd y817 x21_3) == 0) = true := beq_iff_eq.mpr c195
 have c195b1 : ((rd y817 x21_3) != 0) = false := bne_eq_false_iff_eq.mpr c195
 clear c195
 have H' := Aside0.mk H
 clear H
 have p821 : 0 ≤ (x21_3 : Int) := of_decide_eq_true am_
 have q821 : x21_3 < (y817.length : Int) := of_decide_eq_true am_
 obtain ⟨ad821, e821, hx821_0⟩ := Kd.at_int HR820.out x21_3 p821 q821
 cases e821
 (try replace hx821_0 := (HB.out.cell (World.block_lt_of_cell? w _ hx821_0)).trans hx821_0)
 replace p821 := eq_true p821
 replace q821 := eq_true q821
 go_wp2
 go_roundg k3
 case measure => have := HK1.out; have := HK2.out; have := HK3.out; omega
 case rel => exact ⟨(wrap64 (x21_3 + 1)), rs_, H', ⟨by have := HK1.out; have := HK2.out; have := HK3.out; omega⟩, ⟨kS_ HO_789000⟩, ⟨kS_ HO_789001⟩, ⟨bk_ BK784⟩, ⟨bk_ BK785⟩, ⟨bk_ BK787⟩, ⟨bk_ BK788⟩, ⟨by repeat (first | (with_reducible exact HR820.out) | (with_reducible refine Kd.C_alloc ?_ _) | (with_reducible refine Kd.C_drewN ?_ _) | (with_reducible refine Kd.C_drew ?_) | exact HR820.out)⟩, ⟨bl_ HB⟩⟩}
 {
 rw [if_neg c195] at H
 have c195b0 : ((rd y817 x21_3) == 0) = false := beq_eq_false_iff_ne.mpr c195
 have c195b1 : ((rd y817 x21_3) != 0) = true := bne_iff_ne.mpr c195
 simp only [Option.some.injEq, Prod.mk.injEq] at H
 obtain ⟨rfl, rfl, rfl⟩ := H
 have p821 : 0 ≤ (x21_3 : Int) := of_decide_eq_true am_
 have q821 : x21_3 < (y817.length : Int) := of_decide_eq_true am_
 obtain ⟨ad821, e821, hx821_0⟩ := Kd.at_int HR820.out x21_3 p821 q821
 cases e821
 (try replace hx821_0 := (HB.out.cell (World.block_lt_of_cell? w _ hx821_0)).trans hx821_0)
 replace p821 := eq_true p821
 replace q821 := eq_true q821
 have hnb196 := NB785_784.out
 have hnc196 := NB784_785.out
 have hnb197 := NB785_787.out
 have hnc197 := NB787_785.out
 have hnb198 := NB785_788.out
 have hnc198 := NB788_785.out
 obtain ⟨hcz199_0, hcz199_1, hfz199_0, hfz199_1⟩ := e2_ BK785
 go_wp2
 refine bodyPost_ret (results_ct rfl _ _ gb785 51 #[.slice none 0 0, .slice none 0 0] (0, 0) _ rfl (bp_ BK785) Try.underlying51 rfl kf_) rfl ?_
 exact ⟨_, _, by first | rfl | (simp [errW_none, errW_some] <;> rfl) | (simp [*, errW_none, errW_some] <;> rfl), by first | exact Kd.S_nil _ _ _ _ _ | exact Kd.N_nil _ _ _ _ _ | exact Kd.V_nil _ _ _ _ _ | exact Kd.Q_nil _ _ _ _ _ | exact Kd.R_nil _ _ _ _ _, by first | exact Kd.S_nil _ _ _ _ _ | exact Kd.N_nil _ _ _ _ _ | exact Kd.V_nil _ _ _ _ _ | exact Kd.Q_nil _ _ _ _ _ | exact Kd.R_nil _ _ _ _ _, bl_ HB⟩}}
 {
 rw [if_neg c194] at H
 exact absurd H (by simp)}}
 {
 rw [if_neg c193] at H
 have c193b0 : decide (x21_3 < (y817.length : Int)) = false := decide_eq_false c193
 clear c193
 simp only [Option.some.injEq, Prod.mk.injEq] at H
 obtain ⟨rfl, rfl, rfl⟩ := H
 have hnb200 := NB788_784.out
 have hnc200 := NB784_788.out
 have hnb201 := NB788_785.out
 have hnc201 := NB785_788.out
 have hnb202 := NB788_787.out
 have hnc202 := NB787_788.out
 obtain ⟨hcz203_0, hcz203_1, hfz203_0, hfz203_1⟩ := e2_ BK788
 obtain ⟨Ao204, co204, eo204⟩ := Kd.S_slice HO_789000.out
 subst eo204
 have hnb205 := NB785_784.out
 have hnc205 := NB784_785.out
 have hnb206 := NB785_787.out
 have hnc206 := NB787_785.out
 obtain ⟨hcz207_0, hcz207_1, hfz207_0, hfz207_1⟩ := e2_ BK785
 obtain ⟨Ao208, co208, eo208⟩ := Kd.S_slice HO_789001.out
 subst eo208
 go_wp2
 refine bodyPost_ret (results_ct rfl _ _ gb785 51 #[.slice Ao204 x789000_1.length co204, .slice Ao208 x789001_2.length co208] (0, 0) _ rfl (bp_ BK785) Try.underlying51 rfl kf_) rfl ?_
 exact ⟨_, _, by first | rfl | (simp [errW_none, errW_some] <;> rfl) | (simp [*, errW_none, errW_some] <;> rfl), by (with_reducible repeat (first | apply Kd.S_alloc | apply Kd.S_drewN | apply Kd.S_drew)); exact Kd.S_mono (Kd.S_far (p := ⟨gb785, 1, none⟩) (Kd.S_far (p := ⟨gb785, 0, none⟩) (Kd.S_types HO_789000.out BK785.out (by decide)) (fun _ hk => hk.2) (.slice Ao204 x789000_1.length co204)) (fun _ hk => hk.2) (.slice Ao208 x789001_2.length co208)) (fun _ hk => trivial), by (with_reducible repeat (first | apply Kd.S_alloc | apply Kd.S_drewN | apply Kd.S_drew)); exact Kd.S_mono (Kd.S_far (p := ⟨gb785, 1, none⟩) (Kd.S_far (p := ⟨gb785, 0, none⟩) (Kd.S_types HO_789001.out BK785.out (by decide)) (fun _ hk => hk.2) (.slice Ao204 x789000_1.length co204)) (fun _ hk => hk.2) (.slice Ao208 x789001_2.length co208)) (fun _ hk => trivial), bl_ HB⟩}))}}
 {
 rw [if_neg c174] at H
 exact absurd H (by simp)}}
 {
 rw [if_neg c173] at H
 exact absurd H (by simp)}}))}))}
 {
 replace c4 := Bool.eq_false_iff.mpr c4
 subst c4
 rw [if_neg (show ¬ (false = true) by decide)] at H
 simp only [Option.some.injEq, Prod.mk.injEq] at H
 obtain ⟨rfl, rfl, rfl⟩ := H
 go_enter Try.func35, Try.ntmps35
 go_wp2_with (first | ((with_reducible refine gate_dst (N := 2) rfl ?_); (try (refine gate_guard (by rfl) ?_; dsimp only)); refine bx_ HB 2 #[.int .i64 a0_0, .int .i64 a0_1, .slice A0_2 l0_2.length c0_2, .slice A0_3 l0_3.length c0_3] 28 ?_; clear HB; intro gb784 hg w209 hb BK784 GE784 HB; have GW784 := GE784; clear hb hg) | ((with_reducible refine gate_dst (N := 4) rfl ?_); (try (refine gate_guard (by rfl) ?_; dsimp only)); refine bx_ HB 4 #[.slice none 0 0, .slice none 0 0] 51 ?_; clear HB; intro gb785 hg w210 hb BK785 GE785 HB; have GW785 := GE785; obtain ⟨NB784_785, NB785_784⟩ := NN_ BK784 hg; replace BK784 := FB_ BK784 hb; clear hb hg; have hnb211 := NB784_785.out; have hnc211 := NB785_784.out; obtain ⟨hcz212_0, hcz212_1, hcz212_2, hcz212_3, hfz212_0, hfz212_1, hfz212_2, hfz212_3⟩ := e4_ BK784) | ((with_reducible refine gate_callee (f := 18) rfl ?_); refine gL_ (some 23) Try.func18 #[.agg #[.int .i64 a0_0, .int .i64 a0_1, .slice A0_2 l0_2.length c0_2, .slice A0_3 l0_3.length c0_3]] ?_; (with_reducible refine (psalteryref16_Right.calls k a0_0 a0_1 _ _ l0_2 _ _ l0_3 false _ ?side1 ?side2 ?side3 ?side4 A3.out).mono ?_); (case side1 => exact kC_ HR0_2 HB); (case side2 => exact HC0_2.out); (case side3 => exact kC_ HR0_3 HB); (case side4 => exact HC0_3.out); rintro e w213 ⟨rfl, hb⟩; refine ⟨_, rfl, ?_⟩; replace BK784 := FB_ BK784 hb; replace BK785 := FB_ BK785 hb; replace HB := BS_ HB hb; (try clear hb); obtain ⟨hcz214_0, hcz214_1, hfz214_0, hfz214_1⟩ := e2_ BK785))
 refine bodyPost_ret (results_ct rfl _ _ gb785 51 #[.slice none 0 0, .slice none 0 0] (0, 0) _ rfl (bp_ BK785) Try.underlying51 rfl kf_) rfl ?_
 exact ⟨_, _, by first | rfl | (simp [errW_none, errW_some] <;> rfl) | (simp [*, errW_none, errW_some] <;> rfl), by first | exact Kd.S_nil _ _ _ _ _ | exact Kd.N_nil _ _ _ _ _ | exact Kd.V_nil _ _ _ _ _ | exact Kd.Q_nil _ _ _ _ _ | exact Kd.R_nil _ _ _ _ _, by first | exact Kd.S_nil _ _ _ _ _ | exact Kd.N_nil _ _ _ _ _ | exact Kd.V_nil _ _ _ _ _ | exact Kd.Q_nil _ _ _ _ _ | exact Kd.R_nil _ _ _ _ _, bl_ HB⟩}
end Go.Proofs.Ytpdfdaoohknfoaa.P
