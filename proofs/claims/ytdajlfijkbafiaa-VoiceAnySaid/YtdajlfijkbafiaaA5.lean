/- Words, walks and what they compute, as the law's proof needs them. -/
import Derived.Test.YtdajlfijkbafiaaA3
import Derived.Test.YtdajlfijkbafiaaA4
set_option linter.unusedVariables false
set_option linter.unusedSimpArgs false
namespace Go.Proofs.Ytdajlfijkbafiaa.P
open Go.RowKit Go.Proofs.YtdajlfijkbafiaaW.PrintWords Go.Proofs.YtdajlfijkbafiaaW.PrintLast Go.Proofs.YtdajlfijkbafiaaW.PrintMore
attribute [local go_sem] max2_int min2_int max_two min_two max_three min_three max_four min_four
mutual
def vcodec_Right.j0 : Nat → Bool → List (List Int) → Option (Bool)
  | 0, _, _ => none
  | k + 1, x19, x301000 => if x19 = true then (some false) else (vcodec_Right.l0 k x301000 (x301000.length : Int) 0)
def vcodec_Right.l0 : Nat → List (List Int) → Int → Int → Option (Bool)
  | 0, _, _, _ => none
  | k + 1, x21, x22, x23 => if x23 < x22 then (if 0 ≤ x23 then (if x23 < (x21.length : Int) then ((band_Split.f k (rd_L2 x21 x23)).bind fun bt303 => (if bt303.2 = 0 then (vcodec_Right.l0 k x21 x22 (wrap64 (x23 + 1))) else (some false))) else (none)) else (none)) else (some true)
end
def vcodec_Right.f (k : Nat) (a0_0 : Int) (a0_1 : Int) (l0_2 : List Int) (l0_3 : List Int) (l1_0 : List (List Int)) : Option (Bool) := (vhead_Right.f k a0_0 a0_1 l0_2 l0_3).bind fun t301 => (if t301 = true then (vcodec_Right.j0 k ((l1_0.length : Int) != a0_0) l1_0) else (vcodec_Right.j0 k true l1_0))
theorem vcodec_Right.mono_l : ∀ k, (∀ y0 y1, LeO (vcodec_Right.j0 k y0 y1) (vcodec_Right.j0 (k + 1) y0 y1)) ∧ (∀ y0 y1 y2, LeO (vcodec_Right.l0 k y0 y1 y2) (vcodec_Right.l0 (k + 1) y0 y1 y2))
  | 0 => ⟨fun _ _ r h => by simp [vcodec_Right.j0] at h, fun _ _ _ r h => by simp [vcodec_Right.l0] at h⟩
  | k + 1 => by
    obtain ⟨ih0, ih1⟩ := vcodec_Right.mono_l k
    refine ⟨?_, ?_⟩
    all_goals (intros; first | unfold vcodec_Right.j0 | unfold vcodec_Right.l0)
    all_goals with_reducible repeat' first
     | exact ih0 _ _
     | exact ih1 _ _ _
     | exact band_Split.mono _ _
     | exact vhead_Right.mono _ _ _ _ _
     | exact LeO.refl _
     | exact LeO.none _
     | refine LeO.ite ?_ ?_
     | refine LeO.bind ?_ (fun _ => ?_)
theorem vcodec_Right.mono : ∀ a0 a1 a2 a3 a4 k, LeO (vcodec_Right.f k a0 a1 a2 a3 a4) (vcodec_Right.f (k + 1) a0 a1 a2 a3 a4) := by
  intro a0 a1 a2 a3 a4 k
  obtain ⟨ih0, ih1⟩ := vcodec_Right.mono_l k
  unfold vcodec_Right.f
  with_reducible repeat' first
   | exact ih0 _ _
   | exact ih1 _ _ _
   | exact band_Split.mono _ _
   | exact vhead_Right.mono _ _ _ _ _
   | exact LeO.refl _
   | exact LeO.none _
   | refine LeO.ite ?_ ?_
   | refine LeO.bind ?_ (fun _ => ?_)
set_option maxHeartbeats 8000000 in
set_option maxRecDepth 100000 in
theorem vcodec_Right.calls (k : Nat) (a0_0 : Int) (a0_1 : Int) (A0_2 : Option Addr) (c0_2 : Nat) (l0_2 : List Int) (A0_3 : Option Addr) (c0_3 : Nat) (l0_3 : List Int) (A1_0 : Option Addr) (c1_0 : Nat) (l1_0 : List (List Int)) (r : Bool) (w : World) (hr0_2 : Kd.C (Kd.int .i64) w A0_2 l0_2.length l0_2) (hc0_2 : l0_2.length ≤ c0_2) (hr0_3 : Kd.C (Kd.int .i64) w A0_3 l0_3.length l0_3) (hc0_3 : l0_3.length ≤ c0_3) (hr1_0 : Kd.C (Kd.slice 2 (Kd.int .i64)) w A1_0 l1_0.length l1_0) (hc1_0 : l1_0.length ≤ c1_0) (h : vcodec_Right.f k a0_0 a0_1 l0_2 l0_3 l1_0 = some r) :
    Calls Try.prog 16 #[.agg #[.int .i64 a0_0, .int .i64 a0_1, .slice A0_2 l0_2.length c0_2, .slice A0_3 l0_3.length c0_3], .agg #[.slice A1_0 l1_0.length c1_0]] w fun e w' => e = .returned (.bool r) ∧ Below w.heap.size w w' := by
 have hu24 := Try.underlying24
 have hu37 := Try.underlying37
 have HR0_2 := Aside0.mk hr0_2
 have HC0_2 := Aside0.mk hc0_2
 clear hr0_2 hc0_2
 have HR0_3 := Aside0.mk hr0_3
 have HC0_3 := Aside0.mk hc0_3
 clear hr0_3 hc0_3
 have HR1_0 := Aside0.mk hr1_0
 have HC1_0 := Aside0.mk hc1_0
 clear hr1_0 hc1_0
 have HB := Aside0.mk (Below.refl w.heap.size w)
 have H : ((vhead_Right.f k a0_0 a0_1 l0_2 l0_3).bind fun t301 => (if t301 = true then (vcodec_Right.j0 k ((l1_0.length : Int) != a0_0) l1_0) else (vcodec_Right.j0 k true l1_0))) = some r := h
 clear h
 have HC3 := Aside0.mk H
 clear H
 go_enter Try.func16, Try.ntmps16
 go_upto_region 1 with (first | ((with_reducible refine gate_dst (N := 2) rfl ?_); (try (refine gate_guard (by rfl) ?_; dsimp only)); refine bx_ HB 2 #[.int .i64 a0_0, .int .i64 a0_1, .slice A0_2 l0_2.length c0_2, .slice A0_3 l0_3.length c0_3] 24 ?_; clear HB; intro gb299 hg w4 hb BK299 GE299 HB; have GW299 := GE299; clear hb hg) | ((with_reducible refine gate_dst (N := 3) rfl ?_); (try (refine gate_guard (by rfl) ?_; dsimp only)); refine bx_ HB 3 #[.slice A1_0 l1_0.length c1_0] 37 ?_; clear HB; intro gb300 hg w5 hb BK300 GE300 HB; have GW300 := GE300; obtain ⟨NB299_300, NB300_299⟩ := NN_ BK299 hg; replace BK299 := FB_ BK299 hb; clear hb hg))
 (try simp only [Act.put, List.setIfInBounds_toArray, List.set_cons_zero, List.set_cons_succ])
 go_cut [19] (fun v19 wc => ∃ (kq : Nat) (x19_2 : Bool), v19 = .bool x19_2 ∧ Aside0 (vcodec_Right.j0 kq x19_2 l1_0 = some r) ∧ Aside0 (kq ≤ k) ∧ Aside0 (wc.heap[gb299]? = some (.cells #[.int .i64 a0_0, .int .i64 a0_1, (.slice A0_2 l0_2.length c0_2), (.slice A0_3 l0_3.length c0_3)] 24 (0, 0))) ∧ Aside0 (wc.heap[gb300]? = some (.cells #[(.slice A1_0 l1_0.length c1_0)] 37 (0, 0))) ∧ Aside0 (Below w.heap.size w wc))
 case first => (
 have H := HC3.out
 clear HC3
 obtain ⟨t301, A6, H⟩ := ob_ H
 (try dsimp only at H)
 by_cases c7 : t301 = true
 {
 subst c7
 rw [if_pos rfl] at H
 have H' := Aside0.mk H
 clear H
 have hnb8 := NB299_300.out
 have hnc8 := NB300_299.out
 obtain ⟨hcz9_0, hcz9_1, hcz9_2, hcz9_3, hfz9_0, hfz9_1, hfz9_2, hfz9_3⟩ := e4_ BK299
 go_wp2_with (first | ((with_reducible refine gate_callee (f := 41) rfl ?_); refine gL_ (some 10) Try.func41 #[.agg #[.int .i64 a0_0, .int .i64 a0_1, .slice A0_2 l0_2.length c0_2, .slice A0_3 l0_3.length c0_3]] ?_; (with_reducible refine (vhead_Right.calls k a0_0 a0_1 _ _ l0_2 _ _ l0_3 true _ ?side1 ?side2 ?side3 ?side4 A6.out).mono ?_); (case side1 => exact kC_ HR0_2 HB); (case side2 => exact HC0_2.out); (case side3 => exact kC_ HR0_3 HB); (case side4 => exact HC0_3.out); rintro e w10 ⟨rfl, hb⟩; refine ⟨_, rfl, ?_⟩; replace BK299 := FB_ BK299 hb; replace BK300 := FB_ BK300 hb; replace HB := BS_ HB hb; (try clear hb); obtain ⟨hcz11_0, hfz11_0⟩ := e1_ BK300; obtain ⟨hcz12_0, hcz12_1, hcz12_2, hcz12_3, hfz12_0, hfz12_1, hfz12_2, hfz12_3⟩ := e4_ BK299))
 go_meet
 case rel => exact ⟨_, (((l1_0.length : Int) != a0_0)), rs_, H', ⟨ol_⟩, ⟨bk_ BK299⟩, ⟨bk_ BK300⟩, ⟨bl_ HB⟩⟩}
 {
 replace c7 := Bool.eq_false_iff.mpr c7
 subst c7
 rw [if_neg (show ¬ (false = true) by decide)] at H
 have H' := Aside0.mk H
 clear H
 have hnb13 := NB299_300.out
 have hnc13 := NB300_299.out
 obtain ⟨hcz14_0, hcz14_1, hcz14_2, hcz14_3, hfz14_0, hfz14_1, hfz14_2, hfz14_3⟩ := e4_ BK299
 go_wp2_with (first | ((with_reducible refine gate_callee (f := 41) rfl ?_); refine gL_ (some 10) Try.func41 #[.agg #[.int .i64 a0_0, .int .i64 a0_1, .slice A0_2 l0_2.length c0_2, .slice A0_3 l0_3.length c0_3]] ?_; (with_reducible refine (vhead_Right.calls k a0_0 a0_1 _ _ l0_2 _ _ l0_3 false _ ?side1 ?side2 ?side3 ?side4 A6.out).mono ?_); (case side1 => exact kC_ HR0_2 HB); (case side2 => exact HC0_2.out); (case side3 => exact kC_ HR0_3 HB); (case side4 => exact HC0_3.out); rintro e w15 ⟨rfl, hb⟩; refine ⟨_, rfl, ?_⟩; replace BK299 := FB_ BK299 hb; replace BK300 := FB_ BK300 hb; replace HB := BS_ HB hb; (try clear hb)))
 go_meet
 case rel => exact ⟨_, (true), rs_, H', ⟨ol_⟩, ⟨bk_ BK299⟩, ⟨bk_ BK300⟩, ⟨bl_ HB⟩⟩})
 case rest => (
 clear HC3
 obtain ⟨kq, x19_2, rfl, HA, HJ2, BK299, BK300, HB⟩ := hcut
 cases kq with
 | zero => exact absurd HA.out (by simp [vcodec_Right.j0])
 | succ kj2 => (
 have H := HA.out
 clear HA
 simp only [vcodec_Right.j0] at H
 by_cases c16 : x19_2 = true
 {
 subst c16
 rw [if_pos rfl] at H
 obtain rfl := Option.some.inj H
 go_wp2
 go_ret
 exact ⟨by first | rfl | (simp [errW_none, errW_some] <;> rfl) | (simp [*, errW_none, errW_some] <;> rfl), bl_ HB⟩}
 {
 replace c16 := Bool.eq_false_iff.mpr c16
 subst c16
 rw [if_neg (show ¬ (false = true) by decide)] at H
 have H' := Aside0.mk H
 clear H
 have hnb17 := NB300_299.out
 have hnc17 := NB299_300.out
 obtain ⟨hcz18_0, hfz18_0⟩ := e1_ BK300
 go_wp2
 go_loopg [23] kj2 (fun kq v23 w' => ∃ (x23_2 : Int), v23 = .int .i64 x23_2 ∧ Aside0 (vcodec_Right.l0 kq l1_0 (l1_0.length : Int) x23_2 = some r) ∧ Aside0 (kq ≤ kj2) ∧ Aside0 (w'.heap[gb299]? = some (.cells #[.int .i64 a0_0, .int .i64 a0_1, (.slice A0_2 l0_2.length c0_2), (.slice A0_3 l0_3.length c0_3)] 24 (0, 0))) ∧ Aside0 (w'.heap[gb300]? = some (.cells #[(.slice A1_0 l1_0.length c1_0)] 37 (0, 0))) ∧ Aside0 (Below w.heap.size w w'))
 case atStart => exact ⟨(0), rs_, H', ⟨Nat.le_refl _⟩, ⟨bk_ BK299⟩, ⟨bk_ BK300⟩, ⟨bl_ HB⟩⟩
 case round => (
 clear H'
 try clear c16
 try clear hcz18_0
 try clear hfz18_0
 obtain ⟨x23_2, rfl, HA, HK2, BK299, BK300, HB⟩ := hrel
 cases gk with
 | zero => exact absurd HA.out (by simp [vcodec_Right.l0])
 | succ k2 => (
 have H := HA.out
 clear HA
 simp only [vcodec_Right.l0] at H
 by_cases c19 : x23_2 < (l1_0.length : Int)
 {
 rw [if_pos c19] at H
 have c19b0 : decide (x23_2 < (l1_0.length : Int)) = true := decide_eq_true c19
 clear c19
 by_cases c20 : 0 ≤ x23_2
 {
 rw [if_pos c20] at H
 have c20b0 : decide (0 ≤ x23_2) = true := decide_eq_true c20
 clear c20
 by_cases c21 : x23_2 < (l1_0.length : Int)
 {
 rw [if_pos c21] at H
 have c21b0 : decide (x23_2 < (l1_0.length : Int)) = true := decide_eq_true c21
 clear c21
 obtain ⟨⟨t303, t306⟩, A22, H⟩ := ob_ H
 (try dsimp only at H)
 by_cases c23 : t306 = 0
 {
 rw [if_pos c23] at H
 have c23b0 : (t306 == 0) = true := beq_iff_eq.mpr c23
 have c23b1 : (t306 != 0) = false := bne_eq_false_iff_eq.mpr c23
 clear c23
 have H' := Aside0.mk H
 clear H
 have p302 : 0 ≤ (x23_2 : Int) := of_decide_eq_true am_
 have q302 : x23_2 < (l1_0.length : Int) := of_decide_eq_true am_
 obtain ⟨ad302, A302_0, c302_0, e302, hx302_0, hl302_0, hi302_0⟩ := at_L2 HR1_0.out x23_2 p302 q302
 cases e302
 replace hx302_0 := (HB.out.cell (World.block_lt_of_cell? w _ hx302_0)).trans hx302_0
 have HR302_0 := Aside0.mk hi302_0
 have HC302_0 := Aside0.mk hl302_0
 clear hi302_0 hl302_0
 replace p302 := eq_true p302
 replace q302 := eq_true q302
 go_wp2_with (first | ((with_reducible refine gate_callee (f := 42) rfl ?_); refine gL_ (some 29) Try.func42 #[.slice A302_0 (rd_L2 l1_0 x23_2).length c302_0] ?_; (with_reducible refine (band_Split.calls k2 _ _ (rd_L2 l1_0 x23_2) t303 t306 _ ?side1 ?side2 A22.out).mono ?_); (case side1 => exact kC_ HR302_0 HB); (case side2 => exact HC302_0.out); rintro e w24 ⟨v304, rfl, ho0, hb⟩; refine ⟨_, rfl, ?_⟩; have HO305 := Aside0.mk (Kd.N_lower (Kd.N_mono (ok' := fun k_ => k_ ≠ gb299 ∧ k_ ≠ gb300) ho0 (fun k_ hk_ => ⟨(Kd.freshB (g := gb299) (o := .cells #[.int .i64 a0_0, .int .i64 a0_1, .slice A0_2 l0_2.length c0_2, .slice A0_3 l0_3.length c0_3] 24 (0, 0)) (bk_ BK299) k_ hk_), (Kd.freshB (g := gb300) (o := .cells #[.slice (some ad302) l1_0.length c1_0] 37 (0, 0)) (bk_ BK300) k_ hk_)⟩)) (bs_ HB)); replace BK299 := FB_ BK299 hb; replace BK300 := FB_ BK300 hb; replace HB := BS_ HB hb; (try clear hb); (try clear ho0)))
 go_roundg k2
 case measure => have := HJ2.out; have := HK2.out; omega
 case rel => exact ⟨(wrap64 (x23_2 + 1)), rs_, H', ⟨by have := HJ2.out; have := HK2.out; omega⟩, ⟨bk_ BK299⟩, ⟨bk_ BK300⟩, ⟨bl_ HB⟩⟩}
 {
 rw [if_neg c23] at H
 have c23b0 : (t306 == 0) = false := beq_eq_false_iff_ne.mpr c23
 have c23b1 : (t306 != 0) = true := bne_iff_ne.mpr c23
 obtain rfl := Option.some.inj H
 have p302 : 0 ≤ (x23_2 : Int) := of_decide_eq_true am_
 have q302 : x23_2 < (l1_0.length : Int) := of_decide_eq_true am_
 obtain ⟨ad302, A302_0, c302_0, e302, hx302_0, hl302_0, hi302_0⟩ := at_L2 HR1_0.out x23_2 p302 q302
 cases e302
 replace hx302_0 := (HB.out.cell (World.block_lt_of_cell? w _ hx302_0)).trans hx302_0
 have HR302_0 := Aside0.mk hi302_0
 have HC302_0 := Aside0.mk hl302_0
 clear hi302_0 hl302_0
 replace p302 := eq_true p302
 replace q302 := eq_true q302
 go_wp2_with (first | ((with_reducible refine gate_callee (f := 42) rfl ?_); refine gL_ (some 29) Try.func42 #[.slice A302_0 (rd_L2 l1_0 x23_2).length c302_0] ?_; (with_reducible refine (band_Split.calls k2 _ _ (rd_L2 l1_0 x23_2) t303 t306 _ ?side1 ?side2 A22.out).mono ?_); (case side1 => exact kC_ HR302_0 HB); (case side2 => exact HC302_0.out); rintro e w25 ⟨v304, rfl, ho0, hb⟩; refine ⟨_, rfl, ?_⟩; have HO305 := Aside0.mk (Kd.N_lower (Kd.N_mono (ok' := fun k_ => k_ ≠ gb299 ∧ k_ ≠ gb300) ho0 (fun k_ hk_ => ⟨(Kd.freshB (g := gb299) (o := .cells #[.int .i64 a0_0, .int .i64 a0_1, .slice A0_2 l0_2.length c0_2, .slice A0_3 l0_3.length c0_3] 24 (0, 0)) (bk_ BK299) k_ hk_), (Kd.freshB (g := gb300) (o := .cells #[.slice (some ad302) l1_0.length c1_0] 37 (0, 0)) (bk_ BK300) k_ hk_)⟩)) (bs_ HB)); replace BK299 := FB_ BK299 hb; replace BK300 := FB_ BK300 hb; replace HB := BS_ HB hb; (try clear hb); (try clear ho0)))
 go_ret
 exact ⟨by first | rfl | (simp [errW_none, errW_some] <;> rfl) | (simp [*, errW_none, errW_some] <;> rfl), bl_ HB⟩}}
 {
 rw [if_neg c21] at H
 exact absurd H (by simp)}}
 {
 rw [if_neg c20] at H
 exact absurd H (by simp)}}
 {
 rw [if_neg c19] at H
 have c19b0 : decide (x23_2 < (l1_0.length : Int)) = false := decide_eq_false c19
 clear c19
 obtain rfl := Option.some.inj H
 go_wp2
 go_ret
 exact ⟨by first | rfl | (simp [errW_none, errW_some] <;> rfl) | (simp [*, errW_none, errW_some] <;> rfl), bl_ HB⟩}))}))
def num_Log2.l0 : Nat → Int → Int → Option (Int)
  | 0, _, _ => none
  | k + 1, x0, x3 => if x0 > 0 then (num_Log2.l0 k (x0 / 2) (wrap64 (x3 + 1))) else (some x3)
def num_Log2.f (k : Nat) (a0 : Int) : Option (Int) := num_Log2.l0 k a0 (-1)
theorem num_Log2.mono_l : ∀ k, (∀ y0 y1, LeO (num_Log2.l0 k y0 y1) (num_Log2.l0 (k + 1) y0 y1))
  | 0 => fun _ _ r h => by simp [num_Log2.l0] at h
  | k + 1 => by
    have ih0 := num_Log2.mono_l k
    · intro y0 y1
      unfold num_Log2.l0
      with_reducible repeat' first
   | exact ih0 _ _
   | exact LeO.refl _
   | exact LeO.none _
   | refine LeO.ite ?_ ?_
   | refine LeO.bind ?_ (fun _ => ?_)
theorem num_Log2.mono : ∀ a0 k, LeO (num_Log2.f k a0) (num_Log2.f (k + 1) a0) := by
  intro a0 k
  have ih0 := num_Log2.mono_l k
  unfold num_Log2.f
  with_reducible repeat' first
   | exact ih0 _ _
   | exact LeO.refl _
   | exact LeO.none _
   | refine LeO.ite ?_ ?_
   | refine LeO.bind ?_ (fun _ => ?_)
set_option maxHeartbeats 8000000 in
set_option maxRecDepth 100000 in
theorem num_Log2.calls (k : Nat) (a0 : Int) (r : Int) (w : World) (h : num_Log2.f k a0 = some r) :
    Calls Try.prog 118 #[.int .u64 a0] w fun e w' => e = .returned (.int .i64 r) ∧ Drawn0 w w' := by
 have H : (num_Log2.l0 k a0 (-1)) = some r := h
 clear h
 have H' := Aside0.mk H
 clear H
 go_enter Try.func118, Try.ntmps118
 go_wp2
 go_loopg [0, 3] k (fun kq v0 v3 w' => ∃ (x0_1 : Int) (x3_1 : Int), v0 = .int .u64 x0_1 ∧ v3 = .int .i64 x3_1 ∧ Aside0 (num_Log2.l0 kq x0_1 x3_1 = some r) ∧ Aside0 (kq ≤ k) ∧ Drawn0 w w')
 case atStart => exact ⟨(a0), ((-1)), rs_, rs_, H', ⟨Nat.le_refl _⟩, by repeat (first | exact Drawn0.refl _ | apply Drawn0.step)⟩
 case round => (
 clear H'
 obtain ⟨x0_1, x3_1, rfl, rfl, HA, HK1, ⟨m1, rfl⟩⟩ := hrel
 cases gk with
 | zero => exact absurd HA.out (by simp [num_Log2.l0])
 | succ k1 => (
 have H := HA.out
 clear HA
 simp only [num_Log2.l0] at H
 by_cases c2 : x0_1 > 0
 {
 rw [if_pos c2] at H
 have c2b0 : decide (0 < x0_1) = true := decide_eq_true c2
 clear c2
 have H' := Aside0.mk H
 clear H
 go_wp2
 go_roundg k1
 case measure => have := HK1.out; omega
 case rel => exact ⟨(x0_1 / 2), (wrap64 (x3_1 + 1)), rs_, rs_, H', ⟨by have := HK1.out; omega⟩, by repeat (first | exact Drawn0.refl _ | apply Drawn0.step)⟩}
 {
 rw [if_neg c2] at H
 have c2b0 : decide (0 < x0_1) = false := decide_eq_false c2
 clear c2
 obtain rfl := Option.some.inj H
 go_wp2
 go_ret
 exact ⟨by first | rfl | (simp; done) | (simp [*]; done), by repeat (first | exact Drawn0.refl _ | apply Drawn0.step)⟩}))
def band_gain.f (k : Nat) (a0 : Int) : Option (Int) := (num_Log2.f k a0).bind fun t307 => (some (wrap64 (t307 + 1)))
theorem band_gain.mono : ∀ a0 k, LeO (band_gain.f k a0) (band_gain.f (k + 1) a0) := by
  intro a0 k
  unfold band_gain.f
  with_reducible repeat' first
   | exact num_Log2.mono _ _
   | exact LeO.refl _
   | exact LeO.none _
   | refine LeO.ite ?_ ?_
   | refine LeO.bind ?_ (fun _ => ?_)
set_option maxHeartbeats 8000000 in
set_option maxRecDepth 100000 in
theorem band_gain.calls (k : Nat) (a0 : Int) (r : Int) (w : World) (h : band_gain.f k a0 = some r) :
    Calls Try.prog 113 #[.int .u64 a0] w fun e w' => e = .returned (.int .i64 r) ∧ Drawn0 w w' := by
 have H : ((num_Log2.f k a0).bind fun t307 => (some (wrap64 (t307 + 1)))) = some r := h
 clear h
 obtain ⟨t307, A2, H⟩ := ob_ H
 (try dsimp only at H)
 obtain rfl := Option.some.inj H
 go_enter Try.func113, Try.ntmps113
 go_wp2_with (first | ((with_reducible refine gate_callee (f := 118) rfl ?_); refine gL_ (some 4) Try.func118 #[.int .u64 a0] ?_; (with_reducible refine (num_Log2.calls k a0 t307 _ A2.out).mono ?_); rintro e w' ⟨rfl, ⟨nd, rfl⟩⟩; refine ⟨_, rfl, ?_⟩))
 go_ret
 exact ⟨by first | rfl | (simp; done) | (simp [*]; done), by repeat (first | exact Drawn0.refl _ | apply Drawn0.step)⟩
def band_Gain.f (k : Nat) (l0 : List Int) : Option (Int × Int) := (pvq_Square.f k l0).bind fun bt308 => (if bt308.2 = 0 then (if (l0.length : Int) > 8 then (some (0, 1)) else ((band_gain.f k bt308.1).bind fun t310 => (some (t310, 0)))) else (some (0, 1)))
theorem band_Gain.mono : ∀ a0 k, LeO (band_Gain.f k a0) (band_Gain.f (k + 1) a0) := by
  intro a0 k
  unfold band_Gain.f
  with_reducible repeat' first
   | exact band_gain.mono _ _
   | exact pvq_Square.mono _ _
   | exact LeO.refl _
   | exact LeO.none _
   | refine LeO.ite ?_ ?_
   | refine LeO.bind ?_ (fun _ => ?_)
set_option maxHeartbeats 8000000 in
set_option maxRecDepth 100000 in
theorem band_Gain.calls (k : Nat) (A0 : Option Addr) (c0 : Nat) (l0 : List Int) (r1 : Int) (r2 : Int) (w : World) (hr0 : Kd.C (Kd.int .i64) w A0 l0.length l0) (hc0 : l0.length ≤ c0) (h : band_Gain.f k l0 = some (r1, r2)) :
    Calls Try.prog 97 #[.slice A0 l0.length c0] w fun e w' => e = .returned (.tuple #[.int .i64 r1, .int .i64 r2]) ∧ Drawn0 w w' := by
 have HR0 := Aside0.mk hr0
 have HC0 := Aside0.mk hc0
 clear hr0 hc0
 have H : ((pvq_Square.f k l0).bind fun bt308 => (if bt308.2 = 0 then (if (l0.length : Int) > 8 then (some (0, 1)) else ((band_gain.f k bt308.1).bind fun t310 => (some (t310, 0)))) else (some (0, 1)))) = some (r1, r2) := h
 clear h
 obtain ⟨⟨t308, t309⟩, A2, H⟩ := ob_ H
 (try dsimp only at H)
 by_cases c3 : t309 = 0
 {
 rw [if_pos c3] at H
 have c3b0 : (t309 == 0) = true := beq_iff_eq.mpr c3
 have c3b1 : (t309 != 0) = false := bne_eq_false_iff_eq.mpr c3
 clear c3
 by_cases c4 : (l0.length : Int) > 8
 {
 rw [if_pos c4] at H
 have c4b0 : decide (8 < (l0.length : Int)) = true := decide_eq_true c4
 have c4b1 : decide (8 < l0.length) = true := decide_eq_true (by omega)
 clear c4
 simp only [Option.some.injEq, Prod.mk.injEq] at H
 obtain ⟨rfl, rfl⟩ := H
 go_enter Try.func97, Try.ntmps97
 go_wp2_with (first | ((with_reducible refine gate_callee (f := 80) rfl ?_); refine gL_ (some 8) Try.func80 #[.slice A0 l0.length c0] ?_; (with_reducible refine (pvq_Square.calls k _ _ l0 t308 t309 _ ?side1 ?side2 A2.out).mono ?_); (case side1 => repeat (first | exact HR0.out | (with_reducible refine Kd.C_alloc ?_ _) | (with_reducible refine Kd.C_drewN ?_ _) | (with_reducible refine Kd.C_drew ?_))); (case side2 => exact HC0.out); rintro e w' ⟨rfl, ⟨nd, rfl⟩⟩; refine ⟨_, rfl, ?_⟩))
 go_ret2
 exact ⟨by first | rfl | (simp; done) | (simp [*]; done), by repeat (first | exact Drawn0.refl _ | apply Drawn0.step)⟩}
 {
 rw [if_neg c4] at H
 have c4b0 : decide (8 < (l0.length : Int)) = false := decide_eq_false c4
 have c4b1 : decide (8 < l0.length) = false := decide_eq_false (by omega)
 clear c4
 obtain ⟨t310, A5, H⟩ := ob_ H
 (try dsimp only at H)
 simp only [Option.some.injEq, Prod.mk.injEq] at H
 obtain ⟨rfl, rfl⟩ := H
 go_enter Try.func97, Try.ntmps97
 go_wp2_with (first | ((with_reducible refine gate_callee (f := 80) rfl ?_); refine gL_ (some 8) Try.func80 #[.slice A0 l0.length c0] ?_; (with_reducible refine (pvq_Square.calls k _ _ l0 t308 t309 _ ?side1 ?side2 A2.out).mono ?_); (case side1 => repeat (first | exact HR0.out | (with_reducible refine Kd.C_alloc ?_ _) | (with_reducible refine Kd.C_drewN ?_ _) | (with_reducible refine Kd.C_drew ?_))); (case side2 => exact HC0.out); rintro e w' ⟨rfl, ⟨nd, rfl⟩⟩; refine ⟨_, rfl, ?_⟩) | ((with_reducible refine gate_callee (f := 113) rfl ?_); refine gL_ (some 19) Try.func113 #[.int .u64 t308] ?_; (with_reducible refine (band_gain.calls k t308 t310 _ A5.out).mono ?_); rintro e w' ⟨rfl, ⟨nd, rfl⟩⟩; refine ⟨_, rfl, ?_⟩))
 go_ret2
 exact ⟨by first | rfl | (simp; done) | (simp [*]; done), by repeat (first | exact Drawn0.refl _ | apply Drawn0.step)⟩}}
 {
 rw [if_neg c3] at H
 have c3b0 : (t309 == 0) = false := beq_eq_false_iff_ne.mpr c3
 have c3b1 : (t309 != 0) = true := bne_iff_ne.mpr c3
 simp only [Option.some.injEq, Prod.mk.injEq] at H
 obtain ⟨rfl, rfl⟩ := H
 go_enter Try.func97, Try.ntmps97
 go_wp2_with (first | ((with_reducible refine gate_callee (f := 80) rfl ?_); refine gL_ (some 8) Try.func80 #[.slice A0 l0.length c0] ?_; (with_reducible refine (pvq_Square.calls k _ _ l0 t308 t309 _ ?side1 ?side2 A2.out).mono ?_); (case side1 => repeat (first | exact HR0.out | (with_reducible refine Kd.C_alloc ?_ _) | (with_reducible refine Kd.C_drewN ?_ _) | (with_reducible refine Kd.C_drew ?_))); (case side2 => exact HC0.out); rintro e w' ⟨rfl, ⟨nd, rfl⟩⟩; refine ⟨_, rfl, ?_⟩))
 go_ret2
 exact ⟨by first | rfl | (simp; done) | (simp [*]; done), by repeat (first | exact Drawn0.refl _ | apply Drawn0.step)⟩}
def band_Gains.l0 : Nat → List Int → List (List Int) → Int → Int → Option (List Int × Int)
  | 0, _, _, _, _ => none
  | k + 1, x6, x19, x20, x21 => if x21 < x20 then (if 0 ≤ x21 then (if x21 < (x19.length : Int) then ((band_Gain.f k (rd_L2 x19 x21)).bind fun bt316 => (if x6.length < 17592186044416 then (band_Gains.l0 k (x6 ++ [bt316.1]) x19 x20 (wrap64 (x21 + 1))) else (none))) else (none)) else (none)) else (some (x6, 0))
def band_Gains.f (k : Nat) (l0 : List Int) : Option (List Int × Int) := (band_Split.f k l0).bind fun bt311 => (if bt311.2 = 0 then (band_Gains.l0 k ([] : List Int) bt311.1 (bt311.1.length : Int) 0) else (some (([] : List Int), bt311.2)))
theorem band_Gains.mono_l : ∀ k, (∀ y0 y1 y2 y3, LeO (band_Gains.l0 k y0 y1 y2 y3) (band_Gains.l0 (k + 1) y0 y1 y2 y3))
  | 0 => fun _ _ _ _ r h => by simp [band_Gains.l0] at h
  | k + 1 => by
    have ih0 := band_Gains.mono_l k
    · intro y0 y1 y2 y3
      unfold band_Gains.l0
      with_reducible repeat' first
   | exact ih0 _ _ _ _
   | exact band_Gain.mono _ _
   | exact band_Split.mono _ _
   | exact LeO.refl _
   | exact LeO.none _
   | refine LeO.ite ?_ ?_
   | refine LeO.bind ?_ (fun _ => ?_)
theorem band_Gains.mono : ∀ a0 k, LeO (band_Gains.f k a0) (band_Gains.f (k + 1) a0) := by
  intro a0 k
  have ih0 := band_Gains.mono_l k
  unfold band_Gains.f
  with_reducible repeat' first
   | exact ih0 _ _ _ _
   | exact band_Gain.mono _ _
   | exact band_Split.mono _ _
   | exact LeO.refl _
   | exact LeO.none _
   | refine LeO.ite ?_ ?_
   | refine LeO.bind ?_ (fun _ => ?_)
set_option maxHeartbeats 8000000 in
set_option maxRecDepth 100000 in
theorem band_Gains.calls (k : Nat) (A0 : Option Addr) (c0 : Nat) (l0 : List Int) (r1 : List Int) (r2 : Int) (w : World) (hr0 : Kd.C (Kd.int .i64) w A0 l0.length l0) (hc0 : l0.length ≤ c0) (h : band_Gains.f k l0 = some (r1, r2)) :
    Calls Try.prog 74 #[.slice A0 l0.length c0] w fun e w' => ∃ v0_ : Value, e = .returned (.tuple #[v0_, .int .i64 r2]) ∧ Kd.R (Kd.int .i64) 3 w' w.heap.size (fun _ => True) v0_ r1 ∧ Below w.heap.size w w' := by
 have HR0 := Aside0.mk hr0
 have HC0 := Aside0.mk hc0
 clear hr0 hc0
 have HB := Aside0.mk (Below.refl w.heap.size w)
 have H : ((band_Split.f k l0).bind fun bt311 => (if bt311.2 = 0 then (band_Gains.l0 k ([] : List Int) bt311.1 (bt311.1.length : Int) 0) else (some (([] : List Int), bt311.2)))) = some (r1, r2) := h
 clear h
 obtain ⟨⟨t311, t314⟩, A2, H⟩ := ob_ H
 (try dsimp only at H)
 by_cases c3 : t314 = 0
 {
 rw [if_pos c3] at H
 have c3b0 : (t314 == 0) = true := beq_iff_eq.mpr c3
 have c3b1 : (t314 != 0) = false := bne_eq_false_iff_eq.mpr c3
 clear c3
 have H' := Aside0.mk H
 clear H
 go_enter Try.func74, Try.ntmps74
 go_wp2_with (first | ((with_reducible refine gate_callee (f := 42) rfl ?_); refine gL_ (some 13) Try.func42 #[.slice A0 l0.length c0] ?_; (with_reducible refine (band_Split.calls k _ _ l0 t311 t314 _ ?side1 ?side2 A2.out).mono ?_); (case side1 => repeat (first | exact HR0.out | (with_reducible refine Kd.C_alloc ?_ _) | (with_reducible refine Kd.C_drewN ?_ _) | (with_reducible refine Kd.C_drew ?_))); (case side2 => exact HC0.out); rintro e w4 ⟨v312, rfl, ho0, hb⟩; refine ⟨_, rfl, ?_⟩; have HO313 := Aside0.mk (Kd.N_lower (Kd.N_mono (ok' := fun k_ => True) ho0 (fun k_ hk_ => trivial)) (bs_ HB)); replace HB := BS_ HB hb; (try clear hb); (try clear ho0); obtain ⟨Ao5, co5, eo5⟩ := Kd.N_slice HO313.out; subst eo5))
 go_loopg [6, 21] k (fun kq v6 v21 w' => ∃ (x6_1 : List Int) (x21_1 : Int), v21 = .int .i64 x21_1 ∧ Aside0 (band_Gains.l0 kq x6_1 t311 (t311.length : Int) x21_1 = some (r1, r2)) ∧ Aside0 (kq ≤ k) ∧ Aside0 (Kd.R (Kd.int .i64) 3 w' w.heap.size (fun _ => True) v6 x6_1) ∧ Aside0 (Kd.N (Kd.slice 2 (Kd.int .i64)) 53 w' w.heap.size (fun k_ => some k_ ≠ (v6 : Value).ownBlock) (.slice Ao5 t311.length co5) t311) ∧ Aside0 (Below w.heap.size w w'))
 case atStart => exact ⟨(([] : List Int)), (0), rs_, H', ⟨Nat.le_refl _⟩, ⟨by first | exact Kd.R_nil _ _ _ _ _ | exact Kd.N_nil _ _ _ _ _ | exact Kd.V_nil _ _ _ _ _ | exact Kd.Q_nil _ _ _ _ _ | exact Kd.S_nil _ _ _ _ _⟩, ⟨by (with_reducible repeat (first | apply Kd.N_alloc | apply Kd.N_drewN | apply Kd.N_drew)); exact Kd.N_mono HO313.out (fun _ hk => (by simp [Value.ownBlock]))⟩, ⟨bl_ HB⟩⟩
 case round => (
 clear H'
 try clear c3
 try clear c3b0
 try clear c3b1
 obtain ⟨x6_1, x21_1, rfl, HA, HK1, HO_6, HO_19, HB⟩ := hrel
 cases gk with
 | zero => exact absurd HA.out (by simp [band_Gains.l0])
 | succ k1 => (
 have H := HA.out
 clear HA
 simp only [band_Gains.l0] at H
 by_cases c6 : x21_1 < (t311.length : Int)
 {
 rw [if_pos c6] at H
 have c6b0 : decide (x21_1 < (t311.length : Int)) = true := decide_eq_true c6
 clear c6
 by_cases c7 : 0 ≤ x21_1
 {
 rw [if_pos c7] at H
 have c7b0 : decide (0 ≤ x21_1) = true := decide_eq_true c7
 clear c7
 by_cases c8 : x21_1 < (t311.length : Int)
 {
 rw [if_pos c8] at H
 have c8b0 : decide (x21_1 < (t311.length : Int)) = true := decide_eq_true c8
 clear c8
 obtain ⟨⟨t316, t317⟩, A9, H⟩ := ob_ H
 (try dsimp only at H)
 by_cases c10 : x6_1.length < 17592186044416
 {
 rw [if_pos c10] at H
 have LMc10 := Aside0.mk c10
 clear c10
 obtain ⟨y318, hy318⟩ : ∃ y_ : List Int, y_ = (x6_1 ++ [t316]) := ⟨_, rfl⟩
 replace H : (band_Gains.l0 k1 y318 t311 (t311.length : Int) (wrap64 (x21_1 + 1))) = some (r1, r2) := by first | (rw [hy318]; with_reducible exact H) | (have H2_ := (Option.bind_some _ _).symm.trans H; rw [hy318]; with_reducible exact H2_) | (have H2_ := (Option.bind_some _ _).symm.trans H; with_reducible exact H2_) | with_reducible exact H | (rw [hy318]; exact H) | exact H
 have Ny318 := Aside0.mk hy318
 clear hy318
 have H' := Aside0.mk H
 clear H
 have p315 : 0 ≤ (x21_1 : Int) := of_decide_eq_true am_
 have q315 : x21_1 < (t311.length : Int) := of_decide_eq_true am_
 obtain ⟨ad315, A315_0, c315_0, e315, hx315_0, hl315_0, hi315_0⟩ := at_L2 (Kd.N_reads' HO_19.out).2.2 x21_1 p315 q315
 cases e315
 obtain ⟨ce315, hce315, hMe315, hcc315⟩ := Kd.N_get HO_19.out [] x21_1 p315 (by first | exact q315 | exact of_decide_eq_true am_ | (have e_ := (Kd.N_reads' HO_19.out).1; omega))
 obtain ⟨ua315_0, uc315_0, rfl, ul315_0, ge315_0⟩ := Kd.FK_slice_open hMe315
 have hv315_0 := hcc315 0 _ rfl
 rw [Nat.add_zero, show ((Kd.slice 2 (Kd.int .i64))).sz = 1 from rfl, Nat.mul_one] at hv315_0
 replace hv315_0 := Option.some.inj (hv315_0.symm.trans hx315_0)
 injection hv315_0 with hva_ hvn_ hvc_
 rw [hva_] at ge315_0
 rw [hvc_] at ul315_0
 have HL315_0 := Aside0.mk (show Kd.V (Kd.int .i64) 2 _ w.heap.size _ _ (rd_L2 t311 x21_1) from Kd.V_mk ul315_0 ge315_0)
 clear hva_ hvn_ hvc_ ge315_0 ul315_0
 clear hcc315 hce315
 have HR315_0 := Aside0.mk hi315_0
 have HC315_0 := Aside0.mk hl315_0
 clear hi315_0 hl315_0
 replace p315 := eq_true p315
 replace q315 := eq_true q315
 go_wp2_with (first | ((with_reducible refine gate_callee (f := 97) rfl ?_); refine gL_ (some 27) Try.func97 #[.slice A315_0 (rd_L2 t311 x21_1).length c315_0] ?_; (with_reducible refine (band_Gain.calls k1 _ _ (rd_L2 t311 x21_1) t316 t317 _ ?side1 ?side2 A9.out).mono ?_); (case side1 => repeat (first | exact (by repeat (first | (with_reducible exact HR315_0.out) | (with_reducible refine Kd.C_alloc ?_ _) | (with_reducible refine Kd.C_drewN ?_ _) | (with_reducible refine Kd.C_drew ?_) | exact HR315_0.out)) | (with_reducible refine Kd.C_alloc ?_ _) | (with_reducible refine Kd.C_drewN ?_ _) | (with_reducible refine Kd.C_drew ?_))); (case side2 => exact HC315_0.out); rintro e w' ⟨rfl, ⟨nd, rfl⟩⟩; refine ⟨_, rfl, ?_⟩) | ((with_reducible refine gate_builtin (b := .append) (xs := #[.tmp 30, .tmp 32]) rfl ?_); at_builtin; refine Kd.R_append (Kd.int .i64) (w0 := w) w.heap.size rfl (.tmp 30) (.tmp 32) 22 3 (.int .i64 0) 8 rfl Try.underlying22 info3 rfl (by decide) (by omega) u6 x6_1 t316 [.int .i64 t316] (fun _ => True) (fun _ => False) rfl rfl ?aP (fun _ hk => hk.elim) ?aF ?aO ?aB ?aS ?aL ?_; (case aP => exact rfl); (case aB => exact (bl_ HB)); (case aF => exact (fun _ _ => trivial)); (case aO => exact (kR_ HO_6)); (case aS => exact (bs_ HB)); (case aL => have := LMc10.out; omega); intro v319 w11 ho hb hg hat; rw [← Ny318.out] at ho; replace HO_19 := Aside0.mk (Kd.N_afterv (ok := (fun _ => True)) (by (with_reducible repeat (first | apply Kd.N_alloc | apply Kd.N_drewN | apply Kd.N_drew)); exact Kd.N_mono HO_19.out (fun _ hk => ⟨trivial, hk⟩)) hg hat); replace HL315_0 := Aside0.mk (Kd.V_afterv (ok := (fun k_ => some k_ ≠ (.slice (some ad315) t311.length co5 : Value).ownBlock)) (by (with_reducible repeat (first | apply Kd.V_alloc | apply Kd.V_drewN | apply Kd.V_drew)); exact Kd.V_mono HL315_0.out (fun _ hk => ⟨hk.2, hk.1⟩)) hg hat); replace HB := Aside0.mk (hb); have HO320 := Aside0.mk (ho); clear HO_6; clear ho hb hg hat))
 go_roundg k1
 case measure => have := HK1.out; omega
 case rel => exact ⟨(y318), (wrap64 (x21_1 + 1)), rs_, H', ⟨by have := HK1.out; omega⟩, ⟨kR_ HO320⟩, ⟨by (with_reducible repeat (first | apply Kd.N_alloc | apply Kd.N_drewN | apply Kd.N_drew)); exact Kd.N_mono HO_19.out (fun _ hk => hk.2)⟩, ⟨bl_ HB⟩⟩}
 {
 rw [if_neg c10] at H
 exact absurd H (by simp)}}
 {
 rw [if_neg c8] at H
 exact absurd H (by simp)}}
 {
 rw [if_neg c7] at H
 exact absurd H (by simp)}}
 {
 rw [if_neg c6] at H
 have c6b0 : decide (x21_1 < (t311.length : Int)) = false := decide_eq_false c6
 clear c6
 simp only [Option.some.injEq, Prod.mk.injEq] at H
 obtain ⟨rfl, rfl⟩ := H
 go_wp2
 go_ret2
 exact ⟨_, by first | rfl | (simp [errW_none, errW_some] <;> rfl) | (simp [*, errW_none, errW_some] <;> rfl), by (with_reducible repeat (first | apply Kd.R_alloc | apply Kd.R_drewN | apply Kd.R_drew)); exact HO_6.out, bl_ HB⟩}))}
 {
 rw [if_neg c3] at H
 have c3b0 : (t314 == 0) = false := beq_eq_false_iff_ne.mpr c3
 have c3b1 : (t314 != 0) = true := bne_iff_ne.mpr c3
 simp only [Option.some.injEq, Prod.mk.injEq] at H
 obtain ⟨rfl, rfl⟩ := H
 go_enter Try.func74, Try.ntmps74
 go_wp2_with (first | ((with_reducible refine gate_callee (f := 42) rfl ?_); refine gL_ (some 13) Try.func42 #[.slice A0 l0.length c0] ?_; (with_reducible refine (band_Split.calls k _ _ l0 t311 t314 _ ?side1 ?side2 A2.out).mono ?_); (case side1 => repeat (first | exact HR0.out | (with_reducible refine Kd.C_alloc ?_ _) | (with_reducible refine Kd.C_drewN ?_ _) | (with_reducible refine Kd.C_drew ?_))); (case side2 => exact HC0.out); rintro e w12 ⟨v312, rfl, ho0, hb⟩; refine ⟨_, rfl, ?_⟩; have HO313 := Aside0.mk (Kd.N_lower (Kd.N_mono (ok' := fun k_ => True) ho0 (fun k_ hk_ => trivial)) (bs_ HB)); replace HB := BS_ HB hb; (try clear hb); (try clear ho0)))
 go_ret2
 exact ⟨_, by first | rfl | (simp [errW_none, errW_some] <;> rfl) | (simp [*, errW_none, errW_some] <;> rfl), by first | exact Kd.R_nil _ _ _ _ _ | exact Kd.N_nil _ _ _ _ _ | exact Kd.V_nil _ _ _ _ _ | exact Kd.Q_nil _ _ _ _ _ | exact Kd.S_nil _ _ _ _ _, bl_ HB⟩}
mutual
def floor_Fit.j0 : Nat → List Int → Int → Bool → Option (List Int × Int)
  | 0, _, _, _ => none
  | k + 1, x0, x1, x18 => if x18 = true then (some (([] : List Int), 1)) else (if 6 ≤ 35184372088832 then (floor_Fit.l0 k x0 x1 (List.replicate 6 0) 0) else (none))
def floor_Fit.l0 : Nat → List Int → Int → List Int → Int → Option (List Int × Int)
  | 0, _, _, _, _ => none
  | k + 1, x0, x1, x6, x20 => if x20 < 6 then (if x1 > 0 then (if 0 ≤ (mn x20 4) then (if (mn x20 4) < (x0.length : Int) then (if 0 ≤ x20 then (if x20 < (x6.length : Int) then (floor_Fit.l0 k x0 x1 (x6.set (x20 : Int).toNat (mx 0 (mn (wrap64 ((wrap64 ((rd x0 (mn x20 4)) - 13)) + x1)) 44))) (wrap64 (x20 + 1))) else (none)) else (none)) else (none)) else (none)) else (floor_Fit.l0 k x0 x1 x6 (wrap64 (x20 + 1)))) else (some (x6, 0))
end
def floor_Fit.f (k : Nat) (l0 : List Int) (a1 : Int) : Option (List Int × Int) := (floor_gains.f k l0 5).bind fun t321 => (if t321 = true then (if a1 < 0 then (floor_Fit.j0 k l0 a1 true) else (floor_Fit.j0 k l0 a1 (decide (a1 > 12)))) else (floor_Fit.j0 k l0 a1 true))
theorem floor_Fit.mono_l : ∀ k, (∀ y0 y1 y2, LeO (floor_Fit.j0 k y0 y1 y2) (floor_Fit.j0 (k + 1) y0 y1 y2)) ∧ (∀ y0 y1 y2 y3, LeO (floor_Fit.l0 k y0 y1 y2 y3) (floor_Fit.l0 (k + 1) y0 y1 y2 y3))
  | 0 => ⟨fun _ _ _ r h => by simp [floor_Fit.j0] at h, fun _ _ _ _ r h => by simp [floor_Fit.l0] at h⟩
  | k + 1 => by
    obtain ⟨ih0, ih1⟩ := floor_Fit.mono_l k
    refine ⟨?_, ?_⟩
    all_goals (intros; first | unfold floor_Fit.j0 | unfold floor_Fit.l0)
    all_goals with_reducible repeat' first
     | exact ih0 _ _ _
     | exact ih1 _ _ _ _
     | exact floor_gains.mono _ _ _
     | exact LeO.refl _
     | exact LeO.none _
     | refine LeO.ite ?_ ?_
     | refine LeO.bind ?_ (fun _ => ?_)
theorem floor_Fit.mono : ∀ a0 a1 k, LeO (floor_Fit.f k a0 a1) (floor_Fit.f (k + 1) a0 a1) := by
  intro a0 a1 k
  obtain ⟨ih0, ih1⟩ := floor_Fit.mono_l k
  unfold floor_Fit.f
  with_reducible repeat' first
   | exact ih0 _ _ _
   | exact ih1 _ _ _ _
   | exact floor_gains.mono _ _ _
   | exact LeO.refl _
   | exact LeO.none _
   | refine LeO.ite ?_ ?_
   | refine LeO.bind ?_ (fun _ => ?_)
set_option maxHeartbeats 8000000 in
set_option maxRecDepth 100000 in
theorem floor_Fit.calls (k : Nat) (A0 : Option Addr) (c0 : Nat) (l0 : List Int) (a1 : Int) (r1 : List Int) (r2 : Int) (w : World) (hr0 : Kd.C (Kd.int .i64) w A0 l0.length l0) (hc0 : l0.length ≤ c0) (h : floor_Fit.f k l0 a1 = some (r1, r2)) :
    Calls Try.prog 75 #[.slice A0 l0.length c0, .int .i64 a1] w fun e w' => ∃ v0_ : Value, e = .returned (.tuple #[v0_, .int .i64 r2]) ∧ Kd.R (Kd.int .i64) 3 w' w.heap.size (fun _ => True) v0_ r1 ∧ Below w.heap.size w w' := by
 have HR0 := Aside0.mk hr0
 have HC0 := Aside0.mk hc0
 clear hr0 hc0
 have HB := Aside0.mk (Below.refl w.heap.size w)
 have H : ((floor_gains.f k l0 5).bind fun t321 => (if t321 = true then (if a1 < 0 then (floor_Fit.j0 k l0 a1 true) else (floor_Fit.j0 k l0 a1 (decide (a1 > 12)))) else (floor_Fit.j0 k l0 a1 true))) = some (r1, r2) := h
 clear h
 have HC3 := Aside0.mk H
 clear H
 go_enter Try.func75, Try.ntmps75
 go_upto_region 1 with (fail)
 go_cut [18] (fun v18 wc => ∃ (kq : Nat) (x18_2 : Bool), v18 = .bool x18_2 ∧ Aside0 (floor_Fit.j0 kq l0 a1 x18_2 = some (r1, r2)) ∧ Aside0 (kq ≤ k) ∧ Aside0 (Below w.heap.size w wc))
 case first => (
 have H := HC3.out
 clear HC3
 obtain ⟨t321, A4, H⟩ := ob_ H
 (try dsimp only at H)
 by_cases c5 : t321 = true
 {
 subst c5
 rw [if_pos rfl] at H
 by_cases c6 : a1 < 0
 {
 rw [if_pos c6] at H
 have c6b0 : decide (a1 < 0) = true := decide_eq_true c6
 clear c6
 (first | rw [c6b0] | (simp only [i64_w, i32_w]; rw [c6b0]) | skip)
 have H' := Aside0.mk H
 clear H
 go_wp2_with (first | ((with_reducible refine gate_callee (f := 98) rfl ?_); refine gL_ (some 9) Try.func98 #[.slice A0 l0.length c0, .int .i64 5] ?_; (with_reducible refine (floor_gains.calls k _ _ l0 5 true _ ?side1 ?side2 A4.out).mono ?_); (case side1 => exact kC_ HR0 HB); (case side2 => exact HC0.out); rintro e w' ⟨rfl, ⟨nd, rfl⟩⟩; refine ⟨_, rfl, ?_⟩))
 go_meet
 case rel => exact ⟨_, (true), rs_, H', ⟨ol_⟩, ⟨bl_ HB⟩⟩}
 {
 rw [if_neg c6] at H
 have c6b0 : decide (a1 < 0) = false := decide_eq_false c6
 clear c6
 (first | rw [c6b0] | (simp only [i64_w, i32_w]; rw [c6b0]) | skip)
 have H' := Aside0.mk H
 clear H
 go_wp2_with (first | ((with_reducible refine gate_callee (f := 98) rfl ?_); refine gL_ (some 9) Try.func98 #[.slice A0 l0.length c0, .int .i64 5] ?_; (with_reducible refine (floor_gains.calls k _ _ l0 5 true _ ?side1 ?side2 A4.out).mono ?_); (case side1 => exact kC_ HR0 HB); (case side2 => exact HC0.out); rintro e w' ⟨rfl, ⟨nd, rfl⟩⟩; refine ⟨_, rfl, ?_⟩))
 go_meet
 case rel => exact ⟨_, (decide (a1 > 12)), rs_, H', ⟨ol_⟩, ⟨bl_ HB⟩⟩}}
 {
 replace c5 := Bool.eq_false_iff.mpr c5
 subst c5
 rw [if_neg (show ¬ (false = true) by decide)] at H
 have H' := Aside0.mk H
 clear H
 go_wp2_with (first | ((with_reducible refine gate_callee (f := 98) rfl ?_); refine gL_ (some 9) Try.func98 #[.slice A0 l0.length c0, .int .i64 5] ?_; (with_reducible refine (floor_gains.calls k _ _ l0 5 false _ ?side1 ?side2 A4.out).mono ?_); (case side1 => exact kC_ HR0 HB); (case side2 => exact HC0.out); rintro e w' ⟨rfl, ⟨nd, rfl⟩⟩; refine ⟨_, rfl, ?_⟩))
 go_meet
 case rel => exact ⟨_, (true), rs_, H', ⟨ol_⟩, ⟨bl_ HB⟩⟩})
 case rest => (
 clear HC3
 obtain ⟨kq, x18_2, rfl, HA, HJ2, HB⟩ := hcut
 cases kq with
 | zero => exact absurd HA.out (by simp [floor_Fit.j0])
 | succ kj2 => (
 have H := HA.out
 clear HA
 simp only [floor_Fit.j0] at H
 by_cases c7 : x18_2 = true
 {
 subst c7
 rw [if_pos rfl] at H
 simp only [Option.some.injEq, Prod.mk.injEq] at H
 obtain ⟨rfl, rfl⟩ := H
 go_wp2
 go_ret2
 exact ⟨_, by first | rfl | (simp [errW_none, errW_some] <;> rfl) | (simp [*, errW_none, errW_some] <;> rfl), by first | exact Kd.R_nil _ _ _ _ _ | exact Kd.N_nil _ _ _ _ _ | exact Kd.V_nil _ _ _ _ _ | exact Kd.Q_nil _ _ _ _ _ | exact Kd.S_nil _ _ _ _ _, bl_ HB⟩}
 {
 replace c7 := Bool.eq_false_iff.mpr c7
 subst c7
 rw [if_neg (show ¬ (false = true) by decide)] at H
 by_cases c8 : 6 ≤ 35184372088832
 {
 rw [if_pos c8] at H
 have c8b0 := eq_true c8
 have c8b1 : decide (6 ≤ 35184372088832) = true := decide_eq_true c8
 clear c8
 obtain ⟨y322, hy322⟩ : ∃ y_ : List Int, y_ = (List.replicate 6 0) := ⟨_, rfl⟩
 replace H : (floor_Fit.l0 kj2 l0 a1 y322 0) = some (r1, r2) := by first | (rw [hy322]; with_reducible exact H) | (have H2_ := (Option.bind_some _ _).symm.trans H; rw [hy322]; with_reducible exact H2_) | (have H2_ := (Option.bind_some _ _).symm.trans H; with_reducible exact H2_) | with_reducible exact H | (rw [hy322]; exact H) | exact H
 have Ny322 := Aside0.mk hy322
 clear hy322
 have H' := Aside0.mk H
 clear H
 go_wp2_with (first | ((with_reducible refine gate_dst (N := 19) rfl ?_); refine Kd.R_make (Kd.int .i64) _ 3 rfl (N := 19) rfl 22 _ _ rfl 6 rfl rfl Try.underlying22 (.int .i64 0) 8 info3 rfl (by decide) (by omega) 0 (ok := fun _ => True) (okp := fun _ => True) rfl (fun _ hk => hk) trivial (by omega) (by omega) (Below.refl _ _) (Nat.le_refl _) ?_; intro v323 w9 ho10 hb hg_ hnew_; clear hg_ hnew_; (first | rw [← Ny322.out] at ho10 | (simp only [Int.reduceToNat] at ho10; rw [← Ny322.out] at ho10)); have HO324 := Aside0.mk (Kd.R_lower ho10 (bs_ HB)); replace HB := BS_ HB hb; clear hb ho10))
 go_loopg [20] kj2 (fun kq v20 w' => ∃ (x6_2 : List Int) (x20_2 : Int), v20 = .int .i64 x20_2 ∧ Aside0 (floor_Fit.l0 kq l0 a1 x6_2 x20_2 = some (r1, r2)) ∧ Aside0 (kq ≤ kj2) ∧ Aside0 (Kd.R (Kd.int .i64) 3 w' w.heap.size (fun _ => True) v323 x6_2) ∧ Aside0 (Below w.heap.size w w'))
 case atStart => exact ⟨(y322), (0), rs_, H', ⟨Nat.le_refl _⟩, ⟨kR_ HO324⟩, ⟨bl_ HB⟩⟩
 case round => (
 clear H'
 try clear c7
 try clear c8
 try clear c8b0
 try clear c8b1
 obtain ⟨x6_2, x20_2, rfl, HA, HK2, HO_6, HB⟩ := hrel
 cases gk with
 | zero => exact absurd HA.out (by simp [floor_Fit.l0])
 | succ k2 => (
 have H := HA.out
 clear HA
 simp only [floor_Fit.l0] at H
 by_cases c11 : x20_2 < 6
 {
 rw [if_pos c11] at H
 have c11b0 : decide (x20_2 < 6) = true := decide_eq_true c11
 clear c11
 by_cases c12 : a1 > 0
 {
 rw [if_pos c12] at H
 have c12b0 : decide (0 < a1) = true := decide_eq_true c12
 clear c12
 obtain ⟨ji13, hji13⟩ : ∃ j_ : Int, (mn x20_2 4) = j_ := ⟨_, rfl⟩
 replace H : (if 0 ≤ (ji13) then (if (ji13) < (l0.length : Int) then (if 0 ≤ x20_2 then (if x20_2 < (x6_2.length : Int) then (floor_Fit.l0 k2 l0 a1 (x6_2.set (x20_2 : Int).toNat (mx 0 (mn (wrap64 ((wrap64 ((rd l0 (ji13)) - 13)) + a1)) 44))) (wrap64 (x20_2 + 1))) else (none)) else (none)) else (none)) else (none)) = some (r1, r2) := by first | (rw [hji13] at H; exact H) | (simp only [hji13] at H ⊢; exact H)
 have hji13_ : (if 4 < x20_2 then 4 else x20_2) = ji13 := hji13
 by_cases c14 : 0 ≤ (ji13)
 {
 rw [if_pos c14] at H
 have c14b0 : decide (0 ≤ (ji13)) = true := decide_eq_true c14
 clear c14
 by_cases c15 : (ji13) < (l0.length : Int)
 {
 rw [if_pos c15] at H
 have c15b0 : decide ((ji13) < (l0.length : Int)) = true := decide_eq_true c15
 clear c15
 obtain ⟨ji16, hji16⟩ : ∃ j_ : Int, (mn (wrap64 ((wrap64 ((rd l0 (ji13)) - 13)) + a1)) 44) = j_ := ⟨_, rfl⟩
 replace H : (if 0 ≤ x20_2 then (if x20_2 < (x6_2.length : Int) then (floor_Fit.l0 k2 l0 a1 (x6_2.set (x20_2 : Int).toNat (mx 0 (ji16))) (wrap64 (x20_2 + 1))) else (none)) else (none)) = some (r1, r2) := by first | (rw [hji16] at H; exact H) | (simp only [hji16] at H ⊢; exact H)
 have hji16_ : (if 44 < (wrap64 ((wrap64 ((rd l0 (ji13)) - 13)) + a1)) then 44 else (wrap64 ((wrap64 ((rd l0 (ji13)) - 13)) + a1))) = ji16 := hji16
 obtain ⟨ji17, hji17⟩ : ∃ j_ : Int, (mx 0 (ji16)) = j_ := ⟨_, rfl⟩
 replace H : (if 0 ≤ x20_2 then (if x20_2 < (x6_2.length : Int) then (floor_Fit.l0 k2 l0 a1 (x6_2.set (x20_2 : Int).toNat (ji17)) (wrap64 (x20_2 + 1))) else (none)) else (none)) = some (r1, r2) := by first | (rw [hji17] at H; exact H) | (simp only [hji17] at H ⊢; exact H)
 have hji17_ : (if 0 < (ji16) then (ji16) else 0) = ji17 := hji17
 by_cases c18 : 0 ≤ x20_2
 {
 rw [if_pos c18] at H
 have c18b0 : decide (0 ≤ x20_2) = true := decide_eq_true c18
 clear c18
 by_cases c19 : x20_2 < (x6_2.length : Int)
 {
 rw [if_pos c19] at H
 have c19b0 : decide (x20_2 < (x6_2.length : Int)) = true := decide_eq_true c19
 clear c19
 obtain ⟨y326, hy326⟩ : ∃ y_ : List Int, y_ = (x6_2.set (x20_2 : Int).toNat (ji17)) := ⟨_, rfl⟩
 replace H : (floor_Fit.l0 k2 l0 a1 y326 (wrap64 (x20_2 + 1))) = some (r1, r2) := by first | (rw [hy326]; with_reducible exact H) | (have H2_ := (Option.bind_some _ _).symm.trans H; rw [hy326]; with_reducible exact H2_) | (have H2_ := (Option.bind_some _ _).symm.trans H; with_reducible exact H2_) | with_reducible exact H | (rw [hy326]; exact H) | exact H
 have Ny326 := Aside0.mk hy326
 clear hy326
 have H' := Aside0.mk H
 clear H
 have p325 : 0 ≤ ((ji13) : Int) := of_decide_eq_true am_
 have q325 : (ji13) < (l0.length : Int) := of_decide_eq_true am_
 obtain ⟨ad325, e325, hx325_0⟩ := Kd.at_int HR0.out (ji13) p325 q325
 cases e325
 replace hx325_0 := (HB.out.cell (World.block_lt_of_cell? w _ hx325_0)).trans hx325_0
 replace p325 := eq_true p325
 replace q325 := eq_true q325
 have p20 : 0 ≤ (x20_2 : Int) := of_decide_eq_true am_
 have q20 : (x20_2 : Int) < ((x6_2.length : Int) : Int) := of_decide_eq_true am_
 obtain ⟨go20, co20, eo20, gb20, gl20, cl20, HG20⟩ := Kd.R_form HO_6.out (by omega)
 (first | cases eo20 | (injection eo20 with ea_ en_ ec_; (first | subst ea_ | (injection ea_ with ea_; subst ea_)); subst ec_; clear en_))
 have GB20 := Aside0.mk gb20
 have GG20 := Aside0.mk HG20
 clear gb20 gl20 HG20
 obtain ⟨hx20_0, hf20_0⟩ := Kd.R_celln 0 HO_6.out (x20_2 : Int) p20 q20
 replace p20 := eq_true p20
 replace q20 := eq_true q20
 have HP21 := Kd.R_putg HO_6.out (x20_2 : Int) ji17
 go_wp2_with (first | ((with_reducible refine gate_store (t := 3) (p := 37) rfl ?_); refine store_event (t := 3) (p := 37) (v := ?vo_w22) (w1 := (wr.setCell ⟨go20, (x20_2 : Int).toNat, none⟩ (.int .i64 ji17))) ?hg ?ho ?hn ?hr ?_; (case ho => rfl); (case hg => rfl); (case hn => rfl); (case hr => first | (go_simp; done) | (go_simp; rfl)); intro w22 hw; have hg : wr.grownBy w22 (some go20) := (by rw [hw]; exact HP21.2); have hp_ : Kd.R (Kd.int .i64) 3 w22 w.heap.size (fun _ => True) (.slice (some ⟨go20, 0, none⟩) x6_2.length co20) y326 := (by rw [hw, Ny326.out]; exact HP21.1); clear HP21; replace HO_6 := Aside0.mk (hp_); replace HB := Aside0.mk ((by rw [hw]; exact below_set (HB.out) GB20.out : Below w.heap.size w w22)); clear hg hw hp_))
 go_roundg k2
 case measure => have := HJ2.out; have := HK2.out; omega
 case rel => exact ⟨(y326), (wrap64 (x20_2 + 1)), rs_, H', ⟨by have := HJ2.out; have := HK2.out; omega⟩, ⟨kR_ HO_6⟩, ⟨bl_ HB⟩⟩}
 {
 rw [if_neg c19] at H
 exact absurd H (by simp)}}
 {
 rw [if_neg c18] at H
 exact absurd H (by simp)}}
 {
 rw [if_neg c15] at H
 exact absurd H (by simp)}}
 {
 rw [if_neg c14] at H
 exact absurd H (by simp)}}
 {
 rw [if_neg c12] at H
 have c12b0 : decide (0 < a1) = false := decide_eq_false c12
 clear c12
 have H' := Aside0.mk H
 clear H
 go_wp2
 go_roundg k2
 case measure => have := HJ2.out; have := HK2.out; omega
 case rel => exact ⟨(x6_2), (wrap64 (x20_2 + 1)), rs_, H', ⟨by have := HJ2.out; have := HK2.out; omega⟩, ⟨kR_ HO_6⟩, ⟨bl_ HB⟩⟩}}
 {
 rw [if_neg c11] at H
 have c11b0 : decide (x20_2 < 6) = false := decide_eq_false c11
 clear c11
 simp only [Option.some.injEq, Prod.mk.injEq] at H
 obtain ⟨rfl, rfl⟩ := H
 go_wp2
 go_ret2
 exact ⟨_, by first | rfl | (simp [errW_none, errW_some] <;> rfl) | (simp [*, errW_none, errW_some] <;> rfl), by (with_reducible repeat (first | apply Kd.R_alloc | apply Kd.R_drewN | apply Kd.R_drew)); exact HO_6.out, bl_ HB⟩}))}
 {
 rw [if_neg c8] at H
 exact absurd H (by simp)}}))
def vcodec_codec_settled.l0 : Nat → Int → Int → List Int → Int → Int → Option (Int)
  | 0, _, _, _, _, _ => none
  | k + 1, x1, x5, x10, x11, x12 => if x12 < x11 then (if 0 ≤ x12 then (if x12 < (x10.length : Int) then (if (rd x10 x12) > 0 then (if x5 < 0 then (vcodec_codec_settled.l0 k x1 x12 x10 x11 (wrap64 (x12 + 1))) else (if x12 ≤ x1 then (vcodec_codec_settled.l0 k x1 x12 x10 x11 (wrap64 (x12 + 1))) else (vcodec_codec_settled.l0 k x1 x5 x10 x11 (wrap64 (x12 + 1))))) else (vcodec_codec_settled.l0 k x1 x5 x10 x11 (wrap64 (x12 + 1)))) else (none)) else (none)) else (some x5)
def vcodec_codec_settled.f (k : Nat) (a0_0 : Int) (a0_1 : Int) (l0_2 : List Int) (l0_3 : List Int) (a1 : Int) : Option (Int) := vcodec_codec_settled.l0 k a1 (-1) l0_2 (l0_2.length : Int) 0
theorem vcodec_codec_settled.mono_l : ∀ k, (∀ y0 y1 y2 y3 y4, LeO (vcodec_codec_settled.l0 k y0 y1 y2 y3 y4) (vcodec_codec_settled.l0 (k + 1) y0 y1 y2 y3 y4))
  | 0 => fun _ _ _ _ _ r h => by simp [vcodec_codec_settled.l0] at h
  | k + 1 => by
    have ih0 := vcodec_codec_settled.mono_l k
    · intro y0 y1 y2 y3 y4
      unfold vcodec_codec_settled.l0
      with_reducible repeat' first
   | exact ih0 _ _ _ _ _
   | exact LeO.refl _
   | exact LeO.none _
   | refine LeO.ite ?_ ?_
   | refine LeO.bind ?_ (fun _ => ?_)
theorem vcodec_codec_settled.mono : ∀ a0 a1 a2 a3 a4 k, LeO (vcodec_codec_settled.f k a0 a1 a2 a3 a4) (vcodec_codec_settled.f (k + 1) a0 a1 a2 a3 a4) := by
  intro a0 a1 a2 a3 a4 k
  have ih0 := vcodec_codec_settled.mono_l k
  unfold vcodec_codec_settled.f
  with_reducible repeat' first
   | exact ih0 _ _ _ _ _
   | exact LeO.refl _
   | exact LeO.none _
   | refine LeO.ite ?_ ?_
   | refine LeO.bind ?_ (fun _ => ?_)
set_option maxHeartbeats 8000000 in
set_option maxRecDepth 100000 in
theorem vcodec_codec_settled.calls (k : Nat) (a0_0 : Int) (a0_1 : Int) (A0_2 : Option Addr) (c0_2 : Nat) (l0_2 : List Int) (A0_3 : Option Addr) (c0_3 : Nat) (l0_3 : List Int) (a1 : Int) (r : Int) (w : World) (hr0_2 : Kd.C (Kd.int .i64) w A0_2 l0_2.length l0_2) (hc0_2 : l0_2.length ≤ c0_2) (hr0_3 : Kd.C (Kd.int .i64) w A0_3 l0_3.length l0_3) (hc0_3 : l0_3.length ≤ c0_3) (h : vcodec_codec_settled.f k a0_0 a0_1 l0_2 l0_3 a1 = some r) :
    Calls Try.prog 76 #[.agg #[.int .i64 a0_0, .int .i64 a0_1, .slice A0_2 l0_2.length c0_2, .slice A0_3 l0_3.length c0_3], .int .i64 a1] w fun e w' => e = .returned (.int .i64 r) ∧ Below w.heap.size w w' := by
 have hu61 := Try.underlying61
 have HR0_2 := Aside0.mk hr0_2
 have HC0_2 := Aside0.mk hc0_2
 clear hr0_2 hc0_2
 have HR0_3 := Aside0.mk hr0_3
 have HC0_3 := Aside0.mk hc0_3
 clear hr0_3 hc0_3
 have HB := Aside0.mk (Below.refl w.heap.size w)
 have H : (vcodec_codec_settled.l0 k a1 (-1) l0_2 (l0_2.length : Int) 0) = some r := h
 clear h
 have H' := Aside0.mk H
 clear H
 go_enter Try.func76, Try.ntmps76
 go_wp2_with (first | ((with_reducible refine gate_dst (N := 2) rfl ?_); refine bx_ HB 2 #[.int .i64 a0_0, .int .i64 a0_1, .slice A0_2 l0_2.length c0_2, .slice A0_3 l0_3.length c0_3] 61 ?_; clear HB; intro gb327 hg w3 hb BK327 GE327 HB; have GW327 := GE327; clear hb hg; obtain ⟨hcz4_0, hcz4_1, hcz4_2, hcz4_3, hfz4_0, hfz4_1, hfz4_2, hfz4_3⟩ := e4_ BK327))
 go_loopg [5, 12] k (fun kq v5 v12 w' => ∃ (x5_1 : Int) (x12_1 : Int), v5 = .int .i64 x5_1 ∧ v12 = .int .i64 x12_1 ∧ Aside0 (vcodec_codec_settled.l0 kq a1 x5_1 l0_2 (l0_2.length : Int) x12_1 = some r) ∧ Aside0 (kq ≤ k) ∧ Aside0 (w'.heap[gb327]? = some (.cells #[.int .i64 a0_0, .int .i64 a0_1, (.slice A0_2 l0_2.length c0_2), (.slice A0_3 l0_3.length c0_3)] 61 (0, 0))) ∧ Aside0 (Below w.heap.size w w'))
 case atStart => exact ⟨((-1)), (0), rs_, rs_, H', ⟨Nat.le_refl _⟩, ⟨bk_ BK327⟩, ⟨bl_ HB⟩⟩
 case round => (
 clear H'
 try clear hcz4_0
 try clear hcz4_1
 try clear hcz4_2
 try clear hcz4_3
 try clear hfz4_0
 try clear hfz4_1
 try clear hfz4_2
 try clear hfz4_3
 obtain ⟨x5_1, x12_1, rfl, rfl, HA, HK1, BK327, HB⟩ := hrel
 cases gk with
 | zero => exact absurd HA.out (by simp [vcodec_codec_settled.l0])
 | succ k1 => (
 have H := HA.out
 clear HA
 simp only [vcodec_codec_settled.l0] at H
 by_cases c5 : x12_1 < (l0_2.length : Int)
 {
 rw [if_pos c5] at H
 have c5b0 : decide (x12_1 < (l0_2.length : Int)) = true := decide_eq_true c5
 clear c5
 by_cases c6 : 0 ≤ x12_1
 {
 rw [if_pos c6] at H
 have c6b0 : decide (0 ≤ x12_1) = true := decide_eq_true c6
 clear c6
 by_cases c7 : x12_1 < (l0_2.length : Int)
 {
 rw [if_pos c7] at H
 have c7b0 : decide (x12_1 < (l0_2.length : Int)) = true := decide_eq_true c7
 clear c7
 by_cases c8 : (rd l0_2 x12_1) > 0
 {
 rw [if_pos c8] at H
 have c8b0 : decide (0 < (rd l0_2 x12_1)) = true := decide_eq_true c8
 clear c8
 by_cases c9 : x5_1 < 0
 {
 rw [if_pos c9] at H
 have c9b0 : decide (x5_1 < 0) = true := decide_eq_true c9
 clear c9
 have H' := Aside0.mk H
 clear H
 have p328 : 0 ≤ (x12_1 : Int) := of_decide_eq_true am_
 have q328 : x12_1 < (l0_2.length : Int) := of_decide_eq_true am_
 obtain ⟨ad328, e328, hx328_0⟩ := Kd.at_int HR0_2.out x12_1 p328 q328
 cases e328
 replace hx328_0 := (HB.out.cell (World.block_lt_of_cell? w _ hx328_0)).trans hx328_0
 replace p328 := eq_true p328
 replace q328 := eq_true q328
 go_wp2
 go_roundg k1
 case measure => have := HK1.out; omega
 case rel => exact ⟨(x12_1), (wrap64 (x12_1 + 1)), rs_, rs_, H', ⟨by have := HK1.out; omega⟩, ⟨bk_ BK327⟩, ⟨bl_ HB⟩⟩}
 {
 rw [if_neg c9] at H
 have c9b0 : decide (x5_1 < 0) = false := decide_eq_false c9
 clear c9
 by_cases c10 : x12_1 ≤ a1
 {
 rw [if_pos c10] at H
 have c10b0 : decide (x12_1 ≤ a1) = true := decide_eq_true c10
 clear c10
 have H' := Aside0.mk H
 clear H
 have p328 : 0 ≤ (x12_1 : Int) := of_decide_eq_true am_
 have q328 : x12_1 < (l0_2.length : Int) := of_decide_eq_true am_
 obtain ⟨ad328, e328, hx328_0⟩ := Kd.at_int HR0_2.out x12_1 p328 q328
 cases e328
 replace hx328_0 := (HB.out.cell (World.block_lt_of_cell? w _ hx328_0)).trans hx328_0
 replace p328 := eq_true p328
 replace q328 := eq_true q328
 go_wp2
 go_roundg k1
 case measure => have := HK1.out; omega
 case rel => exact ⟨(x12_1), (wrap64 (x12_1 + 1)), rs_, rs_, H', ⟨by have := HK1.out; omega⟩, ⟨bk_ BK327⟩, ⟨bl_ HB⟩⟩}
 {
 rw [if_neg c10] at H
 have c10b0 : decide (x12_1 ≤ a1) = false := decide_eq_false c10
 clear c10
 have H' := Aside0.mk H
 clear H
 have p328 : 0 ≤ (x12_1 : Int) := of_decide_eq_true am_
 have q328 : x12_1 < (l0_2.length : Int) := of_decide_eq_true am_
 obtain ⟨ad328, e328, hx328_0⟩ := Kd.at_int HR0_2.out x12_1 p328 q328
 cases e328
 replace hx328_0 := (HB.out.cell (World.block_lt_of_cell? w _ hx328_0)).trans hx328_0
 replace p328 := eq_true p328
 replace q328 := eq_true q328
 go_wp2
 go_roundg k1
 case measure => have := HK1.out; omega
 case rel => exact ⟨(x5_1), (wrap64 (x12_1 + 1)), rs_, rs_, H', ⟨by have := HK1.out; omega⟩, ⟨bk_ BK327⟩, ⟨bl_ HB⟩⟩}}}
 {
 rw [if_neg c8] at H
 have c8b0 : decide (0 < (rd l0_2 x12_1)) = false := decide_eq_false c8
 clear c8
 have H' := Aside0.mk H
 clear H
 have p328 : 0 ≤ (x12_1 : Int) := of_decide_eq_true am_
 have q328 : x12_1 < (l0_2.length : Int) := of_decide_eq_true am_
 obtain ⟨ad328, e328, hx328_0⟩ := Kd.at_int HR0_2.out x12_1 p328 q328
 cases e328
 replace hx328_0 := (HB.out.cell (World.block_lt_of_cell? w _ hx328_0)).trans hx328_0
 replace p328 := eq_true p328
 replace q328 := eq_true q328
 go_wp2
 go_roundg k1
 case measure => have := HK1.out; omega
 case rel => exact ⟨(x5_1), (wrap64 (x12_1 + 1)), rs_, rs_, H', ⟨by have := HK1.out; omega⟩, ⟨bk_ BK327⟩, ⟨bl_ HB⟩⟩}}
 {
 rw [if_neg c7] at H
 exact absurd H (by simp)}}
 {
 rw [if_neg c6] at H
 exact absurd H (by simp)}}
 {
 rw [if_neg c5] at H
 have c5b0 : decide (x12_1 < (l0_2.length : Int)) = false := decide_eq_false c5
 clear c5
 obtain rfl := Option.some.inj H
 go_wp2
 go_ret
 exact ⟨by first | rfl | (simp [errW_none, errW_some] <;> rfl) | (simp [*, errW_none, errW_some] <;> rfl), bl_ HB⟩}))
def vcodec_codec_posts.l0 : Nat → List Int → Int → Int → Int → Int → List Int → List Int → Option (List Int)
  | 0, _, _, _, _, _, _, _ => none
  | k + 1, x7, x24, x25, x330000, x330001, x330002, x330003 => if x25 < x24 then (if 0 ≤ x25 then (if x25 < (x7.length : Int) then ((vcodec_codec_settled.f k x330000 x330001 x330002 x330003 (rd x7 x25)).bind fun t339 => (vcodec_codec_posts.l0 k (x7.set (x25 : Int).toNat t339) x24 (wrap64 (x25 + 1)) x330000 x330001 x330002 x330003)) else (none)) else (none)) else (some x7)
def vcodec_codec_posts.f (k : Nat) (a0_0 : Int) (a0_1 : Int) (l0_2 : List Int) (l0_3 : List Int) (l1 : List Int) : Option (List Int) := (band_Gains.f k l1).bind fun bt330 => ((floor_Fit.f k bt330.1 a0_1).bind fun bt334 => (vcodec_codec_posts.l0 k bt334.1 (bt334.1.length : Int) 0 a0_0 a0_1 l0_2 l0_3))
theorem vcodec_codec_posts.mono_l : ∀ k, (∀ y0 y1 y2 y3 y4 y5 y6, LeO (vcodec_codec_posts.l0 k y0 y1 y2 y3 y4 y5 y6) (vcodec_codec_posts.l0 (k + 1) y0 y1 y2 y3 y4 y5 y6))
  | 0 => fun _ _ _ _ _ _ _ r h => by simp [vcodec_codec_posts.l0] at h
  | k + 1 => by
    have ih0 := vcodec_codec_posts.mono_l k
    · intro y0 y1 y2 y3 y4 y5 y6
      unfold vcodec_codec_posts.l0
      with_reducible repeat' first
   | exact ih0 _ _ _ _ _ _ _
   | exact band_Gains.mono _ _
   | exact floor_Fit.mono _ _ _
   | exact vcodec_codec_settled.mono _ _ _ _ _ _
   | exact LeO.refl _
   | exact LeO.none _
   | refine LeO.ite ?_ ?_
   | refine LeO.bind ?_ (fun _ => ?_)
theorem vcodec_codec_posts.mono : ∀ a0 a1 a2 a3 a4 k, LeO (vcodec_codec_posts.f k a0 a1 a2 a3 a4) (vcodec_codec_posts.f (k + 1) a0 a1 a2 a3 a4) := by
  intro a0 a1 a2 a3 a4 k
  have ih0 := vcodec_codec_posts.mono_l k
  unfold vcodec_codec_posts.f
  with_reducible repeat' first
   | exact ih0 _ _ _ _ _ _ _
   | exact band_Gains.mono _ _
   | exact floor_Fit.mono _ _ _
   | exact vcodec_codec_settled.mono _ _ _ _ _ _
   | exact LeO.refl _
   | exact LeO.none _
   | refine LeO.ite ?_ ?_
   | refine LeO.bind ?_ (fun _ => ?_)
def vcodec_codec_posts.T6 : Bool × List (List Nat × List Nat) := (true, [([], []), ([], []), ([], []), ([], []), ([], []), ([3, 4], [3, 4]), ([5], [5]), ([2, 6], [2, 6]), ([0, 1, 0, 1, 2, 3, 4, 5, 6, 7], [0, 1]), ([8, 7, 7, 0, 1, 2, 3, 4, 5, 6, 7], [7, 8])])
def vcodec_codec_posts.B6 : List Nat := [0, 0, 0, 0, 0, 24, 56, 124, 255, 511]
theorem vcodec_codec_posts.tab6 : rtab .any (opsOf Try.f37 6) = vcodec_codec_posts.T6 := by kernel_rfl
theorem vcodec_codec_posts.bits6 : waitsOk vcodec_codec_posts.T6.2 vcodec_codec_posts.B6 = true := by kernel_rfl
set_option maxHeartbeats 8000000 in
set_option maxRecDepth 100000 in
theorem vcodec_codec_posts.calls (k : Nat) (a0_0 : Int) (a0_1 : Int) (A0_2 : Option Addr) (c0_2 : Nat) (l0_2 : List Int) (A0_3 : Option Addr) (c0_3 : Nat) (l0_3 : List Int) (A1 : Option Addr) (c1 : Nat) (l1 : List Int) (r : List Int) (w : World) (hr0_2 : Kd.C (Kd.int .i64) w A0_2 l0_2.length l0_2) (hc0_2 : l0_2.length ≤ c0_2) (hr0_3 : Kd.C (Kd.int .i64) w A0_3 l0_3.length l0_3) (hc0_3 : l0_3.length ≤ c0_3) (hr1 : Kd.C (Kd.int .i64) w A1 l1.length l1) (hc1 : l1.length ≤ c1) (h : vcodec_codec_posts.f k a0_0 a0_1 l0_2 l0_3 l1 = some r) :
    Calls Try.prog 37 #[.agg #[.int .i64 a0_0, .int .i64 a0_1, .slice A0_2 l0_2.length c0_2, .slice A0_3 l0_3.length c0_3], .slice A1 l1.length c1] w fun e w' => ∃ v0_ : Value, e = .returned (v0_) ∧ Kd.R (Kd.int .i64) 3 w' w.heap.size (fun _ => True) v0_ r ∧ Below w.heap.size w w' := by
 have hu61 := Try.underlying61
 have HR0_2 := Aside0.mk hr0_2
 have HC0_2 := Aside0.mk hc0_2
 clear hr0_2 hc0_2
 have HR0_3 := Aside0.mk hr0_3
 have HC0_3 := Aside0.mk hc0_3
 clear hr0_3 hc0_3
 have HR1 := Aside0.mk hr1
 have HC1 := Aside0.mk hc1
 clear hr1 hc1
 have HB := Aside0.mk (Below.refl w.heap.size w)
 have H : ((band_Gains.f k l1).bind fun bt330 => ((floor_Fit.f k bt330.1 a0_1).bind fun bt334 => (vcodec_codec_posts.l0 k bt334.1 (bt334.1.length : Int) 0 a0_0 a0_1 l0_2 l0_3))) = some r := h
 clear h
 obtain ⟨⟨t330, t331⟩, A3, H⟩ := ob_ H
 (try dsimp only at H)
 obtain ⟨⟨t334, t335⟩, A4, H⟩ := ob_ H
 (try dsimp only at H)
 have H' := Aside0.mk H
 clear H
 go_enter Try.func37, Try.ntmps37
 go_wp2_with (first | ((with_reducible refine gate_dst (N := 2) rfl ?_); refine bx_ HB 2 #[.int .i64 a0_0, .int .i64 a0_1, .slice A0_2 l0_2.length c0_2, .slice A0_3 l0_3.length c0_3] 61 ?_; clear HB; intro gb329 hg w5 hb BK329 GE329 HB; have GW329 := GE329; clear hb hg) | ((with_reducible refine gate_callee (f := 74) rfl ?_); refine gL_ (some 12) Try.func74 #[.slice A1 l1.length c1] ?_; (with_reducible refine (band_Gains.calls k _ _ l1 t330 t331 _ ?side1 ?side2 A3.out).mono ?_); (case side1 => exact kC_ HR1 HB); (case side2 => exact HC1.out); rintro e w6 ⟨v332, rfl, ho0, hb⟩; refine ⟨_, rfl, ?_⟩; have HO333 := Aside0.mk (Kd.R_lower ho0 (bs_ HB)); replace BK329 := FB_ BK329 hb; replace HB := BS_ HB hb; (try clear hb); (try clear ho0); obtain ⟨hcz7_0, hcz7_1, hcz7_2, hcz7_3, hfz7_0, hfz7_1, hfz7_2, hfz7_3⟩ := e4_ BK329; obtain ⟨Ao8, co8, eo8⟩ := Kd.R_slice HO333.out; subst eo8) | ((with_reducible refine gate_callee (f := 75) rfl ?_); refine gL_ (some 20) Try.func75 #[.slice Ao8 t330.length co8, .int .i64 a0_1] ?_; (with_reducible refine (floor_Fit.calls k _ _ t330 a0_1 t334 t335 _ ?side1 ?side2 A4.out).mono ?_); (case side1 => exact kCt_ (Kd.R_reads' HO333.out).2.2); (case side2 => exact (Kd.R_reads' HO333.out).2.1); rintro e w9 ⟨v336, rfl, ho0, hb⟩; refine ⟨_, rfl, ?_⟩; have HO337 := Aside0.mk (Kd.R_lower (Kd.R_new' ho0 (Kd.R_lt (kR_ HO333))) (bs_ HB)); replace HO333 := Aside0.mk (Kd.R_elder' (kR_ HO333) (Kd.R_base ho0) hb); replace BK329 := FB_ BK329 hb; replace HB := BS_ HB hb; (try clear hb); (try clear ho0); obtain ⟨Ao10, co10, eo10⟩ := Kd.R_slice HO337.out; subst eo10))
 go_loopg [25] k (fun kq v25 w' => ∃ (x7_1 : List Int) (x25_1 : Int), v25 = .int .i64 x25_1 ∧ Aside0 (vcodec_codec_posts.l0 kq x7_1 (t334.length : Int) x25_1 a0_0 a0_1 l0_2 l0_3 = some r) ∧ Aside0 (kq ≤ k) ∧ Aside0 (Kd.R (Kd.int .i64) 3 w' w.heap.size (fun _ => True) (.slice Ao10 t334.length co10) x7_1) ∧ Aside0 (w'.heap[gb329]? = some (.cells #[.int .i64 a0_0, .int .i64 a0_1, (.slice A0_2 l0_2.length c0_2), (.slice A0_3 l0_3.length c0_3)] 61 (0, 0))) ∧ Aside0 (Below w.heap.size w w'))
 case atStart => exact ⟨(t334), (0), rs_, H', ⟨Nat.le_refl _⟩, ⟨by (with_reducible repeat (first | apply Kd.R_alloc | apply Kd.R_drewN | apply Kd.R_drew)); exact Kd.R_mono HO337.out (fun _ hk => trivial)⟩, ⟨bk_ BK329⟩, ⟨bl_ HB⟩⟩
 case round => (
 clear H'
 try clear c1
 try clear hcz7_0
 try clear hcz7_1
 try clear hcz7_2
 try clear hcz7_3
 try clear hfz7_0
 try clear hfz7_1
 try clear hfz7_2
 try clear hfz7_3
 obtain ⟨x7_1, x25_1, rfl, HA, HK1, HO_7, BK329, HB⟩ := hrel
 have hl7_1 := (Kd.R_reads' HO_7.out).1
 rw [hl7_1] at HO_7
 (try simp only [hl7_1])
 (try simp only [hl7_1] at BK329)
 cases gk with
 | zero => exact absurd HA.out (by simp [vcodec_codec_posts.l0])
 | succ k1 => (
 have H := HA.out
 clear HA
 simp only [vcodec_codec_posts.l0] at H
 by_cases c11 : x25_1 < (t334.length : Int)
 {
 rw [if_pos c11] at H
 have c11b0 : decide (x25_1 < (t334.length : Int)) = true := decide_eq_true c11
 clear c11
 by_cases c12 : 0 ≤ x25_1
 {
 rw [if_pos c12] at H
 have c12b0 : decide (0 ≤ x25_1) = true := decide_eq_true c12
 clear c12
 by_cases c13 : x25_1 < (x7_1.length : Int)
 {
 rw [if_pos c13] at H
 have c13b0 : decide (x25_1 < (x7_1.length : Int)) = true := decide_eq_true c13
 clear c13
 obtain ⟨t339, A14, H⟩ := ob_ H
 (try dsimp only at H)
 obtain ⟨y340, hy340⟩ : ∃ y_ : List Int, y_ = (x7_1.set (x25_1 : Int).toNat t339) := ⟨_, rfl⟩
 replace H : (vcodec_codec_posts.l0 k1 y340 (t334.length : Int) (wrap64 (x25_1 + 1)) a0_0 a0_1 l0_2 l0_3) = some r := by first | (rw [hy340]; with_reducible exact H) | (have H2_ := (Option.bind_some _ _).symm.trans H; rw [hy340]; with_reducible exact H2_) | (have H2_ := (Option.bind_some _ _).symm.trans H; with_reducible exact H2_) | with_reducible exact H | (rw [hy340]; exact H) | exact H
 have Ny340 := Aside0.mk hy340
 clear hy340
 have H' := Aside0.mk H
 clear H
 try go_wp2
 replace HO_7 := Aside0.mk (Kd.R_drew HO_7.out)
 replace BK329 := Aside0.mk (blk_drew BK329.out)
 replace HB := Aside0.mk (below_drew1 HB.out)
 have p338 : 0 ≤ (x25_1 : Int) := of_decide_eq_true am_
 have q338 : x25_1 < (x7_1.length : Int) := of_decide_eq_true am_
 obtain ⟨ad338, e338, hx338_0⟩ := Kd.at_int (Kd.R_reads' HO_7.out).2.2 x25_1 p338 q338
 cases e338
 replace p338 := eq_true p338
 replace q338 := eq_true q338
 refine start_ (n := 10) (S := fun w' => w'.cell? ⟨gb329, 0, none⟩ = some (.int .i64 a0_0) ∧ w'.cell? ⟨gb329, 1, none⟩ = some (.int .i64 a0_1) ∧ w'.cell? ⟨gb329, 2, none⟩ = some (.slice A0_2 l0_2.length c0_2) ∧ w'.cell? ⟨gb329, 3, none⟩ = some (.slice A0_3 l0_3.length c0_3) ∧ w'.cell? (ad338.add (x25_1).toNat) = some (.int .i64 (rd x7_1 x25_1))) (ds := [9]) (B_ 10 0) kf_ rfl rfl ⟨ce_ BK329 0, ce_ BK329 1, ce_ BK329 2, ce_ BK329 3, hx338_0⟩ (fun hHeld => ?_); refine with_tabW vcodec_codec_posts.tab6 vcodec_codec_posts.bits6 (fun HT_ HW_ => ?_)
 generalize wr.drew = w16 at HO_7 BK329 HB hx338_0 hHeld ⊢
 refine pu_ 0 (some 28) (B_ 10 1) HT_ ?_
 refine pu_ 1 (some 29) (B_ 10 3) HT_ ?_
 refine pu_ 3 (some 31) (B_ 10 11) HT_ ?_
 refine pu_ 4 (some 32) (B_ 10 27) HT_ ?_
 refine pu_ 5 (some 33) (B_ 10 59) HT_ ?_
 refine take_ (i := 2) (N := some 30) (v := ?_) (a' := ?_) (B_ 10 63) rfl rfl (take_ofW HT_.out HW_.out kf_) (fun _ _ _ h => h) (Or.inl ⟨by rfl, ?_⟩) hHeld ?_ ?_
 rotate_left
 {
 rintro w' ⟨s0, s1, s2, s3, s4⟩
 go_simp
 with_reducible rfl}
 rotate_left
 {
 exact sp_}
 refine take_ (i := 6) (N := some 34) (v := ?_) (a' := ?_) (B_ 10 127) rfl rfl (take_ofW HT_.out HW_.out kf_) (fun _ _ _ h => h) (Or.inl ⟨by rfl, ?_⟩) hHeld ?_ ?_
 rotate_left
 {
 rintro w' ⟨s0, s1, s2, s3, s4⟩
 go_simp
 with_reducible rfl}
 rotate_left
 {
 exact sp_}
 refine one_ (i := 7) (N := some 35) (B_ 10 255) rfl rfl (one_of HT_.out kf_) (by decide) (fun K hK => ?_)
 refine goes_ Try.func76 kf_ rfl #[.agg #[.int .i64 a0_0, .int .i64 a0_1, .slice A0_2 l0_2.length c0_2, .slice A0_3 l0_3.length c0_3], .int .i64 (rd x7_1 x25_1)] (by rfl) rfl rfl ar_ ?_
 with_reducible refine (vcodec_codec_settled.calls k1 a0_0 a0_1 _ _ l0_2 _ _ l0_3 (rd x7_1 x25_1) t339 _ ?side1 ?side2 ?side3 ?side4 A14.out).mono ?_
 (case side1 => exact kC_ HR0_2 HB)
 (case side2 => exact HC0_2.out)
 (case side3 => exact kC_ HR0_3 HB)
 (case side4 => exact HC0_3.out)
 rintro e w17 ⟨rfl, hb⟩
 have HS4_ := (hb.cell (World.block_lt_of_cell? _ _ (hHeld.2.2.2.2))).trans (hHeld.2.2.2.2)
 refine ⟨_, rfl, ?_⟩
 replace HO_7 := FR_ HO_7 hb
 replace BK329 := FB_ BK329 hb
 replace HB := BS_ HB hb
 (try clear hb)
 (try clear hk)
 have p15 : 0 ≤ (x25_1 : Int) := of_decide_eq_true am_
 have q15 : (x25_1 : Int) < ((x7_1.length : Int) : Int) := of_decide_eq_true am_
 obtain ⟨go15, co15, eo15, gb15, gl15, cl15, HG15⟩ := Kd.R_form HO_7.out (by omega)
 (first | cases eo15 | (injection eo15 with ea_ en_ ec_; (first | subst ea_ | (injection ea_ with ea_; subst ea_)); subst ec_; clear en_))
 have GB15 := Aside0.mk gb15
 have GG15 := Aside0.mk HG15
 clear gb15 gl15 HG15
 (first | simp only [add_plain] at hx338_0 | skip)
 obtain ⟨hx15_0, hf15_0⟩ := Kd.R_celln 0 HO_7.out (x25_1 : Int) p15 q15
 replace p15 := eq_true p15
 replace q15 := eq_true q15
 have HP18 := Kd.R_putn HO_7.out (x25_1 : Int) t339
 rw [← Ny340.out] at HP18
 have HQ18 := Aside0.mk HP18
 clear HP18
 refine hK.out _ _ ⟨ce_ BK329 0, ce_ BK329 1, ce_ BK329 2, ce_ BK329 3, HS4_⟩ (fun hHeld => ?_)
 clear hK K
 refine norm_ (a' := ?_) ?_ ?_
 rotate_left
 {
 show Act.put _ (some 35) _ = _
 exact sp_}
 refine pu_ 8 (some 36) (B_ 10 511) HT_ ?_
 refine last_ (i := 9) (N := none) (B_ 10 1023) rfl rfl (one_of HT_.out kf_) (by decide) (fun K hK => ?_)
 refine skip_ (w1 := ?_) (by rfl) rfl ?_ ?_
 rotate_left
 {
 go_simp
 rfl}
 refine hK.out _ _ ?_
 clear hK K
 refine done_ (done_of HT_.out kf_) ?_
 try go_wp2
 (try simp only [← hl7_1])
 go_roundg k1
 case measure => have := HK1.out; omega
 case rel => exact ⟨(y340), (wrap64 (x25_1 + 1)), rs_, H', ⟨by have := HK1.out; omega⟩, ⟨by (try simp only [hl7_1]); (with_reducible repeat (first | apply Kd.R_alloc | apply Kd.R_drewN | apply Kd.R_drew)); exact HQ18.out⟩, ⟨by (try simp only [hl7_1]); (with_reducible repeat (first | refine blk_drewN ?_ _ | refine blk_drew ?_ | refine blk_alloc ?_ _)); refine blk_far ?_ (by have h_ := Kd.R_ne HO_7.out BK329.out (by decide); intro e_; exact h_ (by rw [e_]; rfl)) _; (with_reducible repeat (first | refine blk_drewN ?_ _ | refine blk_drew ?_ | refine blk_alloc ?_ _)); exact BK329.out⟩, ⟨by repeat (first | (with_reducible first | exact HB.out | apply below_alloc | apply pw_below_drewN | apply below_drew1 | refine below_set ?_ GB15.out | refine below_set ?_ GE329.out) | exact HB.out)⟩⟩}
 {
 rw [if_neg c13] at H
 exact absurd H (by simp)}}
 {
 rw [if_neg c12] at H
 exact absurd H (by simp)}}
 {
 rw [if_neg c11] at H
 have c11b0 : decide (x25_1 < (t334.length : Int)) = false := decide_eq_false c11
 (try rw [hl7_1] at c11b0)
 clear c11
 obtain rfl := Option.some.inj H
 go_wp2
 go_ret
 exact ⟨_, by first | rfl | (simp [errW_none, errW_some] <;> rfl) | (simp [*, errW_none, errW_some] <;> rfl), by (with_reducible repeat (first | apply Kd.R_alloc | apply Kd.R_drewN | apply Kd.R_drew)); exact HO_7.out, bl_ HB⟩}))
def num_size.f (a0 : Int) : Option (Int) := if a0 < 0 then (some (IntKind.u64.wrap (-(IntKind.u64.wrap (a0))))) else (some (IntKind.u64.wrap (a0)))
set_option maxHeartbeats 8000000 in
set_option maxRecDepth 100000 in
theorem num_size.calls (a0 : Int) (r : Int) (w : World) (h : num_size.f a0 = some r) :
    Calls Try.prog 114 #[.int .i64 a0] w fun e w' => e = .returned (.int .u64 r) ∧ Drawn0 w w' := by
 have H : (if a0 < 0 then (some (IntKind.u64.wrap (-(IntKind.u64.wrap (a0))))) else (some (IntKind.u64.wrap (a0)))) = some r := h
 clear h
 by_cases c2 : a0 < 0
 {
 rw [if_pos c2] at H
 have c2b0 : decide (a0 < 0) = true := decide_eq_true c2
 clear c2
 obtain rfl := Option.some.inj H
 go_enter Try.func114, Try.ntmps114
 go_wp2
 go_ret
 exact ⟨by first | rfl | (simp; done) | (simp [*]; done), by repeat (first | exact Drawn0.refl _ | apply Drawn0.step)⟩}
 {
 rw [if_neg c2] at H
 have c2b0 : decide (a0 < 0) = false := decide_eq_false c2
 clear c2
 obtain rfl := Option.some.inj H
 go_enter Try.func114, Try.ntmps114
 go_wp2
 go_ret
 exact ⟨by first | rfl | (simp; done) | (simp [*]; done), by repeat (first | exact Drawn0.refl _ | apply Drawn0.step)⟩}
def num_Div.f (a0 : Int) (a1 : Int) : Option (Int × Int) := if a1 < 1 then (some (0, 1)) else ((num_size.f a0).bind fun t341 => (if (IntKind.u64.wrap (a1)) = 0 then (none) else (if (Int.tmod t341 (IntKind.u64.wrap (a1))) ≥ (IntKind.u64.wrap ((IntKind.u64.wrap (a1)) - (Int.tmod t341 (IntKind.u64.wrap (a1))))) then (if a0 < 0 then (some (wrap64 (IntKind.u64.wrap (-(IntKind.u64.wrap ((IntKind.u64.wrap (Int.tdiv t341 (IntKind.u64.wrap (a1)))) + 1)))), 0)) else (some (wrap64 (IntKind.u64.wrap ((IntKind.u64.wrap (Int.tdiv t341 (IntKind.u64.wrap (a1)))) + 1)), 0))) else (if a0 < 0 then (some (wrap64 (IntKind.u64.wrap (-(IntKind.u64.wrap (Int.tdiv t341 (IntKind.u64.wrap (a1)))))), 0)) else (some (wrap64 (IntKind.u64.wrap (Int.tdiv t341 (IntKind.u64.wrap (a1)))), 0))))))
set_option maxHeartbeats 8000000 in
set_option maxRecDepth 100000 in
theorem num_Div.calls (a0 : Int) (a1 : Int) (r1 : Int) (r2 : Int) (w : World) (h : num_Div.f a0 a1 = some (r1, r2)) :
    Calls Try.prog 99 #[.int .i64 a0, .int .i64 a1] w fun e w' => e = .returned (.tuple #[.int .i64 r1, .int .i64 r2]) ∧ Drawn0 w w' := by
 have H : (if a1 < 1 then (some (0, 1)) else ((num_size.f a0).bind fun t341 => (if (IntKind.u64.wrap (a1)) = 0 then (none) else (if (Int.tmod t341 (IntKind.u64.wrap (a1))) ≥ (IntKind.u64.wrap ((IntKind.u64.wrap (a1)) - (Int.tmod t341 (IntKind.u64.wrap (a1))))) then (if a0 < 0 then (some (wrap64 (IntKind.u64.wrap (-(IntKind.u64.wrap ((IntKind.u64.wrap (Int.tdiv t341 (IntKind.u64.wrap (a1)))) + 1)))), 0)) else (some (wrap64 (IntKind.u64.wrap ((IntKind.u64.wrap (Int.tdiv t341 (IntKind.u64.wrap (a1)))) + 1)), 0))) else (if a0 < 0 then (some (wrap64 (IntKind.u64.wrap (-(IntKind.u64.wrap (Int.tdiv t341 (IntKind.u64.wrap (a1)))))), 0)) else (some (wrap64 (IntKind.u64.wrap (Int.tdiv t341 (IntKind.u64.wrap (a1)))), 0))))))) = some (r1, r2) := h
 clear h
 by_cases c3 : a1 < 1
 {
 rw [if_pos c3] at H
 have c3b0 : decide (a1 < 1) = true := decide_eq_true c3
 clear c3
 simp only [Option.some.injEq, Prod.mk.injEq] at H
 obtain ⟨rfl, rfl⟩ := H
 go_enter Try.func99, Try.ntmps99
 go_wp2
 repeat (go_quiet (fail); try go_wp2)
 go_ret2
 exact ⟨by first | rfl | (simp; done) | (simp [*]; done), by repeat (first | exact Drawn0.refl _ | apply Drawn0.step)⟩}
 {
 rw [if_neg c3] at H
 have c3b0 : decide (a1 < 1) = false := decide_eq_false c3
 clear c3
 obtain ⟨t341, A4, H⟩ := ob_ H
 (try dsimp only at H)
 by_cases c5 : (IntKind.u64.wrap (a1)) = 0
 {
 rw [if_pos c5] at H
 exact absurd H (by simp)}
 {
 rw [if_neg c5] at H
 have c5b0 : ((IntKind.u64.wrap (a1)) == 0) = false := beq_eq_false_iff_ne.mpr c5
 have c5b1 : ((IntKind.u64.wrap (a1)) != 0) = true := bne_iff_ne.mpr c5
 by_cases c6 : (Int.tmod t341 (IntKind.u64.wrap (a1))) ≥ (IntKind.u64.wrap ((IntKind.u64.wrap (a1)) - (Int.tmod t341 (IntKind.u64.wrap (a1)))))
 {
 rw [if_pos c6] at H
 have c6b0 : decide ((IntKind.u64.wrap ((IntKind.u64.wrap (a1)) - (Int.tmod t341 (IntKind.u64.wrap (a1))))) ≤ (Int.tmod t341 (IntKind.u64.wrap (a1)))) = true := decide_eq_true c6
 clear c6
 by_cases c7 : a0 < 0
 {
 rw [if_pos c7] at H
 have c7b0 : decide (a0 < 0) = true := decide_eq_true c7
 clear c7
 simp only [Option.some.injEq, Prod.mk.injEq] at H
 obtain ⟨rfl, rfl⟩ := H
 go_enter Try.func99, Try.ntmps99
 go_wp2_with (first | (go_at_call 114; (with_reducible refine (num_size.calls a0 t341 _ A4.out).mono ?_); rintro e w' ⟨rfl, ⟨nd, rfl⟩⟩; (try first | exact ⟨rfl, _, World.drewN_drewN _ _ _⟩ | exact ⟨rfl, _, Eq.trans (World.drewN_drewN _ _ _) (congrArg (World.drewN _) (Nat.add_assoc _ _ _))⟩)))
 repeat (go_quiet (first | (go_at_call 114; (with_reducible refine (num_size.calls a0 t341 _ A4.out).mono ?_); rintro e w' ⟨rfl, ⟨nd, rfl⟩⟩; (try first | exact ⟨rfl, _, World.drewN_drewN _ _ _⟩ | exact ⟨rfl, _, Eq.trans (World.drewN_drewN _ _ _) (congrArg (World.drewN _) (Nat.add_assoc _ _ _))⟩))); try go_wp2_with (first | (go_at_call 114; (with_reducible refine (num_size.calls a0 t341 _ A4.out).mono ?_); rintro e w' ⟨rfl, ⟨nd, rfl⟩⟩; (try first | exact ⟨rfl, _, World.drewN_drewN _ _ _⟩ | exact ⟨rfl, _, Eq.trans (World.drewN_drewN _ _ _) (congrArg (World.drewN _) (Nat.add_assoc _ _ _))⟩))))
 go_ret2
 exact ⟨by first | rfl | (simp; done) | (simp [*]; done), by repeat (first | exact Drawn0.refl _ | apply Drawn0.step)⟩}
 {
 rw [if_neg c7] at H
 have c7b0 : decide (a0 < 0) = false := decide_eq_false c7
 clear c7
 simp only [Option.some.injEq, Prod.mk.injEq] at H
 obtain ⟨rfl, rfl⟩ := H
 go_enter Try.func99, Try.ntmps99
 go_wp2_with (first | (go_at_call 114; (with_reducible refine (num_size.calls a0 t341 _ A4.out).mono ?_); rintro e w' ⟨rfl, ⟨nd, rfl⟩⟩; (try first | exact ⟨rfl, _, World.drewN_drewN _ _ _⟩ | exact ⟨rfl, _, Eq.trans (World.drewN_drewN _ _ _) (congrArg (World.drewN _) (Nat.add_assoc _ _ _))⟩)))
 repeat (go_quiet (first | (go_at_call 114; (with_reducible refine (num_size.calls a0 t341 _ A4.out).mono ?_); rintro e w' ⟨rfl, ⟨nd, rfl⟩⟩; (try first | exact ⟨rfl, _, World.drewN_drewN _ _ _⟩ | exact ⟨rfl, _, Eq.trans (World.drewN_drewN _ _ _) (congrArg (World.drewN _) (Nat.add_assoc _ _ _))⟩))); try go_wp2_with (first | (go_at_call 114; (with_reducible refine (num_size.calls a0 t341 _ A4.out).mono ?_); rintro e w' ⟨rfl, ⟨nd, rfl⟩⟩; (try first | exact ⟨rfl, _, World.drewN_drewN _ _ _⟩ | exact ⟨rfl, _, Eq.trans (World.drewN_drewN _ _ _) (congrArg (World.drewN _) (Nat.add_assoc _ _ _))⟩))))
 go_ret2
 exact ⟨by first | rfl | (simp; done) | (simp [*]; done), by repeat (first | exact Drawn0.refl _ | apply Drawn0.step)⟩}}
 {
 rw [if_neg c6] at H
 have c6b0 : decide ((IntKind.u64.wrap ((IntKind.u64.wrap (a1)) - (Int.tmod t341 (IntKind.u64.wrap (a1))))) ≤ (Int.tmod t341 (IntKind.u64.wrap (a1)))) = false := decide_eq_false c6
 clear c6
 by_cases c8 : a0 < 0
 {
 rw [if_pos c8] at H
 have c8b0 : decide (a0 < 0) = true := decide_eq_true c8
 clear c8
 simp only [Option.some.injEq, Prod.mk.injEq] at H
 obtain ⟨rfl, rfl⟩ := H
 go_enter Try.func99, Try.ntmps99
 go_wp2_with (first | (go_at_call 114; (with_reducible refine (num_size.calls a0 t341 _ A4.out).mono ?_); rintro e w' ⟨rfl, ⟨nd, rfl⟩⟩; (try first | exact ⟨rfl, _, World.drewN_drewN _ _ _⟩ | exact ⟨rfl, _, Eq.trans (World.drewN_drewN _ _ _) (congrArg (World.drewN _) (Nat.add_assoc _ _ _))⟩)))
 repeat (go_quiet (first | (go_at_call 114; (with_reducible refine (num_size.calls a0 t341 _ A4.out).mono ?_); rintro e w' ⟨rfl, ⟨nd, rfl⟩⟩; (try first | exact ⟨rfl, _, World.drewN_drewN _ _ _⟩ | exact ⟨rfl, _, Eq.trans (World.drewN_drewN _ _ _) (congrArg (World.drewN _) (Nat.add_assoc _ _ _))⟩))); try go_wp2_with (first | (go_at_call 114; (with_reducible refine (num_size.calls a0 t341 _ A4.out).mono ?_); rintro e w' ⟨rfl, ⟨nd, rfl⟩⟩; (try first | exact ⟨rfl, _, World.drewN_drewN _ _ _⟩ | exact ⟨rfl, _, Eq.trans (World.drewN_drewN _ _ _) (congrArg (World.drewN _) (Nat.add_assoc _ _ _))⟩))))
 go_ret2
 exact ⟨by first | rfl | (simp; done) | (simp [*]; done), by repeat (first | exact Drawn0.refl _ | apply Drawn0.step)⟩}
 {
 rw [if_neg c8] at H
 have c8b0 : decide (a0 < 0) = false := decide_eq_false c8
 clear c8
 simp only [Option.some.injEq, Prod.mk.injEq] at H
 obtain ⟨rfl, rfl⟩ := H
 go_enter Try.func99, Try.ntmps99
 go_wp2_with (first | (go_at_call 114; (with_reducible refine (num_size.calls a0 t341 _ A4.out).mono ?_); rintro e w' ⟨rfl, ⟨nd, rfl⟩⟩; (try first | exact ⟨rfl, _, World.drewN_drewN _ _ _⟩ | exact ⟨rfl, _, Eq.trans (World.drewN_drewN _ _ _) (congrArg (World.drewN _) (Nat.add_assoc _ _ _))⟩)))
 repeat (go_quiet (first | (go_at_call 114; (with_reducible refine (num_size.calls a0 t341 _ A4.out).mono ?_); rintro e w' ⟨rfl, ⟨nd, rfl⟩⟩; (try first | exact ⟨rfl, _, World.drewN_drewN _ _ _⟩ | exact ⟨rfl, _, Eq.trans (World.drewN_drewN _ _ _) (congrArg (World.drewN _) (Nat.add_assoc _ _ _))⟩))); try go_wp2_with (first | (go_at_call 114; (with_reducible refine (num_size.calls a0 t341 _ A4.out).mono ?_); rintro e w' ⟨rfl, ⟨nd, rfl⟩⟩; (try first | exact ⟨rfl, _, World.drewN_drewN _ _ _⟩ | exact ⟨rfl, _, Eq.trans (World.drewN_drewN _ _ _) (congrArg (World.drewN _) (Nat.add_assoc _ _ _))⟩))))
 go_ret2
 exact ⟨by first | rfl | (simp; done) | (simp [*]; done), by repeat (first | exact Drawn0.refl _ | apply Drawn0.step)⟩}}}}
def remap_quantized.f (a0 : Int) (a1 : Int) : Option (Int) := (num_Div.f a0 a1).bind fun bt342 => (some bt342.1)
set_option maxHeartbeats 8000000 in
set_option maxRecDepth 100000 in
theorem remap_quantized.calls (a0 : Int) (a1 : Int) (r : Int) (w : World) (h : remap_quantized.f a0 a1 = some r) :
    Calls Try.prog 77 #[.int .i64 a0, .int .i64 a1] w fun e w' => e = .returned (.int .i64 r) ∧ Drawn0 w w' := by
 have H : ((num_Div.f a0 a1).bind fun bt342 => (some bt342.1)) = some r := h
 clear h
 replace H := Option.bind_eq_some_iff.mp H
 obtain ⟨⟨t342, t343⟩, A30, H⟩ := H
 replace H : (some t342) = some r := H
 have A3 := Aside0.mk A30
 clear A30
 obtain rfl := Option.some.inj H
 go_enter Try.func77, Try.ntmps77
 go_wp2_with (first | ((with_reducible refine gate_callee (f := 99) rfl ?_); refine gL_ (some 10) Try.func99 #[.int .i64 a0, .int .i64 a1] ?_; (with_reducible refine (num_Div.calls a0 a1 t342 t343 _ A3.out).mono ?_); rintro e w' ⟨rfl, ⟨nd, rfl⟩⟩; refine ⟨_, rfl, ?_⟩))
 go_ret
 exact ⟨by first | rfl | (simp; done) | (simp [*]; done), by repeat (first | exact Drawn0.refl _ | apply Drawn0.step)⟩
def remap_over_int64_by_remap_quantized.l0 : Nat → List Int → List Int → List Int → Int → Int → Option (List Int)
  | 0, _, _, _, _, _ => none
  | k + 1, x1, x7, x10, x11, x12 => if x12 < x11 then (if 0 ≤ x12 then (if x12 < (x10.length : Int) then (if x12 < (x1.length : Int) then ((remap_quantized.f (rd x10 x12) (rd x1 x12)).bind fun t346 => (if x7.length < 17592186044416 then (remap_over_int64_by_remap_quantized.l0 k x1 (x7 ++ [t346]) x10 x11 (wrap64 (x12 + 1))) else (none))) else (none)) else (none)) else (none)) else (some x7)
def remap_over_int64_by_remap_quantized.f (k : Nat) (l0 : List Int) (l1 : List Int)  : Option (List Int) := remap_over_int64_by_remap_quantized.l0 k l1 ([] : List Int) l0 (l0.length : Int) 0
theorem remap_over_int64_by_remap_quantized.mono_l : ∀ k, (∀ y0 y1 y2 y3 y4, LeO (remap_over_int64_by_remap_quantized.l0 k y0 y1 y2 y3 y4) (remap_over_int64_by_remap_quantized.l0 (k + 1) y0 y1 y2 y3 y4))
  | 0 => fun _ _ _ _ _ r h => by simp [remap_over_int64_by_remap_quantized.l0] at h
  | k + 1 => by
    have ih0 := remap_over_int64_by_remap_quantized.mono_l k
    · intro y0 y1 y2 y3 y4
      unfold remap_over_int64_by_remap_quantized.l0
      with_reducible repeat' first
   | exact ih0 _ _ _ _ _
   | exact LeO.refl _
   | exact LeO.none _
   | refine LeO.ite ?_ ?_
   | refine LeO.bind ?_ (fun _ => ?_)
theorem remap_over_int64_by_remap_quantized.mono : ∀ a0 a1 k, LeO (remap_over_int64_by_remap_quantized.f k a0 a1) (remap_over_int64_by_remap_quantized.f (k + 1) a0 a1) := by
  intro a0 a1 k
  have ih0 := remap_over_int64_by_remap_quantized.mono_l k
  unfold remap_over_int64_by_remap_quantized.f
  with_reducible repeat' first
   | exact ih0 _ _ _ _ _
   | exact LeO.refl _
   | exact LeO.none _
   | refine LeO.ite ?_ ?_
   | refine LeO.bind ?_ (fun _ => ?_)
set_option maxHeartbeats 8000000 in
set_option maxRecDepth 100000 in
theorem remap_over_int64_by_remap_quantized.calls (k : Nat) (A0 : Option Addr) (c0 : Nat) (l0 : List Int) (A1 : Option Addr) (c1 : Nat) (l1 : List Int)  (r : List Int) (w : World) (hr0 : Kd.C (Kd.int .i64) w A0 l0.length l0) (hc0 : l0.length ≤ c0) (hr1 : Kd.C (Kd.int .i64) w A1 l1.length l1) (hc1 : l1.length ≤ c1) (h : remap_over_int64_by_remap_quantized.f k l0 l1 = some r) :
    Calls Try.prog 71 #[.slice A0 l0.length c0, .slice A1 l1.length c1, .func (.func 77) #[] #[]] w fun e w' => ∃ v0_ : Value, e = .returned (v0_) ∧ Kd.R (Kd.int .i64) 2 w' w.heap.size (fun _ => True) v0_ r ∧ Below w.heap.size w w' := by
 have HR0 := Aside0.mk hr0
 have HC0 := Aside0.mk hc0
 clear hr0 hc0
 have HR1 := Aside0.mk hr1
 have HC1 := Aside0.mk hc1
 clear hr1 hc1
 have HB := Aside0.mk (Below.refl w.heap.size w)
 have H : (remap_over_int64_by_remap_quantized.l0 k l1 ([] : List Int) l0 (l0.length : Int) 0) = some r := h
 clear h
 have H' := Aside0.mk H
 clear H
 go_enter Try.func71, Try.ntmps71
 go_wp2
 go_loopg [7, 12] k (fun kq v7 v12 w' => ∃ (x7_1 : List Int) (x12_1 : Int), v12 = .int .i64 x12_1 ∧ Aside0 (remap_over_int64_by_remap_quantized.l0 kq l1 x7_1 l0 (l0.length : Int) x12_1 = some r) ∧ Aside0 (kq ≤ k) ∧ Aside0 (Kd.R (Kd.int .i64) 2 w' w.heap.size (fun _ => True) v7 x7_1) ∧ Aside0 (Below w.heap.size w w'))
 case atStart => exact ⟨(([] : List Int)), (0), rs_, H', ⟨Nat.le_refl _⟩, ⟨by first | exact Kd.R_nil _ _ _ _ _ | exact Kd.N_nil _ _ _ _ _ | exact Kd.V_nil _ _ _ _ _ | exact Kd.Q_nil _ _ _ _ _ | exact Kd.S_nil _ _ _ _ _⟩, ⟨bl_ HB⟩⟩
 case round => (
 clear H'
 obtain ⟨x7_1, x12_1, rfl, HA, HK1, HO_7, HB⟩ := hrel
 cases gk with
 | zero => exact absurd HA.out (by simp [remap_over_int64_by_remap_quantized.l0])
 | succ k1 => (
 have H := HA.out
 clear HA
 simp only [remap_over_int64_by_remap_quantized.l0] at H
 by_cases c4 : x12_1 < (l0.length : Int)
 {
 rw [if_pos c4] at H
 have c4b0 : decide (x12_1 < (l0.length : Int)) = true := decide_eq_true c4
 clear c4
 by_cases c5 : 0 ≤ x12_1
 {
 rw [if_pos c5] at H
 have c5b0 : decide (0 ≤ x12_1) = true := decide_eq_true c5
 clear c5
 by_cases c6 : x12_1 < (l0.length : Int)
 {
 rw [if_pos c6] at H
 have c6b0 : decide (x12_1 < (l0.length : Int)) = true := decide_eq_true c6
 clear c6
 by_cases c7 : x12_1 < (l1.length : Int)
 {
 rw [if_pos c7] at H
 have c7b0 : decide (x12_1 < (l1.length : Int)) = true := decide_eq_true c7
 clear c7
 obtain ⟨t346, A8, H⟩ := ob_ H
 (try dsimp only at H)
 by_cases c9 : x7_1.length < 17592186044416
 {
 rw [if_pos c9] at H
 have LMc9 := Aside0.mk c9
 clear c9
 obtain ⟨y347, hy347⟩ : ∃ y_ : List Int, y_ = (x7_1 ++ [t346]) := ⟨_, rfl⟩
 replace H : (remap_over_int64_by_remap_quantized.l0 k1 l1 y347 l0 (l0.length : Int) (wrap64 (x12_1 + 1))) = some r := by first | (rw [hy347]; with_reducible exact H) | (have H2_ := (Option.bind_some _ _).symm.trans H; rw [hy347]; with_reducible exact H2_) | (have H2_ := (Option.bind_some _ _).symm.trans H; with_reducible exact H2_) | with_reducible exact H | (rw [hy347]; exact H) | exact H
 have Ny347 := Aside0.mk hy347
 clear hy347
 have H' := Aside0.mk H
 clear H
 have p344 : 0 ≤ (x12_1 : Int) := of_decide_eq_true am_
 have q344 : x12_1 < (l0.length : Int) := of_decide_eq_true am_
 obtain ⟨ad344, e344, hx344_0⟩ := Kd.at_int HR0.out x12_1 p344 q344
 cases e344
 replace hx344_0 := (HB.out.cell (World.block_lt_of_cell? w _ hx344_0)).trans hx344_0
 replace p344 := eq_true p344
 replace q344 := eq_true q344
 have p345 : 0 ≤ (x12_1 : Int) := of_decide_eq_true am_
 have q345 : x12_1 < (l1.length : Int) := of_decide_eq_true am_
 obtain ⟨ad345, e345, hx345_0⟩ := Kd.at_int HR1.out x12_1 p345 q345
 cases e345
 replace hx345_0 := (HB.out.cell (World.block_lt_of_cell? w _ hx345_0)).trans hx345_0
 replace p345 := eq_true p345
 replace q345 := eq_true q345
 go_wp2_with (first | (go_at_call 77; (with_reducible refine (remap_quantized.calls (rd l0 x12_1) (rd l1 x12_1) t346 _ A8.out).mono ?_); rintro e w' ⟨rfl, ⟨nd, rfl⟩⟩) | ((with_reducible refine gate_builtin (b := .append) (xs := #[.tmp 17, .tmp 25]) rfl ?_); at_builtin; refine Kd.R_append (Kd.int .i64) (w0 := w) w.heap.size rfl (.tmp 17) (.tmp 25) 53 2 (.int .i64 0) 8 rfl Try.underlying53 info2 rfl (by decide) (by omega) u7 x7_1 t346 [.int .i64 t346] (fun _ => True) (fun _ => False) rfl rfl ?aP (fun _ hk => hk.elim) ?aF ?aO ?aB ?aS ?aL ?_; (case aP => exact rfl); (case aB => exact (bl_ HB)); (case aF => exact (fun _ _ => trivial)); (case aO => exact (kR_ HO_7)); (case aS => exact (bs_ HB)); (case aL => have := LMc9.out; omega); intro v348 w10 ho hb hg hat; rw [← Ny347.out] at ho; replace HB := Aside0.mk (hb); have HO349 := Aside0.mk (ho); clear HO_7; clear ho hb hg hat))
 go_roundg k1
 case measure => have := HK1.out; omega
 case rel => exact ⟨(y347), (wrap64 (x12_1 + 1)), rs_, H', ⟨by have := HK1.out; omega⟩, ⟨kR_ HO349⟩, ⟨bl_ HB⟩⟩}
 {
 rw [if_neg c9] at H
 exact absurd H (by simp)}}
 {
 rw [if_neg c7] at H
 exact absurd H (by simp)}}
 {
 rw [if_neg c6] at H
 exact absurd H (by simp)}}
 {
 rw [if_neg c5] at H
 exact absurd H (by simp)}}
 {
 rw [if_neg c4] at H
 have c4b0 : decide (x12_1 < (l0.length : Int)) = false := decide_eq_false c4
 clear c4
 obtain rfl := Option.some.inj H
 go_wp2
 go_ret
 exact ⟨_, by first | rfl | (simp [errW_none, errW_some] <;> rfl) | (simp [*, errW_none, errW_some] <;> rfl), by (with_reducible repeat (first | apply Kd.R_alloc | apply Kd.R_drewN | apply Kd.R_drew)); exact HO_7.out, bl_ HB⟩}))
def remap_Quantize.f (k : Nat) (l0 : List Int) (l1 : List Int) : Option (List Int × Int) := (remap_row.f k l0 (-1048576) 1048576).bind fun t350 => (if t350 = true then ((remap_row.f k l1 1 4194304).bind fun t351 => (if t351 = true then ((remap_over_int64_by_remap_quantized.f k l0 l1).bind fun t352 => (some (t352, 0))) else (some (([] : List Int), 1)))) else (some (([] : List Int), 1)))
theorem remap_Quantize.mono : ∀ a0 a1 k, LeO (remap_Quantize.f k a0 a1) (remap_Quantize.f (k + 1) a0 a1) := by
  intro a0 a1 k
  unfold remap_Quantize.f
  with_reducible repeat' first
   | exact remap_over_int64_by_remap_quantized.mono _ _ _
   | exact remap_row.mono _ _ _ _
   | exact LeO.refl _
   | exact LeO.none _
   | refine LeO.ite ?_ ?_
   | refine LeO.bind ?_ (fun _ => ?_)
set_option maxHeartbeats 8000000 in
set_option maxRecDepth 100000 in
theorem remap_Quantize.calls (k : Nat) (A0 : Option Addr) (c0 : Nat) (l0 : List Int) (A1 : Option Addr) (c1 : Nat) (l1 : List Int) (r1 : List Int) (r2 : Int) (w : World) (hr0 : Kd.C (Kd.int .i64) w A0 l0.length l0) (hc0 : l0.length ≤ c0) (hr1 : Kd.C (Kd.int .i64) w A1 l1.length l1) (hc1 : l1.length ≤ c1) (h : remap_Quantize.f k l0 l1 = some (r1, r2)) :
    Calls Try.prog 38 #[.slice A0 l0.length c0, .slice A1 l1.length c1] w fun e w' => ∃ v0_ : Value, e = .returned (.tuple #[v0_, .int .i64 r2]) ∧ Kd.R (Kd.int .i64) 2 w' w.heap.size (fun _ => True) v0_ r1 ∧ Below w.heap.size w w' := by
 have HR0 := Aside0.mk hr0
 have HC0 := Aside0.mk hc0
 clear hr0 hc0
 have HR1 := Aside0.mk hr1
 have HC1 := Aside0.mk hc1
 clear hr1 hc1
 have HB := Aside0.mk (Below.refl w.heap.size w)
 have H : ((remap_row.f k l0 (-1048576) 1048576).bind fun t350 => (if t350 = true then ((remap_row.f k l1 1 4194304).bind fun t351 => (if t351 = true then ((remap_over_int64_by_remap_quantized.f k l0 l1).bind fun t352 => (some (t352, 0))) else (some (([] : List Int), 1)))) else (some (([] : List Int), 1)))) = some (r1, r2) := h
 clear h
 obtain ⟨t350, A3, H⟩ := ob_ H
 (try dsimp only at H)
 by_cases c4 : t350 = true
 {
 subst c4
 rw [if_pos rfl] at H
 obtain ⟨t351, A5, H⟩ := ob_ H
 (try dsimp only at H)
 by_cases c6 : t351 = true
 {
 subst c6
 rw [if_pos rfl] at H
 obtain ⟨t352, A7, H⟩ := ob_ H
 (try dsimp only at H)
 simp only [Option.some.injEq, Prod.mk.injEq] at H
 obtain ⟨rfl, rfl⟩ := H
 go_enter Try.func38, Try.ntmps38
 go_wp2_with (first | ((with_reducible refine gate_callee (f := 70) rfl ?_); refine gL_ (some 7) Try.func70 #[.slice A0 l0.length c0, .int .i64 (-1048576), .int .i64 1048576] ?_; (with_reducible refine (remap_row.calls k _ _ l0 (-1048576) 1048576 true _ ?side1 ?side2 A3.out).mono ?_); (case side1 => repeat (first | exact HR0.out | (with_reducible refine Kd.C_alloc ?_ _) | (with_reducible refine Kd.C_drewN ?_ _) | (with_reducible refine Kd.C_drew ?_))); (case side2 => exact HC0.out); rintro e w' ⟨rfl, ⟨nd, rfl⟩⟩; refine ⟨_, rfl, ?_⟩) | (go_at_call 70; (with_reducible refine (remap_row.calls k _ _ l1 1 4194304 true _ ?side1 ?side2 A5.out).mono ?_); (case side1 => repeat (first | exact HR1.out | (with_reducible refine Kd.C_alloc ?_ _) | (with_reducible refine Kd.C_drewN ?_ _) | (with_reducible refine Kd.C_drew ?_))); (case side2 => exact HC1.out); rintro e w' ⟨rfl, ⟨nd, rfl⟩⟩) | ((with_reducible refine gate_callee (f := 71) rfl ?_); refine gL_ (some 16) Try.func71 #[.slice A0 l0.length c0, .slice A1 l1.length c1, .func (.func 77) #[] #[]] ?_; (with_reducible refine (remap_over_int64_by_remap_quantized.calls k _ _ l0 _ _ l1  t352 _ ?side1 ?side2 ?side3 ?side4 A7.out).mono ?_); (case side1 => repeat (first | exact HR0.out | (with_reducible refine Kd.C_alloc ?_ _) | (with_reducible refine Kd.C_drewN ?_ _) | (with_reducible refine Kd.C_drew ?_))); (case side2 => exact HC0.out); (case side3 => repeat (first | exact HR1.out | (with_reducible refine Kd.C_alloc ?_ _) | (with_reducible refine Kd.C_drewN ?_ _) | (with_reducible refine Kd.C_drew ?_))); (case side4 => exact HC1.out); rintro e w8 ⟨v353, rfl, ho0, hb⟩; refine ⟨_, rfl, ?_⟩; have HO354 := Aside0.mk (Kd.R_lower ho0 (bs_ HB)); replace HB := BS_ HB hb; (try clear hb); (try clear ho0)))
 go_ret2
 exact ⟨_, by first | rfl | (simp [errW_none, errW_some] <;> rfl) | (simp [*, errW_none, errW_some] <;> rfl), by (with_reducible repeat (first | apply Kd.R_alloc | apply Kd.R_drewN | apply Kd.R_drew)); exact HO354.out, bl_ HB⟩}
 {
 replace c6 := Bool.eq_false_iff.mpr c6
 subst c6
 rw [if_neg (show ¬ (false = true) by decide)] at H
 simp only [Option.some.injEq, Prod.mk.injEq] at H
 obtain ⟨rfl, rfl⟩ := H
 go_enter Try.func38, Try.ntmps38
 go_wp2_with (first | ((with_reducible refine gate_callee (f := 70) rfl ?_); refine gL_ (some 7) Try.func70 #[.slice A0 l0.length c0, .int .i64 (-1048576), .int .i64 1048576] ?_; (with_reducible refine (remap_row.calls k _ _ l0 (-1048576) 1048576 true _ ?side1 ?side2 A3.out).mono ?_); (case side1 => repeat (first | exact HR0.out | (with_reducible refine Kd.C_alloc ?_ _) | (with_reducible refine Kd.C_drewN ?_ _) | (with_reducible refine Kd.C_drew ?_))); (case side2 => exact HC0.out); rintro e w' ⟨rfl, ⟨nd, rfl⟩⟩; refine ⟨_, rfl, ?_⟩) | (go_at_call 70; (with_reducible refine (remap_row.calls k _ _ l1 1 4194304 false _ ?side1 ?side2 A5.out).mono ?_); (case side1 => repeat (first | exact HR1.out | (with_reducible refine Kd.C_alloc ?_ _) | (with_reducible refine Kd.C_drewN ?_ _) | (with_reducible refine Kd.C_drew ?_))); (case side2 => exact HC1.out); rintro e w' ⟨rfl, ⟨nd, rfl⟩⟩))
 go_ret2
 exact ⟨_, by first | rfl | (simp [errW_none, errW_some] <;> rfl) | (simp [*, errW_none, errW_some] <;> rfl), by first | exact Kd.R_nil _ _ _ _ _ | exact Kd.N_nil _ _ _ _ _ | exact Kd.V_nil _ _ _ _ _ | exact Kd.Q_nil _ _ _ _ _ | exact Kd.S_nil _ _ _ _ _, bl_ HB⟩}}
 {
 replace c4 := Bool.eq_false_iff.mpr c4
 subst c4
 rw [if_neg (show ¬ (false = true) by decide)] at H
 simp only [Option.some.injEq, Prod.mk.injEq] at H
 obtain ⟨rfl, rfl⟩ := H
 go_enter Try.func38, Try.ntmps38
 go_wp2_with (first | ((with_reducible refine gate_callee (f := 70) rfl ?_); refine gL_ (some 7) Try.func70 #[.slice A0 l0.length c0, .int .i64 (-1048576), .int .i64 1048576] ?_; (with_reducible refine (remap_row.calls k _ _ l0 (-1048576) 1048576 false _ ?side1 ?side2 A3.out).mono ?_); (case side1 => repeat (first | exact HR0.out | (with_reducible refine Kd.C_alloc ?_ _) | (with_reducible refine Kd.C_drewN ?_ _) | (with_reducible refine Kd.C_drew ?_))); (case side2 => exact HC0.out); rintro e w' ⟨rfl, ⟨nd, rfl⟩⟩; refine ⟨_, rfl, ?_⟩))
 go_ret2
 exact ⟨_, by first | rfl | (simp [errW_none, errW_some] <;> rfl) | (simp [*, errW_none, errW_some] <;> rfl), by first | exact Kd.R_nil _ _ _ _ _ | exact Kd.N_nil _ _ _ _ _ | exact Kd.V_nil _ _ _ _ _ | exact Kd.Q_nil _ _ _ _ _ | exact Kd.S_nil _ _ _ _ _, bl_ HB⟩}
def vcodec_silent.l0 : Nat → List Int → Int → Int → Option (Bool)
  | 0, _, _, _ => none
  | k + 1, x5, x6, x7 => if x7 < x6 then (if 0 ≤ x7 then (if x7 < (x5.length : Int) then (if (rd x5 x7) = 0 then (vcodec_silent.l0 k x5 x6 (wrap64 (x7 + 1))) else (some false)) else (none)) else (none)) else (some true)
def vcodec_silent.f (k : Nat) (l0 : List Int) : Option (Bool) := vcodec_silent.l0 k l0 (l0.length : Int) 0
theorem vcodec_silent.mono_l : ∀ k, (∀ y0 y1 y2, LeO (vcodec_silent.l0 k y0 y1 y2) (vcodec_silent.l0 (k + 1) y0 y1 y2))
  | 0 => fun _ _ _ r h => by simp [vcodec_silent.l0] at h
  | k + 1 => by
    have ih0 := vcodec_silent.mono_l k
    · intro y0 y1 y2
      unfold vcodec_silent.l0
      with_reducible repeat' first
   | exact ih0 _ _ _
   | exact LeO.refl _
   | exact LeO.none _
   | refine LeO.ite ?_ ?_
   | refine LeO.bind ?_ (fun _ => ?_)
theorem vcodec_silent.mono : ∀ a0 k, LeO (vcodec_silent.f k a0) (vcodec_silent.f (k + 1) a0) := by
  intro a0 k
  have ih0 := vcodec_silent.mono_l k
  unfold vcodec_silent.f
  with_reducible repeat' first
   | exact ih0 _ _ _
   | exact LeO.refl _
   | exact LeO.none _
   | refine LeO.ite ?_ ?_
   | refine LeO.bind ?_ (fun _ => ?_)
set_option maxHeartbeats 8000000 in
set_option maxRecDepth 100000 in
theorem vcodec_silent.calls (k : Nat) (A0 : Option Addr) (c0 : Nat) (l0 : List Int) (r : Bool) (w : World) (hr0 : Kd.C (Kd.int .i64) w A0 l0.length l0) (hc0 : l0.length ≤ c0) (h : vcodec_silent.f k l0 = some r) :
    Calls Try.prog 39 #[.slice A0 l0.length c0] w fun e w' => e = .returned (.bool r) ∧ Drawn0 w w' := by
 have HR0 := Aside0.mk hr0
 have HC0 := Aside0.mk hc0
 clear hr0 hc0
 have H : (vcodec_silent.l0 k l0 (l0.length : Int) 0) = some r := h
 clear h
 have H' := Aside0.mk H
 clear H
 go_enter Try.func39, Try.ntmps39
 go_wp2
 go_loopg [7] k (fun kq v7 w' => ∃ (x7_1 : Int), v7 = .int .i64 x7_1 ∧ Aside0 (vcodec_silent.l0 kq l0 (l0.length : Int) x7_1 = some r) ∧ Aside0 (kq ≤ k) ∧ Drawn0 w w')
 case atStart => exact ⟨(0), rs_, H', ⟨Nat.le_refl _⟩, by repeat (first | exact Drawn0.refl _ | apply Drawn0.step)⟩
 case round => (
 clear H'
 obtain ⟨x7_1, rfl, HA, HK1, ⟨m1, rfl⟩⟩ := hrel
 cases gk with
 | zero => exact absurd HA.out (by simp [vcodec_silent.l0])
 | succ k1 => (
 have H := HA.out
 clear HA
 simp only [vcodec_silent.l0] at H
 by_cases c2 : x7_1 < (l0.length : Int)
 {
 rw [if_pos c2] at H
 have c2b0 : decide (x7_1 < (l0.length : Int)) = true := decide_eq_true c2
 clear c2
 by_cases c3 : 0 ≤ x7_1
 {
 rw [if_pos c3] at H
 have c3b0 : decide (0 ≤ x7_1) = true := decide_eq_true c3
 clear c3
 by_cases c4 : x7_1 < (l0.length : Int)
 {
 rw [if_pos c4] at H
 have c4b0 : decide (x7_1 < (l0.length : Int)) = true := decide_eq_true c4
 clear c4
 by_cases c5 : (rd l0 x7_1) = 0
 {
 rw [if_pos c5] at H
 have c5b0 : ((rd l0 x7_1) == 0) = true := beq_iff_eq.mpr c5
 have c5b1 : ((rd l0 x7_1) != 0) = false := bne_eq_false_iff_eq.mpr c5
 clear c5
 have H' := Aside0.mk H
 clear H
 have p355 : 0 ≤ (x7_1 : Int) := of_decide_eq_true am_
 have q355 : x7_1 < (l0.length : Int) := of_decide_eq_true am_
 obtain ⟨ad355, e355, hx355_0⟩ := Kd.at_int HR0.out x7_1 p355 q355
 cases e355
 replace p355 := eq_true p355
 replace q355 := eq_true q355
 go_wp2
 go_roundg k1
 case measure => have := HK1.out; omega
 case rel => exact ⟨(wrap64 (x7_1 + 1)), rs_, H', ⟨by have := HK1.out; omega⟩, by repeat (first | exact Drawn0.refl _ | apply Drawn0.step)⟩}
 {
 rw [if_neg c5] at H
 have c5b0 : ((rd l0 x7_1) == 0) = false := beq_eq_false_iff_ne.mpr c5
 have c5b1 : ((rd l0 x7_1) != 0) = true := bne_iff_ne.mpr c5
 obtain rfl := Option.some.inj H
 have p355 : 0 ≤ (x7_1 : Int) := of_decide_eq_true am_
 have q355 : x7_1 < (l0.length : Int) := of_decide_eq_true am_
 obtain ⟨ad355, e355, hx355_0⟩ := Kd.at_int HR0.out x7_1 p355 q355
 cases e355
 replace p355 := eq_true p355
 replace q355 := eq_true q355
 go_wp2
 go_ret
 exact ⟨by first | rfl | (simp; done) | (simp [*]; done), by repeat (first | exact Drawn0.refl _ | apply Drawn0.step)⟩}}
 {
 rw [if_neg c4] at H
 exact absurd H (by simp)}}
 {
 rw [if_neg c3] at H
 exact absurd H (by simp)}}
 {
 rw [if_neg c2] at H
 have c2b0 : decide (x7_1 < (l0.length : Int)) = false := decide_eq_false c2
 clear c2
 obtain rfl := Option.some.inj H
 go_wp2
 go_ret
 exact ⟨by first | rfl | (simp; done) | (simp [*]; done), by repeat (first | exact Drawn0.refl _ | apply Drawn0.step)⟩}))
def couple_coupling.f  : Option (Int) := some 1099511627776
set_option maxHeartbeats 8000000 in
set_option maxRecDepth 100000 in
theorem couple_coupling.calls  (r : Int) (w : World) (h : couple_coupling.f  = some r) :
    Calls Try.prog 78 #[] w fun e w' => e = .returned (.agg #[.int .i64 r, .func (.func 100) #[] #[]]) ∧ Below w.heap.size w w' := by
 have hu101 := Try.underlying101
 have HB := Aside0.mk (Below.refl w.heap.size w)
 have H : (some 1099511627776) = some r := h
 clear h
 obtain rfl := Option.some.inj H
 go_enter Try.func78, Try.ntmps78
 go_wp2_with (first | ((with_reducible refine gate_dst (N := 0) rfl ?_); refine bx_ HB 0 #[.int .i64 0, .nilFunc] 101 ?_; clear HB; intro gb356 hg w1 hb BK356 GE356 HB; have GW356 := GE356; clear hb hg; obtain ⟨hcz2_0, hcz2_1, hfz2_0, hfz2_1⟩ := e2_ BK356))
 refine bodyPost_ret (results_cell_row rfl _ _ gb356 101 #[.int .i64 1099511627776, .func (.func 100) #[] #[]] (0, 0) _ rfl (bp_ BK356) Try.underlying101 rfl kf_) rfl ?_
 exact ⟨by first | rfl | (simp [errW_none, errW_some] <;> rfl) | (simp [*, errW_none, errW_some] <;> rfl), bl_ HB⟩
def couple_couple.f (a0 : Int) (a1 : Int) : Option (Int × Int) := if (mx a0 (wrap64 (-a0))) > (mx a1 (wrap64 (-a1))) then (if a0 > 0 then (some (a0, wrap64 (a0 - a1))) else (some (a0, wrap64 (a1 - a0)))) else (if a1 > 0 then (some (a1, wrap64 (a0 - a1))) else (some (a1, wrap64 (a1 - a0))))
set_option maxHeartbeats 8000000 in
set_option maxRecDepth 100000 in
theorem couple_couple.calls (a0 : Int) (a1 : Int) (r1 : Int) (r2 : Int) (w : World) (h : couple_couple.f a0 a1 = some (r1, r2)) :
    Calls Try.prog 100 #[.int .i64 a0, .int .i64 a1] w fun e w' => e = .returned (.tuple #[.int .i64 r1, .int .i64 r2]) ∧ Below w.heap.size w w' := by
 have HB := Aside0.mk (Below.refl w.heap.size w)
 have H : (if (mx a0 (wrap64 (-a0))) > (mx a1 (wrap64 (-a1))) then (if a0 > 0 then (some (a0, wrap64 (a0 - a1))) else (some (a0, wrap64 (a1 - a0)))) else (if a1 > 0 then (some (a1, wrap64 (a0 - a1))) else (some (a1, wrap64 (a1 - a0))))) = some (r1, r2) := h
 clear h
 obtain ⟨ji3, hji3⟩ : ∃ j_ : Int, (mx a0 (wrap64 (-a0))) = j_ := ⟨_, rfl⟩
 replace H : (if (ji3) > (mx a1 (wrap64 (-a1))) then (if a0 > 0 then (some (a0, wrap64 (a0 - a1))) else (some (a0, wrap64 (a1 - a0)))) else (if a1 > 0 then (some (a1, wrap64 (a0 - a1))) else (some (a1, wrap64 (a1 - a0))))) = some (r1, r2) := by first | (rw [hji3] at H; exact H) | (simp only [hji3] at H ⊢; exact H)
 have hji3_ : (if a0 < (wrap64 (-a0)) then (wrap64 (-a0)) else a0) = ji3 := hji3
 obtain ⟨ji4, hji4⟩ : ∃ j_ : Int, (mx a1 (wrap64 (-a1))) = j_ := ⟨_, rfl⟩
 replace H : (if (ji3) > (ji4) then (if a0 > 0 then (some (a0, wrap64 (a0 - a1))) else (some (a0, wrap64 (a1 - a0)))) else (if a1 > 0 then (some (a1, wrap64 (a0 - a1))) else (some (a1, wrap64 (a1 - a0))))) = some (r1, r2) := by first | (rw [hji4] at H; exact H) | (simp only [hji4] at H ⊢; exact H)
 have hji4_ : (if a1 < (wrap64 (-a1)) then (wrap64 (-a1)) else a1) = ji4 := hji4
 by_cases c5 : (ji3) > (ji4)
 {
 rw [if_pos c5] at H
 have c5b0 : decide ((ji4) < (ji3)) = true := decide_eq_true c5
 clear c5
 by_cases c6 : a0 > 0
 {
 rw [if_pos c6] at H
 have c6b0 : decide (0 < a0) = true := decide_eq_true c6
 clear c6
 simp only [Option.some.injEq, Prod.mk.injEq] at H
 obtain ⟨rfl, rfl⟩ := H
 go_enter Try.func100, Try.ntmps100
 go_wp2
 go_ret2
 exact ⟨by first | rfl | (simp [errW_none, errW_some] <;> rfl) | (simp only [← hji3, ← hji4]; first | rfl | (simp [errW_none, errW_some] <;> rfl)) | (simp [*, errW_none, errW_some] <;> rfl), bl_ HB⟩}
 {
 rw [if_neg c6] at H
 have c6b0 : decide (0 < a0) = false := decide_eq_false c6
 clear c6
 simp only [Option.some.injEq, Prod.mk.injEq] at H
 obtain ⟨rfl, rfl⟩ := H
 go_enter Try.func100, Try.ntmps100
 go_wp2
 go_ret2
 exact ⟨by first | rfl | (simp [errW_none, errW_some] <;> rfl) | (simp only [← hji3, ← hji4]; first | rfl | (simp [errW_none, errW_some] <;> rfl)) | (simp [*, errW_none, errW_some] <;> rfl), bl_ HB⟩}}
 {
 rw [if_neg c5] at H
 have c5b0 : decide ((ji4) < (ji3)) = false := decide_eq_false c5
 clear c5
 by_cases c7 : a1 > 0
 {
 rw [if_pos c7] at H
 have c7b0 : decide (0 < a1) = true := decide_eq_true c7
 clear c7
 simp only [Option.some.injEq, Prod.mk.injEq] at H
 obtain ⟨rfl, rfl⟩ := H
 go_enter Try.func100, Try.ntmps100
 go_wp2
 go_ret2
 exact ⟨by first | rfl | (simp [errW_none, errW_some] <;> rfl) | (simp only [← hji3, ← hji4]; first | rfl | (simp [errW_none, errW_some] <;> rfl)) | (simp [*, errW_none, errW_some] <;> rfl), bl_ HB⟩}
 {
 rw [if_neg c7] at H
 have c7b0 : decide (0 < a1) = false := decide_eq_false c7
 clear c7
 simp only [Option.some.injEq, Prod.mk.injEq] at H
 obtain ⟨rfl, rfl⟩ := H
 go_enter Try.func100, Try.ntmps100
 go_wp2
 go_ret2
 exact ⟨by first | rfl | (simp [errW_none, errW_some] <;> rfl) | (simp only [← hji3, ← hji4]; first | rfl | (simp [errW_none, errW_some] <;> rfl)) | (simp [*, errW_none, errW_some] <;> rfl), bl_ HB⟩}}
def couple_way_one_by_couple_couple.f (k : Nat) (a0_0 : Int) (a1 : Int) (a2 : Int) : Option (Int × Int × Int) := (couple_within.f k a0_0 (([a1, a2] : List Int))).bind fun t361 => (if t361 = true then ((couple_couple.f a1 a2).bind fun bt362 => (some (bt362.1, bt362.2, 0))) else (some (0, 0, 1)))
theorem couple_way_one_by_couple_couple.mono : ∀ a0 a1 a2 k, LeO (couple_way_one_by_couple_couple.f k a0 a1 a2) (couple_way_one_by_couple_couple.f (k + 1) a0 a1 a2) := by
  intro a0 a1 a2 k
  unfold couple_way_one_by_couple_couple.f
  with_reducible repeat' first
   | exact couple_within.mono _ _ _
   | exact LeO.refl _
   | exact LeO.none _
   | refine LeO.ite ?_ ?_
   | refine LeO.bind ?_ (fun _ => ?_)
set_option maxHeartbeats 8000000 in
set_option maxRecDepth 100000 in
theorem couple_way_one_by_couple_couple.calls (k : Nat) (a0_0 : Int) (a1 : Int) (a2 : Int) (r1 : Int) (r2 : Int) (r3 : Int) (w : World) (h : couple_way_one_by_couple_couple.f k a0_0 a1 a2 = some (r1, r2, r3)) :
    Calls Try.prog 94 #[.agg #[.int .i64 a0_0, .func (.func 100) #[] #[]], .int .i64 a1, .int .i64 a2] w fun e w' => e = .returned (.tuple #[.int .i64 r1, .int .i64 r2, .int .i64 r3]) ∧ Below w.heap.size w w' := by
 have hu101 := Try.underlying101
 have HB := Aside0.mk (Below.refl w.heap.size w)
 have H : ((couple_within.f k a0_0 (([a1, a2] : List Int))).bind fun t361 => (if t361 = true then ((couple_couple.f a1 a2).bind fun bt362 => (some (bt362.1, bt362.2, 0))) else (some (0, 0, 1)))) = some (r1, r2, r3) := h
 clear h
 obtain ⟨y358, hy358⟩ : ∃ y_ : List Int, y_ = (([a1, a2] : List Int)) := ⟨_, rfl⟩
 replace H : ((couple_within.f k a0_0 y358).bind fun t361 => (if t361 = true then ((couple_couple.f a1 a2).bind fun bt362 => (some (bt362.1, bt362.2, 0))) else (some (0, 0, 1)))) = some (r1, r2, r3) := by first | (rw [hy358]; with_reducible exact H) | (have H2_ := (Option.bind_some _ _).symm.trans H; rw [hy358]; with_reducible exact H2_) | (have H2_ := (Option.bind_some _ _).symm.trans H; with_reducible exact H2_) | with_reducible exact H | (rw [hy358]; exact H) | exact H
 have Ny358 := Aside0.mk hy358
 clear hy358
 obtain ⟨t361, A4, H⟩ := ob_ H
 (try dsimp only at H)
 by_cases c5 : t361 = true
 {
 subst c5
 rw [if_pos rfl] at H
 obtain ⟨⟨t362, t363⟩, A6, H⟩ := ob_ H
 (try dsimp only at H)
 simp only [Option.some.injEq, Prod.mk.injEq] at H
 obtain ⟨rfl, rfl, rfl⟩ := H
 go_enter Try.func94, Try.ntmps94
 go_wp2_with (first | ((with_reducible refine gate_dst (N := 3) rfl ?_); refine bx_ HB 3 #[.int .i64 a0_0, .func (.func 100) #[] #[]] 101 ?_; clear HB; intro gb357 hg w7 hb BK357 GE357 HB; have GW357 := GE357; clear hb hg; obtain ⟨hcz8_0, hcz8_1, hfz8_0, hfz8_1⟩ := e2_ BK357) | ((with_reducible refine gate_dst (N := 15) rfl ?_); refine Kd.R_lit (Kd.int .i64) _ 2 ?hg (N := 15) ?hd (xs := ([a1, a2] : List Int)) (inner := [.int .i64 a1, .int .i64 a2]) (ok := fun _ => True) (okp := fun _ => True) ?hr ?hp (fun _ hk => hk) trivial (Below.refl _ _) (Nat.le_refl _) (by simp) ?_; (case hd => rfl); (case hg => rfl); (case hr => first | (go_simp; done) | (go_simp; rfl)); (case hp => exact (Reps.one (show Kd.M (Kd.int .i64) _ _ _ a1 [.int .i64 a1] from rfl) (Reps.one (show Kd.M (Kd.int .i64) _ _ _ a2 [.int .i64 a2] from rfl) (Reps.none _ _)))); intro v359 w9 ho10 hb hg_ hnew_; clear hg_ hnew_; (first | rw [← Ny358.out] at ho10 | (simp only [Int.reduceToNat] at ho10; rw [← Ny358.out] at ho10)); have HO360 := Aside0.mk (Kd.R_lower ho10 (bs_ HB)); replace BK357 := FB_ BK357 hb; replace HB := BS_ HB hb; clear hb ho10; obtain ⟨Ao11, co11, eo11⟩ := Kd.R_slice HO360.out; subst eo11) | ((with_reducible refine gate_callee (f := 111) rfl ?_); refine gL_ (some 16) Try.func111 #[.int .i64 a0_0, .slice Ao11 y358.length co11] ?_; (with_reducible refine (couple_within.calls k a0_0 _ _ y358 true _ ?side1 ?side2 A4.out).mono ?_); (case side1 => exact kCt_ (Kd.R_reads' HO360.out).2.2); (case side2 => exact (Kd.R_reads' HO360.out).2.1); rintro e w' ⟨rfl, ⟨nd, rfl⟩⟩; refine ⟨_, rfl, ?_⟩; obtain ⟨hcz12_0, hcz12_1, hfz12_0, hfz12_1⟩ := e2_ BK357) | (go_at_call 100; (with_reducible refine (couple_couple.calls a1 a2 t362 t363 _ A6.out).mono ?_); rintro e w13 ⟨rfl, hb⟩; replace HO360 := FR_ HO360 hb; replace BK357 := FB_ BK357 hb; replace HB := BS_ HB hb; (try clear hb); (try clear hk)))
 go_ret3
 exact ⟨by first | rfl | (simp [errW_none, errW_some] <;> rfl) | (simp [*, errW_none, errW_some] <;> rfl), bl_ HB⟩}
 {
 replace c5 := Bool.eq_false_iff.mpr c5
 subst c5
 rw [if_neg (show ¬ (false = true) by decide)] at H
 simp only [Option.some.injEq, Prod.mk.injEq] at H
 obtain ⟨rfl, rfl, rfl⟩ := H
 go_enter Try.func94, Try.ntmps94
 go_wp2_with (first | ((with_reducible refine gate_dst (N := 3) rfl ?_); refine bx_ HB 3 #[.int .i64 a0_0, .func (.func 100) #[] #[]] 101 ?_; clear HB; intro gb357 hg w14 hb BK357 GE357 HB; have GW357 := GE357; clear hb hg; obtain ⟨hcz15_0, hcz15_1, hfz15_0, hfz15_1⟩ := e2_ BK357) | ((with_reducible refine gate_dst (N := 15) rfl ?_); refine Kd.R_lit (Kd.int .i64) _ 2 ?hg (N := 15) ?hd (xs := ([a1, a2] : List Int)) (inner := [.int .i64 a1, .int .i64 a2]) (ok := fun _ => True) (okp := fun _ => True) ?hr ?hp (fun _ hk => hk) trivial (Below.refl _ _) (Nat.le_refl _) (by simp) ?_; (case hd => rfl); (case hg => rfl); (case hr => first | (go_simp; done) | (go_simp; rfl)); (case hp => exact (Reps.one (show Kd.M (Kd.int .i64) _ _ _ a1 [.int .i64 a1] from rfl) (Reps.one (show Kd.M (Kd.int .i64) _ _ _ a2 [.int .i64 a2] from rfl) (Reps.none _ _)))); intro v359 w16 ho17 hb hg_ hnew_; clear hg_ hnew_; (first | rw [← Ny358.out] at ho17 | (simp only [Int.reduceToNat] at ho17; rw [← Ny358.out] at ho17)); have HO360 := Aside0.mk (Kd.R_lower ho17 (bs_ HB)); replace BK357 := FB_ BK357 hb; replace HB := BS_ HB hb; clear hb ho17; obtain ⟨Ao18, co18, eo18⟩ := Kd.R_slice HO360.out; subst eo18) | ((with_reducible refine gate_callee (f := 111) rfl ?_); refine gL_ (some 16) Try.func111 #[.int .i64 a0_0, .slice Ao18 y358.length co18] ?_; (with_reducible refine (couple_within.calls k a0_0 _ _ y358 false _ ?side1 ?side2 A4.out).mono ?_); (case side1 => exact kCt_ (Kd.R_reads' HO360.out).2.2); (case side2 => exact (Kd.R_reads' HO360.out).2.1); rintro e w' ⟨rfl, ⟨nd, rfl⟩⟩; refine ⟨_, rfl, ?_⟩))
 go_ret3
 exact ⟨by first | rfl | (simp [errW_none, errW_some] <;> rfl) | (simp [*, errW_none, errW_some] <;> rfl), bl_ HB⟩}
def couple_way_all_by_couple_couple.l0 : Nat → List Int → List Int → List Int → List Int → Int → Int → Int → Option (List Int × List Int × Int)
  | 0, _, _, _, _, _, _, _ => none
  | k + 1, x1, x2, x9, x10, x21, x22, x365000 => if x22 < x21 then (if 0 ≤ x22 then (if x22 < (x1.length : Int) then (if x22 < (x2.length : Int) then ((couple_way_one_by_couple_couple.f k x365000 (rd x1 x22) (rd x2 x22)).bind fun bt367 => (if bt367.2.2 = 0 then (if x9.length < 17592186044416 then (if x10.length < 17592186044416 then (couple_way_all_by_couple_couple.l0 k x1 x2 (x9 ++ [bt367.1]) (x10 ++ [bt367.2.1]) x21 (wrap64 (x22 + 1)) x365000) else (none)) else (none)) else (some (([] : List Int), ([] : List Int), bt367.2.2)))) else (none)) else (none)) else (none)) else (some (x9, x10, 0))
def couple_way_all_by_couple_couple.f (k : Nat) (a0_0 : Int) (l1 : List Int) (l2 : List Int) : Option (List Int × List Int × Int) := if (l1.length : Int) = (l2.length : Int) then (couple_way_all_by_couple_couple.l0 k l1 l2 ([] : List Int) ([] : List Int) (l1.length : Int) 0 a0_0) else (some (([] : List Int), ([] : List Int), 1))
theorem couple_way_all_by_couple_couple.mono_l : ∀ k, (∀ y0 y1 y2 y3 y4 y5 y6, LeO (couple_way_all_by_couple_couple.l0 k y0 y1 y2 y3 y4 y5 y6) (couple_way_all_by_couple_couple.l0 (k + 1) y0 y1 y2 y3 y4 y5 y6))
  | 0 => fun _ _ _ _ _ _ _ r h => by simp [couple_way_all_by_couple_couple.l0] at h
  | k + 1 => by
    have ih0 := couple_way_all_by_couple_couple.mono_l k
    · intro y0 y1 y2 y3 y4 y5 y6
      unfold couple_way_all_by_couple_couple.l0
      with_reducible repeat' first
   | exact ih0 _ _ _ _ _ _ _
   | exact couple_way_one_by_couple_couple.mono _ _ _ _
   | exact LeO.refl _
   | exact LeO.none _
   | refine LeO.ite ?_ ?_
   | refine LeO.bind ?_ (fun _ => ?_)
theorem couple_way_all_by_couple_couple.mono : ∀ a0 a1 a2 k, LeO (couple_way_all_by_couple_couple.f k a0 a1 a2) (couple_way_all_by_couple_couple.f (k + 1) a0 a1 a2) := by
  intro a0 a1 a2 k
  have ih0 := couple_way_all_by_couple_couple.mono_l k
  unfold couple_way_all_by_couple_couple.f
  with_reducible repeat' first
   | exact ih0 _ _ _ _ _ _ _
   | exact couple_way_one_by_couple_couple.mono _ _ _ _
   | exact LeO.refl _
   | exact LeO.none _
   | refine LeO.ite ?_ ?_
   | refine LeO.bind ?_ (fun _ => ?_)
def couple_way_all_by_couple_couple.T7 : Bool × List (List Nat × List Nat) := (true, [([], []), ([], []), ([], []), ([1, 2], [1, 2]), ([3], [3]), ([], []), ([], []), ([5, 6], [5, 6]), ([7], [7]), ([0, 4, 8], [0, 4, 8]), ([9], [9]), ([10], [10]), ([10], [10]), ([10], [10]), ([11, 9, 0, 1, 2, 3, 4, 5, 6, 7, 8, 9, 10, 11], [11]), ([12, 14, 0, 1, 2, 3, 4, 5, 6, 7, 8, 9, 10, 11, 12, 14], [12]), ([13, 15, 0, 1, 2, 3, 4, 5, 6, 7, 8, 9, 10, 11, 12, 13, 14, 15], [13])])
def couple_way_all_by_couple_couple.B7 : List Nat := [0, 0, 0, 6, 14, 0, 0, 96, 224, 511, 1023, 2047, 2047, 2047, 4095, 24575, 65535]
theorem couple_way_all_by_couple_couple.tab7 : rtab .any (opsOf Try.f67 7) = couple_way_all_by_couple_couple.T7 := by kernel_rfl
theorem couple_way_all_by_couple_couple.bits7 : waitsOk couple_way_all_by_couple_couple.T7.2 couple_way_all_by_couple_couple.B7 = true := by kernel_rfl
set_option maxHeartbeats 8000000 in
set_option maxRecDepth 100000 in
theorem couple_way_all_by_couple_couple.calls (k : Nat) (a0_0 : Int) (A1 : Option Addr) (c1 : Nat) (l1 : List Int) (A2 : Option Addr) (c2 : Nat) (l2 : List Int) (r1 : List Int) (r2 : List Int) (r3 : Int) (w : World) (hr1 : Kd.C (Kd.int .i64) w A1 l1.length l1) (hc1 : l1.length ≤ c1) (hr2 : Kd.C (Kd.int .i64) w A2 l2.length l2) (hc2 : l2.length ≤ c2) (h : couple_way_all_by_couple_couple.f k a0_0 l1 l2 = some (r1, r2, r3)) :
    Calls Try.prog 67 #[.agg #[.int .i64 a0_0, .func (.func 100) #[] #[]], .slice A1 l1.length c1, .slice A2 l2.length c2] w fun e w' => ∃ v0_ v1_ : Value, e = .returned (.tuple #[v0_, v1_, .int .i64 r3]) ∧ Kd.R (Kd.int .i64) 2 w' w.heap.size (fun k_ => some k_ ≠ (v1_ : Value).ownBlock) v0_ r1 ∧ Kd.R (Kd.int .i64) 2 w' w.heap.size (fun k_ => some k_ ≠ (v0_ : Value).ownBlock) v1_ r2 ∧ Below w.heap.size w w' := by
 have hu101 := Try.underlying101
 have HR1 := Aside0.mk hr1
 have HC1 := Aside0.mk hc1
 clear hr1 hc1
 have HR2 := Aside0.mk hr2
 have HC2 := Aside0.mk hc2
 clear hr2 hc2
 have HB := Aside0.mk (Below.refl w.heap.size w)
 have H : (if (l1.length : Int) = (l2.length : Int) then (couple_way_all_by_couple_couple.l0 k l1 l2 ([] : List Int) ([] : List Int) (l1.length : Int) 0 a0_0) else (some (([] : List Int), ([] : List Int), 1))) = some (r1, r2, r3) := h
 clear h
 by_cases c4 : (l1.length : Int) = (l2.length : Int)
 {
 rw [if_pos c4] at H
 have c4b0 : ((l1.length : Int) == (l2.length : Int)) = true := beq_iff_eq.mpr c4
 have c4b1 : ((l1.length : Int) != (l2.length : Int)) = false := bne_eq_false_iff_eq.mpr c4
 have c4b2 : (l1.length == l2.length) = true := by first | simpa using c4 | (simp at c4 ⊢; omega)
 clear c4
 have H' := Aside0.mk H
 clear H
 go_enter Try.func67, Try.ntmps67
 go_wp2_with (first | ((with_reducible refine gate_dst (N := 3) rfl ?_); refine bx_ HB 3 #[.int .i64 a0_0, .func (.func 100) #[] #[]] 101 ?_; clear HB; intro gb364 hg w5 hb BK364 GE364 HB; have GW364 := GE364; clear hb hg))
 go_loopg [9, 10, 22] k (fun kq v9 v10 v22 w' => ∃ (x9_1 : List Int) (x10_1 : List Int) (x22_1 : Int), v22 = .int .i64 x22_1 ∧ Aside0 (couple_way_all_by_couple_couple.l0 kq l1 l2 x9_1 x10_1 (l1.length : Int) x22_1 a0_0 = some (r1, r2, r3)) ∧ Aside0 (kq ≤ k) ∧ Aside0 (Kd.R (Kd.int .i64) 2 w' w.heap.size (fun k_ => some k_ ≠ (v10 : Value).ownBlock) v9 x9_1) ∧ Aside0 (Kd.R (Kd.int .i64) 2 w' w.heap.size (fun k_ => some k_ ≠ (v9 : Value).ownBlock) v10 x10_1) ∧ Aside0 (w'.heap[gb364]? = some (.cells #[.int .i64 a0_0, .func (.func 100) #[] #[]] 101 (0, 0))) ∧ Aside0 (Below w.heap.size w w'))
 case atStart => exact ⟨(([] : List Int)), (([] : List Int)), (0), rs_, H', ⟨Nat.le_refl _⟩, ⟨by first | exact Kd.R_nil _ _ _ _ _ | exact Kd.N_nil _ _ _ _ _ | exact Kd.V_nil _ _ _ _ _ | exact Kd.Q_nil _ _ _ _ _ | exact Kd.S_nil _ _ _ _ _⟩, ⟨by first | exact Kd.R_nil _ _ _ _ _ | exact Kd.N_nil _ _ _ _ _ | exact Kd.V_nil _ _ _ _ _ | exact Kd.Q_nil _ _ _ _ _ | exact Kd.S_nil _ _ _ _ _⟩, ⟨bk_ BK364⟩, ⟨bl_ HB⟩⟩
 case round => (
 clear H'
 try clear c4
 try clear c4b0
 try clear c4b1
 try clear c4b2
 obtain ⟨x9_1, x10_1, x22_1, rfl, HA, HK1, HO_9, HO_10, BK364, HB⟩ := hrel
 cases gk with
 | zero => exact absurd HA.out (by simp [couple_way_all_by_couple_couple.l0])
 | succ k1 => (
 have H := HA.out
 clear HA
 simp only [couple_way_all_by_couple_couple.l0] at H
 by_cases c6 : x22_1 < (l1.length : Int)
 {
 rw [if_pos c6] at H
 have c6b0 : decide (x22_1 < (l1.length : Int)) = true := decide_eq_true c6
 clear c6
 by_cases c7 : 0 ≤ x22_1
 {
 rw [if_pos c7] at H
 have c7b0 : decide (0 ≤ x22_1) = true := decide_eq_true c7
 clear c7
 by_cases c8 : x22_1 < (l1.length : Int)
 {
 rw [if_pos c8] at H
 have c8b0 : decide (x22_1 < (l1.length : Int)) = true := decide_eq_true c8
 clear c8
 by_cases c9 : x22_1 < (l2.length : Int)
 {
 rw [if_pos c9] at H
 have c9b0 : decide (x22_1 < (l2.length : Int)) = true := decide_eq_true c9
 clear c9
 obtain ⟨⟨t367, t368, t369⟩, A10, H⟩ := ob_ H
 (try dsimp only at H)
 by_cases c11 : t369 = 0
 {
 rw [if_pos c11] at H
 have c11b0 : (t369 == 0) = true := beq_iff_eq.mpr c11
 have c11b1 : (t369 != 0) = false := bne_eq_false_iff_eq.mpr c11
 clear c11
 by_cases c12 : x9_1.length < 17592186044416
 {
 rw [if_pos c12] at H
 have LMc12 := Aside0.mk c12
 clear c12
 obtain ⟨y370, hy370⟩ : ∃ y_ : List Int, y_ = (x9_1 ++ [t367]) := ⟨_, rfl⟩
 replace H : (if x10_1.length < 17592186044416 then (couple_way_all_by_couple_couple.l0 k1 l1 l2 y370 (x10_1 ++ [t368]) (l1.length : Int) (wrap64 (x22_1 + 1)) a0_0) else (none)) = some (r1, r2, r3) := by first | (rw [hy370]; with_reducible exact H) | (have H2_ := (Option.bind_some _ _).symm.trans H; rw [hy370]; with_reducible exact H2_) | (have H2_ := (Option.bind_some _ _).symm.trans H; with_reducible exact H2_) | with_reducible exact H | (rw [hy370]; exact H) | exact H
 have Ny370 := Aside0.mk hy370
 clear hy370
 by_cases c13 : x10_1.length < 17592186044416
 {
 rw [if_pos c13] at H
 have LMc13 := Aside0.mk c13
 clear c13
 obtain ⟨y373, hy373⟩ : ∃ y_ : List Int, y_ = (x10_1 ++ [t368]) := ⟨_, rfl⟩
 replace H : (couple_way_all_by_couple_couple.l0 k1 l1 l2 y370 y373 (l1.length : Int) (wrap64 (x22_1 + 1)) a0_0) = some (r1, r2, r3) := by first | (rw [hy373]; with_reducible exact H) | (have H2_ := (Option.bind_some _ _).symm.trans H; rw [hy373]; with_reducible exact H2_) | (have H2_ := (Option.bind_some _ _).symm.trans H; with_reducible exact H2_) | with_reducible exact H | (rw [hy373]; exact H) | exact H
 have Ny373 := Aside0.mk hy373
 clear hy373
 have H' := Aside0.mk H
 clear H
 try go_wp2
 replace HO_9 := Aside0.mk (Kd.R_drew HO_9.out)
 replace HO_10 := Aside0.mk (Kd.R_drew HO_10.out)
 replace BK364 := Aside0.mk (blk_drew BK364.out)
 replace HB := Aside0.mk (below_drew1 HB.out)
 have p365 : 0 ≤ (x22_1 : Int) := of_decide_eq_true am_
 have q365 : x22_1 < (l1.length : Int) := of_decide_eq_true am_
 obtain ⟨ad365, e365, hx365_0⟩ := Kd.at_int HR1.out x22_1 p365 q365
 have hw365_0 := hx365_0
 cases e365
 replace hx365_0 := (HB.out.cell (World.block_lt_of_cell? w _ hx365_0)).trans hx365_0
 replace p365 := eq_true p365
 replace q365 := eq_true q365
 have p366 : 0 ≤ (x22_1 : Int) := of_decide_eq_true am_
 have q366 : x22_1 < (l2.length : Int) := of_decide_eq_true am_
 obtain ⟨ad366, e366, hx366_0⟩ := Kd.at_int HR2.out x22_1 p366 q366
 have hw366_0 := hx366_0
 cases e366
 replace hx366_0 := (HB.out.cell (World.block_lt_of_cell? w _ hx366_0)).trans hx366_0
 replace p366 := eq_true p366
 replace q366 := eq_true q366
 refine start_ (n := 17) (S := fun w' => w'.cell? ⟨gb364, 0, none⟩ = some (.int .i64 a0_0) ∧ w'.cell? ⟨gb364, 1, none⟩ = some (.func (.func 100) #[] #[]) ∧ w'.cell? (ad365.add (x22_1).toNat) = some (.int .i64 (rd l1 x22_1)) ∧ w'.cell? (ad366.add (x22_1).toNat) = some (.int .i64 (rd l2 x22_1))) (ds := []) (B_ 17 0) kf_ rfl rfl ⟨ce_ BK364 0, ce_ BK364 1, ((HB.out.cell (World.block_lt_of_cell? w _ hw365_0)).trans hw365_0), ((HB.out.cell (World.block_lt_of_cell? w _ hw366_0)).trans hw366_0)⟩ (fun hHeld => ?_); refine with_tabW couple_way_all_by_couple_couple.tab7 couple_way_all_by_couple_couple.bits7 (fun HT_ HW_ => ?_)
 generalize wr.drew = w14 at HO_9 HO_10 BK364 HB hx365_0 hx366_0 hHeld ⊢
 refine pu_ 1 (some 27) (B_ 17 2) HT_ ?_
 refine pu_ 2 (some 28) (B_ 17 6) HT_ ?_
 refine pu_ 3 (some 29) (B_ 17 14) HT_ ?_
 refine pu_ 5 (some 31) (B_ 17 46) HT_ ?_
 refine pu_ 6 (some 32) (B_ 17 110) HT_ ?_
 refine pu_ 7 (some 33) (B_ 17 238) HT_ ?_
 refine take_ (i := 0) (N := some 26) (v := ?_) (a' := ?_) (B_ 17 239) rfl rfl (take_ofW HT_.out HW_.out kf_) (fun _ _ _ h => h) (Or.inl ⟨by rfl, ?_⟩) hHeld ?_ ?_
 rotate_left
 {
 rintro w' ⟨s0, s1, s2, s3⟩
 go_simp
 with_reducible rfl}
 rotate_left
 {
 exact sp_}
 refine take_ (i := 4) (N := some 30) (v := ?_) (a' := ?_) (B_ 17 255) rfl rfl (take_ofW HT_.out HW_.out kf_) (fun _ _ _ h => h) (Or.inl ⟨by rfl, ?_⟩) hHeld ?_ ?_
 rotate_left
 {
 rintro w' ⟨s0, s1, s2, s3⟩
 go_simp
 with_reducible rfl}
 rotate_left
 {
 exact sp_}
 refine take_ (i := 8) (N := some 34) (v := ?_) (a' := ?_) (B_ 17 511) rfl rfl (take_ofW HT_.out HW_.out kf_) (fun _ _ _ h => h) (Or.inl ⟨by rfl, ?_⟩) hHeld ?_ ?_
 rotate_left
 {
 rintro w' ⟨s0, s1, s2, s3⟩
 go_simp
 with_reducible rfl}
 rotate_left
 {
 exact sp_}
 refine one_ (i := 9) (N := some 35) (B_ 17 1023) rfl rfl (one_of HT_.out kf_) (by decide) (fun K hK => ?_)
 refine goes_ Try.func94 kf_ rfl #[.agg #[.int .i64 a0_0, .func (.func 100) #[] #[]], .int .i64 (rd l1 x22_1), .int .i64 (rd l2 x22_1)] (by rfl) rfl rfl ar_ ?_
 with_reducible refine (couple_way_one_by_couple_couple.calls k1 a0_0 (rd l1 x22_1) (rd l2 x22_1) t367 t368 t369 _ A10.out).mono ?_
 rintro e w15 ⟨rfl, hb⟩
 refine ⟨_, rfl, ?_⟩
 replace HO_9 := FR_ HO_9 hb
 replace HO_10 := FR_ HO_10 hb
 replace BK364 := FB_ BK364 hb
 replace HB := BS_ HB hb
 (try clear hb)
 refine hK.out _ _ ⟨ce_ BK364 0, ce_ BK364 1, ((HB.out.cell (World.block_lt_of_cell? w _ hw365_0)).trans hw365_0), ((HB.out.cell (World.block_lt_of_cell? w _ hw366_0)).trans hw366_0)⟩ (fun hHeld => ?_)
 clear hK K
 refine norm_ (a' := ?_) ?_ ?_
 rotate_left
 {
 show Act.put _ (some 35) _ = _
 exact sp_}
 refine pu_ 10 (some 25) (B_ 17 2047) HT_ ?_
 refine pu_ 11 (some 36) (B_ 17 4095) HT_ ?_
 refine pu_ 12 (some 37) (B_ 17 8191) HT_ ?_
 refine pu_ 13 (some 38) (B_ 17 16383) HT_ ?_
 refine pu_ 14 (some 12) (B_ 17 32767) HT_ ?_
 refine pu_ 15 (some 13) (B_ 17 65535) HT_ ?_
 refine pu_ 16 (some 14) (B_ 17 131071) HT_ ?_
 refine done_ (done_of HT_.out kf_) ?_
 try go_wp2_with (first | ((with_reducible refine gate_builtin (b := .append) (xs := #[.tmp 42, .tmp 44]) rfl ?_); at_builtin; refine Kd.R_append (Kd.int .i64) (w0 := w) w.heap.size rfl (.tmp 42) (.tmp 44) 53 2 (.int .i64 0) 8 rfl Try.underlying53 info2 rfl (by decide) (by omega) u9 x9_1 t367 [.int .i64 t367] (fun k_ => some k_ ≠ (u10 : Value).ownBlock) (fun _ => False) rfl rfl ?aP (fun _ hk => hk.elim) ?aF ?aO ?aB ?aS ?aL ?_; (case aP => exact rfl); (case aB => exact (bl_ HB)); (case aF => exact (fun k_ hk => Kd.fresh' (Kd.R_lt (kR_ HO_10)) k_ hk)); (case aO => exact (kR_ HO_9)); (case aS => exact (bs_ HB)); (case aL => have := LMc12.out; omega); intro v371 w16 ho hb hg hat; rw [← Ny370.out] at ho; replace HO_10 := Aside0.mk (Kd.R_after (ok := (fun _ => True)) (by (with_reducible repeat (first | apply Kd.R_alloc | apply Kd.R_drewN | apply Kd.R_drew)); exact Kd.R_mono HO_10.out (fun _ hk => ⟨trivial, hk⟩)) hg hat); replace BK364 := (FG_ BK364 hg (Kd.R_ne HO_9.out BK364.out (by decide))); replace HB := Aside0.mk (hb); have HO372 := Aside0.mk (ho); clear HO_9; clear ho hb hg hat) | ((with_reducible refine gate_builtin (b := .append) (xs := #[.tmp 46, .tmp 48]) rfl ?_); at_builtin; refine Kd.R_append (Kd.int .i64) (w0 := w) w.heap.size rfl (.tmp 46) (.tmp 48) 53 2 (.int .i64 0) 8 rfl Try.underlying53 info2 rfl (by decide) (by omega) u10 x10_1 t368 [.int .i64 t368] (fun k_ => some k_ ≠ (v371 : Value).ownBlock) (fun _ => False) rfl rfl ?aP (fun _ hk => hk.elim) ?aF ?aO ?aB ?aS ?aL ?_; (case aP => exact rfl); (case aB => exact (bl_ HB)); (case aF => exact (fun k_ hk => Kd.fresh' (Kd.R_lt (kR_ HO372)) k_ hk)); (case aO => exact (by (with_reducible repeat (first | apply Kd.R_alloc | apply Kd.R_drewN | apply Kd.R_drew)); exact Kd.R_mono HO_10.out (fun _ hk => hk.2))); (case aS => exact (bs_ HB)); (case aL => have := LMc13.out; omega); intro v374 w17 ho hb hg hat; rw [← Ny373.out] at ho; replace BK364 := (FG_ BK364 hg (Kd.R_ne HO_10.out BK364.out (by decide))); replace HO372 := Aside0.mk (Kd.R_after (ok := (fun _ => True)) (by (with_reducible repeat (first | apply Kd.R_alloc | apply Kd.R_drewN | apply Kd.R_drew)); exact Kd.R_mono HO372.out (fun _ hk => ⟨trivial, hk⟩)) hg hat); replace HB := Aside0.mk (hb); have HO375 := Aside0.mk (ho); clear HO_10; clear ho hb hg hat))
 go_roundg k1
 case measure => have := HK1.out; omega
 case rel => exact ⟨(y370), (y373), (wrap64 (x22_1 + 1)), rs_, H', ⟨by have := HK1.out; omega⟩, ⟨by (with_reducible repeat (first | apply Kd.R_alloc | apply Kd.R_drewN | apply Kd.R_drew)); exact Kd.R_mono HO372.out (fun _ hk => hk.2)⟩, ⟨kR_ HO375⟩, ⟨bk_ BK364⟩, ⟨bl_ HB⟩⟩}
 {
 rw [if_neg c13] at H
 exact absurd H (by simp)}}
 {
 rw [if_neg c12] at H
 exact absurd H (by simp)}}
 {
 rw [if_neg c11] at H
 have c11b0 : (t369 == 0) = false := beq_eq_false_iff_ne.mpr c11
 have c11b1 : (t369 != 0) = true := bne_iff_ne.mpr c11
 simp only [Option.some.injEq, Prod.mk.injEq] at H
 obtain ⟨rfl, rfl, rfl⟩ := H
 try go_wp2
 replace HO_9 := Aside0.mk (Kd.R_drew HO_9.out)
 replace HO_10 := Aside0.mk (Kd.R_drew HO_10.out)
 replace BK364 := Aside0.mk (blk_drew BK364.out)
 replace HB := Aside0.mk (below_drew1 HB.out)
 have p365 : 0 ≤ (x22_1 : Int) := of_decide_eq_true am_
 have q365 : x22_1 < (l1.length : Int) := of_decide_eq_true am_
 obtain ⟨ad365, e365, hx365_0⟩ := Kd.at_int HR1.out x22_1 p365 q365
 have hw365_0 := hx365_0
 cases e365
 replace hx365_0 := (HB.out.cell (World.block_lt_of_cell? w _ hx365_0)).trans hx365_0
 replace p365 := eq_true p365
 replace q365 := eq_true q365
 have p366 : 0 ≤ (x22_1 : Int) := of_decide_eq_true am_
 have q366 : x22_1 < (l2.length : Int) := of_decide_eq_true am_
 obtain ⟨ad366, e366, hx366_0⟩ := Kd.at_int HR2.out x22_1 p366 q366
 have hw366_0 := hx366_0
 cases e366
 replace hx366_0 := (HB.out.cell (World.block_lt_of_cell? w _ hx366_0)).trans hx366_0
 replace p366 := eq_true p366
 replace q366 := eq_true q366
 refine start_ (n := 17) (S := fun w' => w'.cell? ⟨gb364, 0, none⟩ = some (.int .i64 a0_0) ∧ w'.cell? ⟨gb364, 1, none⟩ = some (.func (.func 100) #[] #[]) ∧ w'.cell? (ad365.add (x22_1).toNat) = some (.int .i64 (rd l1 x22_1)) ∧ w'.cell? (ad366.add (x22_1).toNat) = some (.int .i64 (rd l2 x22_1))) (ds := []) (B_ 17 0) kf_ rfl rfl ⟨ce_ BK364 0, ce_ BK364 1, ((HB.out.cell (World.block_lt_of_cell? w _ hw365_0)).trans hw365_0), ((HB.out.cell (World.block_lt_of_cell? w _ hw366_0)).trans hw366_0)⟩ (fun hHeld => ?_); refine with_tabW couple_way_all_by_couple_couple.tab7 couple_way_all_by_couple_couple.bits7 (fun HT_ HW_ => ?_)
 generalize wr.drew = w18 at HO_9 HO_10 BK364 HB hx365_0 hx366_0 hHeld ⊢
 refine pu_ 1 (some 27) (B_ 17 2) HT_ ?_
 refine pu_ 2 (some 28) (B_ 17 6) HT_ ?_
 refine pu_ 3 (some 29) (B_ 17 14) HT_ ?_
 refine pu_ 5 (some 31) (B_ 17 46) HT_ ?_
 refine pu_ 6 (some 32) (B_ 17 110) HT_ ?_
 refine pu_ 7 (some 33) (B_ 17 238) HT_ ?_
 refine take_ (i := 0) (N := some 26) (v := ?_) (a' := ?_) (B_ 17 239) rfl rfl (take_ofW HT_.out HW_.out kf_) (fun _ _ _ h => h) (Or.inl ⟨by rfl, ?_⟩) hHeld ?_ ?_
 rotate_left
 {
 rintro w' ⟨s0, s1, s2, s3⟩
 go_simp
 with_reducible rfl}
 rotate_left
 {
 exact sp_}
 refine take_ (i := 4) (N := some 30) (v := ?_) (a' := ?_) (B_ 17 255) rfl rfl (take_ofW HT_.out HW_.out kf_) (fun _ _ _ h => h) (Or.inl ⟨by rfl, ?_⟩) hHeld ?_ ?_
 rotate_left
 {
 rintro w' ⟨s0, s1, s2, s3⟩
 go_simp
 with_reducible rfl}
 rotate_left
 {
 exact sp_}
 refine take_ (i := 8) (N := some 34) (v := ?_) (a' := ?_) (B_ 17 511) rfl rfl (take_ofW HT_.out HW_.out kf_) (fun _ _ _ h => h) (Or.inl ⟨by rfl, ?_⟩) hHeld ?_ ?_
 rotate_left
 {
 rintro w' ⟨s0, s1, s2, s3⟩
 go_simp
 with_reducible rfl}
 rotate_left
 {
 exact sp_}
 refine one_ (i := 9) (N := some 35) (B_ 17 1023) rfl rfl (one_of HT_.out kf_) (by decide) (fun K hK => ?_)
 refine goes_ Try.func94 kf_ rfl #[.agg #[.int .i64 a0_0, .func (.func 100) #[] #[]], .int .i64 (rd l1 x22_1), .int .i64 (rd l2 x22_1)] (by rfl) rfl rfl ar_ ?_
 with_reducible refine (couple_way_one_by_couple_couple.calls k1 a0_0 (rd l1 x22_1) (rd l2 x22_1) t367 t368 t369 _ A10.out).mono ?_
 rintro e w19 ⟨rfl, hb⟩
 refine ⟨_, rfl, ?_⟩
 replace HO_9 := FR_ HO_9 hb
 replace HO_10 := FR_ HO_10 hb
 replace BK364 := FB_ BK364 hb
 replace HB := BS_ HB hb
 (try clear hb)
 refine hK.out _ _ ⟨ce_ BK364 0, ce_ BK364 1, ((HB.out.cell (World.block_lt_of_cell? w _ hw365_0)).trans hw365_0), ((HB.out.cell (World.block_lt_of_cell? w _ hw366_0)).trans hw366_0)⟩ (fun hHeld => ?_)
 clear hK K
 refine norm_ (a' := ?_) ?_ ?_
 rotate_left
 {
 show Act.put _ (some 35) _ = _
 exact sp_}
 refine pu_ 10 (some 25) (B_ 17 2047) HT_ ?_
 refine pu_ 11 (some 36) (B_ 17 4095) HT_ ?_
 refine pu_ 12 (some 37) (B_ 17 8191) HT_ ?_
 refine pu_ 13 (some 38) (B_ 17 16383) HT_ ?_
 refine pu_ 14 (some 12) (B_ 17 32767) HT_ ?_
 refine pu_ 15 (some 13) (B_ 17 65535) HT_ ?_
 refine pu_ 16 (some 14) (B_ 17 131071) HT_ ?_
 refine done_ (done_of HT_.out kf_) ?_
 try go_wp2
 go_ret3
 exact ⟨_, _, by first | rfl | (simp [errW_none, errW_some] <;> rfl) | (simp [*, errW_none, errW_some] <;> rfl), by first | exact Kd.R_nil _ _ _ _ _ | exact Kd.N_nil _ _ _ _ _ | exact Kd.V_nil _ _ _ _ _ | exact Kd.Q_nil _ _ _ _ _ | exact Kd.S_nil _ _ _ _ _, by first | exact Kd.R_nil _ _ _ _ _ | exact Kd.N_nil _ _ _ _ _ | exact Kd.V_nil _ _ _ _ _ | exact Kd.Q_nil _ _ _ _ _ | exact Kd.S_nil _ _ _ _ _, bl_ HB⟩}}
 {
 rw [if_neg c9] at H
 exact absurd H (by simp)}}
 {
 rw [if_neg c8] at H
 exact absurd H (by simp)}}
 {
 rw [if_neg c7] at H
 exact absurd H (by simp)}}
 {
 rw [if_neg c6] at H
 have c6b0 : decide (x22_1 < (l1.length : Int)) = false := decide_eq_false c6
 clear c6
 simp only [Option.some.injEq, Prod.mk.injEq] at H
 obtain ⟨rfl, rfl, rfl⟩ := H
 go_wp2
 go_ret3
 exact ⟨_, _, by first | rfl | (simp [errW_none, errW_some] <;> rfl) | (simp [*, errW_none, errW_some] <;> rfl), by (with_reducible repeat (first | apply Kd.R_alloc | apply Kd.R_drewN | apply Kd.R_drew)); exact HO_9.out, by (with_reducible repeat (first | apply Kd.R_alloc | apply Kd.R_drewN | apply Kd.R_drew)); exact HO_10.out, bl_ HB⟩}))}
 {
 rw [if_neg c4] at H
 have c4b0 : ((l1.length : Int) == (l2.length : Int)) = false := beq_eq_false_iff_ne.mpr c4
 have c4b1 : ((l1.length : Int) != (l2.length : Int)) = true := bne_iff_ne.mpr c4
 have c4b2 : (l1.length == l2.length) = false := by first | simpa using c4 | (simp at c4 ⊢; omega)
 simp only [Option.some.injEq, Prod.mk.injEq] at H
 obtain ⟨rfl, rfl, rfl⟩ := H
 go_enter Try.func67, Try.ntmps67
 go_wp2_with (first | ((with_reducible refine gate_dst (N := 3) rfl ?_); refine bx_ HB 3 #[.int .i64 a0_0, .func (.func 100) #[] #[]] 101 ?_; clear HB; intro gb364 hg w20 hb BK364 GE364 HB; have GW364 := GE364; clear hb hg))
 go_ret3
 exact ⟨_, _, by first | rfl | (simp [errW_none, errW_some] <;> rfl) | (simp [*, errW_none, errW_some] <;> rfl), by first | exact Kd.R_nil _ _ _ _ _ | exact Kd.N_nil _ _ _ _ _ | exact Kd.V_nil _ _ _ _ _ | exact Kd.Q_nil _ _ _ _ _ | exact Kd.S_nil _ _ _ _ _, by first | exact Kd.R_nil _ _ _ _ _ | exact Kd.N_nil _ _ _ _ _ | exact Kd.V_nil _ _ _ _ _ | exact Kd.Q_nil _ _ _ _ _ | exact Kd.S_nil _ _ _ _ _, bl_ HB⟩}
def couple_CoupleAll.f (k : Nat) (l0 : List Int) (l1 : List Int) : Option (List Int × List Int × Int) := (couple_coupling.f).bind fun t376 => ((couple_way_all_by_couple_couple.f k t376 l0 l1).bind fun bt377 => (some (bt377.1, bt377.2.1, bt377.2.2)))
theorem couple_CoupleAll.mono : ∀ a0 a1 k, LeO (couple_CoupleAll.f k a0 a1) (couple_CoupleAll.f (k + 1) a0 a1) := by
  intro a0 a1 k
  unfold couple_CoupleAll.f
  with_reducible repeat' first
   | exact couple_way_all_by_couple_couple.mono _ _ _ _
   | exact LeO.refl _
   | exact LeO.none _
   | refine LeO.ite ?_ ?_
   | refine LeO.bind ?_ (fun _ => ?_)
set_option maxHeartbeats 8000000 in
set_option maxRecDepth 100000 in
theorem couple_CoupleAll.calls (k : Nat) (A0 : Option Addr) (c0 : Nat) (l0 : List Int) (A1 : Option Addr) (c1 : Nat) (l1 : List Int) (r1 : List Int) (r2 : List Int) (r3 : Int) (w : World) (hr0 : Kd.C (Kd.int .i64) w A0 l0.length l0) (hc0 : l0.length ≤ c0) (hr1 : Kd.C (Kd.int .i64) w A1 l1.length l1) (hc1 : l1.length ≤ c1) (h : couple_CoupleAll.f k l0 l1 = some (r1, r2, r3)) :
    Calls Try.prog 40 #[.slice A0 l0.length c0, .slice A1 l1.length c1] w fun e w' => ∃ v0_ v1_ : Value, e = .returned (.tuple #[v0_, v1_, .int .i64 r3]) ∧ Kd.R (Kd.int .i64) 2 w' w.heap.size (fun k_ => some k_ ≠ (v1_ : Value).ownBlock) v0_ r1 ∧ Kd.R (Kd.int .i64) 2 w' w.heap.size (fun k_ => some k_ ≠ (v0_ : Value).ownBlock) v1_ r2 ∧ Below w.heap.size w w' := by
 have HR0 := Aside0.mk hr0
 have HC0 := Aside0.mk hc0
 clear hr0 hc0
 have HR1 := Aside0.mk hr1
 have HC1 := Aside0.mk hc1
 clear hr1 hc1
 have HB := Aside0.mk (Below.refl w.heap.size w)
 have H : ((couple_coupling.f).bind fun t376 => ((couple_way_all_by_couple_couple.f k t376 l0 l1).bind fun bt377 => (some (bt377.1, bt377.2.1, bt377.2.2)))) = some (r1, r2, r3) := h
 clear h
 obtain ⟨t376, A3, H⟩ := ob_ H
 (try dsimp only at H)
 obtain ⟨⟨t377, t380, t383⟩, A4, H⟩ := ob_ H
 (try dsimp only at H)
 simp only [Option.some.injEq, Prod.mk.injEq] at H
 obtain ⟨rfl, rfl, rfl⟩ := H
 go_enter Try.func40, Try.ntmps40
 go_wp2_with (first | ((with_reducible refine gate_callee (f := 78) rfl ?_); refine gL_ (some 7) Try.func78 #[] ?_; (with_reducible refine (couple_coupling.calls  t376 _ A3.out).mono ?_); rintro e w5 ⟨rfl, hb⟩; refine ⟨_, rfl, ?_⟩; replace HB := BS_ HB hb; (try clear hb)) | ((with_reducible refine gate_callee (f := 67) rfl ?_); refine gL_ (some 10) Try.func67 #[.agg #[.int .i64 t376, .func (.func 100) #[] #[]], .slice A0 l0.length c0, .slice A1 l1.length c1] ?_; (with_reducible refine (couple_way_all_by_couple_couple.calls k t376 _ _ l0 _ _ l1 t377 t380 t383 _ ?side1 ?side2 ?side3 ?side4 A4.out).mono ?_); (case side1 => exact kC_ HR0 HB); (case side2 => exact HC0.out); (case side3 => exact kC_ HR1 HB); (case side4 => exact HC1.out); rintro e w6 ⟨v378, v381, rfl, ho0, ho1, hb⟩; refine ⟨_, rfl, ?_⟩; have HO379 := Aside0.mk (Kd.R_lower ho0 (bs_ HB)); have HO382 := Aside0.mk (Kd.R_lower ho1 (bs_ HB)); replace HB := BS_ HB hb; (try clear hb); (try clear ho0); (try clear ho1)))
 go_ret3
 exact ⟨_, _, by first | rfl | (simp [errW_none, errW_some] <;> rfl) | (simp [*, errW_none, errW_some] <;> rfl), by (with_reducible repeat (first | apply Kd.R_alloc | apply Kd.R_drewN | apply Kd.R_drew)); exact HO379.out, by (with_reducible repeat (first | apply Kd.R_alloc | apply Kd.R_drewN | apply Kd.R_drew)); exact HO382.out, bl_ HB⟩
end Go.Proofs.Ytdajlfijkbafiaa.P
