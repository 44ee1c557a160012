-- PRINTED by print.py (a twelfth state) out of the translation. Not trusted: Lean checks it.
import Derived.Test.YtmocinhononfpaaPx0
import Derived.Test.YtmocinhononfpaaPx7
import Derived.Test.YtmocinhononfpaaPx10
import Derived.Test.YtmocinhononfpaaPx11
namespace Go.Proofs.Ytmocinhononfpaa.P
open Go.RowKit Go.Proofs.YtmocinhononfpaaW.PrintWords Go.Proofs.YtmocinhononfpaaW.PrintLast Go.Proofs.YtmocinhononfpaaW.PrintMore
attribute [local go_sem] max2_int min2_int max_two min_two max_three min_three max_four min_four   -- for this text's walks alone
set_option linter.unusedVariables false
set_option linter.unusedSimpArgs false

/-! ### psalterylaw04_HuffBack: function 7 -/
mutual
def psalterylaw04_HuffBack.l0 : Nat → List Int → List Int → List Int → Int → List Int → Int → Option (Bool)
  | 0, _, _, _, _, _, _ => none
  | k + 1, x0, x1, x6, x7, x326000, x326001 => if x7 < (x1.length : Int) then (psalterylaw04_HuffBack.j1 k x0 x1 x6 x7 (decide (x7 < 100)) x326000 x326001) else (psalterylaw04_HuffBack.j1 k x0 x1 x6 x7 false x326000 x326001)
def psalterylaw04_HuffBack.j1 : Nat → List Int → List Int → List Int → Int → Bool → List Int → Int → Option (Bool)
  | 0, _, _, _, _, _, _, _ => none
  | k + 1, x0, x1, x6, x7, x27, x326000, x326001 => if x27 = true then (if 0 ≤ x7 then (if x7 < (x1.length : Int) then ((huff_Write.f k x326000 x326001 x0 (rd x1 x7)).bind fun bt327 => (if bt327.2.2 = 0 then (if x6.length < 17592186044416 then (psalterylaw04_HuffBack.l0 k x0 x1 (x6 ++ [rd x1 x7]) (wrap64 (x7 + 1)) bt327.1 bt327.2.1) else (none)) else (psalterylaw04_HuffBack.l0 k x0 x1 x6 (wrap64 (x7 + 1)) x326000 x326001))) else (none)) else (none)) else (psalterylaw04_HuffBack.l1 k x0 x6 0 x326000 x326001 x326000 0)
def psalterylaw04_HuffBack.l1 : Nat → List Int → List Int → Int → List Int → Int → List Int → Int → Option (Bool)
  | 0, _, _, _, _, _, _, _ => none
  | k + 1, x0, x6, x11, x326000, x326001, x338000, x338001 => if x11 < (x6.length : Int) then ((huff_Read.f k x338000 x338001 x0).bind fun bt338 => (if bt338.2.2 = 0 then (if 0 ≤ x11 then (if bt338.2.1 = (rd x6 x11) then (psalterylaw04_HuffBack.l1 k x0 x6 (wrap64 (x11 + 1)) x326000 x326001 x338000 bt338.1) else (some false)) else (none)) else (some false))) else (if x338001 = x326001 then ((psalterylaw04_knows.f k).bind fun t343 => (some t343)) else (some false))
end
def psalterylaw04_HuffBack.f (k : Nat) (l0 : List Int) (l1 : List Int) : Option (Bool) := if (l0.length : Int) > 200 then ((psalterylaw04_knows.f k).bind fun t324 => (some t324)) else (psalterylaw04_HuffBack.l0 k l0 l1 ([] : List Int) 0 ([] : List Int) 0)
theorem psalterylaw04_HuffBack.mono_l : ∀ k, (∀ y0 y1 y2 y3 y4 y5, LeO (psalterylaw04_HuffBack.l0 k y0 y1 y2 y3 y4 y5) (psalterylaw04_HuffBack.l0 (k + 1) y0 y1 y2 y3 y4 y5)) ∧ (∀ y0 y1 y2 y3 y4 y5 y6, LeO (psalterylaw04_HuffBack.j1 k y0 y1 y2 y3 y4 y5 y6) (psalterylaw04_HuffBack.j1 (k + 1) y0 y1 y2 y3 y4 y5 y6)) ∧ (∀ y0 y1 y2 y3 y4 y5 y6, LeO (psalterylaw04_HuffBack.l1 k y0 y1 y2 y3 y4 y5 y6) (psalterylaw04_HuffBack.l1 (k + 1) y0 y1 y2 y3 y4 y5 y6))
  | 0 => ⟨fun _ _ _ _ _ _ r h => by simp [psalterylaw04_HuffBack.l0] at h, fun _ _ _ _ _ _ _ r h => by simp [psalterylaw04_HuffBack.j1] at h, fun _ _ _ _ _ _ _ r h => by simp [psalterylaw04_HuffBack.l1] at h⟩
  | k + 1 => by
    obtain ⟨ih0, ih1, ih2⟩ := psalterylaw04_HuffBack.mono_l k
    refine ⟨?_, ?_, ?_⟩
    · intro y0 y1 y2 y3 y4 y5
      unfold psalterylaw04_HuffBack.l0
      repeat' first
      | (with_reducible exact ih0 _ _ _ _ _ _)
      | (with_reducible exact ih1 _ _ _ _ _ _ _)
      | (with_reducible exact ih2 _ _ _ _ _ _ _)
      | (with_reducible exact huff_Read.mono _ _ _ _)
      | (with_reducible exact huff_Write.mono _ _ _ _ _)
      | (with_reducible exact psalterylaw04_knows.mono _)
      | (with_reducible exact LeO.refl _)
      | (with_reducible exact LeO.none _)
      | (with_reducible refine LeO.ite ?_ ?_)
      | (with_reducible refine LeO.bind ?_ (fun _ => ?_))
      | exact ih0 _ _ _ _ _ _
      | exact ih1 _ _ _ _ _ _ _
      | exact ih2 _ _ _ _ _ _ _
      | exact huff_Read.mono _ _ _ _
      | exact huff_Write.mono _ _ _ _ _
      | exact psalterylaw04_knows.mono _
      | exact LeO.none _
      | refine LeO.ite ?_ ?_
      | refine LeO.bind ?_ (fun _ => ?_)
    · intro y0 y1 y2 y3 y4 y5 y6
      unfold psalterylaw04_HuffBack.j1
      repeat' first
      | (with_reducible exact ih0 _ _ _ _ _ _)
      | (with_reducible exact ih1 _ _ _ _ _ _ _)
      | (with_reducible exact ih2 _ _ _ _ _ _ _)
      | (with_reducible exact huff_Read.mono _ _ _ _)
      | (with_reducible exact huff_Write.mono _ _ _ _ _)
      | (with_reducible exact psalterylaw04_knows.mono _)
      | (with_reducible exact LeO.refl _)
      | (with_reducible exact LeO.none _)
      | (with_reducible refine LeO.ite ?_ ?_)
      | (with_reducible refine LeO.bind ?_ (fun _ => ?_))
      | exact ih0 _ _ _ _ _ _
      | exact ih1 _ _ _ _ _ _ _
      | exact ih2 _ _ _ _ _ _ _
      | exact huff_Read.mono _ _ _ _
      | exact huff_Write.mono _ _ _ _ _
      | exact psalterylaw04_knows.mono _
      | exact LeO.none _
      | refine LeO.ite ?_ ?_
      | refine LeO.bind ?_ (fun _ => ?_)
    · intro y0 y1 y2 y3 y4 y5 y6
      unfold psalterylaw04_HuffBack.l1
      repeat' first
      | (with_reducible exact ih0 _ _ _ _ _ _)
      | (with_reducible exact ih1 _ _ _ _ _ _ _)
      | (with_reducible exact ih2 _ _ _ _ _ _ _)
      | (with_reducible exact huff_Read.mono _ _ _ _)
      | (with_reducible exact huff_Write.mono _ _ _ _ _)
      | (with_reducible exact psalterylaw04_knows.mono _)
      | (with_reducible exact LeO.refl _)
      | (with_reducible exact LeO.none _)
      | (with_reducible refine LeO.ite ?_ ?_)
      | (with_reducible refine LeO.bind ?_ (fun _ => ?_))
      | exact ih0 _ _ _ _ _ _
      | exact ih1 _ _ _ _ _ _ _
      | exact ih2 _ _ _ _ _ _ _
      | exact huff_Read.mono _ _ _ _
      | exact huff_Write.mono _ _ _ _ _
      | exact psalterylaw04_knows.mono _
      | exact LeO.none _
      | refine LeO.ite ?_ ?_
      | refine LeO.bind ?_ (fun _ => ?_)
theorem psalterylaw04_HuffBack.mono : ∀ a0 a1 k, LeO (psalterylaw04_HuffBack.f k a0 a1) (psalterylaw04_HuffBack.f (k + 1) a0 a1) := by
  intro a0 a1 k
  obtain ⟨ih0, ih1, ih2⟩ := psalterylaw04_HuffBack.mono_l k
  unfold psalterylaw04_HuffBack.f
  repeat' first
      | (with_reducible exact ih0 _ _ _ _ _ _)
      | (with_reducible exact ih1 _ _ _ _ _ _ _)
      | (with_reducible exact ih2 _ _ _ _ _ _ _)
      | (with_reducible exact huff_Read.mono _ _ _ _)
      | (with_reducible exact huff_Write.mono _ _ _ _ _)
      | (with_reducible exact psalterylaw04_knows.mono _)
      | (with_reducible exact LeO.refl _)
      | (with_reducible exact LeO.none _)
      | (with_reducible refine LeO.ite ?_ ?_)
      | (with_reducible refine LeO.bind ?_ (fun _ => ?_))
      | exact ih0 _ _ _ _ _ _
      | exact ih1 _ _ _ _ _ _ _
      | exact ih2 _ _ _ _ _ _ _
      | exact huff_Read.mono _ _ _ _
      | exact huff_Write.mono _ _ _ _ _
      | exact psalterylaw04_knows.mono _
      | exact LeO.none _
      | refine LeO.ite ?_ ?_
      | refine LeO.bind ?_ (fun _ => ?_)
def psalterylaw04_HuffBack.T8 : Bool × List (List Nat × List Nat) := (true, [([], []), ([], []), ([], []), ([], []), ([2, 3], [2, 3]), ([4], [4]), ([0, 1, 5], [0, 1, 5]), ([6], [6]), ([7], [7]), ([7], [7]), ([], []), ([10, 8, 6, 0, 1, 2, 3, 4, 5, 6, 7, 8, 10], [8, 10]), ([9, 11, 0, 1, 2, 3, 4, 5, 6, 7, 8, 9, 10, 11], [9])])
def psalterylaw04_HuffBack.B8 : List Nat := [0, 0, 0, 0, 12, 28, 63, 127, 255, 255, 0, 1535, 4095]
theorem psalterylaw04_HuffBack.tab8 : rtab .any (opsOf Try.f7 8) = psalterylaw04_HuffBack.T8 := by kernel_rfl
theorem psalterylaw04_HuffBack.bits8 : waitsOk psalterylaw04_HuffBack.T8.2 psalterylaw04_HuffBack.B8 = true := by kernel_rfl
set_option maxHeartbeats 8000000 in
set_option maxRecDepth 100000 in
theorem psalterylaw04_HuffBack.calls (k : Nat) (A0 : Option Addr) (c0 : Nat) (l0 : List Int) (A1 : Option Addr) (c1 : Nat) (l1 : List Int) (r : Bool) (w : World) (hr0 : Kd.C (Kd.int .i64) w A0 l0.length l0) (hc0 : l0.length ≤ c0) (hr1 : Kd.C (Kd.int .i64) w A1 l1.length l1) (hc1 : l1.length ≤ c1) (h : psalterylaw04_HuffBack.f k l0 l1 = some r) (hT : r = true) :
    Calls Try.prog 7 #[.slice A0 l0.length c0, .slice A1 l1.length c1] w fun e w' => e = .returned (.bool r) ∧ Below w.heap.size w w' := by
  have hu34 := Try.underlying34
  have hu45 := Try.underlying45
  have HR0 := Aside0.mk hr0
  have HC0 := Aside0.mk hc0
  clear hr0 hc0
  have HR1 := Aside0.mk hr1
  have HC1 := Aside0.mk hc1
  clear hr1 hc1
  have HB := Aside0.mk (Below.refl w.heap.size w)
  have H : (if (l0.length : Int) > 200 then ((psalterylaw04_knows.f k).bind fun t324 => (some t324)) else (psalterylaw04_HuffBack.l0 k l0 l1 ([] : List Int) 0 ([] : List Int) 0)) = some r := h
  clear h
  have HT := Aside0.mk hT
  clear hT
  by_cases c3 : (l0.length : Int) > 200
  · rw [if_pos c3] at H
    have c3b0 : decide (200 < (l0.length : Int)) = true := decide_eq_true c3
    have c3b1 : decide (200 < l0.length) = true := decide_eq_true (by omega)
    clear c3
    replace H := Option.bind_eq_some_iff.mp H
    obtain ⟨t324, A40, H⟩ := H
    replace H : (some t324) = some r := H
    have A4 := Aside0.mk A40
    clear A40
    obtain rfl := Option.some.inj H
    go_enter Try.func7, Try.ntmps7
    go_wp2_with (first | ((with_reducible refine gate_callee (f := 10) rfl ?_); refine goesL_ (some 18) rfl rfl Try.func10 (by kernel_rfl) rfl #[] rfl (by (try simp only [List.map_toArray, List.map_cons, List.map_nil]); first | done | rfl | (simp only [List.length_drop, List.length_take]; rfl)) ?_; (with_reducible refine (psalterylaw04_knows.calls k  t324 _ A4.out).mono ?_); rintro e w5 ⟨rfl, hb⟩; refine ⟨_, rfl, ?_⟩; have n0_ := Aside0.mk (below_step (by repeat (first | (with_reducible first | exact HB.out | apply below_alloc | apply pw_below_drewN | apply below_drew1) | exact HB.out)) hb); clear HB; have HB := n0_; clear n0_; (try clear hb); (try clear hb2); (try clear hk); (try clear hi)))
    go_ret
    exact ⟨by first | rfl | (simp [errW_none, errW_some] <;> rfl) | (simp [*, errW_none, errW_some] <;> rfl), by repeat (first | (with_reducible first | exact HB.out | apply below_alloc | apply pw_below_drewN | apply below_drew1) | exact HB.out)⟩
  · rw [if_neg c3] at H
    have c3b0 : decide (200 < (l0.length : Int)) = false := decide_eq_false c3
    have c3b1 : decide (200 < l0.length) = false := decide_eq_false (by omega)
    clear c3
    have H' := Aside0.mk H
    clear H
    go_enter Try.func7, Try.ntmps7
    go_wp2_with (first | ((with_reducible refine gate_dst (N := 5) rfl ?_); refine box_event ?hg (N := 5) ?hd (cs := #[.slice none 0 0, .int .i64 0]) (t := 34) ?hr ?_; (case hd => rfl); (case hg => rfl); (case hr => first | (go_simp; done) | (go_simp; rfl)); intro gb325 hg w6 hbox hb; have n0_ := Aside0.mk (below_step (by repeat (first | (with_reducible first | exact HB.out | apply below_alloc | apply pw_below_drewN | apply below_drew1) | exact HB.out)) hb); have n1_ := Aside0.mk (hbox); have n2_ := Aside0.mk ((by rw [hg]; exact (below_size (by repeat (first | (with_reducible first | exact HB.out | apply below_alloc | apply pw_below_drewN | apply below_drew1) | exact HB.out))) : w.heap.size ≤ gb325)); have n3_ := Aside0.mk ((by rw [hg]; exact (below_size (by repeat (first | (with_reducible first | exact HB.out | apply below_alloc | apply pw_below_drewN | apply below_drew1) | exact HB.out))) : w.heap.size ≤ gb325)); clear HB; have HB := n0_; have BK325 := n1_; have GW325 := n2_; have GE325 := n3_; clear n0_ n1_ n2_ n3_; clear hb hbox hg; have hcz7_0 : w6.cell? ⟨gb325, 0, none⟩ = some (.slice none 0 0) := (blk_cell BK325.out 0).trans rfl; have hcz7_1 : w6.cell? ⟨gb325, 1, none⟩ = some (.int .i64 0) := (blk_cell BK325.out 1).trans rfl; have hfz7_0 := blk_frozen BK325.out 0; have hfz7_1 := blk_frozen BK325.out 1))
    go_loopg [6, 7] k (fun kq v6 v7 w' => ∃ (x6_1 : List Int) (x7_1 : Int) (x326000_1 : List Int) (x326001_1 : Int) (u326000 : Value), v7 = .int .i64 x7_1 ∧ Aside0 (psalterylaw04_HuffBack.l0 kq l0 l1 x6_1 x7_1 x326000_1 x326001_1 = some r) ∧ Aside0 (kq ≤ k) ∧ Aside0 (Kd.R (Kd.int .i64) 3 w' w.heap.size (fun _ => True) v6 x6_1) ∧ Aside0 (Kd.V (Kd.int .u8) 5 w' w.heap.size (fun k_ => some k_ ≠ (v6 : Value).ownBlock ∧ k_ ≠ gb325) u326000 x326000_1) ∧ Aside0 (w'.heap[gb325]? = some (.cells #[u326000, .int .i64 x326001_1] 34 (0, 0))) ∧ Aside0 (Below w.heap.size w w'))
    case atStart => exact ⟨(([] : List Int)), (0), (([] : List Int)), (0), (.slice none 0 0), (by first | rfl | (simp; done) | (simp [*]; done)), H', ⟨Nat.le_refl _⟩, ⟨by first | exact Kd.R_nil _ _ _ _ _ | exact Kd.N_nil _ _ _ _ _ | exact Kd.V_nil _ _ _ _ _ | exact Kd.Q_nil _ _ _ _ _ | exact Kd.S_nil _ _ _ _ _⟩, ⟨Kd.V_nil _ _ _ _ _⟩, ⟨by (with_reducible repeat (first | refine blk_drewN ?_ _ | refine blk_drew ?_ | refine blk_alloc ?_ _)); refine blk_put (cs := #[.slice none 0 0, .int .i64 0]) ?_ 1 _ rfl; (with_reducible repeat (first | refine blk_drewN ?_ _ | refine blk_drew ?_ | refine blk_alloc ?_ _)); refine blk_put (cs := #[.slice none 0 0, .int .i64 0]) ?_ 0 _ rfl; (with_reducible repeat (first | refine blk_drewN ?_ _ | refine blk_drew ?_ | refine blk_alloc ?_ _)); exact BK325.out⟩, ⟨by repeat (first | (with_reducible first | exact HB.out | apply below_alloc | apply pw_below_drewN | apply below_drew1 | refine below_set ?_ GE325.out) | exact HB.out)⟩⟩
    case round =>
      clear H'
      try clear c1
      try clear p2
      try clear c3
      try clear c3b0
      try clear c3b1
      try clear c7
      try clear hcz7_0
      try clear hcz7_1
      try clear hfz7_0
      try clear hfz7_1
      obtain ⟨x6_1, x7_1, x326000_1, x326001_1, u326000, rfl, HA, HK1, HO_6, HO_326000, BK325, HB⟩ := hrel
      cases gk with
      | zero => exact absurd HA.out (by simp [psalterylaw04_HuffBack.l0])
      | succ k1 =>
        have H := HA.out
        clear HA
        simp only [psalterylaw04_HuffBack.l0] at H
        have HC8 := Aside0.mk H
        clear H
        go_upto_region 6 with (fail)
        go_cut [27] (fun v27 wc => ∃ (kq : Nat) (x27_7 : Bool), v27 = .bool x27_7 ∧ Aside0 (psalterylaw04_HuffBack.j1 kq l0 l1 x6_1 x7_1 x27_7 x326000_1 x326001_1 = some r) ∧ Aside0 (kq ≤ k1) ∧ Aside0 (Kd.R (Kd.int .i64) 3 wc w.heap.size (fun _ => True) u6 x6_1) ∧ Aside0 (Kd.V (Kd.int .u8) 5 wc w.heap.size (fun k_ => some k_ ≠ (u6 : Value).ownBlock ∧ k_ ≠ gb325) u326000 x326000_1) ∧ Aside0 (wc.heap[gb325]? = some (.cells #[u326000, .int .i64 x326001_1] 34 (0, 0))) ∧ Aside0 (Below w.heap.size w wc))
        case first =>
          have H := HC8.out
          clear HC8
          by_cases c9 : x7_1 < (l1.length : Int)
          · rw [if_pos c9] at H
            have c9b0 : decide (x7_1 < (l1.length : Int)) = true := decide_eq_true c9
            clear c9
            (first | rw [c9b0] | (simp only [i64_w, i32_w]; rw [c9b0]) | skip)
            have H' := Aside0.mk H
            clear H
            go_wp2
            go_meet
            case rel => exact ⟨_, (decide (x7_1 < 100)), (by first | rfl | (simp; done) | (simp [*]; done)), H', ⟨by have := HK1.out; first | omega | exact Nat.le_refl _⟩, ⟨by (with_reducible repeat (first | apply Kd.R_alloc | apply Kd.R_drewN | apply Kd.R_drew)); exact HO_6.out⟩, ⟨by (with_reducible repeat (first | apply Kd.V_alloc | apply Kd.V_drewN | apply Kd.V_drew)); exact HO_326000.out⟩, ⟨by (with_reducible repeat (first | refine blk_drewN ?_ _ | refine blk_drew ?_ | refine blk_alloc ?_ _)); exact BK325.out⟩, ⟨by repeat (first | (with_reducible first | exact HB.out | apply below_alloc | apply pw_below_drewN | apply below_drew1 | refine below_set ?_ GE325.out) | exact HB.out)⟩⟩
          · rw [if_neg c9] at H
            have c9b0 : decide (x7_1 < (l1.length : Int)) = false := decide_eq_false c9
            clear c9
            (first | rw [c9b0] | (simp only [i64_w, i32_w]; rw [c9b0]) | skip)
            have H' := Aside0.mk H
            clear H
            go_wp2
            go_meet
            case rel => exact ⟨_, (false), (by first | rfl | (simp; done) | (simp [*]; done)), H', ⟨by have := HK1.out; first | omega | exact Nat.le_refl _⟩, ⟨by (with_reducible repeat (first | apply Kd.R_alloc | apply Kd.R_drewN | apply Kd.R_drew)); exact HO_6.out⟩, ⟨by (with_reducible repeat (first | apply Kd.V_alloc | apply Kd.V_drewN | apply Kd.V_drew)); exact HO_326000.out⟩, ⟨by (with_reducible repeat (first | refine blk_drewN ?_ _ | refine blk_drew ?_ | refine blk_alloc ?_ _)); exact BK325.out⟩, ⟨by repeat (first | (with_reducible first | exact HB.out | apply below_alloc | apply pw_below_drewN | apply below_drew1 | refine below_set ?_ GE325.out) | exact HB.out)⟩⟩
        case rest =>
          clear HC8
          try clear c1
          try clear p2
          try clear c3
          try clear c3b0
          try clear c3b1
          try clear c7
          try clear c9
          try clear c9b0
          try clear hcz7_0
          try clear hcz7_1
          try clear hfz7_0
          try clear hfz7_1
          try clear p2
          obtain ⟨kq, x27_7, rfl, HA, HJ7, HO_6, HO_326000, BK325, HB⟩ := hcut
          cases kq with
          | zero => exact absurd HA.out (by simp [psalterylaw04_HuffBack.j1])
          | succ kj7 =>
            have H := HA.out
            clear HA
            simp only [psalterylaw04_HuffBack.j1] at H
            by_cases c10 : x27_7 = true
            · subst c10
              have H1 : (if 0 ≤ x7_1 then (if x7_1 < (l1.length : Int) then ((huff_Write.f kj7 x326000_1 x326001_1 l0 (rd l1 x7_1)).bind fun bt327 => (if bt327.2.2 = 0 then (if x6_1.length < 17592186044416 then (psalterylaw04_HuffBack.l0 kj7 l0 l1 (x6_1 ++ [rd l1 x7_1]) (wrap64 (x7_1 + 1)) bt327.1 bt327.2.1) else (none)) else (psalterylaw04_HuffBack.l0 kj7 l0 l1 x6_1 (wrap64 (x7_1 + 1)) x326000_1 x326001_1))) else (none)) else (none)) = some r := by rw [if_pos rfl] at H; exact H
              clear H
              have H := H1
              clear H1
              by_cases c11 : 0 ≤ x7_1
              · rw [if_pos c11] at H
                have c11b0 : decide (0 ≤ x7_1) = true := decide_eq_true c11
                clear c11
                by_cases c12 : x7_1 < (l1.length : Int)
                · rw [if_pos c12] at H
                  have c12b0 : decide (x7_1 < (l1.length : Int)) = true := decide_eq_true c12
                  clear c12
                  replace H := Option.bind_eq_some_iff.mp H
                  obtain ⟨⟨t327, t330, t331⟩, A130, H⟩ := H
                  replace H : (if t331 = 0 then (if x6_1.length < 17592186044416 then (psalterylaw04_HuffBack.l0 kj7 l0 l1 (x6_1 ++ [rd l1 x7_1]) (wrap64 (x7_1 + 1)) t327 t330) else (none)) else (psalterylaw04_HuffBack.l0 kj7 l0 l1 x6_1 (wrap64 (x7_1 + 1)) x326000_1 x326001_1)) = some r := H
                  have A13 := Aside0.mk A130
                  clear A130
                  by_cases c14 : t331 = 0
                  · rw [if_pos c14] at H
                    have c14b0 : (t331 == 0) = true := beq_iff_eq.mpr c14
                    have c14b1 : (t331 != 0) = false := bne_eq_false_iff_eq.mpr c14
                    clear c14
                    by_cases c15 : x6_1.length < 17592186044416
                    · rw [if_pos c15] at H
                      have LMc15 := Aside0.mk c15
                      clear c15
                      obtain ⟨y334, hy334⟩ : ∃ y_ : List Int, y_ = (x6_1 ++ [rd l1 x7_1]) := ⟨_, rfl⟩
                      replace H : (psalterylaw04_HuffBack.l0 kj7 l0 l1 y334 (wrap64 (x7_1 + 1)) t327 t330) = some r := by first | (rw [hy334]; with_reducible exact H) | (have H2_ := (Option.bind_some _ _).symm.trans H; rw [hy334]; with_reducible exact H2_) | (have H2_ := (Option.bind_some _ _).symm.trans H; with_reducible exact H2_) | with_reducible exact H | (rw [hy334]; exact H) | exact H
                      have Ny334 := Aside0.mk hy334
                      clear hy334
                      have H' := Aside0.mk H
                      clear H
                      obtain ⟨Ao16, co16, eo16⟩ := Kd.V_slice HO_326000.out
                      subst eo16
                      try go_wp2
                      have n0_ := Aside0.mk (Kd.R_drew HO_6.out)
                      have n1_ := Aside0.mk (Kd.V_drew HO_326000.out)
                      have n2_ := Aside0.mk (blk_drew BK325.out)
                      have n3_ := Aside0.mk (below_drew1 HB.out)
                      clear HO_6
                      clear HO_326000
                      clear BK325
                      clear HB
                      have HO_6 := n0_
                      have HO_326000 := n1_
                      have BK325 := n2_
                      have HB := n3_
                      clear n0_ n1_ n2_ n3_
                      have p326 : 0 ≤ (x7_1 : Int) := of_decide_eq_true (by first | (with_reducible assumption) | assumption)
                      have q326 : x7_1 < (l1.length : Int) := of_decide_eq_true (by first | (with_reducible assumption) | assumption)
                      obtain ⟨ad326, e326, hx326_0⟩ := Kd.at_int HR1.out x7_1 p326 q326
                      have hw326_0 := hx326_0
                      cases e326
                      replace hx326_0 := (HB.out.cell (World.block_lt_of_cell? w _ hx326_0)).trans hx326_0
                      replace p326 := eq_true p326
                      replace q326 := eq_true q326
                      refine start_ (n := 13) (S := fun w' => w'.cell? ⟨gb325, 0, none⟩ = some (.slice Ao16 x326000_1.length co16) ∧ w'.cell? ⟨gb325, 1, none⟩ = some (.int .i64 x326001_1) ∧ w'.cell? (ad326.add (x7_1).toNat) = some (.int .i64 (rd l1 x7_1))) (ds := []) #[false, false, false, false, false, false, false, false, false, false, false, false, false] (by kernel_rfl) rfl rfl ⟨(blk_cell BK325.out 0).trans rfl, (blk_cell BK325.out 1).trans rfl, ((HB.out.cell (World.block_lt_of_cell? w _ hw326_0)).trans hw326_0)⟩ (fun hHeld => ?_); refine with_tabW psalterylaw04_HuffBack.tab8 psalterylaw04_HuffBack.bits8 (fun HT_ HW_ => ?_)
                      generalize wc.drew = w17 at HO_6 HO_326000 BK325 HB hx326_0 hHeld ⊢
                      refine pure_ (i := 1) (N := some 32) (v := ?_) (a' := ?_) #[false, true, false, false, false, false, false, false, false, false, false, false, false] rfl rfl (any_of HT_.out (by kernel_rfl)) (fun _ _ _ h => h) (Or.inl ⟨by rfl, ?_⟩) ?_ ?_
                      rotate_left
                      · intro w'
                        go_simp
                        with_reducible rfl
                      rotate_left
                      · simp only [Act.put, List.setIfInBounds_toArray, List.set_cons_zero, List.set_cons_succ, i64_w, i32_w]
                        rfl
                      refine pure_ (i := 2) (N := some 33) (v := ?_) (a' := ?_) #[false, true, true, false, false, false, false, false, false, false, false, false, false] rfl rfl (any_of HT_.out (by kernel_rfl)) (fun _ _ _ h => h) (Or.inl ⟨by rfl, ?_⟩) ?_ ?_
                      rotate_left
                      · intro w'
                        go_simp
                        with_reducible rfl
                      rotate_left
                      · simp only [Act.put, List.setIfInBounds_toArray, List.set_cons_zero, List.set_cons_succ, i64_w, i32_w]
                        rfl
                      refine pure_ (i := 3) (N := some 34) (v := ?_) (a' := ?_) #[false, true, true, true, false, false, false, false, false, false, false, false, false] rfl rfl (any_of HT_.out (by kernel_rfl)) (fun _ _ _ h => h) (Or.inl ⟨by rfl, ?_⟩) ?_ ?_
                      rotate_left
                      · intro w'
                        go_simp
                        with_reducible rfl
                      rotate_left
                      · simp only [Act.put, List.setIfInBounds_toArray, List.set_cons_zero, List.set_cons_succ, i64_w, i32_w]
                        rfl
                      refine pure_ (i := 4) (N := some 35) (v := ?_) (a' := ?_) #[false, true, true, true, true, false, false, false, false, false, false, false, false] rfl rfl (any_of HT_.out (by kernel_rfl)) (fun _ _ _ h => h) (Or.inl ⟨by rfl, ?_⟩) ?_ ?_
                      rotate_left
                      · intro w'
                        go_simp
                        with_reducible rfl
                      rotate_left
                      · simp only [Act.put, List.setIfInBounds_toArray, List.set_cons_zero, List.set_cons_succ, i64_w, i32_w]
                        rfl
                      refine take_ (i := 0) (N := some 31) (v := ?_) (a' := ?_) #[true, true, true, true, true, false, false, false, false, false, false, false, false] rfl rfl (take_ofW HT_.out HW_.out (by kernel_rfl)) (fun _ _ _ h => h) (Or.inl ⟨by rfl, ?_⟩) hHeld ?_ ?_
                      rotate_left
                      · rintro w' ⟨s0, s1, s2⟩
                        go_simp
                        with_reducible rfl
                      rotate_left
                      · simp only [Act.put, List.setIfInBounds_toArray, List.set_cons_zero, List.set_cons_succ, i64_w, i32_w]
                        rfl
                      refine take_ (i := 5) (N := some 36) (v := ?_) (a' := ?_) #[true, true, true, true, true, true, false, false, false, false, false, false, false] rfl rfl (take_ofW HT_.out HW_.out (by kernel_rfl)) (fun _ _ _ h => h) (Or.inl ⟨by rfl, ?_⟩) hHeld ?_ ?_
                      rotate_left
                      · rintro w' ⟨s0, s1, s2⟩
                        go_simp
                        with_reducible rfl
                      rotate_left
                      · simp only [Act.put, List.setIfInBounds_toArray, List.set_cons_zero, List.set_cons_succ, i64_w, i32_w]
                        rfl
                      refine join_ (σ := Value × Nat) 2 #[true, true, true, true, true, true, true, true, true, true, true, false, false] (fun s_ => [(37, .tuple #[.agg #[s_.1, .int .i64 t330], .int .i64 t331]), (8, .pointer (some ⟨s_.2, 0, none⟩)), (30, .tuple #[.agg #[s_.1, .int .i64 t330], .int .i64 t331]), (38, .agg #[s_.1, .int .i64 t330]), (39, .int .i64 t331)]) (fun s_ w' => (w'.cell? ⟨gb325, 0, none⟩ = some (.slice Ao16 x326000_1.length co16) ∧ w'.cell? ⟨gb325, 1, none⟩ = some (.int .i64 x326001_1) ∧ w'.cell? (ad326.add (x7_1).toNat) = some (.int .i64 (rd l1 x7_1))) ∧ (Kd.V (Kd.int .u8) 5 w' w.heap.size (fun k_ => some k_ ≠ (u6 : Value).ownBlock ∧ k_ ≠ gb325 ∧ k_ ≠ s_.2) s_.1 t327) ∧ (Kd.V (Kd.int .u8) 5 w' w.heap.size (fun k_ => some k_ ≠ (u6 : Value).ownBlock ∧ k_ ≠ gb325 ∧ k_ ≠ s_.2) (.slice Ao16 x326000_1.length co16) x326000_1) ∧ (Kd.R (Kd.int .i64) 3 w' w.heap.size (fun _ => True) u6 x6_1) ∧ (w'.heap[gb325]? = some (.cells #[.slice Ao16 x326000_1.length co16, .int .i64 x326001_1] 34 (0, 0))) ∧ (w'.heap[s_.2]? = some (.cells #[.slice none 0 0, .int .i64 0] 34 (0, 0))) ∧ (w.heap.size ≤ s_.2) ∧ (w.heap.size ≤ s_.2) ∧ (gb325 ≠ s_.2) ∧ (s_.2 ≠ gb325) ∧ (Below w.heap.size w w')) ?_ ?_
                      rotate_left
                      · intro hCont
                        refine two_ (i := 6) (j := 10) (Ni := some 37) (Nj := some 8) #[true, true, true, true, true, true, true, false, false, false, false, false, false] #[true, true, true, true, true, true, false, false, false, false, true, false, false] rfl rfl rfl rfl (two_of HT_.out (by kernel_rfl)) (by decide) (by decide) (fun K hK => ?_) (fun K hK => ?_)
                        · skip
                          refine goes_ Try.func17 (by kernel_rfl) rfl #[.agg #[.slice Ao16 x326000_1.length co16, .int .i64 x326001_1], .slice A0 l0.length c0, .int .i64 (rd l1 x7_1)] (by rfl) rfl rfl (by (try simp only [List.map_toArray, List.map_cons, List.map_nil]); first | done | rfl | (simp only [List.length_drop, List.length_take]; rfl)) ?_
                          with_reducible refine (huff_Write.calls kj7 (fun k_ => (some k_ ≠ (u6 : Value).ownBlock ∧ k_ ≠ gb325)) _ _ x326000_1 x326001_1 _ _ l0 (rd l1 x7_1) t327 t330 t331 _ ?side1 ?side2 ?side3 A13.out).mono ?_
                          (case side1 => exact HO_326000.out)
                          (case side2 => repeat (first | exact (Kd.C_below HR0.out HB.out) | (with_reducible refine Kd.C_alloc ?_ _) | (with_reducible refine Kd.C_drewN ?_ _) | (with_reducible refine Kd.C_drew ?_)))
                          (case side3 => exact HC0.out)
                          rintro e w18 ⟨v328, rfl, ho0, hb⟩
                          refine ⟨_, rfl, ?_⟩
                          have n0_ := Aside0.mk (Kd.R_below (by (with_reducible repeat (first | apply Kd.R_alloc | apply Kd.R_drewN | apply Kd.R_drew)); exact HO_6.out) hb)
                          have n1_ := Aside0.mk (Kd.V_below (by (with_reducible repeat (first | apply Kd.V_alloc | apply Kd.V_drewN | apply Kd.V_drew)); exact HO_326000.out) hb)
                          have n2_ := Aside0.mk (Kd.V_lower (Kd.V_mono (ok' := fun k_ => some k_ ≠ (u6 : Value).ownBlock ∧ k_ ≠ gb325) ho0 (fun k_ hk_ => ⟨Or.elim hk_ (fun hs_ => hs_.1) (fun hn_ => (Kd.fresh' (Kd.R_lt (by (with_reducible repeat (first | apply Kd.R_alloc | apply Kd.R_drewN | apply Kd.R_drew)); exact HO_6.out)) k_ hn_)), Or.elim hk_ (fun hs_ => hs_.2) (fun hn_ => (Kd.freshB (g := gb325) (o := .cells #[.slice Ao16 x326000_1.length co16, .int .i64 x326001_1] 34 (0, 0)) (by (with_reducible repeat (first | refine blk_drewN ?_ _ | refine blk_drew ?_ | refine blk_alloc ?_ _)); exact BK325.out) k_ hn_))⟩)) (below_size (by repeat (first | (with_reducible first | exact HB.out | apply below_alloc | apply pw_below_drewN | apply below_drew1 | refine below_set ?_ GE325.out) | exact HB.out))))
                          have n3_ := Aside0.mk (blk_below (g := gb325) (o := .cells #[.slice Ao16 x326000_1.length co16, .int .i64 x326001_1] 34 (0, 0)) (by (with_reducible repeat (first | refine blk_drewN ?_ _ | refine blk_drew ?_ | refine blk_alloc ?_ _)); exact BK325.out) hb)
                          have n4_ := Aside0.mk (below_step (by repeat (first | (with_reducible first | exact HB.out | apply below_alloc | apply pw_below_drewN | apply below_drew1 | refine below_set ?_ GE325.out) | exact HB.out)) hb)
                          clear HO_6
                          clear HO_326000
                          clear BK325
                          clear HB
                          have HO_6 := n0_
                          have HO_326000 := n1_
                          have HO329 := n2_
                          have BK325 := n3_
                          have HB := n4_
                          clear n0_ n1_ n2_ n3_ n4_
                          (try clear hb)
                          (try clear hb2)
                          (try clear hk)
                          (try clear hi)
                          (try clear ho0)
                          refine hK.out _ _ ⟨(blk_cell BK325.out 0).trans rfl, (blk_cell BK325.out 1).trans rfl, ((HB.out.cell (World.block_lt_of_cell? w _ hw326_0)).trans hw326_0)⟩ (fun hHeld => ?_)
                          clear hK K
                          refine norm_ (a' := ?_) ?_ ?_
                          rotate_left
                          · show Act.put _ (some 37) _ = _
                            simp only [Act.put, List.setIfInBounds_toArray, List.set_cons_zero, List.set_cons_succ, i64_w, i32_w]
                            rfl
                          refine pure_ (i := 7) (N := some 30) (v := ?_) (a' := ?_) #[true, true, true, true, true, true, true, true, false, false, false, false, false] rfl rfl (any_of HT_.out (by kernel_rfl)) (fun _ _ _ h => h) (Or.inl ⟨by rfl, ?_⟩) ?_ ?_
                          rotate_left
                          · intro w'
                            go_simp
                            with_reducible rfl
                          rotate_left
                          · simp only [Act.put, List.setIfInBounds_toArray, List.set_cons_zero, List.set_cons_succ, i64_w, i32_w]
                            rfl
                          refine pure_ (i := 8) (N := some 38) (v := ?_) (a' := ?_) #[true, true, true, true, true, true, true, true, true, false, false, false, false] rfl rfl (any_of HT_.out (by kernel_rfl)) (fun _ _ _ h => h) (Or.inl ⟨by rfl, ?_⟩) ?_ ?_
                          rotate_left
                          · intro w'
                            go_simp
                            with_reducible rfl
                          rotate_left
                          · simp only [Act.put, List.setIfInBounds_toArray, List.set_cons_zero, List.set_cons_succ, i64_w, i32_w]
                            rfl
                          refine pure_ (i := 9) (N := some 39) (v := ?_) (a' := ?_) #[true, true, true, true, true, true, true, true, true, true, false, false, false] rfl rfl (any_of HT_.out (by kernel_rfl)) (fun _ _ _ h => h) (Or.inl ⟨by rfl, ?_⟩) ?_ ?_
                          rotate_left
                          · intro w'
                            go_simp
                            with_reducible rfl
                          rotate_left
                          · simp only [Act.put, List.setIfInBounds_toArray, List.set_cons_zero, List.set_cons_succ, i64_w, i32_w]
                            rfl
                          refine one_ (i := 10) (N := some 8) #[true, true, true, true, true, true, true, true, true, true, true, false, false] rfl rfl (one_of HT_.out (by kernel_rfl)) (by decide) (fun K hK => ?_)
                          refine box_step ?hg (N := 8) ?hd (cs := #[.slice none 0 0, .int .i64 0]) (t := 34) ?hr ?_; (case hd => rfl); (case hg => rfl); (case hr => first | (go_simp; done) | (go_simp; rfl))
                          intro gb332 hg w19 hbox hb
                          have n0_ := Aside0.mk (Kd.R_below (by (with_reducible repeat (first | apply Kd.R_alloc | apply Kd.R_drewN | apply Kd.R_drew)); exact HO_6.out) hb)
                          have n1_ := Aside0.mk (Kd.V_below (Kd.V_elderB (by (with_reducible repeat (first | apply Kd.V_alloc | apply Kd.V_drewN | apply Kd.V_drew)); exact HO_326000.out) gb332 (Nat.le_of_eq hg.symm)) hb)
                          have n2_ := Aside0.mk (Kd.V_below (Kd.V_elderB (by (with_reducible repeat (first | apply Kd.V_alloc | apply Kd.V_drewN | apply Kd.V_drew)); exact HO329.out) gb332 (Nat.le_of_eq hg.symm)) hb)
                          have n3_ := Aside0.mk (blk_below (g := gb325) (o := .cells #[.slice Ao16 x326000_1.length co16, .int .i64 x326001_1] 34 (0, 0)) (by (with_reducible repeat (first | refine blk_drewN ?_ _ | refine blk_drew ?_ | refine blk_alloc ?_ _)); exact BK325.out) hb)
                          have n4_ := Aside0.mk (below_step (by repeat (first | (with_reducible first | exact HB.out | apply below_alloc | apply pw_below_drewN | apply below_drew1 | refine below_set ?_ GE325.out) | exact HB.out)) hb)
                          have n5_ := Aside0.mk (hbox)
                          have n6_ := Aside0.mk ((by rw [hg]; exact (below_size (by repeat (first | (with_reducible first | exact HB.out | apply below_alloc | apply pw_below_drewN | apply below_drew1 | refine below_set ?_ GE325.out) | exact HB.out))) : w.heap.size ≤ gb332))
                          have n7_ := Aside0.mk ((by rw [hg]; exact (below_size (by repeat (first | (with_reducible first | exact HB.out | apply below_alloc | apply pw_below_drewN | apply below_drew1 | refine below_set ?_ GE325.out) | exact HB.out))) : w.heap.size ≤ gb332))
                          have n8_ := Aside0.mk ((by rw [hg]; exact Nat.ne_of_lt (blk_lt (g := gb325) (o := .cells #[.slice Ao16 x326000_1.length co16, .int .i64 x326001_1] 34 (0, 0)) (by (with_reducible repeat (first | refine blk_drewN ?_ _ | refine blk_drew ?_ | refine blk_alloc ?_ _)); exact BK325.out)) : gb325 ≠ gb332))
                          have n9_ := Aside0.mk ((by rw [hg]; exact Nat.ne_of_gt (blk_lt (g := gb325) (o := .cells #[.slice Ao16 x326000_1.length co16, .int .i64 x326001_1] 34 (0, 0)) (by (with_reducible repeat (first | refine blk_drewN ?_ _ | refine blk_drew ?_ | refine blk_alloc ?_ _)); exact BK325.out)) : gb332 ≠ gb325))
                          clear HO_6
                          clear HO_326000
                          clear HO329
                          clear BK325
                          clear HB
                          have HO_6 := n0_
                          have HO_326000 := n1_
                          have HO329 := n2_
                          have BK325 := n3_
                          have HB := n4_
                          have BK332 := n5_
                          have GW332 := n6_
                          have GE332 := n7_
                          have NB325_332 := n8_
                          have NB332_325 := n9_
                          clear n0_ n1_ n2_ n3_ n4_ n5_ n6_ n7_ n8_ n9_
                          clear hb hbox hg
                          refine hK.out _ _ ⟨(blk_cell BK325.out 0).trans rfl, (blk_cell BK325.out 1).trans rfl, ((HB.out.cell (World.block_lt_of_cell? w _ hw326_0)).trans hw326_0)⟩ (fun hHeld => ?_)
                          clear hK K
                          refine norm_ (a' := ?_) ?_ ?_
                          rotate_left
                          · show Act.put _ (some 8) _ = _
                            simp only [Act.put, List.setIfInBounds_toArray, List.set_cons_zero, List.set_cons_succ, i64_w, i32_w]
                            rfl
                          exact norm_ (by simp only [putAll, Act.put, List.setIfInBounds_toArray, List.set_cons_zero, List.set_cons_succ]) (hCont (v328, gb332) _ ⟨hHeld, (by (with_reducible repeat (first | apply Kd.V_alloc | apply Kd.V_drewN | apply Kd.V_drew)); exact Kd.V_mono HO329.out (fun _ hk => ⟨hk.1.1, ⟨hk.1.2, hk.2⟩⟩)), (by (with_reducible repeat (first | apply Kd.V_alloc | apply Kd.V_drewN | apply Kd.V_drew)); exact Kd.V_mono HO_326000.out (fun _ hk => ⟨hk.1.1, ⟨hk.1.2, hk.2⟩⟩)), (by (with_reducible repeat (first | apply Kd.R_alloc | apply Kd.R_drewN | apply Kd.R_drew)); exact HO_6.out), (by (with_reducible repeat (first | refine blk_drewN ?_ _ | refine blk_drew ?_ | refine blk_alloc ?_ _)); exact BK325.out), (by (with_reducible repeat (first | refine blk_drewN ?_ _ | refine blk_drew ?_ | refine blk_alloc ?_ _)); exact BK332.out), GW332.out, GE332.out, NB325_332.out, NB332_325.out, (by repeat (first | (with_reducible first | exact HB.out | apply below_alloc | apply pw_below_drewN | apply below_drew1 | refine below_set ?_ GE325.out | refine below_set ?_ GE332.out) | exact HB.out))⟩)
                        · skip
                          refine box_step ?hg (N := 8) ?hd (cs := #[.slice none 0 0, .int .i64 0]) (t := 34) ?hr ?_; (case hd => rfl); (case hg => rfl); (case hr => first | (go_simp; done) | (go_simp; rfl))
                          intro gb332 hg w18 hbox hb
                          have n0_ := Aside0.mk (Kd.R_below (by (with_reducible repeat (first | apply Kd.R_alloc | apply Kd.R_drewN | apply Kd.R_drew)); exact HO_6.out) hb)
                          have n1_ := Aside0.mk (Kd.V_below (Kd.V_elderB (by (with_reducible repeat (first | apply Kd.V_alloc | apply Kd.V_drewN | apply Kd.V_drew)); exact HO_326000.out) gb332 (Nat.le_of_eq hg.symm)) hb)
                          have n2_ := Aside0.mk (blk_below (g := gb325) (o := .cells #[.slice Ao16 x326000_1.length co16, .int .i64 x326001_1] 34 (0, 0)) (by (with_reducible repeat (first | refine blk_drewN ?_ _ | refine blk_drew ?_ | refine blk_alloc ?_ _)); exact BK325.out) hb)
                          have n3_ := Aside0.mk (below_step (by repeat (first | (with_reducible first | exact HB.out | apply below_alloc | apply pw_below_drewN | apply below_drew1 | refine below_set ?_ GE325.out) | exact HB.out)) hb)
                          have n4_ := Aside0.mk (hbox)
                          have n5_ := Aside0.mk ((by rw [hg]; exact (below_size (by repeat (first | (with_reducible first | exact HB.out | apply below_alloc | apply pw_below_drewN | apply below_drew1 | refine below_set ?_ GE325.out) | exact HB.out))) : w.heap.size ≤ gb332))
                          have n6_ := Aside0.mk ((by rw [hg]; exact (below_size (by repeat (first | (with_reducible first | exact HB.out | apply below_alloc | apply pw_below_drewN | apply below_drew1 | refine below_set ?_ GE325.out) | exact HB.out))) : w.heap.size ≤ gb332))
                          have n7_ := Aside0.mk ((by rw [hg]; exact Nat.ne_of_lt (blk_lt (g := gb325) (o := .cells #[.slice Ao16 x326000_1.length co16, .int .i64 x326001_1] 34 (0, 0)) (by (with_reducible repeat (first | refine blk_drewN ?_ _ | refine blk_drew ?_ | refine blk_alloc ?_ _)); exact BK325.out)) : gb325 ≠ gb332))
                          have n8_ := Aside0.mk ((by rw [hg]; exact Nat.ne_of_gt (blk_lt (g := gb325) (o := .cells #[.slice Ao16 x326000_1.length co16, .int .i64 x326001_1] 34 (0, 0)) (by (with_reducible repeat (first | refine blk_drewN ?_ _ | refine blk_drew ?_ | refine blk_alloc ?_ _)); exact BK325.out)) : gb332 ≠ gb325))
                          clear HO_6
                          clear HO_326000
                          clear BK325
                          clear HB
                          have HO_6 := n0_
                          have HO_326000 := n1_
                          have BK325 := n2_
                          have HB := n3_
                          have BK332 := n4_
                          have GW332 := n5_
                          have GE332 := n6_
                          have NB325_332 := n7_
                          have NB332_325 := n8_
                          clear n0_ n1_ n2_ n3_ n4_ n5_ n6_ n7_ n8_
                          clear hb hbox hg
                          refine hK.out _ _ ⟨(blk_cell BK325.out 0).trans rfl, (blk_cell BK325.out 1).trans rfl, ((HB.out.cell (World.block_lt_of_cell? w _ hw326_0)).trans hw326_0)⟩ (fun hHeld => ?_)
                          clear hK K
                          refine norm_ (a' := ?_) ?_ ?_
                          rotate_left
                          · show Act.put _ (some 8) _ = _
                            simp only [Act.put, List.setIfInBounds_toArray, List.set_cons_zero, List.set_cons_succ, i64_w, i32_w]
                            rfl
                          refine one_ (i := 6) (N := some 37) #[true, true, true, true, true, true, true, false, false, false, true, false, false] rfl rfl (one_of HT_.out (by kernel_rfl)) (by decide) (fun K hK => ?_)
                          refine goes_ Try.func17 (by kernel_rfl) rfl #[.agg #[.slice Ao16 x326000_1.length co16, .int .i64 x326001_1], .slice A0 l0.length c0, .int .i64 (rd l1 x7_1)] (by rfl) rfl rfl (by (try simp only [List.map_toArray, List.map_cons, List.map_nil]); first | done | rfl | (simp only [List.length_drop, List.length_take]; rfl)) ?_
                          with_reducible refine (huff_Write.calls kj7 (fun k_ => ((some k_ ≠ (u6 : Value).ownBlock ∧ k_ ≠ gb325) ∧ k_ ≠ gb332)) _ _ x326000_1 x326001_1 _ _ l0 (rd l1 x7_1) t327 t330 t331 _ ?side1 ?side2 ?side3 A13.out).mono ?_
                          (case side1 => exact HO_326000.out)
                          (case side2 => repeat (first | exact (Kd.C_below HR0.out HB.out) | (with_reducible refine Kd.C_alloc ?_ _) | (with_reducible refine Kd.C_drewN ?_ _) | (with_reducible refine Kd.C_drew ?_)))
                          (case side3 => exact HC0.out)
                          rintro e w19 ⟨v328, rfl, ho0, hb⟩
                          refine ⟨_, rfl, ?_⟩
                          have n0_ := Aside0.mk (Kd.R_below (by (with_reducible repeat (first | apply Kd.R_alloc | apply Kd.R_drewN | apply Kd.R_drew)); exact HO_6.out) hb)
                          have n1_ := Aside0.mk (Kd.V_below (by (with_reducible repeat (first | apply Kd.V_alloc | apply Kd.V_drewN | apply Kd.V_drew)); exact HO_326000.out) hb)
                          have n2_ := Aside0.mk (Kd.V_lower (Kd.V_mono (ok' := fun k_ => some k_ ≠ (u6 : Value).ownBlock ∧ k_ ≠ gb325 ∧ k_ ≠ gb332) ho0 (fun k_ hk_ => ⟨Or.elim hk_ (fun hs_ => hs_.1.1) (fun hn_ => (Kd.fresh' (Kd.R_lt (by (with_reducible repeat (first | apply Kd.R_alloc | apply Kd.R_drewN | apply Kd.R_drew)); exact HO_6.out)) k_ hn_)), Or.elim hk_ (fun hs_ => hs_.1.2) (fun hn_ => (Kd.freshB (g := gb325) (o := .cells #[.slice Ao16 x326000_1.length co16, .int .i64 x326001_1] 34 (0, 0)) (by (with_reducible repeat (first | refine blk_drewN ?_ _ | refine blk_drew ?_ | refine blk_alloc ?_ _)); exact BK325.out) k_ hn_)), Or.elim hk_ (fun hs_ => hs_.2) (fun hn_ => (Kd.freshB (g := gb332) (o := .cells #[.slice none 0 0, .int .i64 0] 34 (0, 0)) (by (with_reducible repeat (first | refine blk_drewN ?_ _ | refine blk_drew ?_ | refine blk_alloc ?_ _)); exact BK332.out) k_ hn_))⟩)) (below_size (by repeat (first | (with_reducible first | exact HB.out | apply below_alloc | apply pw_below_drewN | apply below_drew1 | refine below_set ?_ GE325.out | refine below_set ?_ GE332.out) | exact HB.out))))
                          have n3_ := Aside0.mk (blk_below (g := gb325) (o := .cells #[.slice Ao16 x326000_1.length co16, .int .i64 x326001_1] 34 (0, 0)) (by (with_reducible repeat (first | refine blk_drewN ?_ _ | refine blk_drew ?_ | refine blk_alloc ?_ _)); exact BK325.out) hb)
                          have n4_ := Aside0.mk (blk_below (g := gb332) (o := .cells #[.slice none 0 0, .int .i64 0] 34 (0, 0)) (by (with_reducible repeat (first | refine blk_drewN ?_ _ | refine blk_drew ?_ | refine blk_alloc ?_ _)); exact BK332.out) hb)
                          have n5_ := Aside0.mk (below_step (by repeat (first | (with_reducible first | exact HB.out | apply below_alloc | apply pw_below_drewN | apply below_drew1 | refine below_set ?_ GE325.out | refine below_set ?_ GE332.out) | exact HB.out)) hb)
                          clear HO_6
                          clear HO_326000
                          clear BK325
                          clear BK332
                          clear HB
                          have HO_6 := n0_
                          have HO_326000 := n1_
                          have HO329 := n2_
                          have BK325 := n3_
                          have BK332 := n4_
                          have HB := n5_
                          clear n0_ n1_ n2_ n3_ n4_ n5_
                          (try clear hb)
                          (try clear hb2)
                          (try clear hk)
                          (try clear hi)
                          (try clear ho0)
                          refine hK.out _ _ ⟨(blk_cell BK325.out 0).trans rfl, (blk_cell BK325.out 1).trans rfl, ((HB.out.cell (World.block_lt_of_cell? w _ hw326_0)).trans hw326_0)⟩ (fun hHeld => ?_)
                          clear hK K
                          refine norm_ (a' := ?_) ?_ ?_
                          rotate_left
                          · show Act.put _ (some 37) _ = _
                            simp only [Act.put, List.setIfInBounds_toArray, List.set_cons_zero, List.set_cons_succ, i64_w, i32_w]
                            rfl
                          refine pure_ (i := 7) (N := some 30) (v := ?_) (a' := ?_) #[true, true, true, true, true, true, true, true, false, false, true, false, false] rfl rfl (any_of HT_.out (by kernel_rfl)) (fun _ _ _ h => h) (Or.inl ⟨by rfl, ?_⟩) ?_ ?_
                          rotate_left
                          · intro w'
                            go_simp
                            with_reducible rfl
                          rotate_left
                          · simp only [Act.put, List.setIfInBounds_toArray, List.set_cons_zero, List.set_cons_succ, i64_w, i32_w]
                            rfl
                          refine pure_ (i := 8) (N := some 38) (v := ?_) (a' := ?_) #[true, true, true, true, true, true, true, true, true, false, true, false, false] rfl rfl (any_of HT_.out (by kernel_rfl)) (fun _ _ _ h => h) (Or.inl ⟨by rfl, ?_⟩) ?_ ?_
                          rotate_left
                          · intro w'
                            go_simp
                            with_reducible rfl
                          rotate_left
                          · simp only [Act.put, List.setIfInBounds_toArray, List.set_cons_zero, List.set_cons_succ, i64_w, i32_w]
                            rfl
                          refine pure_ (i := 9) (N := some 39) (v := ?_) (a' := ?_) #[true, true, true, true, true, true, true, true, true, true, true, false, false] rfl rfl (any_of HT_.out (by kernel_rfl)) (fun _ _ _ h => h) (Or.inl ⟨by rfl, ?_⟩) ?_ ?_
                          rotate_left
                          · intro w'
                            go_simp
                            with_reducible rfl
                          rotate_left
                          · simp only [Act.put, List.setIfInBounds_toArray, List.set_cons_zero, List.set_cons_succ, i64_w, i32_w]
                            rfl
                          exact norm_ (by simp only [putAll, Act.put, List.setIfInBounds_toArray, List.set_cons_zero, List.set_cons_succ]) (hCont (v328, gb332) _ ⟨hHeld, (by (with_reducible repeat (first | apply Kd.V_alloc | apply Kd.V_drewN | apply Kd.V_drew)); exact HO329.out), (by (with_reducible repeat (first | apply Kd.V_alloc | apply Kd.V_drewN | apply Kd.V_drew)); exact Kd.V_mono HO_326000.out (fun _ hk => ⟨hk.1.1, ⟨hk.1.2, hk.2⟩⟩)), (by (with_reducible repeat (first | apply Kd.R_alloc | apply Kd.R_drewN | apply Kd.R_drew)); exact HO_6.out), (by (with_reducible repeat (first | refine blk_drewN ?_ _ | refine blk_drew ?_ | refine blk_alloc ?_ _)); exact BK325.out), (by (with_reducible repeat (first | refine blk_drewN ?_ _ | refine blk_drew ?_ | refine blk_alloc ?_ _)); exact BK332.out), GW332.out, GE332.out, NB325_332.out, NB332_325.out, (by repeat (first | (with_reducible first | exact HB.out | apply below_alloc | apply pw_below_drewN | apply below_drew1 | refine below_set ?_ GE325.out | refine below_set ?_ GE332.out) | exact HB.out))⟩)
                      rintro ⟨v328, gb332⟩ w20 ⟨hS_, h0_, h1_, h2_, h3_, h4_, h5_, h6_, h7_, h8_, h9_⟩
                      have n0_ : Aside0 (Kd.V (Kd.int .u8) 5 w20 w.heap.size (fun k_ => some k_ ≠ (u6 : Value).ownBlock ∧ k_ ≠ gb325 ∧ k_ ≠ gb332) v328 t327) := ⟨h0_⟩
                      have n1_ : Aside0 (Kd.V (Kd.int .u8) 5 w20 w.heap.size (fun k_ => some k_ ≠ (u6 : Value).ownBlock ∧ k_ ≠ gb325 ∧ k_ ≠ gb332) (.slice Ao16 x326000_1.length co16) x326000_1) := ⟨h1_⟩
                      have n2_ : Aside0 (Kd.R (Kd.int .i64) 3 w20 w.heap.size (fun _ => True) u6 x6_1) := ⟨h2_⟩
                      have n3_ : Aside0 (w20.heap[gb325]? = some (.cells #[.slice Ao16 x326000_1.length co16, .int .i64 x326001_1] 34 (0, 0))) := ⟨h3_⟩
                      have n4_ : Aside0 (w20.heap[gb332]? = some (.cells #[.slice none 0 0, .int .i64 0] 34 (0, 0))) := ⟨h4_⟩
                      have n5_ : Aside0 (w.heap.size ≤ gb332) := ⟨h5_⟩
                      have n6_ : Aside0 (w.heap.size ≤ gb332) := ⟨h6_⟩
                      have n7_ : Aside0 (gb325 ≠ gb332) := ⟨h7_⟩
                      have n8_ : Aside0 (gb332 ≠ gb325) := ⟨h8_⟩
                      have n9_ : Aside0 (Below w.heap.size w w20) := ⟨h9_⟩
                      clear HO_6
                      clear HO_326000
                      clear BK325
                      clear HB
                      clear h0_ h1_ h2_ h3_ h4_ h5_ h6_ h7_ h8_ h9_
                      have HO329 := n0_
                      have HO_326000 := n1_
                      have HO_6 := n2_
                      have BK325 := n3_
                      have BK332 := n4_
                      have GW332 := n5_
                      have GE332 := n6_
                      have NB325_332 := n7_
                      have NB332_325 := n8_
                      have HB := n9_
                      clear n0_ n1_ n2_ n3_ n4_ n5_ n6_ n7_ n8_ n9_
                      have hHeld : w20.cell? ⟨gb325, 0, none⟩ = some (.slice Ao16 x326000_1.length co16) ∧ w20.cell? ⟨gb325, 1, none⟩ = some (.int .i64 x326001_1) ∧ w20.cell? (ad326.add (x7_1).toNat) = some (.int .i64 (rd l1 x7_1)) := hS_
                      obtain ⟨Ao21, co21, eo21⟩ := Kd.V_slice HO329.out
                      (first | subst eo21 | (injection eo21 with f1_ f2_ f3_; have f4_ := f1_.symm; have f5_ := f3_.symm; clear f1_ f2_ f3_; subst f4_; subst f5_))
                      refine norm_ (a' := ?_) ?_ ?_
                      rotate_left
                      · simp only [putAll, Act.put, List.setIfInBounds_toArray, List.set_cons_zero, List.set_cons_succ]
                        rfl
                      refine one_ (i := 11) (N := none) #[true, true, true, true, true, true, true, true, true, true, true, true, false] rfl rfl (one_of HT_.out (by kernel_rfl)) (by decide) (fun K hK => ?_)
                      have hs22 : w20.cell? ⟨gb332, 0, none⟩ = some (.slice none 0 0) := (blk_cell BK332.out 0).trans rfl
                      have hfs22 := blk_frozen BK332.out 0
                      have hns22_0 := NB325_332.out
                      have hms22_0 := NB332_325.out
                      have hs23 : w20.cell? ⟨gb332, 1, none⟩ = some (.int .i64 0) := (blk_cell BK332.out 1).trans rfl
                      have hfs23 := blk_frozen BK332.out 1
                      have hns23_0 := NB325_332.out
                      have hms23_0 := NB332_325.out
                      refine skip_ (w1 := ?_) (by rfl) rfl ?_ ?_
                      rotate_left
                      · go_simp
                        rfl
                      refine hK.out _ _ ⟨((cell_far (p := ⟨gb332, _, none⟩) NB325_332.out _).trans (((cell_far (p := ⟨gb332, _, none⟩) NB325_332.out _).trans (hHeld.1)))), ((cell_far (p := ⟨gb332, _, none⟩) NB325_332.out _).trans (((cell_far (p := ⟨gb332, _, none⟩) NB325_332.out _).trans (hHeld.2.1)))), ((cell_far (p := ⟨gb332, _, none⟩) (by first | exact Nat.ne_of_lt (Nat.lt_of_lt_of_le (by have := World.block_lt_of_cell? _ _ hw326_0; first | rwa [add_block] at this | exact this) GW332.out) | (rw [add_block]; exact Nat.ne_of_lt (Nat.lt_of_lt_of_le (by have := World.block_lt_of_cell? _ _ hw326_0; first | rwa [add_block] at this | exact this) GW332.out)) | (show (Addr.add _ _).block ≠ _; rw [add_block]; exact Nat.ne_of_lt (Nat.lt_of_lt_of_le (by have := World.block_lt_of_cell? _ _ hw326_0; first | rwa [add_block] at this | exact this) GW332.out)) | (dsimp only; exact Nat.ne_of_lt (Nat.lt_of_lt_of_le (by have := World.block_lt_of_cell? _ _ hw326_0; first | rwa [add_block] at this | exact this) GW332.out))) _).trans (((cell_far (p := ⟨gb332, _, none⟩) (by first | exact Nat.ne_of_lt (Nat.lt_of_lt_of_le (by have := World.block_lt_of_cell? _ _ hw326_0; first | rwa [add_block] at this | exact this) GW332.out) | (rw [add_block]; exact Nat.ne_of_lt (Nat.lt_of_lt_of_le (by have := World.block_lt_of_cell? _ _ hw326_0; first | rwa [add_block] at this | exact this) GW332.out)) | (show (Addr.add _ _).block ≠ _; rw [add_block]; exact Nat.ne_of_lt (Nat.lt_of_lt_of_le (by have := World.block_lt_of_cell? _ _ hw326_0; first | rwa [add_block] at this | exact this) GW332.out)) | (dsimp only; exact Nat.ne_of_lt (Nat.lt_of_lt_of_le (by have := World.block_lt_of_cell? _ _ hw326_0; first | rwa [add_block] at this | exact this) GW332.out))) _).trans (hHeld.2.2))))⟩ (fun hHeld => ?_)
                      clear hK K
                      refine pure_ (i := 12) (N := some 9) (v := ?_) (a' := ?_) #[true, true, true, true, true, true, true, true, true, true, true, true, true] rfl rfl (any_of HT_.out (by kernel_rfl)) (fun _ _ _ h => h) (Or.inl ⟨by rfl, ?_⟩) ?_ ?_
                      rotate_left
                      · intro w'
                        go_simp
                        with_reducible rfl
                      rotate_left
                      · simp only [Act.put, List.setIfInBounds_toArray, List.set_cons_zero, List.set_cons_succ, i64_w, i32_w]
                        rfl
                      refine done_ (done_of HT_.out (by kernel_rfl)) ?_
                      have p333 : 0 ≤ (x7_1 : Int) := of_decide_eq_true (by first | (with_reducible assumption) | assumption)
                      have q333 : x7_1 < (l1.length : Int) := of_decide_eq_true (by first | (with_reducible assumption) | assumption)
                      obtain ⟨ad333, e333, hx333_0⟩ := Kd.at_int HR1.out x7_1 p333 q333
                      obtain rfl : ad326 = ad333 := (by injection e333)
                      have hn333_0 : ad326.block ≠ gb332 := Nat.ne_of_lt (Nat.lt_of_lt_of_le (by have := World.block_lt_of_cell? _ _ hx333_0; first | rwa [add_block] at this | exact this) GW332.out)
                      have hn333_1 : ad326.block ≠ gb332 := Nat.ne_of_lt (Nat.lt_of_lt_of_le (by have := World.block_lt_of_cell? _ _ hx333_0; first | rwa [add_block] at this | exact this) GW332.out)
                      replace hx333_0 := (HB.out.cell (World.block_lt_of_cell? w _ hx333_0)).trans hx333_0
                      replace hx333_0 := (cell_far (p := ⟨gb332, 0, none⟩) (by first | (rw [add_block]; exact hn333_0) | (show (Addr.add _ _).block ≠ _; rw [add_block]; exact hn333_0) | exact hn333_0) (.slice Ao21 t327.length co21)).trans hx333_0
                      replace hx333_0 := (cell_far (p := ⟨gb332, 1, none⟩) (by first | (rw [add_block]; exact hn333_1) | (show (Addr.add _ _).block ≠ _; rw [add_block]; exact hn333_1) | exact hn333_1) (.int .i64 t330)).trans hx333_0
                      clear hn333_0
                      clear hn333_1
                      replace p333 := eq_true p333
                      replace q333 := eq_true q333
                      try go_wp2_with (first | ((with_reducible refine gate_builtin (b := .append) (xs := #[.tmp 42, .tmp 47]) rfl ?_); at_builtin; refine Kd.R_append (Kd.int .i64) (w0 := w) w.heap.size rfl (.tmp 42) (.tmp 47) 22 3 (.int .i64 0) 8 rfl Try.underlying22 info3 rfl (by decide) (by omega) u6 x6_1 (rd l1 x7_1) [.int .i64 (rd l1 x7_1)] (fun _ => True) (fun _ => False) rfl (by first | (go_simp; done) | (go_simp; rfl)) ?aP (fun _ hk => hk.elim) ?aF ?aO ?aB ?aS ?aL ?_; (case aP => exact rfl); (case aB => exact (by repeat (first | (with_reducible first | exact HB.out | apply below_alloc | apply pw_below_drewN | apply below_drew1 | refine below_set ?_ GE325.out | refine below_set ?_ GE332.out) | exact HB.out))); (case aF => exact (fun _ _ => trivial)); (case aO => exact (by (with_reducible repeat (first | apply Kd.R_alloc | apply Kd.R_drewN | apply Kd.R_drew)); exact Kd.R_mono (Kd.R_far (p := ⟨gb332, 1, none⟩) (Kd.R_far (p := ⟨gb332, 0, none⟩) (Kd.R_types HO_6.out BK332.out (by decide)) (fun _ hk => hk.2) (.slice Ao21 t327.length co21)) (fun _ hk => hk.2) (.int .i64 t330)) (fun _ hk => trivial))); (case aS => exact (below_size (by repeat (first | (with_reducible first | exact HB.out | apply below_alloc | apply pw_below_drewN | apply below_drew1 | refine below_set ?_ GE325.out | refine below_set ?_ GE332.out) | exact HB.out)))); (case aL => have := LMc15.out; omega); intro v335 w24 ho hb hg hat; rw [← Ny334.out] at ho; have n0_ := Aside0.mk (Kd.V_afterv (ok := (fun k_ => k_ ≠ gb325 ∧ k_ ≠ gb332)) (by (with_reducible repeat (first | apply Kd.V_alloc | apply Kd.V_drewN | apply Kd.V_drew)); exact Kd.V_mono (Kd.V_far (p := ⟨gb332, 1, none⟩) (Kd.V_far (p := ⟨gb332, 0, none⟩) (Kd.V_mono HO_326000.out (fun k_ hk => (⟨hk, hk.2.2⟩ : _ ∧ k_ ≠ gb332))) (fun _ hk => hk.2) (.slice Ao21 t327.length co21)) (fun _ hk => hk.2) (.int .i64 t330)) (fun _ hk => ⟨⟨hk.1.2.1, hk.1.2.2⟩, hk.1.1⟩)) hg hat); have n1_ := Aside0.mk (blk_grown (g := gb325) (o := .cells #[.slice Ao16 x326000_1.length co16, .int .i64 x326001_1] 34 (0, 0)) (by (with_reducible repeat (first | refine blk_drewN ?_ _ | refine blk_drew ?_ | refine blk_alloc ?_ _)); refine blk_far ?_ NB325_332.out _; (with_reducible repeat (first | refine blk_drewN ?_ _ | refine blk_drew ?_ | refine blk_alloc ?_ _)); refine blk_far ?_ NB325_332.out _; (with_reducible repeat (first | refine blk_drewN ?_ _ | refine blk_drew ?_ | refine blk_alloc ?_ _)); exact BK325.out) hg (Kd.R_ne HO_6.out BK325.out (by decide))); have n2_ := Aside0.mk (Kd.V_afterv (ok := (fun k_ => k_ ≠ gb325 ∧ k_ ≠ gb332)) (by (with_reducible repeat (first | apply Kd.V_alloc | apply Kd.V_drewN | apply Kd.V_drew)); exact Kd.V_mono (Kd.V_far (p := ⟨gb332, 1, none⟩) (Kd.V_far (p := ⟨gb332, 0, none⟩) (Kd.V_mono HO329.out (fun k_ hk => (⟨hk, hk.2.2⟩ : _ ∧ k_ ≠ gb332))) (fun _ hk => hk.2) (.slice Ao21 t327.length co21)) (fun _ hk => hk.2) (.int .i64 t330)) (fun _ hk => ⟨⟨hk.1.2.1, hk.1.2.2⟩, hk.1.1⟩)) hg hat); have n3_ := Aside0.mk (blk_grown (g := gb332) (o := .cells #[.slice Ao21 t327.length co21, .int .i64 t330] 34 (0, 0)) (by (with_reducible repeat (first | refine blk_drewN ?_ _ | refine blk_drew ?_ | refine blk_alloc ?_ _)); refine blk_put (cs := #[.slice Ao21 t327.length co21, .int .i64 0]) ?_ 1 _ rfl; (with_reducible repeat (first | refine blk_drewN ?_ _ | refine blk_drew ?_ | refine blk_alloc ?_ _)); refine blk_put (cs := #[.slice none 0 0, .int .i64 0]) ?_ 0 _ rfl; (with_reducible repeat (first | refine blk_drewN ?_ _ | refine blk_drew ?_ | refine blk_alloc ?_ _)); exact BK332.out) hg (Kd.R_ne HO_6.out BK332.out (by decide))); have n4_ := Aside0.mk (hb); have n5_ := Aside0.mk (ho); clear HO_326000; clear BK325; clear HO329; clear BK332; clear HB; clear HO_6; have HO_326000 := n0_; have BK325 := n1_; have HO329 := n2_; have BK332 := n3_; have HB := n4_; have HO336 := n5_; clear n0_ n1_ n2_ n3_ n4_ n5_; clear ho hb hg hat; have hnb25 := NB332_325.out; have hnc25 := NB325_332.out; have hcz26_0 : w24.cell? ⟨gb332, 0, none⟩ = some (.slice Ao21 t327.length co21) := (blk_cell BK332.out 0).trans rfl; have hcz26_1 : w24.cell? ⟨gb332, 1, none⟩ = some (.int .i64 t330) := (blk_cell BK332.out 1).trans rfl; have hfz26_0 := blk_frozen BK332.out 0; have hfz26_1 := blk_frozen BK332.out 1; have hcz27_0 : w24.cell? ⟨gb325, 0, none⟩ = some (.slice Ao16 x326000_1.length co16) := (blk_cell BK325.out 0).trans rfl; have hcz27_1 : w24.cell? ⟨gb325, 1, none⟩ = some (.int .i64 x326001_1) := (blk_cell BK325.out 1).trans rfl; have hfz27_0 := blk_frozen BK325.out 0; have hfz27_1 := blk_frozen BK325.out 1))
                      go_roundg kj7
                      case measure => have := HK1.out; have := HJ7.out; omega
                      case rel => exact ⟨(y334), (wrap64 (x7_1 + 1)), (t327), (t330), (.slice Ao21 t327.length co21), (by first | rfl | (simp; done) | (simp [*]; done)), H', ⟨by have := HK1.out; have := HJ7.out; omega⟩, ⟨by (with_reducible repeat (first | apply Kd.R_alloc | apply Kd.R_drewN | apply Kd.R_drew)); exact Kd.R_mono (Kd.R_far (p := ⟨gb325, 1, none⟩) (Kd.R_far (p := ⟨gb325, 0, none⟩) (Kd.R_types HO336.out BK325.out (by decide)) (fun _ hk => hk.2) (.slice Ao21 t327.length co21)) (fun _ hk => hk.2) (.int .i64 t330)) (fun _ hk => trivial)⟩, ⟨by (with_reducible repeat (first | apply Kd.V_alloc | apply Kd.V_drewN | apply Kd.V_drew)); exact Kd.V_mono (Kd.V_far (p := ⟨gb325, 1, none⟩) (Kd.V_far (p := ⟨gb325, 0, none⟩) (Kd.V_mono HO329.out (fun k_ hk => (⟨hk, hk.1.1⟩ : _ ∧ k_ ≠ gb325))) (fun _ hk => hk.2) (.slice Ao21 t327.length co21)) (fun _ hk => hk.2) (.int .i64 t330)) (fun _ hk => ⟨hk.1.2, hk.1.1.1⟩)⟩, ⟨by (with_reducible repeat (first | refine blk_drewN ?_ _ | refine blk_drew ?_ | refine blk_alloc ?_ _)); refine blk_put (cs := #[.slice Ao21 t327.length co21, .int .i64 x326001_1]) ?_ 1 _ rfl; (with_reducible repeat (first | refine blk_drewN ?_ _ | refine blk_drew ?_ | refine blk_alloc ?_ _)); refine blk_put (cs := #[.slice Ao16 x326000_1.length co16, .int .i64 x326001_1]) ?_ 0 _ rfl; (with_reducible repeat (first | refine blk_drewN ?_ _ | refine blk_drew ?_ | refine blk_alloc ?_ _)); exact BK325.out⟩, ⟨by repeat (first | (with_reducible first | exact HB.out | apply below_alloc | apply pw_below_drewN | apply below_drew1 | refine below_set ?_ GE325.out | refine below_set ?_ GE332.out) | exact HB.out)⟩⟩
                    · rw [if_neg c15] at H
                      exact absurd H (by simp)
                  · rw [if_neg c14] at H
                    have c14b0 : (t331 == 0) = false := beq_eq_false_iff_ne.mpr c14
                    have c14b1 : (t331 != 0) = true := bne_iff_ne.mpr c14
                    have H' := Aside0.mk H
                    clear H
                    obtain ⟨Ao28, co28, eo28⟩ := Kd.V_slice HO_326000.out
                    subst eo28
                    try go_wp2
                    have n0_ := Aside0.mk (Kd.R_drew HO_6.out)
                    have n1_ := Aside0.mk (Kd.V_drew HO_326000.out)
                    have n2_ := Aside0.mk (blk_drew BK325.out)
                    have n3_ := Aside0.mk (below_drew1 HB.out)
                    clear HO_6
                    clear HO_326000
                    clear BK325
                    clear HB
                    have HO_6 := n0_
                    have HO_326000 := n1_
                    have BK325 := n2_
                    have HB := n3_
                    clear n0_ n1_ n2_ n3_
                    have p326 : 0 ≤ (x7_1 : Int) := of_decide_eq_true (by first | (with_reducible assumption) | assumption)
                    have q326 : x7_1 < (l1.length : Int) := of_decide_eq_true (by first | (with_reducible assumption) | assumption)
                    obtain ⟨ad326, e326, hx326_0⟩ := Kd.at_int HR1.out x7_1 p326 q326
                    have hw326_0 := hx326_0
                    cases e326
                    replace hx326_0 := (HB.out.cell (World.block_lt_of_cell? w _ hx326_0)).trans hx326_0
                    replace p326 := eq_true p326
                    replace q326 := eq_true q326
                    refine start_ (n := 13) (S := fun w' => w'.cell? ⟨gb325, 0, none⟩ = some (.slice Ao28 x326000_1.length co28) ∧ w'.cell? ⟨gb325, 1, none⟩ = some (.int .i64 x326001_1) ∧ w'.cell? (ad326.add (x7_1).toNat) = some (.int .i64 (rd l1 x7_1))) (ds := []) #[false, false, false, false, false, false, false, false, false, false, false, false, false] (by kernel_rfl) rfl rfl ⟨(blk_cell BK325.out 0).trans rfl, (blk_cell BK325.out 1).trans rfl, ((HB.out.cell (World.block_lt_of_cell? w _ hw326_0)).trans hw326_0)⟩ (fun hHeld => ?_); refine with_tabW psalterylaw04_HuffBack.tab8 psalterylaw04_HuffBack.bits8 (fun HT_ HW_ => ?_)
                    generalize wc.drew = w29 at HO_6 HO_326000 BK325 HB hx326_0 hHeld ⊢
                    refine pure_ (i := 1) (N := some 32) (v := ?_) (a' := ?_) #[false, true, false, false, false, false, false, false, false, false, false, false, false] rfl rfl (any_of HT_.out (by kernel_rfl)) (fun _ _ _ h => h) (Or.inl ⟨by rfl, ?_⟩) ?_ ?_
                    rotate_left
                    · intro w'
                      go_simp
                      with_reducible rfl
                    rotate_left
                    · simp only [Act.put, List.setIfInBounds_toArray, List.set_cons_zero, List.set_cons_succ, i64_w, i32_w]
                      rfl
                    refine pure_ (i := 2) (N := some 33) (v := ?_) (a' := ?_) #[false, true, true, false, false, false, false, false, false, false, false, false, false] rfl rfl (any_of HT_.out (by kernel_rfl)) (fun _ _ _ h => h) (Or.inl ⟨by rfl, ?_⟩) ?_ ?_
                    rotate_left
                    · intro w'
                      go_simp
                      with_reducible rfl
                    rotate_left
                    · simp only [Act.put, List.setIfInBounds_toArray, List.set_cons_zero, List.set_cons_succ, i64_w, i32_w]
                      rfl
                    refine pure_ (i := 3) (N := some 34) (v := ?_) (a' := ?_) #[false, true, true, true, false, false, false, false, false, false, false, false, false] rfl rfl (any_of HT_.out (by kernel_rfl)) (fun _ _ _ h => h) (Or.inl ⟨by rfl, ?_⟩) ?_ ?_
                    rotate_left
                    · intro w'
                      go_simp
                      with_reducible rfl
                    rotate_left
                    · simp only [Act.put, List.setIfInBounds_toArray, List.set_cons_zero, List.set_cons_succ, i64_w, i32_w]
                      rfl
                    refine pure_ (i := 4) (N := some 35) (v := ?_) (a' := ?_) #[false, true, true, true, true, false, false, false, false, false, false, false, false] rfl rfl (any_of HT_.out (by kernel_rfl)) (fun _ _ _ h => h) (Or.inl ⟨by rfl, ?_⟩) ?_ ?_
                    rotate_left
                    · intro w'
                      go_simp
                      with_reducible rfl
                    rotate_left
                    · simp only [Act.put, List.setIfInBounds_toArray, List.set_cons_zero, List.set_cons_succ, i64_w, i32_w]
                      rfl
                    refine take_ (i := 0) (N := some 31) (v := ?_) (a' := ?_) #[true, true, true, true, true, false, false, false, false, false, false, false, false] rfl rfl (take_ofW HT_.out HW_.out (by kernel_rfl)) (fun _ _ _ h => h) (Or.inl ⟨by rfl, ?_⟩) hHeld ?_ ?_
                    rotate_left
                    · rintro w' ⟨s0, s1, s2⟩
                      go_simp
                      with_reducible rfl
                    rotate_left
                    · simp only [Act.put, List.setIfInBounds_toArray, List.set_cons_zero, List.set_cons_succ, i64_w, i32_w]
                      rfl
                    refine take_ (i := 5) (N := some 36) (v := ?_) (a' := ?_) #[true, true, true, true, true, true, false, false, false, false, false, false, false] rfl rfl (take_ofW HT_.out HW_.out (by kernel_rfl)) (fun _ _ _ h => h) (Or.inl ⟨by rfl, ?_⟩) hHeld ?_ ?_
                    rotate_left
                    · rintro w' ⟨s0, s1, s2⟩
                      go_simp
                      with_reducible rfl
                    rotate_left
                    · simp only [Act.put, List.setIfInBounds_toArray, List.set_cons_zero, List.set_cons_succ, i64_w, i32_w]
                      rfl
                    refine join_ (σ := Value × Nat) 2 #[true, true, true, true, true, true, true, true, true, true, true, false, false] (fun s_ => [(37, .tuple #[.agg #[s_.1, .int .i64 t330], .int .i64 t331]), (8, .pointer (some ⟨s_.2, 0, none⟩)), (30, .tuple #[.agg #[s_.1, .int .i64 t330], .int .i64 t331]), (38, .agg #[s_.1, .int .i64 t330]), (39, .int .i64 t331)]) (fun s_ w' => (w'.cell? ⟨gb325, 0, none⟩ = some (.slice Ao28 x326000_1.length co28) ∧ w'.cell? ⟨gb325, 1, none⟩ = some (.int .i64 x326001_1) ∧ w'.cell? (ad326.add (x7_1).toNat) = some (.int .i64 (rd l1 x7_1))) ∧ (Kd.V (Kd.int .u8) 5 w' w.heap.size (fun k_ => some k_ ≠ (u6 : Value).ownBlock ∧ k_ ≠ gb325 ∧ k_ ≠ s_.2) s_.1 t327) ∧ (Kd.V (Kd.int .u8) 5 w' w.heap.size (fun k_ => some k_ ≠ (u6 : Value).ownBlock ∧ k_ ≠ gb325 ∧ k_ ≠ s_.2) (.slice Ao28 x326000_1.length co28) x326000_1) ∧ (Kd.R (Kd.int .i64) 3 w' w.heap.size (fun _ => True) u6 x6_1) ∧ (w'.heap[gb325]? = some (.cells #[.slice Ao28 x326000_1.length co28, .int .i64 x326001_1] 34 (0, 0))) ∧ (w'.heap[s_.2]? = some (.cells #[.slice none 0 0, .int .i64 0] 34 (0, 0))) ∧ (w.heap.size ≤ s_.2) ∧ (w.heap.size ≤ s_.2) ∧ (gb325 ≠ s_.2) ∧ (s_.2 ≠ gb325) ∧ (Below w.heap.size w w')) ?_ ?_
                    rotate_left
                    · intro hCont
                      refine two_ (i := 6) (j := 10) (Ni := some 37) (Nj := some 8) #[true, true, true, true, true, true, true, false, false, false, false, false, false] #[true, true, true, true, true, true, false, false, false, false, true, false, false] rfl rfl rfl rfl (two_of HT_.out (by kernel_rfl)) (by decide) (by decide) (fun K hK => ?_) (fun K hK => ?_)
                      · skip
                        refine goes_ Try.func17 (by kernel_rfl) rfl #[.agg #[.slice Ao28 x326000_1.length co28, .int .i64 x326001_1], .slice A0 l0.length c0, .int .i64 (rd l1 x7_1)] (by rfl) rfl rfl (by (try simp only [List.map_toArray, List.map_cons, List.map_nil]); first | done | rfl | (simp only [List.length_drop, List.length_take]; rfl)) ?_
                        with_reducible refine (huff_Write.calls kj7 (fun k_ => (some k_ ≠ (u6 : Value).ownBlock ∧ k_ ≠ gb325)) _ _ x326000_1 x326001_1 _ _ l0 (rd l1 x7_1) t327 t330 t331 _ ?side1 ?side2 ?side3 A13.out).mono ?_
                        (case side1 => exact HO_326000.out)
                        (case side2 => repeat (first | exact (Kd.C_below HR0.out HB.out) | (with_reducible refine Kd.C_alloc ?_ _) | (with_reducible refine Kd.C_drewN ?_ _) | (with_reducible refine Kd.C_drew ?_)))
                        (case side3 => exact HC0.out)
                        rintro e w30 ⟨v328, rfl, ho0, hb⟩
                        refine ⟨_, rfl, ?_⟩
                        have n0_ := Aside0.mk (Kd.R_below (by (with_reducible repeat (first | apply Kd.R_alloc | apply Kd.R_drewN | apply Kd.R_drew)); exact HO_6.out) hb)
                        have n1_ := Aside0.mk (Kd.V_below (by (with_reducible repeat (first | apply Kd.V_alloc | apply Kd.V_drewN | apply Kd.V_drew)); exact HO_326000.out) hb)
                        have n2_ := Aside0.mk (Kd.V_lower (Kd.V_mono (ok' := fun k_ => some k_ ≠ (u6 : Value).ownBlock ∧ k_ ≠ gb325) ho0 (fun k_ hk_ => ⟨Or.elim hk_ (fun hs_ => hs_.1) (fun hn_ => (Kd.fresh' (Kd.R_lt (by (with_reducible repeat (first | apply Kd.R_alloc | apply Kd.R_drewN | apply Kd.R_drew)); exact HO_6.out)) k_ hn_)), Or.elim hk_ (fun hs_ => hs_.2) (fun hn_ => (Kd.freshB (g := gb325) (o := .cells #[.slice Ao28 x326000_1.length co28, .int .i64 x326001_1] 34 (0, 0)) (by (with_reducible repeat (first | refine blk_drewN ?_ _ | refine blk_drew ?_ | refine blk_alloc ?_ _)); exact BK325.out) k_ hn_))⟩)) (below_size (by repeat (first | (with_reducible first | exact HB.out | apply below_alloc | apply pw_below_drewN | apply below_drew1 | refine below_set ?_ GE325.out) | exact HB.out))))
                        have n3_ := Aside0.mk (blk_below (g := gb325) (o := .cells #[.slice Ao28 x326000_1.length co28, .int .i64 x326001_1] 34 (0, 0)) (by (with_reducible repeat (first | refine blk_drewN ?_ _ | refine blk_drew ?_ | refine blk_alloc ?_ _)); exact BK325.out) hb)
                        have n4_ := Aside0.mk (below_step (by repeat (first | (with_reducible first | exact HB.out | apply below_alloc | apply pw_below_drewN | apply below_drew1 | refine below_set ?_ GE325.out) | exact HB.out)) hb)
                        clear HO_6
                        clear HO_326000
                        clear BK325
                        clear HB
                        have HO_6 := n0_
                        have HO_326000 := n1_
                        have HO329 := n2_
                        have BK325 := n3_
                        have HB := n4_
                        clear n0_ n1_ n2_ n3_ n4_
                        (try clear hb)
                        (try clear hb2)
                        (try clear hk)
                        (try clear hi)
                        (try clear ho0)
                        refine hK.out _ _ ⟨(blk_cell BK325.out 0).trans rfl, (blk_cell BK325.out 1).trans rfl, ((HB.out.cell (World.block_lt_of_cell? w _ hw326_0)).trans hw326_0)⟩ (fun hHeld => ?_)
                        clear hK K
                        refine norm_ (a' := ?_) ?_ ?_
                        rotate_left
                        · show Act.put _ (some 37) _ = _
                          simp only [Act.put, List.setIfInBounds_toArray, List.set_cons_zero, List.set_cons_succ, i64_w, i32_w]
                          rfl
                        refine pure_ (i := 7) (N := some 30) (v := ?_) (a' := ?_) #[true, true, true, true, true, true, true, true, false, false, false, false, false] rfl rfl (any_of HT_.out (by kernel_rfl)) (fun _ _ _ h => h) (Or.inl ⟨by rfl, ?_⟩) ?_ ?_
                        rotate_left
                        · intro w'
                          go_simp
                          with_reducible rfl
                        rotate_left
                        · simp only [Act.put, List.setIfInBounds_toArray, List.set_cons_zero, List.set_cons_succ, i64_w, i32_w]
                          rfl
                        refine pure_ (i := 8) (N := some 38) (v := ?_) (a' := ?_) #[true, true, true, true, true, true, true, true, true, false, false, false, false] rfl rfl (any_of HT_.out (by kernel_rfl)) (fun _ _ _ h => h) (Or.inl ⟨by rfl, ?_⟩) ?_ ?_
                        rotate_left
                        · intro w'
                          go_simp
                          with_reducible rfl
                        rotate_left
                        · simp only [Act.put, List.setIfInBounds_toArray, List.set_cons_zero, List.set_cons_succ, i64_w, i32_w]
                          rfl
                        refine pure_ (i := 9) (N := some 39) (v := ?_) (a' := ?_) #[true, true, true, true, true, true, true, true, true, true, false, false, false] rfl rfl (any_of HT_.out (by kernel_rfl)) (fun _ _ _ h => h) (Or.inl ⟨by rfl, ?_⟩) ?_ ?_
                        rotate_left
                        · intro w'
                          go_simp
                          with_reducible rfl
                        rotate_left
                        · simp only [Act.put, List.setIfInBounds_toArray, List.set_cons_zero, List.set_cons_succ, i64_w, i32_w]
                          rfl
                        refine one_ (i := 10) (N := some 8) #[true, true, true, true, true, true, true, true, true, true, true, false, false] rfl rfl (one_of HT_.out (by kernel_rfl)) (by decide) (fun K hK => ?_)
                        refine box_step ?hg (N := 8) ?hd (cs := #[.slice none 0 0, .int .i64 0]) (t := 34) ?hr ?_; (case hd => rfl); (case hg => rfl); (case hr => first | (go_simp; done) | (go_simp; rfl))
                        intro gb332 hg w31 hbox hb
                        have n0_ := Aside0.mk (Kd.R_below (by (with_reducible repeat (first | apply Kd.R_alloc | apply Kd.R_drewN | apply Kd.R_drew)); exact HO_6.out) hb)
                        have n1_ := Aside0.mk (Kd.V_below (Kd.V_elderB (by (with_reducible repeat (first | apply Kd.V_alloc | apply Kd.V_drewN | apply Kd.V_drew)); exact HO_326000.out) gb332 (Nat.le_of_eq hg.symm)) hb)
                        have n2_ := Aside0.mk (Kd.V_below (Kd.V_elderB (by (with_reducible repeat (first | apply Kd.V_alloc | apply Kd.V_drewN | apply Kd.V_drew)); exact HO329.out) gb332 (Nat.le_of_eq hg.symm)) hb)
                        have n3_ := Aside0.mk (blk_below (g := gb325) (o := .cells #[.slice Ao28 x326000_1.length co28, .int .i64 x326001_1] 34 (0, 0)) (by (with_reducible repeat (first | refine blk_drewN ?_ _ | refine blk_drew ?_ | refine blk_alloc ?_ _)); exact BK325.out) hb)
                        have n4_ := Aside0.mk (below_step (by repeat (first | (with_reducible first | exact HB.out | apply below_alloc | apply pw_below_drewN | apply below_drew1 | refine below_set ?_ GE325.out) | exact HB.out)) hb)
                        have n5_ := Aside0.mk (hbox)
                        have n6_ := Aside0.mk ((by rw [hg]; exact (below_size (by repeat (first | (with_reducible first | exact HB.out | apply below_alloc | apply pw_below_drewN | apply below_drew1 | refine below_set ?_ GE325.out) | exact HB.out))) : w.heap.size ≤ gb332))
                        have n7_ := Aside0.mk ((by rw [hg]; exact (below_size (by repeat (first | (with_reducible first | exact HB.out | apply below_alloc | apply pw_below_drewN | apply below_drew1 | refine below_set ?_ GE325.out) | exact HB.out))) : w.heap.size ≤ gb332))
                        have n8_ := Aside0.mk ((by rw [hg]; exact Nat.ne_of_lt (blk_lt (g := gb325) (o := .cells #[.slice Ao28 x326000_1.length co28, .int .i64 x326001_1] 34 (0, 0)) (by (with_reducible repeat (first | refine blk_drewN ?_ _ | refine blk_drew ?_ | refine blk_alloc ?_ _)); exact BK325.out)) : gb325 ≠ gb332))
                        have n9_ := Aside0.mk ((by rw [hg]; exact Nat.ne_of_gt (blk_lt (g := gb325) (o := .cells #[.slice Ao28 x326000_1.length co28, .int .i64 x326001_1] 34 (0, 0)) (by (with_reducible repeat (first | refine blk_drewN ?_ _ | refine blk_drew ?_ | refine blk_alloc ?_ _)); exact BK325.out)) : gb332 ≠ gb325))
                        clear HO_6
                        clear HO_326000
                        clear HO329
                        clear BK325
                        clear HB
                        have HO_6 := n0_
                        have HO_326000 := n1_
                        have HO329 := n2_
                        have BK325 := n3_
                        have HB := n4_
                        have BK332 := n5_
                        have GW332 := n6_
                        have GE332 := n7_
                        have NB325_332 := n8_
                        have NB332_325 := n9_
                        clear n0_ n1_ n2_ n3_ n4_ n5_ n6_ n7_ n8_ n9_
                        clear hb hbox hg
                        refine hK.out _ _ ⟨(blk_cell BK325.out 0).trans rfl, (blk_cell BK325.out 1).trans rfl, ((HB.out.cell (World.block_lt_of_cell? w _ hw326_0)).trans hw326_0)⟩ (fun hHeld => ?_)
                        clear hK K
                        refine norm_ (a' := ?_) ?_ ?_
                        rotate_left
                        · show Act.put _ (some 8) _ = _
                          simp only [Act.put, List.setIfInBounds_toArray, List.set_cons_zero, List.set_cons_succ, i64_w, i32_w]
                          rfl
                        exact norm_ (by simp only [putAll, Act.put, List.setIfInBounds_toArray, List.set_cons_zero, List.set_cons_succ]) (hCont (v328, gb332) _ ⟨hHeld, (by (with_reducible repeat (first | apply Kd.V_alloc | apply Kd.V_drewN | apply Kd.V_drew)); exact Kd.V_mono HO329.out (fun _ hk => ⟨hk.1.1, ⟨hk.1.2, hk.2⟩⟩)), (by (with_reducible repeat (first | apply Kd.V_alloc | apply Kd.V_drewN | apply Kd.V_drew)); exact Kd.V_mono HO_326000.out (fun _ hk => ⟨hk.1.1, ⟨hk.1.2, hk.2⟩⟩)), (by (with_reducible repeat (first | apply Kd.R_alloc | apply Kd.R_drewN | apply Kd.R_drew)); exact HO_6.out), (by (with_reducible repeat (first | refine blk_drewN ?_ _ | refine blk_drew ?_ | refine blk_alloc ?_ _)); exact BK325.out), (by (with_reducible repeat (first | refine blk_drewN ?_ _ | refine blk_drew ?_ | refine blk_alloc ?_ _)); exact BK332.out), GW332.out, GE332.out, NB325_332.out, NB332_325.out, (by repeat (first | (with_reducible first | exact HB.out | apply below_alloc | apply pw_below_drewN | apply below_drew1 | refine below_set ?_ GE325.out | refine below_set ?_ GE332.out) | exact HB.out))⟩)
                      · skip
                        refine box_step ?hg (N := 8) ?hd (cs := #[.slice none 0 0, .int .i64 0]) (t := 34) ?hr ?_; (case hd => rfl); (case hg => rfl); (case hr => first | (go_simp; done) | (go_simp; rfl))
                        intro gb332 hg w30 hbox hb
                        have n0_ := Aside0.mk (Kd.R_below (by (with_reducible repeat (first | apply Kd.R_alloc | apply Kd.R_drewN | apply Kd.R_drew)); exact HO_6.out) hb)
                        have n1_ := Aside0.mk (Kd.V_below (Kd.V_elderB (by (with_reducible repeat (first | apply Kd.V_alloc | apply Kd.V_drewN | apply Kd.V_drew)); exact HO_326000.out) gb332 (Nat.le_of_eq hg.symm)) hb)
                        have n2_ := Aside0.mk (blk_below (g := gb325) (o := .cells #[.slice Ao28 x326000_1.length co28, .int .i64 x326001_1] 34 (0, 0)) (by (with_reducible repeat (first | refine blk_drewN ?_ _ | refine blk_drew ?_ | refine blk_alloc ?_ _)); exact BK325.out) hb)
                        have n3_ := Aside0.mk (below_step (by repeat (first | (with_reducible first | exact HB.out | apply below_alloc | apply pw_below_drewN | apply below_drew1 | refine below_set ?_ GE325.out) | exact HB.out)) hb)
                        have n4_ := Aside0.mk (hbox)
                        have n5_ := Aside0.mk ((by rw [hg]; exact (below_size (by repeat (first | (with_reducible first | exact HB.out | apply below_alloc | apply pw_below_drewN | apply below_drew1 | refine below_set ?_ GE325.out) | exact HB.out))) : w.heap.size ≤ gb332))
                        have n6_ := Aside0.mk ((by rw [hg]; exact (below_size (by repeat (first | (with_reducible first | exact HB.out | apply below_alloc | apply pw_below_drewN | apply below_drew1 | refine below_set ?_ GE325.out) | exact HB.out))) : w.heap.size ≤ gb332))
                        have n7_ := Aside0.mk ((by rw [hg]; exact Nat.ne_of_lt (blk_lt (g := gb325) (o := .cells #[.slice Ao28 x326000_1.length co28, .int .i64 x326001_1] 34 (0, 0)) (by (with_reducible repeat (first | refine blk_drewN ?_ _ | refine blk_drew ?_ | refine blk_alloc ?_ _)); exact BK325.out)) : gb325 ≠ gb332))
                        have n8_ := Aside0.mk ((by rw [hg]; exact Nat.ne_of_gt (blk_lt (g := gb325) (o := .cells #[.slice Ao28 x326000_1.length co28, .int .i64 x326001_1] 34 (0, 0)) (by (with_reducible repeat (first | refine blk_drewN ?_ _ | refine blk_drew ?_ | refine blk_alloc ?_ _)); exact BK325.out)) : gb332 ≠ gb325))
                        clear HO_6
                        clear HO_326000
                        clear BK325
                        clear HB
                        have HO_6 := n0_
                        have HO_326000 := n1_
                        have BK325 := n2_
                        have HB := n3_
                        have BK332 := n4_
                        have GW332 := n5_
                        have GE332 := n6_
                        have NB325_332 := n7_
                        have NB332_325 := n8_
                        clear n0_ n1_ n2_ n3_ n4_ n5_ n6_ n7_ n8_
                        clear hb hbox hg
                        refine hK.out _ _ ⟨(blk_cell BK325.out 0).trans rfl, (blk_cell BK325.out 1).trans rfl, ((HB.out.cell (World.block_lt_of_cell? w _ hw326_0)).trans hw326_0)⟩ (fun hHeld => ?_)
                        clear hK K
                        refine norm_ (a' := ?_) ?_ ?_
                        rotate_left
                        · show Act.put _ (some 8) _ = _
                          simp only [Act.put, List.setIfInBounds_toArray, List.set_cons_zero, List.set_cons_succ, i64_w, i32_w]
                          rfl
                        refine one_ (i := 6) (N := some 37) #[true, true, true, true, true, true, true, false, false, false, true, false, false] rfl rfl (one_of HT_.out (by kernel_rfl)) (by decide) (fun K hK => ?_)
                        refine goes_ Try.func17 (by kernel_rfl) rfl #[.agg #[.slice Ao28 x326000_1.length co28, .int .i64 x326001_1], .slice A0 l0.length c0, .int .i64 (rd l1 x7_1)] (by rfl) rfl rfl (by (try simp only [List.map_toArray, List.map_cons, List.map_nil]); first | done | rfl | (simp only [List.length_drop, List.length_take]; rfl)) ?_
                        with_reducible refine (huff_Write.calls kj7 (fun k_ => ((some k_ ≠ (u6 : Value).ownBlock ∧ k_ ≠ gb325) ∧ k_ ≠ gb332)) _ _ x326000_1 x326001_1 _ _ l0 (rd l1 x7_1) t327 t330 t331 _ ?side1 ?side2 ?side3 A13.out).mono ?_
                        (case side1 => exact HO_326000.out)
                        (case side2 => repeat (first | exact (Kd.C_below HR0.out HB.out) | (with_reducible refine Kd.C_alloc ?_ _) | (with_reducible refine Kd.C_drewN ?_ _) | (with_reducible refine Kd.C_drew ?_)))
                        (case side3 => exact HC0.out)
                        rintro e w31 ⟨v328, rfl, ho0, hb⟩
                        refine ⟨_, rfl, ?_⟩
                        have n0_ := Aside0.mk (Kd.R_below (by (with_reducible repeat (first | apply Kd.R_alloc | apply Kd.R_drewN | apply Kd.R_drew)); exact HO_6.out) hb)
                        have n1_ := Aside0.mk (Kd.V_below (by (with_reducible repeat (first | apply Kd.V_alloc | apply Kd.V_drewN | apply Kd.V_drew)); exact HO_326000.out) hb)
                        have n2_ := Aside0.mk (Kd.V_lower (Kd.V_mono (ok' := fun k_ => some k_ ≠ (u6 : Value).ownBlock ∧ k_ ≠ gb325 ∧ k_ ≠ gb332) ho0 (fun k_ hk_ => ⟨Or.elim hk_ (fun hs_ => hs_.1.1) (fun hn_ => (Kd.fresh' (Kd.R_lt (by (with_reducible repeat (first | apply Kd.R_alloc | apply Kd.R_drewN | apply Kd.R_drew)); exact HO_6.out)) k_ hn_)), Or.elim hk_ (fun hs_ => hs_.1.2) (fun hn_ => (Kd.freshB (g := gb325) (o := .cells #[.slice Ao28 x326000_1.length co28, .int .i64 x326001_1] 34 (0, 0)) (by (with_reducible repeat (first | refine blk_drewN ?_ _ | refine blk_drew ?_ | refine blk_alloc ?_ _)); exact BK325.out) k_ hn_)), Or.elim hk_ (fun hs_ => hs_.2) (fun hn_ => (Kd.freshB (g := gb332) (o := .cells #[.slice none 0 0, .int .i64 0] 34 (0, 0)) (by (with_reducible repeat (first | refine blk_drewN ?_ _ | refine blk_drew ?_ | refine blk_alloc ?_ _)); exact BK332.out) k_ hn_))⟩)) (below_size (by repeat (first | (with_reducible first | exact HB.out | apply below_alloc | apply pw_below_drewN | apply below_drew1 | refine below_set ?_ GE325.out | refine below_set ?_ GE332.out) | exact HB.out))))
                        have n3_ := Aside0.mk (blk_below (g := gb325) (o := .cells #[.slice Ao28 x326000_1.length co28, .int .i64 x326001_1] 34 (0, 0)) (by (with_reducible repeat (first | refine blk_drewN ?_ _ | refine blk_drew ?_ | refine blk_alloc ?_ _)); exact BK325.out) hb)
                        have n4_ := Aside0.mk (blk_below (g := gb332) (o := .cells #[.slice none 0 0, .int .i64 0] 34 (0, 0)) (by (with_reducible repeat (first | refine blk_drewN ?_ _ | refine blk_drew ?_ | refine blk_alloc ?_ _)); exact BK332.out) hb)
                        have n5_ := Aside0.mk (below_step (by repeat (first | (with_reducible first | exact HB.out | apply below_alloc | apply pw_below_drewN | apply below_drew1 | refine below_set ?_ GE325.out | refine below_set ?_ GE332.out) | exact HB.out)) hb)
                        clear HO_6
                        clear HO_326000
                        clear BK325
                        clear BK332
                        clear HB
                        have HO_6 := n0_
                        have HO_326000 := n1_
                        have HO329 := n2_
                        have BK325 := n3_
                        have BK332 := n4_
                        have HB := n5_
                        clear n0_ n1_ n2_ n3_ n4_ n5_
                        (try clear hb)
                        (try clear hb2)
                        (try clear hk)
                        (try clear hi)
                        (try clear ho0)
                        refine hK.out _ _ ⟨(blk_cell BK325.out 0).trans rfl, (blk_cell BK325.out 1).trans rfl, ((HB.out.cell (World.block_lt_of_cell? w _ hw326_0)).trans hw326_0)⟩ (fun hHeld => ?_)
                        clear hK K
                        refine norm_ (a' := ?_) ?_ ?_
                        rotate_left
                        · show Act.put _ (some 37) _ = _
                          simp only [Act.put, List.setIfInBounds_toArray, List.set_cons_zero, List.set_cons_succ, i64_w, i32_w]
                          rfl
                        refine pure_ (i := 7) (N := some 30) (v := ?_) (a' := ?_) #[true, true, true, true, true, true, true, true, false, false, true, false, false] rfl rfl (any_of HT_.out (by kernel_rfl)) (fun _ _ _ h => h) (Or.inl ⟨by rfl, ?_⟩) ?_ ?_
                        rotate_left
                        · intro w'
                          go_simp
                          with_reducible rfl
                        rotate_left
                        · simp only [Act.put, List.setIfInBounds_toArray, List.set_cons_zero, List.set_cons_succ, i64_w, i32_w]
                          rfl
                        refine pure_ (i := 8) (N := some 38) (v := ?_) (a' := ?_) #[true, true, true, true, true, true, true, true, true, false, true, false, false] rfl rfl (any_of HT_.out (by kernel_rfl)) (fun _ _ _ h => h) (Or.inl ⟨by rfl, ?_⟩) ?_ ?_
                        rotate_left
                        · intro w'
                          go_simp
                          with_reducible rfl
                        rotate_left
                        · simp only [Act.put, List.setIfInBounds_toArray, List.set_cons_zero, List.set_cons_succ, i64_w, i32_w]
                          rfl
                        refine pure_ (i := 9) (N := some 39) (v := ?_) (a' := ?_) #[true, true, true, true, true, true, true, true, true, true, true, false, false] rfl rfl (any_of HT_.out (by kernel_rfl)) (fun _ _ _ h => h) (Or.inl ⟨by rfl, ?_⟩) ?_ ?_
                        rotate_left
                        · intro w'
                          go_simp
                          with_reducible rfl
                        rotate_left
                        · simp only [Act.put, List.setIfInBounds_toArray, List.set_cons_zero, List.set_cons_succ, i64_w, i32_w]
                          rfl
                        exact norm_ (by simp only [putAll, Act.put, List.setIfInBounds_toArray, List.set_cons_zero, List.set_cons_succ]) (hCont (v328, gb332) _ ⟨hHeld, (by (with_reducible repeat (first | apply Kd.V_alloc | apply Kd.V_drewN | apply Kd.V_drew)); exact HO329.out), (by (with_reducible repeat (first | apply Kd.V_alloc | apply Kd.V_drewN | apply Kd.V_drew)); exact Kd.V_mono HO_326000.out (fun _ hk => ⟨hk.1.1, ⟨hk.1.2, hk.2⟩⟩)), (by (with_reducible repeat (first | apply Kd.R_alloc | apply Kd.R_drewN | apply Kd.R_drew)); exact HO_6.out), (by (with_reducible repeat (first | refine blk_drewN ?_ _ | refine blk_drew ?_ | refine blk_alloc ?_ _)); exact BK325.out), (by (with_reducible repeat (first | refine blk_drewN ?_ _ | refine blk_drew ?_ | refine blk_alloc ?_ _)); exact BK332.out), GW332.out, GE332.out, NB325_332.out, NB332_325.out, (by repeat (first | (with_reducible first | exact HB.out | apply below_alloc | apply pw_below_drewN | apply below_drew1 | refine below_set ?_ GE325.out | refine below_set ?_ GE332.out) | exact HB.out))⟩)
                    rintro ⟨v328, gb332⟩ w32 ⟨hS_, h0_, h1_, h2_, h3_, h4_, h5_, h6_, h7_, h8_, h9_⟩
                    have n0_ : Aside0 (Kd.V (Kd.int .u8) 5 w32 w.heap.size (fun k_ => some k_ ≠ (u6 : Value).ownBlock ∧ k_ ≠ gb325 ∧ k_ ≠ gb332) v328 t327) := ⟨h0_⟩
                    have n1_ : Aside0 (Kd.V (Kd.int .u8) 5 w32 w.heap.size (fun k_ => some k_ ≠ (u6 : Value).ownBlock ∧ k_ ≠ gb325 ∧ k_ ≠ gb332) (.slice Ao28 x326000_1.length co28) x326000_1) := ⟨h1_⟩
                    have n2_ : Aside0 (Kd.R (Kd.int .i64) 3 w32 w.heap.size (fun _ => True) u6 x6_1) := ⟨h2_⟩
                    have n3_ : Aside0 (w32.heap[gb325]? = some (.cells #[.slice Ao28 x326000_1.length co28, .int .i64 x326001_1] 34 (0, 0))) := ⟨h3_⟩
                    have n4_ : Aside0 (w32.heap[gb332]? = some (.cells #[.slice none 0 0, .int .i64 0] 34 (0, 0))) := ⟨h4_⟩
                    have n5_ : Aside0 (w.heap.size ≤ gb332) := ⟨h5_⟩
                    have n6_ : Aside0 (w.heap.size ≤ gb332) := ⟨h6_⟩
                    have n7_ : Aside0 (gb325 ≠ gb332) := ⟨h7_⟩
                    have n8_ : Aside0 (gb332 ≠ gb325) := ⟨h8_⟩
                    have n9_ : Aside0 (Below w.heap.size w w32) := ⟨h9_⟩
                    clear HO_6
                    clear HO_326000
                    clear BK325
                    clear HB
                    clear h0_ h1_ h2_ h3_ h4_ h5_ h6_ h7_ h8_ h9_
                    have HO329 := n0_
                    have HO_326000 := n1_
                    have HO_6 := n2_
                    have BK325 := n3_
                    have BK332 := n4_
                    have GW332 := n5_
                    have GE332 := n6_
                    have NB325_332 := n7_
                    have NB332_325 := n8_
                    have HB := n9_
                    clear n0_ n1_ n2_ n3_ n4_ n5_ n6_ n7_ n8_ n9_
                    have hHeld : w32.cell? ⟨gb325, 0, none⟩ = some (.slice Ao28 x326000_1.length co28) ∧ w32.cell? ⟨gb325, 1, none⟩ = some (.int .i64 x326001_1) ∧ w32.cell? (ad326.add (x7_1).toNat) = some (.int .i64 (rd l1 x7_1)) := hS_
                    obtain ⟨Ao33, co33, eo33⟩ := Kd.V_slice HO329.out
                    (first | subst eo33 | (injection eo33 with f1_ f2_ f3_; have f4_ := f1_.symm; have f5_ := f3_.symm; clear f1_ f2_ f3_; subst f4_; subst f5_))
                    refine norm_ (a' := ?_) ?_ ?_
                    rotate_left
                    · simp only [putAll, Act.put, List.setIfInBounds_toArray, List.set_cons_zero, List.set_cons_succ]
                      rfl
                    refine one_ (i := 11) (N := none) #[true, true, true, true, true, true, true, true, true, true, true, true, false] rfl rfl (one_of HT_.out (by kernel_rfl)) (by decide) (fun K hK => ?_)
                    have hs34 : w32.cell? ⟨gb332, 0, none⟩ = some (.slice none 0 0) := (blk_cell BK332.out 0).trans rfl
                    have hfs34 := blk_frozen BK332.out 0
                    have hns34_0 := NB325_332.out
                    have hms34_0 := NB332_325.out
                    have hs35 : w32.cell? ⟨gb332, 1, none⟩ = some (.int .i64 0) := (blk_cell BK332.out 1).trans rfl
                    have hfs35 := blk_frozen BK332.out 1
                    have hns35_0 := NB325_332.out
                    have hms35_0 := NB332_325.out
                    refine skip_ (w1 := ?_) (by rfl) rfl ?_ ?_
                    rotate_left
                    · go_simp
                      rfl
                    refine hK.out _ _ ⟨((cell_far (p := ⟨gb332, _, none⟩) NB325_332.out _).trans (((cell_far (p := ⟨gb332, _, none⟩) NB325_332.out _).trans (hHeld.1)))), ((cell_far (p := ⟨gb332, _, none⟩) NB325_332.out _).trans (((cell_far (p := ⟨gb332, _, none⟩) NB325_332.out _).trans (hHeld.2.1)))), ((cell_far (p := ⟨gb332, _, none⟩) (by first | exact Nat.ne_of_lt (Nat.lt_of_lt_of_le (by have := World.block_lt_of_cell? _ _ hw326_0; first | rwa [add_block] at this | exact this) GW332.out) | (rw [add_block]; exact Nat.ne_of_lt (Nat.lt_of_lt_of_le (by have := World.block_lt_of_cell? _ _ hw326_0; first | rwa [add_block] at this | exact this) GW332.out)) | (show (Addr.add _ _).block ≠ _; rw [add_block]; exact Nat.ne_of_lt (Nat.lt_of_lt_of_le (by have := World.block_lt_of_cell? _ _ hw326_0; first | rwa [add_block] at this | exact this) GW332.out)) | (dsimp only; exact Nat.ne_of_lt (Nat.lt_of_lt_of_le (by have := World.block_lt_of_cell? _ _ hw326_0; first | rwa [add_block] at this | exact this) GW332.out))) _).trans (((cell_far (p := ⟨gb332, _, none⟩) (by first | exact Nat.ne_of_lt (Nat.lt_of_lt_of_le (by have := World.block_lt_of_cell? _ _ hw326_0; first | rwa [add_block] at this | exact this) GW332.out) | (rw [add_block]; exact Nat.ne_of_lt (Nat.lt_of_lt_of_le (by have := World.block_lt_of_cell? _ _ hw326_0; first | rwa [add_block] at this | exact this) GW332.out)) | (show (Addr.add _ _).block ≠ _; rw [add_block]; exact Nat.ne_of_lt (Nat.lt_of_lt_of_le (by have := World.block_lt_of_cell? _ _ hw326_0; first | rwa [add_block] at this | exact this) GW332.out)) | (dsimp only; exact Nat.ne_of_lt (Nat.lt_of_lt_of_le (by have := World.block_lt_of_cell? _ _ hw326_0; first | rwa [add_block] at this | exact this) GW332.out))) _).trans (hHeld.2.2))))⟩ (fun hHeld => ?_)
                    clear hK K
                    refine pure_ (i := 12) (N := some 9) (v := ?_) (a' := ?_) #[true, true, true, true, true, true, true, true, true, true, true, true, true] rfl rfl (any_of HT_.out (by kernel_rfl)) (fun _ _ _ h => h) (Or.inl ⟨by rfl, ?_⟩) ?_ ?_
                    rotate_left
                    · intro w'
                      go_simp
                      with_reducible rfl
                    rotate_left
                    · simp only [Act.put, List.setIfInBounds_toArray, List.set_cons_zero, List.set_cons_succ, i64_w, i32_w]
                      rfl
                    refine done_ (done_of HT_.out (by kernel_rfl)) ?_
                    try go_wp2
                    go_roundg kj7
                    case measure => have := HK1.out; have := HJ7.out; omega
                    case rel => exact ⟨(x6_1), (wrap64 (x7_1 + 1)), (x326000_1), (x326001_1), (.slice Ao28 x326000_1.length co28), (by first | rfl | (simp; done) | (simp [*]; done)), H', ⟨by have := HK1.out; have := HJ7.out; omega⟩, ⟨by (with_reducible repeat (first | apply Kd.R_alloc | apply Kd.R_drewN | apply Kd.R_drew)); exact Kd.R_mono (Kd.R_far (p := ⟨gb332, 1, none⟩) (Kd.R_far (p := ⟨gb332, 0, none⟩) (Kd.R_types HO_6.out BK332.out (by decide)) (fun _ hk => hk.2) (.slice Ao33 t327.length co33)) (fun _ hk => hk.2) (.int .i64 t330)) (fun _ hk => trivial)⟩, ⟨by (with_reducible repeat (first | apply Kd.V_alloc | apply Kd.V_drewN | apply Kd.V_drew)); exact Kd.V_mono (Kd.V_far (p := ⟨gb332, 1, none⟩) (Kd.V_far (p := ⟨gb332, 0, none⟩) (Kd.V_mono HO_326000.out (fun k_ hk => (⟨hk, hk.2.2⟩ : _ ∧ k_ ≠ gb332))) (fun _ hk => hk.2) (.slice Ao33 t327.length co33)) (fun _ hk => hk.2) (.int .i64 t330)) (fun _ hk => ⟨hk.1.1, hk.1.2.1⟩)⟩, ⟨by (with_reducible repeat (first | refine blk_drewN ?_ _ | refine blk_drew ?_ | refine blk_alloc ?_ _)); refine blk_far ?_ NB325_332.out _; (with_reducible repeat (first | refine blk_drewN ?_ _ | refine blk_drew ?_ | refine blk_alloc ?_ _)); refine blk_far ?_ NB325_332.out _; (with_reducible repeat (first | refine blk_drewN ?_ _ | refine blk_drew ?_ | refine blk_alloc ?_ _)); exact BK325.out⟩, ⟨by repeat (first | (with_reducible first | exact HB.out | apply below_alloc | apply pw_below_drewN | apply below_drew1 | refine below_set ?_ GE325.out | refine below_set ?_ GE332.out) | exact HB.out)⟩⟩
                · rw [if_neg c12] at H
                  exact absurd H (by simp)
              · rw [if_neg c11] at H
                exact absurd H (by simp)
            · replace c10 := Bool.eq_false_iff.mpr c10
              subst c10
              have H1 : (psalterylaw04_HuffBack.l1 kj7 l0 x6_1 0 x326000_1 x326001_1 x326000_1 0) = some r := by rw [if_neg (show ¬ (false = true) by decide)] at H; exact H
              clear H
              have H := H1
              clear H1
              have H' := Aside0.mk H
              clear H
              have hcz36_0 : wc.cell? ⟨gb325, 0, none⟩ = some (u326000) := (blk_cell BK325.out 0).trans rfl
              have hcz36_1 : wc.cell? ⟨gb325, 1, none⟩ = some (.int .i64 x326001_1) := (blk_cell BK325.out 1).trans rfl
              have hfz36_0 := blk_frozen BK325.out 0
              have hfz36_1 := blk_frozen BK325.out 1
              obtain ⟨Ao37, co37, eo37⟩ := Kd.V_slice HO_326000.out
              subst eo37
              go_wp2_with (first | ((with_reducible refine gate_dst (N := 10) rfl ?_); refine box_event ?hg (N := 10) ?hd (cs := #[.slice none 0 0, .int .i64 0]) (t := 45) ?hr ?_; (case hd => rfl); (case hg => rfl); (case hr => first | (go_simp; done) | (go_simp; rfl)); intro gb337 hg w38 hbox hb; have n0_ := Aside0.mk (Kd.R_below (by (with_reducible repeat (first | apply Kd.R_alloc | apply Kd.R_drewN | apply Kd.R_drew)); exact HO_6.out) hb); have n1_ := Aside0.mk (Kd.V_below (Kd.V_elderB (by (with_reducible repeat (first | apply Kd.V_alloc | apply Kd.V_drewN | apply Kd.V_drew)); exact HO_326000.out) gb337 (Nat.le_of_eq hg.symm)) hb); have n2_ := Aside0.mk (blk_below (g := gb325) (o := .cells #[.slice Ao37 x326000_1.length co37, .int .i64 x326001_1] 34 (0, 0)) (by (with_reducible repeat (first | refine blk_drewN ?_ _ | refine blk_drew ?_ | refine blk_alloc ?_ _)); exact BK325.out) hb); have n3_ := Aside0.mk (below_step (by repeat (first | (with_reducible first | exact HB.out | apply below_alloc | apply pw_below_drewN | apply below_drew1 | refine below_set ?_ GE325.out) | exact HB.out)) hb); have n4_ := Aside0.mk (hbox); have n5_ := Aside0.mk ((by rw [hg]; exact (below_size (by repeat (first | (with_reducible first | exact HB.out | apply below_alloc | apply pw_below_drewN | apply below_drew1 | refine below_set ?_ GE325.out) | exact HB.out))) : w.heap.size ≤ gb337)); have n6_ := Aside0.mk ((by rw [hg]; exact (below_size (by repeat (first | (with_reducible first | exact HB.out | apply below_alloc | apply pw_below_drewN | apply below_drew1 | refine below_set ?_ GE325.out) | exact HB.out))) : w.heap.size ≤ gb337)); have n7_ := Aside0.mk ((by rw [hg]; exact Nat.ne_of_lt (blk_lt (g := gb325) (o := .cells #[.slice Ao37 x326000_1.length co37, .int .i64 x326001_1] 34 (0, 0)) (by (with_reducible repeat (first | refine blk_drewN ?_ _ | refine blk_drew ?_ | refine blk_alloc ?_ _)); exact BK325.out)) : gb325 ≠ gb337)); have n8_ := Aside0.mk ((by rw [hg]; exact Nat.ne_of_gt (blk_lt (g := gb325) (o := .cells #[.slice Ao37 x326000_1.length co37, .int .i64 x326001_1] 34 (0, 0)) (by (with_reducible repeat (first | refine blk_drewN ?_ _ | refine blk_drew ?_ | refine blk_alloc ?_ _)); exact BK325.out)) : gb337 ≠ gb325)); clear HO_6; clear HO_326000; clear BK325; clear HB; have HO_6 := n0_; have HO_326000 := n1_; have BK325 := n2_; have HB := n3_; have BK337 := n4_; have GW337 := n5_; have GE337 := n6_; have NB325_337 := n7_; have NB337_325 := n8_; clear n0_ n1_ n2_ n3_ n4_ n5_ n6_ n7_ n8_; clear hb hbox hg; have hnb39 := NB337_325.out; have hnc39 := NB325_337.out; have hcz40_0 : w38.cell? ⟨gb337, 0, none⟩ = some (.slice none 0 0) := (blk_cell BK337.out 0).trans rfl; have hcz40_1 : w38.cell? ⟨gb337, 1, none⟩ = some (.int .i64 0) := (blk_cell BK337.out 1).trans rfl; have hfz40_0 := blk_frozen BK337.out 0; have hfz40_1 := blk_frozen BK337.out 1))
              go_loopg [11] kj7 (fun kq v11 w' => ∃ (x11_3 : Int) (x338001_3 : Int), v11 = .int .i64 x11_3 ∧ Aside0 (psalterylaw04_HuffBack.l1 kq l0 x6_1 x11_3 x326000_1 x326001_1 x326000_1 x338001_3 = some r) ∧ Aside0 (kq ≤ kj7) ∧ Aside0 (Kd.R (Kd.int .i64) 3 w' w.heap.size (fun _ => True) u6 x6_1) ∧ Aside0 (Kd.V (Kd.int .u8) 5 w' w.heap.size (fun k_ => some k_ ≠ (u6 : Value).ownBlock ∧ k_ ≠ gb325 ∧ k_ ≠ gb337) (.slice Ao37 x326000_1.length co37) x326000_1) ∧ Aside0 (Kd.V (Kd.int .u8) 5 w' w.heap.size (fun k_ => some k_ ≠ (u6 : Value).ownBlock ∧ k_ ≠ gb325 ∧ k_ ≠ gb337) (.slice Ao37 x326000_1.length co37) x326000_1) ∧ Aside0 (w'.heap[gb325]? = some (.cells #[(.slice Ao37 x326000_1.length co37), .int .i64 x326001_1] 34 (0, 0))) ∧ Aside0 (w'.heap[gb337]? = some (.cells #[(.slice Ao37 x326000_1.length co37), .int .i64 x338001_3] 45 (0, 0))) ∧ Aside0 (Below w.heap.size w w'))
              case atStart => exact ⟨(0), (0), (by first | rfl | (simp; done) | (simp [*]; done)), H', ⟨Nat.le_refl _⟩, ⟨by (with_reducible repeat (first | apply Kd.R_alloc | apply Kd.R_drewN | apply Kd.R_drew)); exact Kd.R_mono (Kd.R_far (p := ⟨gb337, 1, none⟩) (Kd.R_far (p := ⟨gb337, 0, none⟩) (Kd.R_types HO_6.out BK337.out (by decide)) (fun _ hk => hk.2) (.slice Ao37 x326000_1.length co37)) (fun _ hk => hk.2) (.int .i64 0)) (fun _ hk => trivial)⟩, ⟨by (with_reducible repeat (first | apply Kd.V_alloc | apply Kd.V_drewN | apply Kd.V_drew)); exact Kd.V_mono (Kd.V_far (p := ⟨gb337, 1, none⟩) (Kd.V_far (p := ⟨gb337, 0, none⟩) (Kd.V_mono HO_326000.out (fun k_ hk => (⟨hk, hk.2⟩ : _ ∧ k_ ≠ gb337))) (fun _ hk => hk.2) (.slice Ao37 x326000_1.length co37)) (fun _ hk => hk.2) (.int .i64 0)) (fun _ hk => ⟨hk.1.1.1, ⟨hk.1.1.2, hk.1.2⟩⟩)⟩, ⟨by (with_reducible repeat (first | apply Kd.V_alloc | apply Kd.V_drewN | apply Kd.V_drew)); exact Kd.V_mono (Kd.V_far (p := ⟨gb337, 1, none⟩) (Kd.V_far (p := ⟨gb337, 0, none⟩) (Kd.V_mono HO_326000.out (fun k_ hk => (⟨hk, hk.2⟩ : _ ∧ k_ ≠ gb337))) (fun _ hk => hk.2) (.slice Ao37 x326000_1.length co37)) (fun _ hk => hk.2) (.int .i64 0)) (fun _ hk => ⟨hk.1.1.1, ⟨hk.1.1.2, hk.1.2⟩⟩)⟩, ⟨by (with_reducible repeat (first | refine blk_drewN ?_ _ | refine blk_drew ?_ | refine blk_alloc ?_ _)); refine blk_far ?_ NB325_337.out _; (with_reducible repeat (first | refine blk_drewN ?_ _ | refine blk_drew ?_ | refine blk_alloc ?_ _)); refine blk_far ?_ NB325_337.out _; (with_reducible repeat (first | refine blk_drewN ?_ _ | refine blk_drew ?_ | refine blk_alloc ?_ _)); exact BK325.out⟩, ⟨by (with_reducible repeat (first | refine blk_drewN ?_ _ | refine blk_drew ?_ | refine blk_alloc ?_ _)); refine blk_put (cs := #[.slice Ao37 x326000_1.length co37, .int .i64 0]) ?_ 1 _ rfl; (with_reducible repeat (first | refine blk_drewN ?_ _ | refine blk_drew ?_ | refine blk_alloc ?_ _)); refine blk_put (cs := #[.slice none 0 0, .int .i64 0]) ?_ 0 _ rfl; (with_reducible repeat (first | refine blk_drewN ?_ _ | refine blk_drew ?_ | refine blk_alloc ?_ _)); exact BK337.out⟩, ⟨by repeat (first | (with_reducible first | exact HB.out | apply below_alloc | apply pw_below_drewN | apply below_drew1 | refine below_set ?_ GE325.out | refine below_set ?_ GE337.out) | exact HB.out)⟩⟩
              case round =>
                clear H'
                try clear c1
                try clear c2
                try clear p2
                try clear c3
                try clear p3
                try clear q3
                try clear hx3
                try clear p6
                try clear c10
                try clear c11
                try clear c12
                try clear c14
                try clear c14b0
                try clear c14b1
                try clear c15
                try clear c17
                try clear c25
                try clear p32
                try clear q32
                try clear hx32
                try clear p33
                try clear q33
                try clear hx33
                try clear c39
                try clear hcz26_0
                try clear hcz26_1
                try clear hcz27_0
                try clear hcz27_1
                try clear hcz36_0
                try clear hcz36_1
                try clear hcz40_0
                try clear hcz40_1
                try clear hfz26_0
                try clear hfz26_1
                try clear hfz27_0
                try clear hfz27_1
                try clear hfz36_0
                try clear hfz36_1
                try clear hfz40_0
                try clear hfz40_1
                try clear hx326_0
                try clear hx333_0
                try clear p326
                try clear p333
                try clear q326
                try clear q333
                obtain ⟨x11_3, x338001_3, rfl, HA, HK3, HO_6, HO_326000, HO_338000, BK325, BK337, HB⟩ := hrel
                cases gk with
                | zero => exact absurd HA.out (by simp [psalterylaw04_HuffBack.l1])
                | succ k3 =>
                  have H := HA.out
                  clear HA
                  simp only [psalterylaw04_HuffBack.l1] at H
                  by_cases c41 : x11_3 < (x6_1.length : Int)
                  · rw [if_pos c41] at H
                    have c41b0 : decide (x11_3 < (x6_1.length : Int)) = true := decide_eq_true c41
                    clear c41
                    replace H := Option.bind_eq_some_iff.mp H
                    obtain ⟨⟨t338, t339, t340⟩, A420, H⟩ := H
                    replace H : (if t340 = 0 then (if 0 ≤ x11_3 then (if t339 = (rd x6_1 x11_3) then (psalterylaw04_HuffBack.l1 k3 l0 x6_1 (wrap64 (x11_3 + 1)) x326000_1 x326001_1 x326000_1 t338) else (some false)) else (none)) else (some false)) = some r := H
                    have A42 := Aside0.mk A420
                    clear A420
                    by_cases c43 : t340 = 0
                    · rw [if_pos c43] at H
                      have c43b0 : (t340 == 0) = true := beq_iff_eq.mpr c43
                      have c43b1 : (t340 != 0) = false := bne_eq_false_iff_eq.mpr c43
                      clear c43
                      by_cases c44 : 0 ≤ x11_3
                      · rw [if_pos c44] at H
                        have c44b0 : decide (0 ≤ x11_3) = true := decide_eq_true c44
                        clear c44
                        by_cases c45 : t339 = (rd x6_1 x11_3)
                        · rw [if_pos c45] at H
                          have c45b0 : (t339 == (rd x6_1 x11_3)) = true := beq_iff_eq.mpr c45
                          have c45b1 : (t339 != (rd x6_1 x11_3)) = false := bne_eq_false_iff_eq.mpr c45
                          clear c45
                          have H' := Aside0.mk H
                          clear H
                          obtain ⟨Ao46, co46, eo46⟩ := Kd.R_slice HO_6.out
                          subst eo46
                          have hnb47 := NB337_325.out
                          have hnc47 := NB325_337.out
                          have hcz48_0 : wr.cell? ⟨gb337, 0, none⟩ = some (.slice Ao37 x326000_1.length co37) := (blk_cell BK337.out 0).trans rfl
                          have hcz48_1 : wr.cell? ⟨gb337, 1, none⟩ = some (.int .i64 x338001_3) := (blk_cell BK337.out 1).trans rfl
                          have hfz48_0 := blk_frozen BK337.out 0
                          have hfz48_1 := blk_frozen BK337.out 1
                          go_wp2_with (first | ((with_reducible refine gate_callee (f := 21) rfl ?_); refine goesL_ (some 62) rfl rfl Try.func21 (by kernel_rfl) rfl #[.agg #[.slice Ao37 x326000_1.length co37, .int .i64 x338001_3], .slice A0 l0.length c0] rfl (by (try simp only [List.map_toArray, List.map_cons, List.map_nil]); first | done | rfl | (simp only [List.length_drop, List.length_take]; rfl)) ?_; (with_reducible refine (huff_Read.calls k3 _ _ x326000_1 x338001_3 _ _ l0 t338 t339 t340 _ ?side1 ?side2 ?side3 ?side4 A42.out).mono ?_); (case side1 => repeat (first | exact (Kd.V_reads' HO_338000.out).2.2 | (with_reducible refine Kd.C_alloc ?_ _) | (with_reducible refine Kd.C_drewN ?_ _) | (with_reducible refine Kd.C_drew ?_))); (case side2 => exact (Kd.V_reads' HO_338000.out).2.1); (case side3 => repeat (first | exact (Kd.C_below HR0.out HB.out) | (with_reducible refine Kd.C_alloc ?_ _) | (with_reducible refine Kd.C_drewN ?_ _) | (with_reducible refine Kd.C_drew ?_))); (case side4 => exact HC0.out); rintro e w49 ⟨rfl, hb⟩; refine ⟨_, rfl, ?_⟩; have n0_ := Aside0.mk (Kd.R_below (by (with_reducible repeat (first | apply Kd.R_alloc | apply Kd.R_drewN | apply Kd.R_drew)); exact HO_6.out) hb); have n1_ := Aside0.mk (Kd.V_below (by (with_reducible repeat (first | apply Kd.V_alloc | apply Kd.V_drewN | apply Kd.V_drew)); exact HO_326000.out) hb); have n2_ := Aside0.mk (Kd.V_below (by (with_reducible repeat (first | apply Kd.V_alloc | apply Kd.V_drewN | apply Kd.V_drew)); exact HO_338000.out) hb); have n3_ := Aside0.mk (blk_below (g := gb325) (o := .cells #[.slice Ao37 x326000_1.length co37, .int .i64 x326001_1] 34 (0, 0)) (by (with_reducible repeat (first | refine blk_drewN ?_ _ | refine blk_drew ?_ | refine blk_alloc ?_ _)); exact BK325.out) hb); have n4_ := Aside0.mk (blk_below (g := gb337) (o := .cells #[.slice Ao37 x326000_1.length co37, .int .i64 x338001_3] 45 (0, 0)) (by (with_reducible repeat (first | refine blk_drewN ?_ _ | refine blk_drew ?_ | refine blk_alloc ?_ _)); exact BK337.out) hb); have n5_ := Aside0.mk (below_step (by repeat (first | (with_reducible first | exact HB.out | apply below_alloc | apply pw_below_drewN | apply below_drew1 | refine below_set ?_ GE325.out | refine below_set ?_ GE337.out) | exact HB.out)) hb); clear HO_6; clear HO_326000; clear HO_338000; clear BK325; clear BK337; clear HB; have HO_6 := n0_; have HO_326000 := n1_; have HO_338000 := n2_; have BK325 := n3_; have BK337 := n4_; have HB := n5_; clear n0_ n1_ n2_ n3_ n4_ n5_; (try clear hb); (try clear hb2); (try clear hk); (try clear hi)) | ((with_reducible refine gate_dst (N := 12) rfl ?_); refine box_event ?hg (N := 12) ?hd (cs := #[.slice none 0 0, .int .i64 0]) (t := 45) ?hr ?_; (case hd => rfl); (case hg => rfl); (case hr => first | (go_simp; done) | (go_simp; rfl)); intro gb341 hg w50 hbox hb; have n0_ := Aside0.mk (Kd.R_below (by (with_reducible repeat (first | apply Kd.R_alloc | apply Kd.R_drewN | apply Kd.R_drew)); exact HO_6.out) hb); have n1_ := Aside0.mk (Kd.V_below (Kd.V_elderB (by (with_reducible repeat (first | apply Kd.V_alloc | apply Kd.V_drewN | apply Kd.V_drew)); exact HO_326000.out) gb341 (Nat.le_of_eq hg.symm)) hb); have n2_ := Aside0.mk (Kd.V_below (Kd.V_elderB (by (with_reducible repeat (first | apply Kd.V_alloc | apply Kd.V_drewN | apply Kd.V_drew)); exact HO_338000.out) gb341 (Nat.le_of_eq hg.symm)) hb); have n3_ := Aside0.mk (blk_below (g := gb325) (o := .cells #[.slice Ao37 x326000_1.length co37, .int .i64 x326001_1] 34 (0, 0)) (by (with_reducible repeat (first | refine blk_drewN ?_ _ | refine blk_drew ?_ | refine blk_alloc ?_ _)); exact BK325.out) hb); have n4_ := Aside0.mk (blk_below (g := gb337) (o := .cells #[.slice Ao37 x326000_1.length co37, .int .i64 x338001_3] 45 (0, 0)) (by (with_reducible repeat (first | refine blk_drewN ?_ _ | refine blk_drew ?_ | refine blk_alloc ?_ _)); exact BK337.out) hb); have n5_ := Aside0.mk (below_step (by repeat (first | (with_reducible first | exact HB.out | apply below_alloc | apply pw_below_drewN | apply below_drew1 | refine below_set ?_ GE325.out | refine below_set ?_ GE337.out) | exact HB.out)) hb); have n6_ := Aside0.mk (hbox); have n7_ := Aside0.mk ((by rw [hg]; exact (below_size (by repeat (first | (with_reducible first | exact HB.out | apply below_alloc | apply pw_below_drewN | apply below_drew1 | refine below_set ?_ GE325.out | refine below_set ?_ GE337.out) | exact HB.out))) : w.heap.size ≤ gb341)); have n8_ := Aside0.mk ((by rw [hg]; exact (below_size (by repeat (first | (with_reducible first | exact HB.out | apply below_alloc | apply pw_below_drewN | apply below_drew1 | refine below_set ?_ GE325.out | refine below_set ?_ GE337.out) | exact HB.out))) : w.heap.size ≤ gb341)); have n9_ := Aside0.mk ((by rw [hg]; exact Nat.ne_of_lt (blk_lt (g := gb325) (o := .cells #[.slice Ao37 x326000_1.length co37, .int .i64 x326001_1] 34 (0, 0)) (by (with_reducible repeat (first | refine blk_drewN ?_ _ | refine blk_drew ?_ | refine blk_alloc ?_ _)); exact BK325.out)) : gb325 ≠ gb341)); have n10_ := Aside0.mk ((by rw [hg]; exact Nat.ne_of_gt (blk_lt (g := gb325) (o := .cells #[.slice Ao37 x326000_1.length co37, .int .i64 x326001_1] 34 (0, 0)) (by (with_reducible repeat (first | refine blk_drewN ?_ _ | refine blk_drew ?_ | refine blk_alloc ?_ _)); exact BK325.out)) : gb341 ≠ gb325)); have n11_ := Aside0.mk ((by rw [hg]; exact Nat.ne_of_lt (blk_lt (g := gb337) (o := .cells #[.slice Ao37 x326000_1.length co37, .int .i64 x338001_3] 45 (0, 0)) (by (with_reducible repeat (first | refine blk_drewN ?_ _ | refine blk_drew ?_ | refine blk_alloc ?_ _)); exact BK337.out)) : gb337 ≠ gb341)); have n12_ := Aside0.mk ((by rw [hg]; exact Nat.ne_of_gt (blk_lt (g := gb337) (o := .cells #[.slice Ao37 x326000_1.length co37, .int .i64 x338001_3] 45 (0, 0)) (by (with_reducible repeat (first | refine blk_drewN ?_ _ | refine blk_drew ?_ | refine blk_alloc ?_ _)); exact BK337.out)) : gb341 ≠ gb337)); clear HO_6; clear HO_326000; clear HO_338000; clear BK325; clear BK337; clear HB; have HO_6 := n0_; have HO_326000 := n1_; have HO_338000 := n2_; have BK325 := n3_; have BK337 := n4_; have HB := n5_; have BK341 := n6_; have GW341 := n7_; have GE341 := n8_; have NB325_341 := n9_; have NB341_325 := n10_; have NB337_341 := n11_; have NB341_337 := n12_; clear n0_ n1_ n2_ n3_ n4_ n5_ n6_ n7_ n8_ n9_ n10_ n11_ n12_; clear hb hbox hg; have hnb51 := NB341_325.out; have hnc51 := NB325_341.out; have hnb52 := NB341_337.out; have hnc52 := NB337_341.out; have hcz53_0 : w50.cell? ⟨gb341, 0, none⟩ = some (.slice none 0 0) := (blk_cell BK341.out 0).trans rfl; have hcz53_1 : w50.cell? ⟨gb341, 1, none⟩ = some (.int .i64 0) := (blk_cell BK341.out 1).trans rfl; have hfz53_0 := blk_frozen BK341.out 0; have hfz53_1 := blk_frozen BK341.out 1; have p342 : 0 ≤ (x11_3 : Int) := of_decide_eq_true (by first | (with_reducible assumption) | assumption); have q342 : x11_3 < (x6_1.length : Int) := of_decide_eq_true (by first | (with_reducible assumption) | assumption); obtain ⟨ad342, e342, hx342_0⟩ := Kd.at_int (Kd.R_reads' HO_6.out).2.2 x11_3 p342 q342; cases e342; have hn342_0 : ad342.block ≠ gb341 := Kd.own_blk (Kd.R_ne HO_6.out BK341.out (by decide)); have hn342_1 : ad342.block ≠ gb341 := Kd.own_blk (Kd.R_ne HO_6.out BK341.out (by decide)); replace hx342_0 := (cell_far (p := ⟨gb341, 0, none⟩) (by first | (rw [add_block]; exact hn342_0) | (show (Addr.add _ _).block ≠ _; rw [add_block]; exact hn342_0) | exact hn342_0) (.slice Ao37 x326000_1.length co37)).trans hx342_0; replace hx342_0 := (cell_far (p := ⟨gb341, 1, none⟩) (by first | (rw [add_block]; exact hn342_1) | (show (Addr.add _ _).block ≠ _; rw [add_block]; exact hn342_1) | exact hn342_1) (.int .i64 t338)).trans hx342_0; clear hn342_0; clear hn342_1; replace p342 := eq_true p342; replace q342 := eq_true q342; have hcz54_0 : w50.cell? ⟨gb337, 0, none⟩ = some (.slice Ao37 x326000_1.length co37) := (blk_cell BK337.out 0).trans rfl; have hcz54_1 : w50.cell? ⟨gb337, 1, none⟩ = some (.int .i64 x338001_3) := (blk_cell BK337.out 1).trans rfl; have hfz54_0 := blk_frozen BK337.out 0; have hfz54_1 := blk_frozen BK337.out 1))
                          go_roundg k3
                          case measure => have := HK1.out; have := HJ7.out; have := HK3.out; omega
                          case rel => exact ⟨(wrap64 (x11_3 + 1)), (t338), (by first | rfl | (simp; done) | (simp [*]; done)), H', ⟨by have := HK1.out; have := HJ7.out; have := HK3.out; omega⟩, ⟨by (with_reducible repeat (first | apply Kd.R_alloc | apply Kd.R_drewN | apply Kd.R_drew)); exact Kd.R_mono (Kd.R_far (p := ⟨gb337, 1, none⟩) (Kd.R_far (p := ⟨gb337, 0, none⟩) (Kd.R_far (p := ⟨gb341, 1, none⟩) (Kd.R_far (p := ⟨gb341, 0, none⟩) (Kd.R_types (Kd.R_types HO_6.out BK341.out (by decide)) BK337.out (by decide)) (fun _ hk => hk.1.2) (.slice Ao37 x326000_1.length co37)) (fun _ hk => hk.1.2) (.int .i64 t338)) (fun _ hk => hk.2) (.slice Ao37 x326000_1.length co37)) (fun _ hk => hk.2) (.int .i64 t338)) (fun _ hk => trivial)⟩, ⟨by (with_reducible repeat (first | apply Kd.V_alloc | apply Kd.V_drewN | apply Kd.V_drew)); exact Kd.V_mono (Kd.V_far (p := ⟨gb337, 1, none⟩) (Kd.V_far (p := ⟨gb337, 0, none⟩) (Kd.V_far (p := ⟨gb341, 1, none⟩) (Kd.V_far (p := ⟨gb341, 0, none⟩) (Kd.V_mono (Kd.V_mono HO_326000.out (fun k_ hk => (⟨hk, hk.2⟩ : _ ∧ k_ ≠ gb341))) (fun k_ hk => (⟨hk, hk.1.1.2.2⟩ : _ ∧ k_ ≠ gb337))) (fun _ hk => hk.1.2) (.slice Ao37 x326000_1.length co37)) (fun _ hk => hk.1.2) (.int .i64 t338)) (fun _ hk => hk.2) (.slice Ao37 x326000_1.length co37)) (fun _ hk => hk.2) (.int .i64 t338)) (fun _ hk => ⟨hk.1.1.1.1, ⟨hk.1.1.1.2.1, hk.1.1.1.2.2⟩⟩)⟩, ⟨by (with_reducible repeat (first | apply Kd.V_alloc | apply Kd.V_drewN | apply Kd.V_drew)); exact Kd.V_mono (Kd.V_far (p := ⟨gb337, 1, none⟩) (Kd.V_far (p := ⟨gb337, 0, none⟩) (Kd.V_far (p := ⟨gb341, 1, none⟩) (Kd.V_far (p := ⟨gb341, 0, none⟩) (Kd.V_mono (Kd.V_mono HO_338000.out (fun k_ hk => (⟨hk, hk.2⟩ : _ ∧ k_ ≠ gb341))) (fun k_ hk => (⟨hk, hk.1.1.2.2⟩ : _ ∧ k_ ≠ gb337))) (fun _ hk => hk.1.2) (.slice Ao37 x326000_1.length co37)) (fun _ hk => hk.1.2) (.int .i64 t338)) (fun _ hk => hk.2) (.slice Ao37 x326000_1.length co37)) (fun _ hk => hk.2) (.int .i64 t338)) (fun _ hk => ⟨hk.1.1.1.1, ⟨hk.1.1.1.2.1, hk.1.1.1.2.2⟩⟩)⟩, ⟨by (with_reducible repeat (first | refine blk_drewN ?_ _ | refine blk_drew ?_ | refine blk_alloc ?_ _)); refine blk_far ?_ NB325_337.out _; (with_reducible repeat (first | refine blk_drewN ?_ _ | refine blk_drew ?_ | refine blk_alloc ?_ _)); refine blk_far ?_ NB325_337.out _; (with_reducible repeat (first | refine blk_drewN ?_ _ | refine blk_drew ?_ | refine blk_alloc ?_ _)); refine blk_far ?_ NB325_341.out _; (with_reducible repeat (first | refine blk_drewN ?_ _ | refine blk_drew ?_ | refine blk_alloc ?_ _)); refine blk_far ?_ NB325_341.out _; (with_reducible repeat (first | refine blk_drewN ?_ _ | refine blk_drew ?_ | refine blk_alloc ?_ _)); exact BK325.out⟩, ⟨by (with_reducible repeat (first | refine blk_drewN ?_ _ | refine blk_drew ?_ | refine blk_alloc ?_ _)); refine blk_put (cs := #[.slice Ao37 x326000_1.length co37, .int .i64 x338001_3]) ?_ 1 _ rfl; (with_reducible repeat (first | refine blk_drewN ?_ _ | refine blk_drew ?_ | refine blk_alloc ?_ _)); refine blk_put (cs := #[.slice Ao37 x326000_1.length co37, .int .i64 x338001_3]) ?_ 0 _ rfl; (with_reducible repeat (first | refine blk_drewN ?_ _ | refine blk_drew ?_ | refine blk_alloc ?_ _)); refine blk_far ?_ NB337_341.out _; (with_reducible repeat (first | refine blk_drewN ?_ _ | refine blk_drew ?_ | refine blk_alloc ?_ _)); refine blk_far ?_ NB337_341.out _; (with_reducible repeat (first | refine blk_drewN ?_ _ | refine blk_drew ?_ | refine blk_alloc ?_ _)); exact BK337.out⟩, ⟨by repeat (first | (with_reducible first | exact HB.out | apply below_alloc | apply pw_below_drewN | apply below_drew1 | refine below_set ?_ GE325.out | refine below_set ?_ GE337.out | refine below_set ?_ GE341.out) | exact HB.out)⟩⟩
                        · rw [if_neg c45] at H
                          have c45b0 : (t339 == (rd x6_1 x11_3)) = false := beq_eq_false_iff_ne.mpr c45
                          have c45b1 : (t339 != (rd x6_1 x11_3)) = true := bne_iff_ne.mpr c45
                          exact absurd ((Option.some.inj H).trans HT.out) (by decide)
                      · rw [if_neg c44] at H
                        exact absurd H (by simp)
                    · rw [if_neg c43] at H
                      have c43b0 : (t340 == 0) = false := beq_eq_false_iff_ne.mpr c43
                      have c43b1 : (t340 != 0) = true := bne_iff_ne.mpr c43
                      exact absurd ((Option.some.inj H).trans HT.out) (by decide)
                  · rw [if_neg c41] at H
                    have c41b0 : decide (x11_3 < (x6_1.length : Int)) = false := decide_eq_false c41
                    clear c41
                    by_cases c55 : x338001_3 = x326001_1
                    · rw [if_pos c55] at H
                      have c55b0 : (x338001_3 == x326001_1) = true := beq_iff_eq.mpr c55
                      have c55b1 : (x338001_3 != x326001_1) = false := bne_eq_false_iff_eq.mpr c55
                      clear c55
                      replace H := Option.bind_eq_some_iff.mp H
                      obtain ⟨t343, A560, H⟩ := H
                      replace H : (some t343) = some r := H
                      have A56 := Aside0.mk A560
                      clear A560
                      obtain rfl := Option.some.inj H
                      obtain ⟨Ao57, co57, eo57⟩ := Kd.R_slice HO_6.out
                      subst eo57
                      have hnb58 := NB337_325.out
                      have hnc58 := NB325_337.out
                      have hcz59_0 : wr.cell? ⟨gb337, 0, none⟩ = some (.slice Ao37 x326000_1.length co37) := (blk_cell BK337.out 0).trans rfl
                      have hcz59_1 : wr.cell? ⟨gb337, 1, none⟩ = some (.int .i64 x338001_3) := (blk_cell BK337.out 1).trans rfl
                      have hfz59_0 := blk_frozen BK337.out 0
                      have hfz59_1 := blk_frozen BK337.out 1
                      have hcz60_0 : wr.cell? ⟨gb325, 0, none⟩ = some (.slice Ao37 x326000_1.length co37) := (blk_cell BK325.out 0).trans rfl
                      have hcz60_1 : wr.cell? ⟨gb325, 1, none⟩ = some (.int .i64 x326001_1) := (blk_cell BK325.out 1).trans rfl
                      have hfz60_0 := blk_frozen BK325.out 0
                      have hfz60_1 := blk_frozen BK325.out 1
                      go_wp2_with (first | (go_at_call 10; (with_reducible refine (psalterylaw04_knows.calls k3  t343 _ A56.out).mono ?_); rintro e w61 ⟨rfl, hb⟩; have n0_ := Aside0.mk (Kd.R_below (by (with_reducible repeat (first | apply Kd.R_alloc | apply Kd.R_drewN | apply Kd.R_drew)); exact HO_6.out) hb); have n1_ := Aside0.mk (Kd.V_below (by (with_reducible repeat (first | apply Kd.V_alloc | apply Kd.V_drewN | apply Kd.V_drew)); exact HO_326000.out) hb); have n2_ := Aside0.mk (Kd.V_below (by (with_reducible repeat (first | apply Kd.V_alloc | apply Kd.V_drewN | apply Kd.V_drew)); exact HO_338000.out) hb); have n3_ := Aside0.mk (blk_below (g := gb325) (o := .cells #[.slice Ao37 x326000_1.length co37, .int .i64 x326001_1] 34 (0, 0)) (by (with_reducible repeat (first | refine blk_drewN ?_ _ | refine blk_drew ?_ | refine blk_alloc ?_ _)); exact BK325.out) hb); have n4_ := Aside0.mk (blk_below (g := gb337) (o := .cells #[.slice Ao37 x326000_1.length co37, .int .i64 x338001_3] 45 (0, 0)) (by (with_reducible repeat (first | refine blk_drewN ?_ _ | refine blk_drew ?_ | refine blk_alloc ?_ _)); exact BK337.out) hb); have n5_ := Aside0.mk (below_step (by repeat (first | (with_reducible first | exact HB.out | apply below_alloc | apply pw_below_drewN | apply below_drew1 | refine below_set ?_ GE325.out | refine below_set ?_ GE337.out) | exact HB.out)) hb); clear HO_6; clear HO_326000; clear HO_338000; clear BK325; clear BK337; clear HB; have HO_6 := n0_; have HO_326000 := n1_; have HO_338000 := n2_; have BK325 := n3_; have BK337 := n4_; have HB := n5_; clear n0_ n1_ n2_ n3_ n4_ n5_; (try clear hb); (try clear hb2); (try clear hk); (try clear hi)))
                      go_ret
                      exact ⟨by first | rfl | (simp [errW_none, errW_some] <;> rfl) | (simp [*, errW_none, errW_some] <;> rfl), by repeat (first | (with_reducible first | exact HB.out | apply below_alloc | apply pw_below_drewN | apply below_drew1 | refine below_set ?_ GE325.out | refine below_set ?_ GE337.out) | exact HB.out)⟩
                    · rw [if_neg c55] at H
                      have c55b0 : (x338001_3 == x326001_1) = false := beq_eq_false_iff_ne.mpr c55
                      have c55b1 : (x338001_3 != x326001_1) = true := bne_iff_ne.mpr c55
                      exact absurd ((Option.some.inj H).trans HT.out) (by decide)

/-- THE ONE PURE STATEMENT of psalterylaw04_HuffBack: yours. -/
def psalterylaw04_HuffBack.Pure : Prop := ∀ (l0 : List Int) (l1 : List Int), l0.length ≤ maxLen → l0.length * 8 ≤ 140737488351232 → (∀ x ∈ l0, (Lit.int .i64 x).wf = true) → l1.length ≤ maxLen → l1.length * 8 ≤ 140737488351232 → (∀ x ∈ l1, (Lit.int .i64 x).wf = true) → ∃ k, psalterylaw04_HuffBack.f k l0 l1 = some true
theorem psalterylaw04_HuffBack.walk (P : psalterylaw04_HuffBack.Pure) (a0 : Option Addr) (len0 cap0 : Nat) (z0 : List Int) (a1 : Option Addr) (len1 cap1 : Nat) (z1 : List Int) (w : World) (w0 : (a0 = none ∧ len0 = 0 ∧ cap0 = 0 ∧ z0 = []) ∨ ∃ x, a0 = some x ∧ len0 ≤ cap0 ∧ cap0 ≤ maxLen ∧ z0.length = cap0 ∧ (∀ i, i < z0.length → w.cell? (x.add i) = some (.int .i64 (z0.getD i 0))) ∧ ∀ n ∈ z0, (Lit.int .i64 n).wf = true) (y0 : len0 * 8 ≤ 140737488351232) (w1 : (a1 = none ∧ len1 = 0 ∧ cap1 = 0 ∧ z1 = []) ∨ ∃ x, a1 = some x ∧ len1 ≤ cap1 ∧ cap1 ≤ maxLen ∧ z1.length = cap1 ∧ (∀ i, i < z1.length → w.cell? (x.add i) = some (.int .i64 (z1.getD i 0))) ∧ ∀ n ∈ z1, (Lit.int .i64 n).wf = true) (y1 : len1 * 8 ≤ 140737488351232) :
    Calls Try.prog 7 #[.slice a0 len0 cap0, .slice a1 len1 cap1] w fun e w' => e = .returned (.bool true) ∧ Below w.heap.size w w' := by
  obtain ⟨l0, rfl, hr0, hm0, hw0, hc0⟩ := ReadsInt.ofRowC w0
  obtain ⟨l1, rfl, hr1, hm1, hw1, hc1⟩ := ReadsInt.ofRowC w1
  obtain ⟨k, h⟩ := P l0 l1 hm0 y0 hw0 hm1 y1 hw1
  refine (psalterylaw04_HuffBack.calls k _ _ l0 _ _ l1 true w (Kd.C_of_reads (d := (0 : Int)) (h1 := fun _ => rfl) hr0) hc0 (Kd.C_of_reads (d := (0 : Int)) (h1 := fun _ => rfl) hr1) hc1 h rfl).mono ?_
  rintro e w' ⟨rfl, hd⟩
  exact ⟨rfl, hd⟩

end Go.Proofs.Ytmocinhononfpaa.P
