-- PRINTED by print.py (a twelfth state) out of the translation. Not trusted: Lean checks it.
import Derived.Test.YtpdfdaoohknfoaaPx0
namespace Go.Proofs.Ytpdfdaoohknfoaa.P
open Go.RowKit Go.Proofs.YtpdfdaoohknfoaaW.PrintWords Go.Proofs.YtpdfdaoohknfoaaW.PrintLast Go.Proofs.YtpdfdaoohknfoaaW.PrintMore
attribute [local go_sem] max2_int min2_int max_two min_two max_three min_three max_four min_four   -- for this text's walks alone
set_option linter.unusedVariables false
set_option linter.unusedSimpArgs false

/-! ### psalteryref16_Plain: function 22 -/
mutual
def psalteryref16_Plain.l0 : Nat → Int → Int → Int → List Int → Option (Int × Int × List Int × List Int)
  | 0, _, _, _, _ => none
  | k + 1, x6, x173000, x173001, x173002 => if x6 < 45 then (if x6 ≤ 18 then (if x173002.length < 17592186044416 then (psalteryref16_Plain.l0 k (wrap64 (x6 + 1)) x173000 x173001 (x173002 ++ [5])) else (none)) else (if x173002.length < 17592186044416 then (psalteryref16_Plain.l0 k (wrap64 (x6 + 1)) x173000 x173001 (x173002 ++ [6])) else (none))) else (psalteryref16_Plain.l1 k 0 x173000 x173001 x173002 ([] : List Int))
def psalteryref16_Plain.l1 : Nat → Int → Int → Int → List Int → List Int → Option (Int × Int × List Int × List Int)
  | 0, _, _, _, _, _ => none
  | k + 1, x7, x173000, x173001, x173002, x173003 => if x7 < 16 then (if x173003.length < 17592186044416 then (psalteryref16_Plain.l1 k (wrap64 (x7 + 1)) x173000 x173001 x173002 (x173003 ++ [4])) else (none)) else (some (x173000, x173001, x173002, x173003))
end
def psalteryref16_Plain.f (k : Nat) (a0 : Int) (a1 : Int) : Option (Int × Int × List Int × List Int) := psalteryref16_Plain.l0 k 0 a0 a1 ([] : List Int)
theorem psalteryref16_Plain.mono_l : ∀ k, (∀ y0 y1 y2 y3, LeO (psalteryref16_Plain.l0 k y0 y1 y2 y3) (psalteryref16_Plain.l0 (k + 1) y0 y1 y2 y3)) ∧ (∀ y0 y1 y2 y3 y4, LeO (psalteryref16_Plain.l1 k y0 y1 y2 y3 y4) (psalteryref16_Plain.l1 (k + 1) y0 y1 y2 y3 y4))
  | 0 => ⟨fun _ _ _ _ r h => by simp [psalteryref16_Plain.l0] at h, fun _ _ _ _ _ r h => by simp [psalteryref16_Plain.l1] at h⟩
  | k + 1 => by
    obtain ⟨ih0, ih1⟩ := psalteryref16_Plain.mono_l k
    refine ⟨?_, ?_⟩
    · intro y0 y1 y2 y3
      unfold psalteryref16_Plain.l0
      repeat' first
      | (with_reducible exact ih0 _ _ _ _)
      | (with_reducible exact ih1 _ _ _ _ _)
      | (with_reducible exact LeO.refl _)
      | (with_reducible exact LeO.none _)
      | (with_reducible refine LeO.ite ?_ ?_)
      | (with_reducible refine LeO.bind ?_ (fun _ => ?_))
      | exact ih0 _ _ _ _
      | exact ih1 _ _ _ _ _
      | exact LeO.none _
      | refine LeO.ite ?_ ?_
      | refine LeO.bind ?_ (fun _ => ?_)
    · intro y0 y1 y2 y3 y4
      unfold psalteryref16_Plain.l1
      repeat' first
      | (with_reducible exact ih0 _ _ _ _)
      | (with_reducible exact ih1 _ _ _ _ _)
      | (with_reducible exact LeO.refl _)
      | (with_reducible exact LeO.none _)
      | (with_reducible refine LeO.ite ?_ ?_)
      | (with_reducible refine LeO.bind ?_ (fun _ => ?_))
      | exact ih0 _ _ _ _
      | exact ih1 _ _ _ _ _
      | exact LeO.none _
      | refine LeO.ite ?_ ?_
      | refine LeO.bind ?_ (fun _ => ?_)
theorem psalteryref16_Plain.mono : ∀ a0 a1 k, LeO (psalteryref16_Plain.f k a0 a1) (psalteryref16_Plain.f (k + 1) a0 a1) := by
  intro a0 a1 k
  obtain ⟨ih0, ih1⟩ := psalteryref16_Plain.mono_l k
  unfold psalteryref16_Plain.f
  repeat' first
      | (with_reducible exact ih0 _ _ _ _)
      | (with_reducible exact ih1 _ _ _ _ _)
      | (with_reducible exact LeO.refl _)
      | (with_reducible exact LeO.none _)
      | (with_reducible refine LeO.ite ?_ ?_)
      | (with_reducible refine LeO.bind ?_ (fun _ => ?_))
      | exact ih0 _ _ _ _
      | exact ih1 _ _ _ _ _
      | exact LeO.none _
      | refine LeO.ite ?_ ?_
      | refine LeO.bind ?_ (fun _ => ?_)
set_option maxHeartbeats 8000000 in
set_option maxRecDepth 100000 in
theorem psalteryref16_Plain.calls (k : Nat) (a0 : Int) (a1 : Int) (r1 : Int) (r2 : Int) (r3 : List Int) (r4 : List Int) (w : World) (h : psalteryref16_Plain.f k a0 a1 = some (r1, r2, r3, r4)) :
    Calls Try.prog 22 #[.int .i64 a0, .int .i64 a1] w fun e w' => ∃ v2_ v3_ : Value, e = .returned (.agg #[.int .i64 r1, .int .i64 r2, v2_, v3_]) ∧ Kd.R (Kd.int .i64) 3 w' w.heap.size (fun k_ => some k_ ≠ (v3_ : Value).ownBlock) v2_ r3 ∧ Kd.R (Kd.int .i64) 3 w' w.heap.size (fun k_ => some k_ ≠ (v2_ : Value).ownBlock) v3_ r4 ∧ Below w.heap.size w w' := by
  have hu28 := Try.underlying28
  have HB := Aside0.mk (Below.refl w.heap.size w)
  have H : (psalteryref16_Plain.l0 k 0 a0 a1 ([] : List Int)) = some (r1, r2, r3, r4) := h
  clear h
  have H' := Aside0.mk H
  clear H
  go_enter Try.func22, Try.ntmps22
  go_wp2_with (first | ((with_reducible refine gate_dst (N := 4) rfl ?_); refine box_event ?hg (N := 4) ?hd (cs := #[.int .i64 0, .int .i64 0, .slice none 0 0, .slice none 0 0]) (t := 28) ?hr ?_; (case hd => rfl); (case hg => rfl); (case hr => first | (go_simp; done) | (go_simp; rfl)); intro gb171 hg w3 hbox hb; have n0_ := Aside0.mk (below_step (by repeat (first | (with_reducible first | exact HB.out | apply below_alloc | apply pw_below_drewN | apply below_drew1) | exact HB.out)) hb); have n1_ := Aside0.mk (hbox); have n2_ := Aside0.mk ((by rw [hg]; exact (below_size (by repeat (first | (with_reducible first | exact HB.out | apply below_alloc | apply pw_below_drewN | apply below_drew1) | exact HB.out))) : w.heap.size ≤ gb171)); have n3_ := Aside0.mk ((by rw [hg]; exact (below_size (by repeat (first | (with_reducible first | exact HB.out | apply below_alloc | apply pw_below_drewN | apply below_drew1) | exact HB.out))) : w.heap.size ≤ gb171)); clear HB; have HB := n0_; have BK171 := n1_; have GW171 := n2_; have GE171 := n3_; clear n0_ n1_ n2_ n3_; clear hb hbox hg) | ((with_reducible refine gate_dst (N := 5) rfl ?_); refine box_event ?hg (N := 5) ?hd (cs := #[.int .i64 0, .int .i64 0, .slice none 0 0, .slice none 0 0]) (t := 28) ?hr ?_; (case hd => rfl); (case hg => rfl); (case hr => first | (go_simp; done) | (go_simp; rfl)); intro gb172 hg w4 hbox hb; have n0_ := Aside0.mk (blk_below (g := gb171) (o := .cells #[.int .i64 0, .int .i64 0, .slice none 0 0, .slice none 0 0] 28 (0, 0)) (by (with_reducible repeat (first | refine blk_drewN ?_ _ | refine blk_drew ?_ | refine blk_alloc ?_ _)); exact BK171.out) hb); have n1_ := Aside0.mk (below_step (by repeat (first | (with_reducible first | exact HB.out | apply below_alloc | apply pw_below_drewN | apply below_drew1 | refine below_set ?_ GE171.out) | exact HB.out)) hb); have n2_ := Aside0.mk (hbox); have n3_ := Aside0.mk ((by rw [hg]; exact (below_size (by repeat (first | (with_reducible first | exact HB.out | apply below_alloc | apply pw_below_drewN | apply below_drew1 | refine below_set ?_ GE171.out) | exact HB.out))) : w.heap.size ≤ gb172)); have n4_ := Aside0.mk ((by rw [hg]; exact (below_size (by repeat (first | (with_reducible first | exact HB.out | apply below_alloc | apply pw_below_drewN | apply below_drew1 | refine below_set ?_ GE171.out) | exact HB.out))) : w.heap.size ≤ gb172)); have n5_ := Aside0.mk ((by rw [hg]; exact Nat.ne_of_lt (blk_lt (g := gb171) (o := .cells #[.int .i64 0, .int .i64 0, .slice none 0 0, .slice none 0 0] 28 (0, 0)) (by (with_reducible repeat (first | refine blk_drewN ?_ _ | refine blk_drew ?_ | refine blk_alloc ?_ _)); exact BK171.out)) : gb171 ≠ gb172)); have n6_ := Aside0.mk ((by rw [hg]; exact Nat.ne_of_gt (blk_lt (g := gb171) (o := .cells #[.int .i64 0, .int .i64 0, .slice none 0 0, .slice none 0 0] 28 (0, 0)) (by (with_reducible repeat (first | refine blk_drewN ?_ _ | refine blk_drew ?_ | refine blk_alloc ?_ _)); exact BK171.out)) : gb172 ≠ gb171)); clear BK171; clear HB; have BK171 := n0_; have HB := n1_; have BK172 := n2_; have GW172 := n3_; have GE172 := n4_; have NB171_172 := n5_; have NB172_171 := n6_; clear n0_ n1_ n2_ n3_ n4_ n5_ n6_; clear hb hbox hg; have hnb5 := NB172_171.out; have hnc5 := NB171_172.out; have hcz6_0 : w4.cell? ⟨gb172, 0, none⟩ = some (.int .i64 0) := (blk_cell BK172.out 0).trans rfl; have hcz6_1 : w4.cell? ⟨gb172, 1, none⟩ = some (.int .i64 0) := (blk_cell BK172.out 1).trans rfl; have hcz6_2 : w4.cell? ⟨gb172, 2, none⟩ = some (.slice none 0 0) := (blk_cell BK172.out 2).trans rfl; have hcz6_3 : w4.cell? ⟨gb172, 3, none⟩ = some (.slice none 0 0) := (blk_cell BK172.out 3).trans rfl; have hfz6_0 := blk_frozen BK172.out 0; have hfz6_1 := blk_frozen BK172.out 1; have hfz6_2 := blk_frozen BK172.out 2; have hfz6_3 := blk_frozen BK172.out 3))
  go_loopg [6] k (fun kq v6 w' => ∃ (x6_1 : Int) (x173002_1 : List Int) (u173002 : Value), v6 = .int .i64 x6_1 ∧ Aside0 (psalteryref16_Plain.l0 kq x6_1 a0 a1 x173002_1 = some (r1, r2, r3, r4)) ∧ Aside0 (kq ≤ k) ∧ Aside0 (Kd.R (Kd.int .i64) 3 w' w.heap.size (fun _ => True) u173002 x173002_1) ∧ Aside0 (w'.heap[gb171]? = some (.cells #[.int .i64 0, .int .i64 0, (.slice none 0 0), (.slice none 0 0)] 28 (0, 0))) ∧ Aside0 (w'.heap[gb172]? = some (.cells #[.int .i64 a0, .int .i64 a1, u173002, (.slice none 0 0)] 28 (0, 0))) ∧ Aside0 (Below w.heap.size w w'))
  case atStart => exact ⟨(0), (([] : List Int)), (.slice none 0 0), (by first | rfl | (simp; done) | (simp [*]; done)), H', ⟨Nat.le_refl _⟩, ⟨by first | exact Kd.R_nil _ _ _ _ _ | exact Kd.N_nil _ _ _ _ _ | exact Kd.V_nil _ _ _ _ _ | exact Kd.Q_nil _ _ _ _ _ | exact Kd.S_nil _ _ _ _ _⟩, ⟨by (with_reducible repeat (first | refine blk_drewN ?_ _ | refine blk_drew ?_ | refine blk_alloc ?_ _)); refine blk_far ?_ NB171_172.out _; (with_reducible repeat (first | refine blk_drewN ?_ _ | refine blk_drew ?_ | refine blk_alloc ?_ _)); refine blk_far ?_ NB171_172.out _; (with_reducible repeat (first | refine blk_drewN ?_ _ | refine blk_drew ?_ | refine blk_alloc ?_ _)); refine blk_far ?_ NB171_172.out _; (with_reducible repeat (first | refine blk_drewN ?_ _ | refine blk_drew ?_ | refine blk_alloc ?_ _)); refine blk_far ?_ NB171_172.out _; (with_reducible repeat (first | refine blk_drewN ?_ _ | refine blk_drew ?_ | refine blk_alloc ?_ _)); exact BK171.out⟩, ⟨by (with_reducible repeat (first | refine blk_drewN ?_ _ | refine blk_drew ?_ | refine blk_alloc ?_ _)); refine blk_put (cs := #[.int .i64 a0, .int .i64 a1, .slice none 0 0, .slice none 0 0]) ?_ 3 _ rfl; (with_reducible repeat (first | refine blk_drewN ?_ _ | refine blk_drew ?_ | refine blk_alloc ?_ _)); refine blk_put (cs := #[.int .i64 a0, .int .i64 a1, .slice none 0 0, .slice none 0 0]) ?_ 2 _ rfl; (with_reducible repeat (first | refine blk_drewN ?_ _ | refine blk_drew ?_ | refine blk_alloc ?_ _)); refine blk_put (cs := #[.int .i64 a0, .int .i64 0, .slice none 0 0, .slice none 0 0]) ?_ 1 _ rfl; (with_reducible repeat (first | refine blk_drewN ?_ _ | refine blk_drew ?_ | refine blk_alloc ?_ _)); refine blk_put (cs := #[.int .i64 0, .int .i64 0, .slice none 0 0, .slice none 0 0]) ?_ 0 _ rfl; (with_reducible repeat (first | refine blk_drewN ?_ _ | refine blk_drew ?_ | refine blk_alloc ?_ _)); exact BK172.out⟩, ⟨by repeat (first | (with_reducible first | exact HB.out | apply below_alloc | apply pw_below_drewN | apply below_drew1 | refine below_set ?_ GE171.out | refine below_set ?_ GE172.out) | exact HB.out)⟩⟩
  case round =>
    clear H'
    try clear c2
    try clear p2
    try clear c5
    try clear hcz6_0
    try clear hcz6_1
    try clear hcz6_2
    try clear hcz6_3
    try clear hfz6_0
    try clear hfz6_1
    try clear hfz6_2
    try clear hfz6_3
    obtain ⟨x6_1, x173002_1, u173002, rfl, HA, HK1, HO_173002, BK171, BK172, HB⟩ := hrel
    cases gk with
    | zero => exact absurd HA.out (by simp [psalteryref16_Plain.l0])
    | succ k1 =>
      have H := HA.out
      clear HA
      simp only [psalteryref16_Plain.l0] at H
      by_cases c7 : x6_1 < 45
      · rw [if_pos c7] at H
        have c7b0 : decide (x6_1 < 45) = true := decide_eq_true c7
        clear c7
        by_cases c8 : x6_1 ≤ 18
        · rw [if_pos c8] at H
          have c8b0 : decide (x6_1 ≤ 18) = true := decide_eq_true c8
          clear c8
          by_cases c9 : x173002_1.length < 17592186044416
          · rw [if_pos c9] at H
            have LMc9 := Aside0.mk c9
            clear c9
            obtain ⟨y173, hy173⟩ : ∃ y_ : List Int, y_ = (x173002_1 ++ [5]) := ⟨_, rfl⟩
            replace H : (psalteryref16_Plain.l0 k1 (wrap64 (x6_1 + 1)) a0 a1 y173) = some (r1, r2, r3, r4) := by first | (rw [hy173]; with_reducible exact H) | (have H2_ := (Option.bind_some _ _).symm.trans H; rw [hy173]; with_reducible exact H2_) | (have H2_ := (Option.bind_some _ _).symm.trans H; with_reducible exact H2_) | with_reducible exact H | (rw [hy173]; exact H) | exact H
            have Ny173 := Aside0.mk hy173
            clear hy173
            have H' := Aside0.mk H
            clear H
            have hnb10 := NB172_171.out
            have hnc10 := NB171_172.out
            have hcz11_0 : wr.cell? ⟨gb172, 0, none⟩ = some (.int .i64 a0) := (blk_cell BK172.out 0).trans rfl
            have hcz11_1 : wr.cell? ⟨gb172, 1, none⟩ = some (.int .i64 a1) := (blk_cell BK172.out 1).trans rfl
            have hcz11_2 : wr.cell? ⟨gb172, 2, none⟩ = some (u173002) := (blk_cell BK172.out 2).trans rfl
            have hcz11_3 : wr.cell? ⟨gb172, 3, none⟩ = some (.slice none 0 0) := (blk_cell BK172.out 3).trans rfl
            have hfz11_0 := blk_frozen BK172.out 0
            have hfz11_1 := blk_frozen BK172.out 1
            have hfz11_2 := blk_frozen BK172.out 2
            have hfz11_3 := blk_frozen BK172.out 3
            go_wp2_with (first | ((with_reducible refine gate_builtin (b := .append) (xs := #[.tmp 18, .tmp 19]) rfl ?_); at_builtin; refine Kd.R_append (Kd.int .i64) (w0 := w) w.heap.size rfl (.tmp 18) (.tmp 19) 22 3 (.int .i64 0) 8 rfl Try.underlying22 info3 rfl (by decide) (by omega) u173002 x173002_1 5 [.int .i64 5] (fun _ => True) (fun _ => False) rfl rfl ?aP (fun _ hk => hk.elim) ?aF ?aO ?aB ?aS ?aL ?_; (case aP => exact rfl); (case aB => exact (by repeat (first | (with_reducible first | exact HB.out | apply below_alloc | apply pw_below_drewN | apply below_drew1 | refine below_set ?_ GE171.out | refine below_set ?_ GE172.out) | exact HB.out))); (case aF => exact (fun _ _ => trivial)); (case aO => exact (by (with_reducible repeat (first | apply Kd.R_alloc | apply Kd.R_drewN | apply Kd.R_drew)); exact HO_173002.out)); (case aS => exact (below_size (by repeat (first | (with_reducible first | exact HB.out | apply below_alloc | apply pw_below_drewN | apply below_drew1 | refine below_set ?_ GE171.out | refine below_set ?_ GE172.out) | exact HB.out)))); (case aL => have := LMc9.out; omega); intro v174 w12 ho hb hg hat; rw [← Ny173.out] at ho; have n0_ := Aside0.mk (blk_grown (g := gb171) (o := .cells #[.int .i64 0, .int .i64 0, .slice none 0 0, .slice none 0 0] 28 (0, 0)) (by (with_reducible repeat (first | refine blk_drewN ?_ _ | refine blk_drew ?_ | refine blk_alloc ?_ _)); exact BK171.out) hg (Kd.R_ne HO_173002.out BK171.out (by decide))); have n1_ := Aside0.mk (blk_grown (g := gb172) (o := .cells #[.int .i64 a0, .int .i64 a1, u173002, .slice none 0 0] 28 (0, 0)) (by (with_reducible repeat (first | refine blk_drewN ?_ _ | refine blk_drew ?_ | refine blk_alloc ?_ _)); exact BK172.out) hg (Kd.R_ne HO_173002.out BK172.out (by decide))); have n2_ := Aside0.mk (hb); have n3_ := Aside0.mk (ho); clear BK171; clear BK172; clear HB; clear HO_173002; have BK171 := n0_; have BK172 := n1_; have HB := n2_; have HO175 := n3_; clear n0_ n1_ n2_ n3_; clear ho hb hg hat; obtain ⟨Ao13, co13, eo13⟩ := Kd.R_slice HO175.out; subst eo13; have hcz14_0 : w12.cell? ⟨gb172, 0, none⟩ = some (.int .i64 a0) := (blk_cell BK172.out 0).trans rfl; have hcz14_1 : w12.cell? ⟨gb172, 1, none⟩ = some (.int .i64 a1) := (blk_cell BK172.out 1).trans rfl; have hcz14_2 : w12.cell? ⟨gb172, 2, none⟩ = some (u173002) := (blk_cell BK172.out 2).trans rfl; have hcz14_3 : w12.cell? ⟨gb172, 3, none⟩ = some (.slice none 0 0) := (blk_cell BK172.out 3).trans rfl; have hfz14_0 := blk_frozen BK172.out 0; have hfz14_1 := blk_frozen BK172.out 1; have hfz14_2 := blk_frozen BK172.out 2; have hfz14_3 := blk_frozen BK172.out 3))
            go_roundg k1
            case measure => have := HK1.out; omega
            case rel => exact ⟨(wrap64 (x6_1 + 1)), (y173), (.slice Ao13 y173.length co13), (by first | rfl | (simp; done) | (simp [*]; done)), H', ⟨by have := HK1.out; omega⟩, ⟨by (with_reducible repeat (first | apply Kd.R_alloc | apply Kd.R_drewN | apply Kd.R_drew)); exact Kd.R_mono (Kd.R_far (p := ⟨gb172, 2, none⟩) (Kd.R_types HO175.out BK172.out (by decide)) (fun _ hk => hk.2) (.slice Ao13 y173.length co13)) (fun _ hk => trivial)⟩, ⟨by (with_reducible repeat (first | refine blk_drewN ?_ _ | refine blk_drew ?_ | refine blk_alloc ?_ _)); refine blk_far ?_ NB171_172.out _; (with_reducible repeat (first | refine blk_drewN ?_ _ | refine blk_drew ?_ | refine blk_alloc ?_ _)); exact BK171.out⟩, ⟨by (with_reducible repeat (first | refine blk_drewN ?_ _ | refine blk_drew ?_ | refine blk_alloc ?_ _)); refine blk_put (cs := #[.int .i64 a0, .int .i64 a1, u173002, .slice none 0 0]) ?_ 2 _ rfl; (with_reducible repeat (first | refine blk_drewN ?_ _ | refine blk_drew ?_ | refine blk_alloc ?_ _)); exact BK172.out⟩, ⟨by repeat (first | (with_reducible first | exact HB.out | apply below_alloc | apply pw_below_drewN | apply below_drew1 | refine below_set ?_ GE171.out | refine below_set ?_ GE172.out) | exact HB.out)⟩⟩
          · rw [if_neg c9] at H
            exact absurd H (by simp)
        · rw [if_neg c8] at H
          have c8b0 : decide (x6_1 ≤ 18) = false := decide_eq_false c8
          clear c8
          by_cases c15 : x173002_1.length < 17592186044416
          · rw [if_pos c15] at H
            have LMc15 := Aside0.mk c15
            clear c15
            obtain ⟨y176, hy176⟩ : ∃ y_ : List Int, y_ = (x173002_1 ++ [6]) := ⟨_, rfl⟩
            replace H : (psalteryref16_Plain.l0 k1 (wrap64 (x6_1 + 1)) a0 a1 y176) = some (r1, r2, r3, r4) := by first | (rw [hy176]; with_reducible exact H) | (have H2_ := (Option.bind_some _ _).symm.trans H; rw [hy176]; with_reducible exact H2_) | (have H2_ := (Option.bind_some _ _).symm.trans H; with_reducible exact H2_) | with_reducible exact H | (rw [hy176]; exact H) | exact H
            have Ny176 := Aside0.mk hy176
            clear hy176
            have H' := Aside0.mk H
            clear H
            have hnb16 := NB172_171.out
            have hnc16 := NB171_172.out
            have hcz17_0 : wr.cell? ⟨gb172, 0, none⟩ = some (.int .i64 a0) := (blk_cell BK172.out 0).trans rfl
            have hcz17_1 : wr.cell? ⟨gb172, 1, none⟩ = some (.int .i64 a1) := (blk_cell BK172.out 1).trans rfl
            have hcz17_2 : wr.cell? ⟨gb172, 2, none⟩ = some (u173002) := (blk_cell BK172.out 2).trans rfl
            have hcz17_3 : wr.cell? ⟨gb172, 3, none⟩ = some (.slice none 0 0) := (blk_cell BK172.out 3).trans rfl
            have hfz17_0 := blk_frozen BK172.out 0
            have hfz17_1 := blk_frozen BK172.out 1
            have hfz17_2 := blk_frozen BK172.out 2
            have hfz17_3 := blk_frozen BK172.out 3
            go_wp2_with (first | ((with_reducible refine gate_builtin (b := .append) (xs := #[.tmp 23, .tmp 24]) rfl ?_); at_builtin; refine Kd.R_append (Kd.int .i64) (w0 := w) w.heap.size rfl (.tmp 23) (.tmp 24) 22 3 (.int .i64 0) 8 rfl Try.underlying22 info3 rfl (by decide) (by omega) u173002 x173002_1 6 [.int .i64 6] (fun _ => True) (fun _ => False) rfl rfl ?aP (fun _ hk => hk.elim) ?aF ?aO ?aB ?aS ?aL ?_; (case aP => exact rfl); (case aB => exact (by repeat (first | (with_reducible first | exact HB.out | apply below_alloc | apply pw_below_drewN | apply below_drew1 | refine below_set ?_ GE171.out | refine below_set ?_ GE172.out) | exact HB.out))); (case aF => exact (fun _ _ => trivial)); (case aO => exact (by (with_reducible repeat (first | apply Kd.R_alloc | apply Kd.R_drewN | apply Kd.R_drew)); exact HO_173002.out)); (case aS => exact (below_size (by repeat (first | (with_reducible first | exact HB.out | apply below_alloc | apply pw_below_drewN | apply below_drew1 | refine below_set ?_ GE171.out | refine below_set ?_ GE172.out) | exact HB.out)))); (case aL => have := LMc15.out; omega); intro v177 w18 ho hb hg hat; rw [← Ny176.out] at ho; have n0_ := Aside0.mk (blk_grown (g := gb171) (o := .cells #[.int .i64 0, .int .i64 0, .slice none 0 0, .slice none 0 0] 28 (0, 0)) (by (with_reducible repeat (first | refine blk_drewN ?_ _ | refine blk_drew ?_ | refine blk_alloc ?_ _)); exact BK171.out) hg (Kd.R_ne HO_173002.out BK171.out (by decide))); have n1_ := Aside0.mk (blk_grown (g := gb172) (o := .cells #[.int .i64 a0, .int .i64 a1, u173002, .slice none 0 0] 28 (0, 0)) (by (with_reducible repeat (first | refine blk_drewN ?_ _ | refine blk_drew ?_ | refine blk_alloc ?_ _)); exact BK172.out) hg (Kd.R_ne HO_173002.out BK172.out (by decide))); have n2_ := Aside0.mk (hb); have n3_ := Aside0.mk (ho); clear BK171; clear BK172; clear HB; clear HO_173002; have BK171 := n0_; have BK172 := n1_; have HB := n2_; have HO178 := n3_; clear n0_ n1_ n2_ n3_; clear ho hb hg hat; obtain ⟨Ao19, co19, eo19⟩ := Kd.R_slice HO178.out; subst eo19; have hcz20_0 : w18.cell? ⟨gb172, 0, none⟩ = some (.int .i64 a0) := (blk_cell BK172.out 0).trans rfl; have hcz20_1 : w18.cell? ⟨gb172, 1, none⟩ = some (.int .i64 a1) := (blk_cell BK172.out 1).trans rfl; have hcz20_2 : w18.cell? ⟨gb172, 2, none⟩ = some (u173002) := (blk_cell BK172.out 2).trans rfl; have hcz20_3 : w18.cell? ⟨gb172, 3, none⟩ = some (.slice none 0 0) := (blk_cell BK172.out 3).trans rfl; have hfz20_0 := blk_frozen BK172.out 0; have hfz20_1 := blk_frozen BK172.out 1; have hfz20_2 := blk_frozen BK172.out 2; have hfz20_3 := blk_frozen BK172.out 3))
            go_roundg k1
            case measure => have := HK1.out; omega
            case rel => exact ⟨(wrap64 (x6_1 + 1)), (y176), (.slice Ao19 y176.length co19), (by first | rfl | (simp; done) | (simp [*]; done)), H', ⟨by have := HK1.out; omega⟩, ⟨by (with_reducible repeat (first | apply Kd.R_alloc | apply Kd.R_drewN | apply Kd.R_drew)); exact Kd.R_mono (Kd.R_far (p := ⟨gb172, 2, none⟩) (Kd.R_types HO178.out BK172.out (by decide)) (fun _ hk => hk.2) (.slice Ao19 y176.length co19)) (fun _ hk => trivial)⟩, ⟨by (with_reducible repeat (first | refine blk_drewN ?_ _ | refine blk_drew ?_ | refine blk_alloc ?_ _)); refine blk_far ?_ NB171_172.out _; (with_reducible repeat (first | refine blk_drewN ?_ _ | refine blk_drew ?_ | refine blk_alloc ?_ _)); exact BK171.out⟩, ⟨by (with_reducible repeat (first | refine blk_drewN ?_ _ | refine blk_drew ?_ | refine blk_alloc ?_ _)); refine blk_put (cs := #[.int .i64 a0, .int .i64 a1, u173002, .slice none 0 0]) ?_ 2 _ rfl; (with_reducible repeat (first | refine blk_drewN ?_ _ | refine blk_drew ?_ | refine blk_alloc ?_ _)); exact BK172.out⟩, ⟨by repeat (first | (with_reducible first | exact HB.out | apply below_alloc | apply pw_below_drewN | apply below_drew1 | refine below_set ?_ GE171.out | refine below_set ?_ GE172.out) | exact HB.out)⟩⟩
          · rw [if_neg c15] at H
            exact absurd H (by simp)
      · rw [if_neg c7] at H
        have c7b0 : decide (x6_1 < 45) = false := decide_eq_false c7
        clear c7
        have H' := Aside0.mk H
        clear H
        go_wp2
        go_loopg [7] k1 (fun kq v7 w' => ∃ (x7_2 : Int) (x173003_2 : List Int) (u173003 : Value), v7 = .int .i64 x7_2 ∧ Aside0 (psalteryref16_Plain.l1 kq x7_2 a0 a1 x173002_1 x173003_2 = some (r1, r2, r3, r4)) ∧ Aside0 (kq ≤ k1) ∧ Aside0 (Kd.R (Kd.int .i64) 3 w' w.heap.size (fun k_ => some k_ ≠ (u173003 : Value).ownBlock) u173002 x173002_1) ∧ Aside0 (Kd.R (Kd.int .i64) 3 w' w.heap.size (fun k_ => some k_ ≠ (u173002 : Value).ownBlock) u173003 x173003_2) ∧ Aside0 (w'.heap[gb171]? = some (.cells #[.int .i64 0, .int .i64 0, (.slice none 0 0), (.slice none 0 0)] 28 (0, 0))) ∧ Aside0 (w'.heap[gb172]? = some (.cells #[.int .i64 a0, .int .i64 a1, u173002, u173003] 28 (0, 0))) ∧ Aside0 (Below w.heap.size w w'))
        case atStart => exact ⟨(0), (([] : List Int)), (.slice none 0 0), (by first | rfl | (simp; done) | (simp [*]; done)), H', ⟨Nat.le_refl _⟩, ⟨by (with_reducible repeat (first | apply Kd.R_alloc | apply Kd.R_drewN | apply Kd.R_drew)); exact Kd.R_mono HO_173002.out (fun _ hk => (by simp [Value.ownBlock]))⟩, ⟨by first | exact Kd.R_nil _ _ _ _ _ | exact Kd.N_nil _ _ _ _ _ | exact Kd.V_nil _ _ _ _ _ | exact Kd.Q_nil _ _ _ _ _ | exact Kd.S_nil _ _ _ _ _⟩, ⟨by (with_reducible repeat (first | refine blk_drewN ?_ _ | refine blk_drew ?_ | refine blk_alloc ?_ _)); exact BK171.out⟩, ⟨by (with_reducible repeat (first | refine blk_drewN ?_ _ | refine blk_drew ?_ | refine blk_alloc ?_ _)); exact BK172.out⟩, ⟨by repeat (first | (with_reducible first | exact HB.out | apply below_alloc | apply pw_below_drewN | apply below_drew1 | refine below_set ?_ GE171.out | refine below_set ?_ GE172.out) | exact HB.out)⟩⟩
        case round =>
          clear H'
          try clear c1
          try clear c2
          try clear p2
          try clear c5
          try clear p6
          try clear c7
          try clear c7b0
          try clear c8
          try clear c8b0
          try clear c9
          try clear c10
          try clear c15
          try clear c16
          try clear hcz11_0
          try clear hcz11_1
          try clear hcz11_2
          try clear hcz11_3
          try clear hcz14_0
          try clear hcz14_1
          try clear hcz14_2
          try clear hcz14_3
          try clear hcz17_0
          try clear hcz17_1
          try clear hcz17_2
          try clear hcz17_3
          try clear hcz20_0
          try clear hcz20_1
          try clear hcz20_2
          try clear hcz20_3
          try clear hcz6_0
          try clear hcz6_1
          try clear hcz6_2
          try clear hcz6_3
          try clear hfz11_0
          try clear hfz11_1
          try clear hfz11_2
          try clear hfz11_3
          try clear hfz14_0
          try clear hfz14_1
          try clear hfz14_2
          try clear hfz14_3
          try clear hfz17_0
          try clear hfz17_1
          try clear hfz17_2
          try clear hfz17_3
          try clear hfz20_0
          try clear hfz20_1
          try clear hfz20_2
          try clear hfz20_3
          try clear hfz6_0
          try clear hfz6_1
          try clear hfz6_2
          try clear hfz6_3
          try clear p2
          obtain ⟨x7_2, x173003_2, u173003, rfl, HA, HK2, HO_173002, HO_173003, BK171, BK172, HB⟩ := hrel
          cases gk with
          | zero => exact absurd HA.out (by simp [psalteryref16_Plain.l1])
          | succ k2 =>
            have H := HA.out
            clear HA
            simp only [psalteryref16_Plain.l1] at H
            by_cases c21 : x7_2 < 16
            · rw [if_pos c21] at H
              have c21b0 : decide (x7_2 < 16) = true := decide_eq_true c21
              clear c21
              by_cases c22 : x173003_2.length < 17592186044416
              · rw [if_pos c22] at H
                have LMc22 := Aside0.mk c22
                clear c22
                obtain ⟨y179, hy179⟩ : ∃ y_ : List Int, y_ = (x173003_2 ++ [4]) := ⟨_, rfl⟩
                replace H : (psalteryref16_Plain.l1 k2 (wrap64 (x7_2 + 1)) a0 a1 x173002_1 y179) = some (r1, r2, r3, r4) := by first | (rw [hy179]; with_reducible exact H) | (have H2_ := (Option.bind_some _ _).symm.trans H; rw [hy179]; with_reducible exact H2_) | (have H2_ := (Option.bind_some _ _).symm.trans H; with_reducible exact H2_) | with_reducible exact H | (rw [hy179]; exact H) | exact H
                have Ny179 := Aside0.mk hy179
                clear hy179
                have H' := Aside0.mk H
                clear H
                have hnb23 := NB172_171.out
                have hnc23 := NB171_172.out
                have hcz24_0 : wr.cell? ⟨gb172, 0, none⟩ = some (.int .i64 a0) := (blk_cell BK172.out 0).trans rfl
                have hcz24_1 : wr.cell? ⟨gb172, 1, none⟩ = some (.int .i64 a1) := (blk_cell BK172.out 1).trans rfl
                have hcz24_2 : wr.cell? ⟨gb172, 2, none⟩ = some (u173002) := (blk_cell BK172.out 2).trans rfl
                have hcz24_3 : wr.cell? ⟨gb172, 3, none⟩ = some (u173003) := (blk_cell BK172.out 3).trans rfl
                have hfz24_0 := blk_frozen BK172.out 0
                have hfz24_1 := blk_frozen BK172.out 1
                have hfz24_2 := blk_frozen BK172.out 2
                have hfz24_3 := blk_frozen BK172.out 3
                go_wp2_with (first | ((with_reducible refine gate_builtin (b := .append) (xs := #[.tmp 32, .tmp 33]) rfl ?_); at_builtin; refine Kd.R_append (Kd.int .i64) (w0 := w) w.heap.size rfl (.tmp 32) (.tmp 33) 22 3 (.int .i64 0) 8 rfl Try.underlying22 info3 rfl (by decide) (by omega) u173003 x173003_2 4 [.int .i64 4] (fun k_ => some k_ ≠ (u173002 : Value).ownBlock) (fun _ => False) rfl rfl ?aP (fun _ hk => hk.elim) ?aF ?aO ?aB ?aS ?aL ?_; (case aP => exact rfl); (case aB => exact (by repeat (first | (with_reducible first | exact HB.out | apply below_alloc | apply pw_below_drewN | apply below_drew1 | refine below_set ?_ GE171.out | refine below_set ?_ GE172.out) | exact HB.out))); (case aF => exact (fun k_ hk => Kd.fresh' (Kd.R_lt (by (with_reducible repeat (first | apply Kd.R_alloc | apply Kd.R_drewN | apply Kd.R_drew)); exact HO_173002.out)) k_ hk)); (case aO => exact (by (with_reducible repeat (first | apply Kd.R_alloc | apply Kd.R_drewN | apply Kd.R_drew)); exact HO_173003.out)); (case aS => exact (below_size (by repeat (first | (with_reducible first | exact HB.out | apply below_alloc | apply pw_below_drewN | apply below_drew1 | refine below_set ?_ GE171.out | refine below_set ?_ GE172.out) | exact HB.out)))); (case aL => have := LMc22.out; omega); intro v180 w25 ho hb hg hat; rw [← Ny179.out] at ho; have n0_ := Aside0.mk (Kd.R_after (ok := (fun _ => True)) (by (with_reducible repeat (first | apply Kd.R_alloc | apply Kd.R_drewN | apply Kd.R_drew)); exact Kd.R_mono HO_173002.out (fun _ hk => ⟨trivial, hk⟩)) hg hat); have n1_ := Aside0.mk (blk_grown (g := gb171) (o := .cells #[.int .i64 0, .int .i64 0, .slice none 0 0, .slice none 0 0] 28 (0, 0)) (by (with_reducible repeat (first | refine blk_drewN ?_ _ | refine blk_drew ?_ | refine blk_alloc ?_ _)); exact BK171.out) hg (Kd.R_ne HO_173003.out BK171.out (by decide))); have n2_ := Aside0.mk (blk_grown (g := gb172) (o := .cells #[.int .i64 a0, .int .i64 a1, u173002, u173003] 28 (0, 0)) (by (with_reducible repeat (first | refine blk_drewN ?_ _ | refine blk_drew ?_ | refine blk_alloc ?_ _)); exact BK172.out) hg (Kd.R_ne HO_173003.out BK172.out (by decide))); have n3_ := Aside0.mk (hb); have n4_ := Aside0.mk (ho); clear HO_173002; clear BK171; clear BK172; clear HB; clear HO_173003; have HO_173002 := n0_; have BK171 := n1_; have BK172 := n2_; have HB := n3_; have HO181 := n4_; clear n0_ n1_ n2_ n3_ n4_; clear ho hb hg hat; obtain ⟨Ao26, co26, eo26⟩ := Kd.R_slice HO181.out; subst eo26; have hcz27_0 : w25.cell? ⟨gb172, 0, none⟩ = some (.int .i64 a0) := (blk_cell BK172.out 0).trans rfl; have hcz27_1 : w25.cell? ⟨gb172, 1, none⟩ = some (.int .i64 a1) := (blk_cell BK172.out 1).trans rfl; have hcz27_2 : w25.cell? ⟨gb172, 2, none⟩ = some (u173002) := (blk_cell BK172.out 2).trans rfl; have hcz27_3 : w25.cell? ⟨gb172, 3, none⟩ = some (u173003) := (blk_cell BK172.out 3).trans rfl; have hfz27_0 := blk_frozen BK172.out 0; have hfz27_1 := blk_frozen BK172.out 1; have hfz27_2 := blk_frozen BK172.out 2; have hfz27_3 := blk_frozen BK172.out 3))
                go_roundg k2
                case measure => have := HK1.out; have := HK2.out; omega
                case rel => exact ⟨(wrap64 (x7_2 + 1)), (y179), (.slice Ao26 y179.length co26), (by first | rfl | (simp; done) | (simp [*]; done)), H', ⟨by have := HK1.out; have := HK2.out; omega⟩, ⟨by (with_reducible repeat (first | apply Kd.R_alloc | apply Kd.R_drewN | apply Kd.R_drew)); exact Kd.R_mono (Kd.R_far (p := ⟨gb172, 3, none⟩) (Kd.R_types HO_173002.out BK172.out (by decide)) (fun _ hk => hk.2) (.slice Ao26 y179.length co26)) (fun _ hk => hk.1.2)⟩, ⟨by (with_reducible repeat (first | apply Kd.R_alloc | apply Kd.R_drewN | apply Kd.R_drew)); exact Kd.R_mono (Kd.R_far (p := ⟨gb172, 3, none⟩) (Kd.R_types HO181.out BK172.out (by decide)) (fun _ hk => hk.2) (.slice Ao26 y179.length co26)) (fun _ hk => hk.1)⟩, ⟨by (with_reducible repeat (first | refine blk_drewN ?_ _ | refine blk_drew ?_ | refine blk_alloc ?_ _)); refine blk_far ?_ NB171_172.out _; (with_reducible repeat (first | refine blk_drewN ?_ _ | refine blk_drew ?_ | refine blk_alloc ?_ _)); exact BK171.out⟩, ⟨by (with_reducible repeat (first | refine blk_drewN ?_ _ | refine blk_drew ?_ | refine blk_alloc ?_ _)); refine blk_put (cs := #[.int .i64 a0, .int .i64 a1, u173002, u173003]) ?_ 3 _ rfl; (with_reducible repeat (first | refine blk_drewN ?_ _ | refine blk_drew ?_ | refine blk_alloc ?_ _)); exact BK172.out⟩, ⟨by repeat (first | (with_reducible first | exact HB.out | apply below_alloc | apply pw_below_drewN | apply below_drew1 | refine below_set ?_ GE171.out | refine below_set ?_ GE172.out) | exact HB.out)⟩⟩
              · rw [if_neg c22] at H
                exact absurd H (by simp)
            · rw [if_neg c21] at H
              have c21b0 : decide (x7_2 < 16) = false := decide_eq_false c21
              clear c21
              simp only [Option.some.injEq, Prod.mk.injEq] at H
              obtain ⟨rfl, rfl, rfl, rfl⟩ := H
              have hnb28 := NB172_171.out
              have hnc28 := NB171_172.out
              have hcz29_0 : wr.cell? ⟨gb172, 0, none⟩ = some (.int .i64 a0) := (blk_cell BK172.out 0).trans rfl
              have hcz29_1 : wr.cell? ⟨gb172, 1, none⟩ = some (.int .i64 a1) := (blk_cell BK172.out 1).trans rfl
              have hcz29_2 : wr.cell? ⟨gb172, 2, none⟩ = some (u173002) := (blk_cell BK172.out 2).trans rfl
              have hcz29_3 : wr.cell? ⟨gb172, 3, none⟩ = some (u173003) := (blk_cell BK172.out 3).trans rfl
              have hfz29_0 := blk_frozen BK172.out 0
              have hfz29_1 := blk_frozen BK172.out 1
              have hfz29_2 := blk_frozen BK172.out 2
              have hfz29_3 := blk_frozen BK172.out 3
              have hcz30_0 : wr.cell? ⟨gb171, 0, none⟩ = some (.int .i64 0) := (blk_cell BK171.out 0).trans rfl
              have hcz30_1 : wr.cell? ⟨gb171, 1, none⟩ = some (.int .i64 0) := (blk_cell BK171.out 1).trans rfl
              have hcz30_2 : wr.cell? ⟨gb171, 2, none⟩ = some (.slice none 0 0) := (blk_cell BK171.out 2).trans rfl
              have hcz30_3 : wr.cell? ⟨gb171, 3, none⟩ = some (.slice none 0 0) := (blk_cell BK171.out 3).trans rfl
              have hfz30_0 := blk_frozen BK171.out 0
              have hfz30_1 := blk_frozen BK171.out 1
              have hfz30_2 := blk_frozen BK171.out 2
              have hfz30_3 := blk_frozen BK171.out 3
              obtain ⟨Ao31, co31, eo31⟩ := Kd.R_slice HO_173002.out
              subst eo31
              obtain ⟨Ao32, co32, eo32⟩ := Kd.R_slice HO_173003.out
              subst eo32
              go_wp2
              refine bodyPost_ret (results_cell_row rfl _ _ gb171 28 #[.int .i64 a0, .int .i64 a1, .slice Ao31 x173002_1.length co31, .slice Ao32 x173003_2.length co32] (0, 0) _ rfl (by (with_reducible repeat (first | refine blk_drewN ?_ _ | refine blk_drew ?_ | refine blk_alloc ?_ _)); refine blk_put (cs := #[.int .i64 a0, .int .i64 a1, .slice Ao31 x173002_1.length co31, .slice none 0 0]) ?_ 3 _ rfl; (with_reducible repeat (first | refine blk_drewN ?_ _ | refine blk_drew ?_ | refine blk_alloc ?_ _)); refine blk_put (cs := #[.int .i64 a0, .int .i64 a1, .slice none 0 0, .slice none 0 0]) ?_ 2 _ rfl; (with_reducible repeat (first | refine blk_drewN ?_ _ | refine blk_drew ?_ | refine blk_alloc ?_ _)); refine blk_put (cs := #[.int .i64 a0, .int .i64 0, .slice none 0 0, .slice none 0 0]) ?_ 1 _ rfl; (with_reducible repeat (first | refine blk_drewN ?_ _ | refine blk_drew ?_ | refine blk_alloc ?_ _)); refine blk_put (cs := #[.int .i64 0, .int .i64 0, .slice none 0 0, .slice none 0 0]) ?_ 0 _ rfl; (with_reducible repeat (first | refine blk_drewN ?_ _ | refine blk_drew ?_ | refine blk_alloc ?_ _)); exact BK171.out) Try.underlying28 rfl (by kernel_rfl)) rfl ?_
              exact ⟨_, _, by first | rfl | (simp [errW_none, errW_some] <;> rfl) | (simp [*, errW_none, errW_some] <;> rfl), by (with_reducible repeat (first | apply Kd.R_alloc | apply Kd.R_drewN | apply Kd.R_drew)); exact Kd.R_mono (Kd.R_far (p := ⟨gb171, 3, none⟩) (Kd.R_far (p := ⟨gb171, 2, none⟩) (Kd.R_far (p := ⟨gb171, 1, none⟩) (Kd.R_far (p := ⟨gb171, 0, none⟩) (Kd.R_types HO_173002.out BK171.out (by decide)) (fun _ hk => hk.2) (.int .i64 a0)) (fun _ hk => hk.2) (.int .i64 a1)) (fun _ hk => hk.2) (.slice Ao31 x173002_1.length co31)) (fun _ hk => hk.2) (.slice Ao32 x173003_2.length co32)) (fun _ hk => hk.1), by (with_reducible repeat (first | apply Kd.R_alloc | apply Kd.R_drewN | apply Kd.R_drew)); exact Kd.R_mono (Kd.R_far (p := ⟨gb171, 3, none⟩) (Kd.R_far (p := ⟨gb171, 2, none⟩) (Kd.R_far (p := ⟨gb171, 1, none⟩) (Kd.R_far (p := ⟨gb171, 0, none⟩) (Kd.R_types HO_173003.out BK171.out (by decide)) (fun _ hk => hk.2) (.int .i64 a0)) (fun _ hk => hk.2) (.int .i64 a1)) (fun _ hk => hk.2) (.slice Ao31 x173002_1.length co31)) (fun _ hk => hk.2) (.slice Ao32 x173003_2.length co32)) (fun _ hk => hk.1), by repeat (first | (with_reducible first | exact HB.out | apply below_alloc | apply pw_below_drewN | apply below_drew1 | refine below_set ?_ GE171.out | refine below_set ?_ GE172.out) | exact HB.out)⟩

end Go.Proofs.Ytpdfdaoohknfoaa.P
