-- PRINTED by print.py (a twelfth state) out of the translation. Not trusted: Lean checks it.
import Derived.Test.YtpdfdaoohknfoaaPx0
import Derived.Test.YtpdfdaoohknfoaaPx39
namespace Go.Proofs.Ytpdfdaoohknfoaa.P
open Go.RowKit Go.Proofs.YtpdfdaoohknfoaaW.PrintWords Go.Proofs.YtpdfdaoohknfoaaW.PrintLast Go.Proofs.YtpdfdaoohknfoaaW.PrintMore
attribute [local go_sem] max2_int min2_int max_two min_two max_three min_three max_four min_four   -- for this text's walks alone
set_option linter.unusedVariables false
set_option linter.unusedSimpArgs false

/-! ### bits_Put: function 64 -/
mutual
def bits_Put.j0 : Nat → Int → Int → Bool → List Int → Int → Option (List Int × Int × Int)
  | 0, _, _, _, _, _ => none
  | k + 1, x1, x2, x21, x439000, x439001 => if x21 = true then (some (x439000, x439001, 1)) else (if (wrap64 (x439001 + x2)) > 32000 then (some (x439000, x439001, 3)) else (bits_Put.l0 k x1 x2 0 x439000 x439001))
def bits_Put.l0 : Nat → Int → Int → Int → List Int → Int → Option (List Int × Int × Int)
  | 0, _, _, _, _, _ => none
  | k + 1, x1, x29, x30, x439000, x439001 => if x30 < x29 then (if (Int.tmod x439001 8) = 0 then (if x439000.length < 140737488355328 then ((some (x439000 ++ [0] : List Int)).bind fun y444 => (if 0 ≤ (wrap64 (Int.tdiv x439001 8)) then (if (wrap64 (Int.tdiv x439001 8)) < (y444.length : Int) then (if 0 ≤ (Int.tmod x439001 8) then (bits_Put.l0 k (x1 / 2) x29 (wrap64 (x30 + 1)) (y444.set ((wrap64 (Int.tdiv x439001 8)) : Int).toNat (Go.bits .or .u8 (rd y444 (wrap64 (Int.tdiv x439001 8))) (shl .u8 ((Go.bits .and .u64 x1 1) % 256) (Int.tmod x439001 8)))) (wrap64 (x439001 + 1))) else (none)) else (none)) else (none))) else (none)) else (if 0 ≤ (wrap64 (Int.tdiv x439001 8)) then (if (wrap64 (Int.tdiv x439001 8)) < (x439000.length : Int) then (if 0 ≤ (Int.tmod x439001 8) then (bits_Put.l0 k (x1 / 2) x29 (wrap64 (x30 + 1)) (x439000.set ((wrap64 (Int.tdiv x439001 8)) : Int).toNat (Go.bits .or .u8 (rd x439000 (wrap64 (Int.tdiv x439001 8))) (shl .u8 ((Go.bits .and .u64 x1 1) % 256) (Int.tmod x439001 8)))) (wrap64 (x439001 + 1))) else (none)) else (none)) else (none))) else (some (x439000, x439001, 0))
end
def bits_Put.f (k : Nat) (l0_0 : List Int) (a0_1 : Int) (a1 : Int) (a2 : Int) : Option (List Int × Int × Int) := (bits_own.f l0_0 a0_1).bind fun bt440 => (if a2 < 0 then (bits_Put.j0 k a1 a2 true bt440.1 bt440.2) else (if a2 > 32 then (bits_Put.j0 k a1 a2 true bt440.1 bt440.2) else (if 0 ≤ a2 then (bits_Put.j0 k a1 a2 ((shr .u64 a1 a2) != 0) bt440.1 bt440.2) else (none))))
theorem bits_Put.mono_l : ∀ k, (∀ y0 y1 y2 y3 y4, LeO (bits_Put.j0 k y0 y1 y2 y3 y4) (bits_Put.j0 (k + 1) y0 y1 y2 y3 y4)) ∧ (∀ y0 y1 y2 y3 y4, LeO (bits_Put.l0 k y0 y1 y2 y3 y4) (bits_Put.l0 (k + 1) y0 y1 y2 y3 y4))
  | 0 => ⟨fun _ _ _ _ _ r h => by simp [bits_Put.j0] at h, fun _ _ _ _ _ r h => by simp [bits_Put.l0] at h⟩
  | k + 1 => by
    obtain ⟨ih0, ih1⟩ := bits_Put.mono_l k
    refine ⟨?_, ?_⟩
    · intro y0 y1 y2 y3 y4
      unfold bits_Put.j0
      repeat' first
      | (with_reducible exact ih0 _ _ _ _ _)
      | (with_reducible exact ih1 _ _ _ _ _)
      | (with_reducible exact LeO.refl _)
      | (with_reducible exact LeO.none _)
      | (with_reducible refine LeO.ite ?_ ?_)
      | (with_reducible refine LeO.bind ?_ (fun _ => ?_))
      | exact ih0 _ _ _ _ _
      | exact ih1 _ _ _ _ _
      | exact LeO.none _
      | refine LeO.ite ?_ ?_
      | refine LeO.bind ?_ (fun _ => ?_)
    · intro y0 y1 y2 y3 y4
      unfold bits_Put.l0
      repeat' first
      | (with_reducible exact ih0 _ _ _ _ _)
      | (with_reducible exact ih1 _ _ _ _ _)
      | (with_reducible exact LeO.refl _)
      | (with_reducible exact LeO.none _)
      | (with_reducible refine LeO.ite ?_ ?_)
      | (with_reducible refine LeO.bind ?_ (fun _ => ?_))
      | exact ih0 _ _ _ _ _
      | exact ih1 _ _ _ _ _
      | exact LeO.none _
      | refine LeO.ite ?_ ?_
      | refine LeO.bind ?_ (fun _ => ?_)
theorem bits_Put.mono : ∀ a0 a1 a2 a3 k, LeO (bits_Put.f k a0 a1 a2 a3) (bits_Put.f (k + 1) a0 a1 a2 a3) := by
  intro a0 a1 a2 a3 k
  obtain ⟨ih0, ih1⟩ := bits_Put.mono_l k
  unfold bits_Put.f
  repeat' first
      | (with_reducible exact ih0 _ _ _ _ _)
      | (with_reducible exact ih1 _ _ _ _ _)
      | (with_reducible exact LeO.refl _)
      | (with_reducible exact LeO.none _)
      | (with_reducible refine LeO.ite ?_ ?_)
      | (with_reducible refine LeO.bind ?_ (fun _ => ?_))
      | exact ih0 _ _ _ _ _
      | exact ih1 _ _ _ _ _
      | exact LeO.none _
      | refine LeO.ite ?_ ?_
      | refine LeO.bind ?_ (fun _ => ?_)
def bits_Put.T10 : Bool × List (List Nat × List Nat) := (true, [([], []), ([0], [0]), ([], []), ([2], [2]), ([3], [3]), ([1, 4], [1, 4]), ([5], [5]), ([], []), ([7], [7]), ([8], [8]), ([], []), ([10], [10]), ([11], [11]), ([9, 12], [9, 12]), ([6, 13], [6, 13]), ([1, 4, 0, 1, 2, 3, 4, 5, 6, 7, 8, 9, 10, 11, 12, 13, 14], [1, 4]), ([15, 14, 0, 1, 2, 3, 4, 5, 6, 7, 8, 9, 10, 11, 12, 13, 14], [14, 15])])
def bits_Put.B10 : List Nat := [0, 1, 0, 4, 12, 31, 63, 0, 128, 384, 0, 1024, 3072, 8064, 16383, 32767, 65535]
theorem bits_Put.tab10 : rtab .any (opsOf Try.f64 10) = bits_Put.T10 := by kernel_rfl
theorem bits_Put.bits10 : waitsOk bits_Put.T10.2 bits_Put.B10 = true := by kernel_rfl
set_option maxHeartbeats 8000000 in
set_option maxRecDepth 100000 in
theorem bits_Put.calls (k : Nat) (A0_0 : Option Addr) (c0_0 : Nat) (l0_0 : List Int) (a0_1 : Int) (a1 : Int) (a2 : Int) (r1 : List Int) (r2 : Int) (r3 : Int) (w : World) (hr0_0 : Kd.C (Kd.int .u8) w A0_0 l0_0.length l0_0) (hc0_0 : l0_0.length ≤ c0_0) (h : bits_Put.f k l0_0 a0_1 a1 a2 = some (r1, r2, r3)) :
    Calls Try.prog 64 #[.agg #[.slice A0_0 l0_0.length c0_0, .int .i64 a0_1], .int .u64 a1, .int .i64 a2] w fun e w' => ∃ v0_ : Value, e = .returned (.tuple #[.agg #[v0_, .int .i64 r2], .int .i64 r3]) ∧ Kd.R (Kd.int .u8) 5 w' w.heap.size (fun _ => True) v0_ r1 ∧ Below w.heap.size w w' := by
  have hu66 := Try.underlying66
  have HR0_0 := Aside0.mk hr0_0
  have HC0_0 := Aside0.mk hc0_0
  clear hr0_0 hc0_0
  have HB := Aside0.mk (Below.refl w.heap.size w)
  have H : ((bits_own.f l0_0 a0_1).bind fun bt440 => (if a2 < 0 then (bits_Put.j0 k a1 a2 true bt440.1 bt440.2) else (if a2 > 32 then (bits_Put.j0 k a1 a2 true bt440.1 bt440.2) else (if 0 ≤ a2 then (bits_Put.j0 k a1 a2 ((shr .u64 a1 a2) != 0) bt440.1 bt440.2) else (none))))) = some (r1, r2, r3) := h
  clear h
  replace H := Option.bind_eq_some_iff.mp H
  obtain ⟨⟨t440, t443⟩, A40, H⟩ := H
  replace H : (if a2 < 0 then (bits_Put.j0 k a1 a2 true t440 t443) else (if a2 > 32 then (bits_Put.j0 k a1 a2 true t440 t443) else (if 0 ≤ a2 then (bits_Put.j0 k a1 a2 ((shr .u64 a1 a2) != 0) t440 t443) else (none)))) = some (r1, r2, r3) := H
  have A4 := Aside0.mk A40
  clear A40
  have HC5 := Aside0.mk H
  clear H
  go_enter Try.func64, Try.ntmps64
  go_upto_region 2 with (first | ((with_reducible refine gate_dst (N := 3) rfl ?_); refine box_event ?hg (N := 3) ?hd (cs := #[.slice A0_0 l0_0.length c0_0, .int .i64 a0_1]) (t := 66) ?hr ?_; (case hd => rfl); (case hg => rfl); (case hr => first | (go_simp; done) | (go_simp; rfl)); intro gb438 hg w6 hbox hb; have n0_ := Aside0.mk (below_step (by repeat (first | (with_reducible first | exact HB.out | apply below_alloc | apply pw_below_drewN | apply below_drew1) | exact HB.out)) hb); have n1_ := Aside0.mk (hbox); have n2_ := Aside0.mk ((by rw [hg]; exact (below_size (by repeat (first | (with_reducible first | exact HB.out | apply below_alloc | apply pw_below_drewN | apply below_drew1) | exact HB.out))) : w.heap.size ≤ gb438)); have n3_ := Aside0.mk ((by rw [hg]; exact (below_size (by repeat (first | (with_reducible first | exact HB.out | apply below_alloc | apply pw_below_drewN | apply below_drew1) | exact HB.out))) : w.heap.size ≤ gb438)); clear HB; have HB := n0_; have BK438 := n1_; have GW438 := n2_; have GE438 := n3_; clear n0_ n1_ n2_ n3_; clear hb hbox hg) | ((with_reducible refine gate_dst (N := 6) rfl ?_); refine box_event ?hg (N := 6) ?hd (cs := #[.slice none 0 0, .int .i64 0]) (t := 66) ?hr ?_; (case hd => rfl); (case hg => rfl); (case hr => first | (go_simp; done) | (go_simp; rfl)); intro gb439 hg w7 hbox hb; have n0_ := Aside0.mk (blk_below (g := gb438) (o := .cells #[.slice A0_0 l0_0.length c0_0, .int .i64 a0_1] 66 (0, 0)) (by (with_reducible repeat (first | refine blk_drewN ?_ _ | refine blk_drew ?_ | refine blk_alloc ?_ _)); exact BK438.out) hb); have n1_ := Aside0.mk (below_step (by repeat (first | (with_reducible first | exact HB.out | apply below_alloc | apply pw_below_drewN | apply below_drew1 | refine below_set ?_ GE438.out) | exact HB.out)) hb); have n2_ := Aside0.mk (hbox); have n3_ := Aside0.mk ((by rw [hg]; exact (below_size (by repeat (first | (with_reducible first | exact HB.out | apply below_alloc | apply pw_below_drewN | apply below_drew1 | refine below_set ?_ GE438.out) | exact HB.out))) : w.heap.size ≤ gb439)); have n4_ := Aside0.mk ((by rw [hg]; exact (below_size (by repeat (first | (with_reducible first | exact HB.out | apply below_alloc | apply pw_below_drewN | apply below_drew1 | refine below_set ?_ GE438.out) | exact HB.out))) : w.heap.size ≤ gb439)); have n5_ := Aside0.mk ((by rw [hg]; exact Nat.ne_of_lt (blk_lt (g := gb438) (o := .cells #[.slice A0_0 l0_0.length c0_0, .int .i64 a0_1] 66 (0, 0)) (by (with_reducible repeat (first | refine blk_drewN ?_ _ | refine blk_drew ?_ | refine blk_alloc ?_ _)); exact BK438.out)) : gb438 ≠ gb439)); have n6_ := Aside0.mk ((by rw [hg]; exact Nat.ne_of_gt (blk_lt (g := gb438) (o := .cells #[.slice A0_0 l0_0.length c0_0, .int .i64 a0_1] 66 (0, 0)) (by (with_reducible repeat (first | refine blk_drewN ?_ _ | refine blk_drew ?_ | refine blk_alloc ?_ _)); exact BK438.out)) : gb439 ≠ gb438)); clear BK438; clear HB; have BK438 := n0_; have HB := n1_; have BK439 := n2_; have GW439 := n3_; have GE439 := n4_; have NB438_439 := n5_; have NB439_438 := n6_; clear n0_ n1_ n2_ n3_ n4_ n5_ n6_; clear hb hbox hg; have hnb8 := NB438_439.out; have hnc8 := NB439_438.out; have hcz9_0 : w7.cell? ⟨gb438, 0, none⟩ = some (.slice A0_0 l0_0.length c0_0) := (blk_cell BK438.out 0).trans rfl; have hcz9_1 : w7.cell? ⟨gb438, 1, none⟩ = some (.int .i64 a0_1) := (blk_cell BK438.out 1).trans rfl; have hfz9_0 := blk_frozen BK438.out 0; have hfz9_1 := blk_frozen BK438.out 1) | ((with_reducible refine gate_callee (f := 72) rfl ?_); refine goesL_ (some 9) rfl rfl Try.func72 (by kernel_rfl) rfl #[.agg #[.slice A0_0 l0_0.length c0_0, .int .i64 a0_1]] rfl (by (try simp only [List.map_toArray, List.map_cons, List.map_nil]); first | done | rfl | (simp only [List.length_drop, List.length_take]; rfl)) ?_; (with_reducible refine (bits_own.calls _ _ l0_0 a0_1 t440 t443 _ ?side1 ?side2 A4.out).mono ?_); (case side1 => repeat (first | exact (Kd.C_below HR0_0.out HB.out) | (with_reducible refine Kd.C_alloc ?_ _) | (with_reducible refine Kd.C_drewN ?_ _) | (with_reducible refine Kd.C_drew ?_))); (case side2 => exact HC0_0.out); rintro e w10 ⟨v441, rfl, ho0, hb⟩; refine ⟨_, rfl, ?_⟩; have n0_ := Aside0.mk (Kd.R_lower ho0 (below_size (by repeat (first | (with_reducible first | exact HB.out | apply below_alloc | apply pw_below_drewN | apply below_drew1 | refine below_set ?_ GE438.out | refine below_set ?_ GE439.out) | exact HB.out)))); have n1_ := Aside0.mk (blk_below (g := gb438) (o := .cells #[.slice A0_0 l0_0.length c0_0, .int .i64 a0_1] 66 (0, 0)) (by (with_reducible repeat (first | refine blk_drewN ?_ _ | refine blk_drew ?_ | refine blk_alloc ?_ _)); exact BK438.out) hb); have n2_ := Aside0.mk (blk_below (g := gb439) (o := .cells #[.slice none 0 0, .int .i64 0] 66 (0, 0)) (by (with_reducible repeat (first | refine blk_drewN ?_ _ | refine blk_drew ?_ | refine blk_alloc ?_ _)); exact BK439.out) hb); have n3_ := Aside0.mk (below_step (by repeat (first | (with_reducible first | exact HB.out | apply below_alloc | apply pw_below_drewN | apply below_drew1 | refine below_set ?_ GE438.out | refine below_set ?_ GE439.out) | exact HB.out)) hb); clear BK438; clear BK439; clear HB; have HO442 := n0_; have BK438 := n1_; have BK439 := n2_; have HB := n3_; clear n0_ n1_ n2_ n3_; (try clear hb); (try clear hb2); (try clear hk); (try clear hi); (try clear ho0); obtain ⟨Ao11, co11, eo11⟩ := Kd.R_slice HO442.out; subst eo11; have hcz12_0 : w10.cell? ⟨gb438, 0, none⟩ = some (.slice A0_0 l0_0.length c0_0) := (blk_cell BK438.out 0).trans rfl; have hcz12_1 : w10.cell? ⟨gb438, 1, none⟩ = some (.int .i64 a0_1) := (blk_cell BK438.out 1).trans rfl; have hfz12_0 := blk_frozen BK438.out 0; have hfz12_1 := blk_frozen BK438.out 1))
  (try simp only [Act.put, List.setIfInBounds_toArray, List.set_cons_zero, List.set_cons_succ])
  go_cut [21] (fun v21 wc => ∃ (kq : Nat) (x21_4 : Bool), v21 = .bool x21_4 ∧ Aside0 (bits_Put.j0 kq a1 a2 x21_4 t440 t443 = some (r1, r2, r3)) ∧ Aside0 (kq ≤ k) ∧ Aside0 (Kd.R (Kd.int .u8) 5 wc w.heap.size (fun _ => True) (.slice Ao11 t440.length co11) t440) ∧ Aside0 (wc.heap[gb438]? = some (.cells #[(.slice Ao11 t440.length co11), .int .i64 t443] 66 (0, 0))) ∧ Aside0 (wc.heap[gb439]? = some (.cells #[(.slice none 0 0), .int .i64 0] 66 (0, 0))) ∧ Aside0 (Below w.heap.size w wc))
  case first =>
    have H := HC5.out
    clear HC5
    by_cases c13 : a2 < 0
    · rw [if_pos c13] at H
      have c13b0 : decide (a2 < 0) = true := decide_eq_true c13
      clear c13
      (first | rw [c13b0] | (simp only [i64_w, i32_w]; rw [c13b0]) | skip)
      have H' := Aside0.mk H
      clear H
      go_wp2
      go_meet
      case rel => exact ⟨_, (true), (by first | rfl | (simp; done) | (simp [*]; done)), H', ⟨by first | omega | exact Nat.le_refl _⟩, ⟨by (with_reducible repeat (first | apply Kd.R_alloc | apply Kd.R_drewN | apply Kd.R_drew)); exact Kd.R_mono (Kd.R_far (p := ⟨gb438, 1, none⟩) (Kd.R_far (p := ⟨gb438, 0, none⟩) (Kd.R_types HO442.out BK438.out (by decide)) (fun _ hk => hk.2) (.slice Ao11 t440.length co11)) (fun _ hk => hk.2) (.int .i64 t443)) (fun _ hk => trivial)⟩, ⟨by (with_reducible repeat (first | refine blk_drewN ?_ _ | refine blk_drew ?_ | refine blk_alloc ?_ _)); refine blk_put (cs := #[.slice Ao11 t440.length co11, .int .i64 a0_1]) ?_ 1 _ rfl; (with_reducible repeat (first | refine blk_drewN ?_ _ | refine blk_drew ?_ | refine blk_alloc ?_ _)); refine blk_put (cs := #[.slice A0_0 l0_0.length c0_0, .int .i64 a0_1]) ?_ 0 _ rfl; (with_reducible repeat (first | refine blk_drewN ?_ _ | refine blk_drew ?_ | refine blk_alloc ?_ _)); exact BK438.out⟩, ⟨by (with_reducible repeat (first | refine blk_drewN ?_ _ | refine blk_drew ?_ | refine blk_alloc ?_ _)); refine blk_far ?_ NB439_438.out _; (with_reducible repeat (first | refine blk_drewN ?_ _ | refine blk_drew ?_ | refine blk_alloc ?_ _)); refine blk_far ?_ NB439_438.out _; (with_reducible repeat (first | refine blk_drewN ?_ _ | refine blk_drew ?_ | refine blk_alloc ?_ _)); exact BK439.out⟩, ⟨by repeat (first | (with_reducible first | exact HB.out | apply below_alloc | apply pw_below_drewN | apply below_drew1 | refine below_set ?_ GE438.out | refine below_set ?_ GE439.out) | exact HB.out)⟩⟩
    · rw [if_neg c13] at H
      have c13b0 : decide (a2 < 0) = false := decide_eq_false c13
      clear c13
      (first | rw [c13b0] | (simp only [i64_w, i32_w]; rw [c13b0]) | skip)
      by_cases c14 : a2 > 32
      · rw [if_pos c14] at H
        have c14b0 : decide (32 < a2) = true := decide_eq_true c14
        clear c14
        have H' := Aside0.mk H
        clear H
        go_wp2
        go_meet
        case rel => exact ⟨_, (true), (by first | rfl | (simp; done) | (simp [*]; done)), H', ⟨by first | omega | exact Nat.le_refl _⟩, ⟨by (with_reducible repeat (first | apply Kd.R_alloc | apply Kd.R_drewN | apply Kd.R_drew)); exact Kd.R_mono (Kd.R_far (p := ⟨gb438, 1, none⟩) (Kd.R_far (p := ⟨gb438, 0, none⟩) (Kd.R_types HO442.out BK438.out (by decide)) (fun _ hk => hk.2) (.slice Ao11 t440.length co11)) (fun _ hk => hk.2) (.int .i64 t443)) (fun _ hk => trivial)⟩, ⟨by (with_reducible repeat (first | refine blk_drewN ?_ _ | refine blk_drew ?_ | refine blk_alloc ?_ _)); refine blk_put (cs := #[.slice Ao11 t440.length co11, .int .i64 a0_1]) ?_ 1 _ rfl; (with_reducible repeat (first | refine blk_drewN ?_ _ | refine blk_drew ?_ | refine blk_alloc ?_ _)); refine blk_put (cs := #[.slice A0_0 l0_0.length c0_0, .int .i64 a0_1]) ?_ 0 _ rfl; (with_reducible repeat (first | refine blk_drewN ?_ _ | refine blk_drew ?_ | refine blk_alloc ?_ _)); exact BK438.out⟩, ⟨by (with_reducible repeat (first | refine blk_drewN ?_ _ | refine blk_drew ?_ | refine blk_alloc ?_ _)); refine blk_far ?_ NB439_438.out _; (with_reducible repeat (first | refine blk_drewN ?_ _ | refine blk_drew ?_ | refine blk_alloc ?_ _)); refine blk_far ?_ NB439_438.out _; (with_reducible repeat (first | refine blk_drewN ?_ _ | refine blk_drew ?_ | refine blk_alloc ?_ _)); exact BK439.out⟩, ⟨by repeat (first | (with_reducible first | exact HB.out | apply below_alloc | apply pw_below_drewN | apply below_drew1 | refine below_set ?_ GE438.out | refine below_set ?_ GE439.out) | exact HB.out)⟩⟩
      · rw [if_neg c14] at H
        have c14b0 : decide (32 < a2) = false := decide_eq_false c14
        clear c14
        by_cases c15 : 0 ≤ a2
        · rw [if_pos c15] at H
          have c15b0 := eq_true c15
          have c15b1 : decide (0 ≤ a2) = true := decide_eq_true c15
          clear c15
          obtain ⟨ji16, hji16⟩ : ∃ j_ : Int, (shr .u64 a1 a2) = j_ := ⟨_, rfl⟩
          replace H : (bits_Put.j0 k a1 a2 ((ji16) != 0) t440 t443) = some (r1, r2, r3) := by first | (rw [hji16] at H; exact H) | (simp only [hji16] at H ⊢; exact H)
          have hji16_ : (a1 / 2 ^ min a2.toNat 64) = ji16 := hji16
          have hji16z : a2 ≤ 64 → (a1 / 2 ^ a2.toNat) = ji16 := shr_small hji16
          have H' := Aside0.mk H
          clear H
          go_wp2
          go_meet
          case rel => exact ⟨_, (((ji16) != 0)), (by first | rfl | (simp; done) | (simp only [← hji16] <;> (first | rfl | simp)) | (simp [*]; done)), H', ⟨by first | omega | exact Nat.le_refl _⟩, ⟨by (with_reducible repeat (first | apply Kd.R_alloc | apply Kd.R_drewN | apply Kd.R_drew)); exact Kd.R_mono (Kd.R_far (p := ⟨gb438, 1, none⟩) (Kd.R_far (p := ⟨gb438, 0, none⟩) (Kd.R_types HO442.out BK438.out (by decide)) (fun _ hk => hk.2) (.slice Ao11 t440.length co11)) (fun _ hk => hk.2) (.int .i64 t443)) (fun _ hk => trivial)⟩, ⟨by (with_reducible repeat (first | refine blk_drewN ?_ _ | refine blk_drew ?_ | refine blk_alloc ?_ _)); refine blk_put (cs := #[.slice Ao11 t440.length co11, .int .i64 a0_1]) ?_ 1 _ rfl; (with_reducible repeat (first | refine blk_drewN ?_ _ | refine blk_drew ?_ | refine blk_alloc ?_ _)); refine blk_put (cs := #[.slice A0_0 l0_0.length c0_0, .int .i64 a0_1]) ?_ 0 _ rfl; (with_reducible repeat (first | refine blk_drewN ?_ _ | refine blk_drew ?_ | refine blk_alloc ?_ _)); exact BK438.out⟩, ⟨by (with_reducible repeat (first | refine blk_drewN ?_ _ | refine blk_drew ?_ | refine blk_alloc ?_ _)); refine blk_far ?_ NB439_438.out _; (with_reducible repeat (first | refine blk_drewN ?_ _ | refine blk_drew ?_ | refine blk_alloc ?_ _)); refine blk_far ?_ NB439_438.out _; (with_reducible repeat (first | refine blk_drewN ?_ _ | refine blk_drew ?_ | refine blk_alloc ?_ _)); exact BK439.out⟩, ⟨by repeat (first | (with_reducible first | exact HB.out | apply below_alloc | apply pw_below_drewN | apply below_drew1 | refine below_set ?_ GE438.out | refine below_set ?_ GE439.out) | exact HB.out)⟩⟩
        · rw [if_neg c15] at H
          exact absurd H (by simp)
  case rest =>
    clear HC5
    try clear c1
    try clear p2
    try clear c6
    try clear c7
    try clear c8
    try clear c13
    try clear c13b0
    try clear c14
    try clear c14b0
    try clear c15
    try clear c15b0
    try clear c15b1
    try clear hcz12_0
    try clear hcz12_1
    try clear hcz9_0
    try clear hcz9_1
    try clear hfz12_0
    try clear hfz12_1
    try clear hfz9_0
    try clear hfz9_1
    obtain ⟨kq, x21_4, rfl, HA, HJ4, HO_439000, BK438, BK439, HB⟩ := hcut
    cases kq with
    | zero => exact absurd HA.out (by simp [bits_Put.j0])
    | succ kj4 =>
      have H := HA.out
      clear HA
      simp only [bits_Put.j0] at H
      by_cases c17 : x21_4 = true
      · subst c17
        have H1 : (some (t440, t443, 1)) = some (r1, r2, r3) := by rw [if_pos rfl] at H; exact H
        clear H
        have H := H1
        clear H1
        simp only [Option.some.injEq, Prod.mk.injEq] at H
        obtain ⟨rfl, rfl, rfl⟩ := H
        have hnb18 := NB438_439.out
        have hnc18 := NB439_438.out
        have hcz19_0 : wc.cell? ⟨gb438, 0, none⟩ = some (.slice Ao11 t440.length co11) := (blk_cell BK438.out 0).trans rfl
        have hcz19_1 : wc.cell? ⟨gb438, 1, none⟩ = some (.int .i64 t443) := (blk_cell BK438.out 1).trans rfl
        have hfz19_0 := blk_frozen BK438.out 0
        have hfz19_1 := blk_frozen BK438.out 1
        have hcz20_0 : wc.cell? ⟨gb439, 0, none⟩ = some (.slice none 0 0) := (blk_cell BK439.out 0).trans rfl
        have hcz20_1 : wc.cell? ⟨gb439, 1, none⟩ = some (.int .i64 0) := (blk_cell BK439.out 1).trans rfl
        have hfz20_0 := blk_frozen BK439.out 0
        have hfz20_1 := blk_frozen BK439.out 1
        go_wp2
        refine bodyPost_ret (results_ct rfl _ _ gb439 66 #[.slice Ao11 t440.length co11, .int .i64 t443] (0, 0) _ rfl (by (with_reducible repeat (first | refine blk_drewN ?_ _ | refine blk_drew ?_ | refine blk_alloc ?_ _)); refine blk_put (cs := #[.slice Ao11 t440.length co11, .int .i64 0]) ?_ 1 _ rfl; (with_reducible repeat (first | refine blk_drewN ?_ _ | refine blk_drew ?_ | refine blk_alloc ?_ _)); refine blk_put (cs := #[.slice none 0 0, .int .i64 0]) ?_ 0 _ rfl; (with_reducible repeat (first | refine blk_drewN ?_ _ | refine blk_drew ?_ | refine blk_alloc ?_ _)); exact BK439.out) Try.underlying66 rfl (by kernel_rfl)) rfl ?_
        exact ⟨_, by first | rfl | (simp [errW_none, errW_some] <;> rfl) | (simp [*, errW_none, errW_some] <;> rfl), by (with_reducible repeat (first | apply Kd.R_alloc | apply Kd.R_drewN | apply Kd.R_drew)); exact Kd.R_mono (Kd.R_far (p := ⟨gb439, 1, none⟩) (Kd.R_far (p := ⟨gb439, 0, none⟩) (Kd.R_types HO_439000.out BK439.out (by decide)) (fun _ hk => hk.2) (.slice Ao11 t440.length co11)) (fun _ hk => hk.2) (.int .i64 t443)) (fun _ hk => trivial), by repeat (first | (with_reducible first | exact HB.out | apply below_alloc | apply pw_below_drewN | apply below_drew1 | refine below_set ?_ GE438.out | refine below_set ?_ GE439.out) | exact HB.out)⟩
      · replace c17 := Bool.eq_false_iff.mpr c17
        subst c17
        have H1 : (if (wrap64 (t443 + a2)) > 32000 then (some (t440, t443, 3)) else (bits_Put.l0 kj4 a1 a2 0 t440 t443)) = some (r1, r2, r3) := by rw [if_neg (show ¬ (false = true) by decide)] at H; exact H
        clear H
        have H := H1
        clear H1
        by_cases c21 : (wrap64 (t443 + a2)) > 32000
        · rw [if_pos c21] at H
          have c21b0 : decide (32000 < (wrap64 (t443 + a2))) = true := decide_eq_true c21
          clear c21
          simp only [Option.some.injEq, Prod.mk.injEq] at H
          obtain ⟨rfl, rfl, rfl⟩ := H
          have hnb22 := NB438_439.out
          have hnc22 := NB439_438.out
          have hcz23_0 : wc.cell? ⟨gb438, 0, none⟩ = some (.slice Ao11 t440.length co11) := (blk_cell BK438.out 0).trans rfl
          have hcz23_1 : wc.cell? ⟨gb438, 1, none⟩ = some (.int .i64 t443) := (blk_cell BK438.out 1).trans rfl
          have hfz23_0 := blk_frozen BK438.out 0
          have hfz23_1 := blk_frozen BK438.out 1
          have hcz24_0 : wc.cell? ⟨gb439, 0, none⟩ = some (.slice none 0 0) := (blk_cell BK439.out 0).trans rfl
          have hcz24_1 : wc.cell? ⟨gb439, 1, none⟩ = some (.int .i64 0) := (blk_cell BK439.out 1).trans rfl
          have hfz24_0 := blk_frozen BK439.out 0
          have hfz24_1 := blk_frozen BK439.out 1
          go_wp2
          refine bodyPost_ret (results_ct rfl _ _ gb439 66 #[.slice Ao11 t440.length co11, .int .i64 t443] (0, 0) _ rfl (by (with_reducible repeat (first | refine blk_drewN ?_ _ | refine blk_drew ?_ | refine blk_alloc ?_ _)); refine blk_put (cs := #[.slice Ao11 t440.length co11, .int .i64 0]) ?_ 1 _ rfl; (with_reducible repeat (first | refine blk_drewN ?_ _ | refine blk_drew ?_ | refine blk_alloc ?_ _)); refine blk_put (cs := #[.slice none 0 0, .int .i64 0]) ?_ 0 _ rfl; (with_reducible repeat (first | refine blk_drewN ?_ _ | refine blk_drew ?_ | refine blk_alloc ?_ _)); exact BK439.out) Try.underlying66 rfl (by kernel_rfl)) rfl ?_
          exact ⟨_, by first | rfl | (simp [errW_none, errW_some] <;> rfl) | (simp [*, errW_none, errW_some] <;> rfl), by (with_reducible repeat (first | apply Kd.R_alloc | apply Kd.R_drewN | apply Kd.R_drew)); exact Kd.R_mono (Kd.R_far (p := ⟨gb439, 1, none⟩) (Kd.R_far (p := ⟨gb439, 0, none⟩) (Kd.R_types HO_439000.out BK439.out (by decide)) (fun _ hk => hk.2) (.slice Ao11 t440.length co11)) (fun _ hk => hk.2) (.int .i64 t443)) (fun _ hk => trivial), by repeat (first | (with_reducible first | exact HB.out | apply below_alloc | apply pw_below_drewN | apply below_drew1 | refine below_set ?_ GE438.out | refine below_set ?_ GE439.out) | exact HB.out)⟩
        · rw [if_neg c21] at H
          have c21b0 : decide (32000 < (wrap64 (t443 + a2))) = false := decide_eq_false c21
          clear c21
          have H' := Aside0.mk H
          clear H
          have hnb25 := NB438_439.out
          have hnc25 := NB439_438.out
          have hcz26_0 : wc.cell? ⟨gb438, 0, none⟩ = some (.slice Ao11 t440.length co11) := (blk_cell BK438.out 0).trans rfl
          have hcz26_1 : wc.cell? ⟨gb438, 1, none⟩ = some (.int .i64 t443) := (blk_cell BK438.out 1).trans rfl
          have hfz26_0 := blk_frozen BK438.out 0
          have hfz26_1 := blk_frozen BK438.out 1
          go_wp2
          go_loopg [1, 30] kj4 (fun kq v1 v30 w' => ∃ (x1_2 : Int) (x30_2 : Int) (x439000_2 : List Int) (x439001_2 : Int) (u439000 : Value), v1 = .int .u64 x1_2 ∧ v30 = .int .i64 x30_2 ∧ Aside0 (bits_Put.l0 kq x1_2 a2 x30_2 x439000_2 x439001_2 = some (r1, r2, r3)) ∧ Aside0 (kq ≤ kj4) ∧ Aside0 (Kd.R (Kd.int .u8) 5 w' w.heap.size (fun _ => True) u439000 x439000_2) ∧ Aside0 (w'.heap[gb438]? = some (.cells #[u439000, .int .i64 x439001_2] 66 (0, 0))) ∧ Aside0 (w'.heap[gb439]? = some (.cells #[(.slice none 0 0), .int .i64 0] 66 (0, 0))) ∧ Aside0 (Below w.heap.size w w'))
          case atStart => exact ⟨(a1), (0), (t440), (t443), (.slice Ao11 t440.length co11), (by first | rfl | (simp; done) | (simp [*]; done)), (by first | rfl | (simp; done) | (simp [*]; done)), H', ⟨Nat.le_refl _⟩, ⟨by (with_reducible repeat (first | apply Kd.R_alloc | apply Kd.R_drewN | apply Kd.R_drew)); exact HO_439000.out⟩, ⟨by (with_reducible repeat (first | refine blk_drewN ?_ _ | refine blk_drew ?_ | refine blk_alloc ?_ _)); exact BK438.out⟩, ⟨by (with_reducible repeat (first | refine blk_drewN ?_ _ | refine blk_drew ?_ | refine blk_alloc ?_ _)); exact BK439.out⟩, ⟨by repeat (first | (with_reducible first | exact HB.out | apply below_alloc | apply pw_below_drewN | apply below_drew1 | refine below_set ?_ GE438.out | refine below_set ?_ GE439.out) | exact HB.out)⟩⟩
          case round =>
            clear H'
            try clear c1
            try clear c2
            try clear p2
            try clear c6
            try clear p6
            try clear c7
            try clear c8
            try clear c13
            try clear c13b0
            try clear c14
            try clear c14b0
            try clear c15
            try clear c15b0
            try clear c15b1
            try clear c17
            try clear c18
            try clear c21
            try clear c21b0
            try clear c22
            try clear c25
            try clear hcz12_0
            try clear hcz12_1
            try clear hcz19_0
            try clear hcz19_1
            try clear hcz20_0
            try clear hcz20_1
            try clear hcz23_0
            try clear hcz23_1
            try clear hcz24_0
            try clear hcz24_1
            try clear hcz26_0
            try clear hcz26_1
            try clear hcz9_0
            try clear hcz9_1
            try clear hfz12_0
            try clear hfz12_1
            try clear hfz19_0
            try clear hfz19_1
            try clear hfz20_0
            try clear hfz20_1
            try clear hfz23_0
            try clear hfz23_1
            try clear hfz24_0
            try clear hfz24_1
            try clear hfz26_0
            try clear hfz26_1
            try clear hfz9_0
            try clear hfz9_1
            try clear p2
            obtain ⟨x1_2, x30_2, x439000_2, x439001_2, u439000, rfl, rfl, HA, HK2, HO_439000, BK438, BK439, HB⟩ := hrel
            cases gk with
            | zero => exact absurd HA.out (by simp [bits_Put.l0])
            | succ k2 =>
              have H := HA.out
              clear HA
              simp only [bits_Put.l0] at H
              by_cases c27 : x30_2 < a2
              · rw [if_pos c27] at H
                have c27b0 : decide (x30_2 < a2) = true := decide_eq_true c27
                clear c27
                by_cases c28 : (Int.tmod x439001_2 8) = 0
                · rw [if_pos c28] at H
                  have c28b0 : ((Int.tmod x439001_2 8) == 0) = true := beq_iff_eq.mpr c28
                  have c28b1 : ((Int.tmod x439001_2 8) != 0) = false := bne_eq_false_iff_eq.mpr c28
                  clear c28
                  by_cases c29 : x439000_2.length < 140737488355328
                  · rw [if_pos c29] at H
                    have LMc29 := Aside0.mk c29
                    clear c29
                    obtain ⟨y444, hy444⟩ : ∃ y_ : List Int, y_ = (x439000_2 ++ [0]) := ⟨_, rfl⟩
                    replace H : (if 0 ≤ (wrap64 (Int.tdiv x439001_2 8)) then (if (wrap64 (Int.tdiv x439001_2 8)) < (y444.length : Int) then (if 0 ≤ (Int.tmod x439001_2 8) then (bits_Put.l0 k2 (x1_2 / 2) a2 (wrap64 (x30_2 + 1)) (y444.set ((wrap64 (Int.tdiv x439001_2 8)) : Int).toNat (Go.bits .or .u8 (rd y444 (wrap64 (Int.tdiv x439001_2 8))) (shl .u8 ((Go.bits .and .u64 x1_2 1) % 256) (Int.tmod x439001_2 8)))) (wrap64 (x439001_2 + 1))) else (none)) else (none)) else (none)) = some (r1, r2, r3) := by first | (rw [hy444]; with_reducible exact H) | (have H2_ := (Option.bind_some _ _).symm.trans H; rw [hy444]; with_reducible exact H2_) | (have H2_ := (Option.bind_some _ _).symm.trans H; with_reducible exact H2_) | with_reducible exact H | (rw [hy444]; exact H) | exact H
                    have Ny444 := Aside0.mk hy444
                    clear hy444
                    obtain ⟨ji30, hji30⟩ : ∃ j_ : Int, (wrap64 (Int.tdiv x439001_2 8)) = j_ := ⟨_, rfl⟩
                    replace H : (if 0 ≤ (ji30) then (if (ji30) < (y444.length : Int) then (if 0 ≤ (Int.tmod x439001_2 8) then (bits_Put.l0 k2 (x1_2 / 2) a2 (wrap64 (x30_2 + 1)) (y444.set ((ji30) : Int).toNat (Go.bits .or .u8 (rd y444 (ji30)) (shl .u8 ((Go.bits .and .u64 x1_2 1) % 256) (Int.tmod x439001_2 8)))) (wrap64 (x439001_2 + 1))) else (none)) else (none)) else (none)) = some (r1, r2, r3) := by first | (rw [hji30] at H; exact H) | (simp only [hji30] at H ⊢; exact H)
                    have hji30w : (IntKind.i64.wrap (Int.tdiv x439001_2 8)) = ji30 := (i64_w _).trans hji30
                    by_cases c31 : 0 ≤ (ji30)
                    · rw [if_pos c31] at H
                      have c31b0 : decide (0 ≤ (ji30)) = true := decide_eq_true c31
                      clear c31
                      by_cases c32 : (ji30) < (y444.length : Int)
                      · rw [if_pos c32] at H
                        have c32b0 : decide ((ji30) < (y444.length : Int)) = true := decide_eq_true c32
                        clear c32
                        obtain ⟨ji33, hji33⟩ : ∃ j_ : Int, (Int.tmod x439001_2 8) = j_ := ⟨_, rfl⟩
                        replace H : (if 0 ≤ (ji33) then (bits_Put.l0 k2 (x1_2 / 2) a2 (wrap64 (x30_2 + 1)) (y444.set ((ji30) : Int).toNat (Go.bits .or .u8 (rd y444 (ji30)) (shl .u8 ((Go.bits .and .u64 x1_2 1) % 256) (ji33)))) (wrap64 (x439001_2 + 1))) else (none)) = some (r1, r2, r3) := by first | (rw [hji33] at H; exact H) | (simp only [hji33] at H ⊢; exact H)
                        have hji33b : ji33 ≤ 8 := by have h_ := Int.tmod_lt_of_pos x439001_2 (show (0 : Int) < 8 by decide); rw [hji33] at h_; omega
                        (try rw [hji33] at c28b0)
                        (try rw [hji33] at c28b1)
                        by_cases c34 : 0 ≤ (ji33)
                        · rw [if_pos c34] at H
                          have c34b0 := eq_true c34
                          have c34b1 : decide (0 ≤ (ji33)) = true := decide_eq_true c34
                          clear c34
                          obtain ⟨ji35, hji35⟩ : ∃ j_ : Int, (shl .u8 ((Go.bits .and .u64 x1_2 1) % 256) (ji33)) = j_ := ⟨_, rfl⟩
                          replace H : (bits_Put.l0 k2 (x1_2 / 2) a2 (wrap64 (x30_2 + 1)) (y444.set ((ji30) : Int).toNat (Go.bits .or .u8 (rd y444 (ji30)) (ji35))) (wrap64 (x439001_2 + 1))) = some (r1, r2, r3) := by first | (rw [hji35] at H; exact H) | (simp only [hji35] at H ⊢; exact H)
                          have hji35_ : (IntKind.u8.wrap (((Go.bits .and .u64 x1_2 1) % 256) * 2 ^ min (ji33).toNat 8)) = ji35 := hji35
                          have hji35z : (ji33) ≤ 8 → (IntKind.u8.wrap (((Go.bits .and .u64 x1_2 1) % 256) * 2 ^ (ji33).toNat)) = ji35 := shl_small hji35
                          have hji35y : (((Go.bits .and .u64 x1_2 1) % 256) * 2 ^ min (ji33).toNat 8 % 256) = ji35 := (IntKind.wrap_u8 _).symm.trans hji35_
                          have hji35x : (ji33) ≤ 8 → (((Go.bits .and .u64 x1_2 1) % 256) * 2 ^ (ji33).toNat % 256) = ji35 := fun h_ => (IntKind.wrap_u8 _).symm.trans (hji35z h_)
                          have hji35w : (((Go.bits .and .u64 x1_2 1) % 256) * 2 ^ min (ji33).toNat 8 % 256) = ji35 ∧ ((ji33) ≤ 8 → (((Go.bits .and .u64 x1_2 1) % 256) * 2 ^ (ji33).toNat % 256) = ji35) := ⟨hji35y, hji35x⟩
                          obtain ⟨y448, hy448⟩ : ∃ y_ : List Int, y_ = (y444.set ((ji30) : Int).toNat (Go.bits .or .u8 (rd y444 (ji30)) (ji35))) := ⟨_, rfl⟩
                          replace H : (bits_Put.l0 k2 (x1_2 / 2) a2 (wrap64 (x30_2 + 1)) y448 (wrap64 (x439001_2 + 1))) = some (r1, r2, r3) := by first | (rw [hy448]; with_reducible exact H) | (have H2_ := (Option.bind_some _ _).symm.trans H; rw [hy448]; with_reducible exact H2_) | (have H2_ := (Option.bind_some _ _).symm.trans H; with_reducible exact H2_) | with_reducible exact H | (rw [hy448]; exact H) | exact H
                          have Ny448 := Aside0.mk hy448
                          clear hy448
                          have H' := Aside0.mk H
                          clear H
                          have hnb37 := NB438_439.out
                          have hnc37 := NB439_438.out
                          have hcz38_0 : wr.cell? ⟨gb438, 0, none⟩ = some (u439000) := (blk_cell BK438.out 0).trans rfl
                          have hcz38_1 : wr.cell? ⟨gb438, 1, none⟩ = some (.int .i64 x439001_2) := (blk_cell BK438.out 1).trans rfl
                          have hfz38_0 := blk_frozen BK438.out 0
                          have hfz38_1 := blk_frozen BK438.out 1
                          try go_wp2_with (first | ((with_reducible refine gate_builtin (b := .append) (xs := #[.tmp 37, .tmp 38]) rfl ?_); at_builtin; refine Kd.R_append (Kd.int .u8) (w0 := w) w.heap.size rfl (.tmp 37) (.tmp 38) 34 5 (.int .u8 0) 1 rfl Try.underlying34 info5 rfl (by decide) (by omega) u439000 x439000_2 0 [.int .u8 0] (fun _ => True) (fun _ => False) rfl rfl ?aP (fun _ hk => hk.elim) ?aF ?aO ?aB ?aS ?aL ?_; (case aP => exact rfl); (case aB => exact (by repeat (first | (with_reducible first | exact HB.out | apply below_alloc | apply pw_below_drewN | apply below_drew1 | refine below_set ?_ GE438.out | refine below_set ?_ GE439.out) | exact HB.out))); (case aF => exact (fun _ _ => trivial)); (case aO => exact (by (with_reducible repeat (first | apply Kd.R_alloc | apply Kd.R_drewN | apply Kd.R_drew)); exact HO_439000.out)); (case aS => exact (below_size (by repeat (first | (with_reducible first | exact HB.out | apply below_alloc | apply pw_below_drewN | apply below_drew1 | refine below_set ?_ GE438.out | refine below_set ?_ GE439.out) | exact HB.out)))); (case aL => have := LMc29.out; omega); intro v445 w39 ho hb hg hat; rw [← Ny444.out] at ho; have n0_ := Aside0.mk (blk_grown (g := gb438) (o := .cells #[u439000, .int .i64 x439001_2] 66 (0, 0)) (by (with_reducible repeat (first | refine blk_drewN ?_ _ | refine blk_drew ?_ | refine blk_alloc ?_ _)); exact BK438.out) hg (Kd.R_ne HO_439000.out BK438.out (by decide))); have n1_ := Aside0.mk (blk_grown (g := gb439) (o := .cells #[.slice none 0 0, .int .i64 0] 66 (0, 0)) (by (with_reducible repeat (first | refine blk_drewN ?_ _ | refine blk_drew ?_ | refine blk_alloc ?_ _)); exact BK439.out) hg (Kd.R_ne HO_439000.out BK439.out (by decide))); have n2_ := Aside0.mk (hb); have n3_ := Aside0.mk (ho); clear BK438; clear BK439; clear HB; clear HO_439000; have BK438 := n0_; have BK439 := n1_; have HB := n2_; have HO446 := n3_; clear n0_ n1_ n2_ n3_; clear ho hb hg hat; obtain ⟨Ao40, co40, eo40⟩ := Kd.R_slice HO446.out; subst eo40; have hcz41_0 : w39.cell? ⟨gb438, 0, none⟩ = some (u439000) := (blk_cell BK438.out 0).trans rfl; have hcz41_1 : w39.cell? ⟨gb438, 1, none⟩ = some (.int .i64 x439001_2) := (blk_cell BK438.out 1).trans rfl; have hfz41_0 := blk_frozen BK438.out 0; have hfz41_1 := blk_frozen BK438.out 1))
                          have n0_ : Aside0 (Kd.R (Kd.int .u8) 5 (w39.setCell ⟨gb438, 0, none⟩ (.slice Ao40 y444.length co40)) w.heap.size (fun _ => True) (.slice Ao40 y444.length co40) y444) := ⟨by (with_reducible repeat (first | apply Kd.R_alloc | apply Kd.R_drewN | apply Kd.R_drew)); exact Kd.R_mono (Kd.R_far (p := ⟨gb438, 0, none⟩) (Kd.R_types HO446.out BK438.out (by decide)) (fun _ hk => hk.2) (.slice Ao40 y444.length co40)) (fun _ hk => trivial)⟩
                          have n1_ : Aside0 ((w39.setCell ⟨gb438, 0, none⟩ (.slice Ao40 y444.length co40)).heap[gb438]? = some (.cells #[.slice Ao40 y444.length co40, .int .i64 x439001_2] 66 (0, 0))) := ⟨by (with_reducible repeat (first | refine blk_drewN ?_ _ | refine blk_drew ?_ | refine blk_alloc ?_ _)); refine blk_put (cs := #[u439000, .int .i64 x439001_2]) ?_ 0 _ rfl; (with_reducible repeat (first | refine blk_drewN ?_ _ | refine blk_drew ?_ | refine blk_alloc ?_ _)); exact BK438.out⟩
                          have n2_ : Aside0 ((w39.setCell ⟨gb438, 0, none⟩ (.slice Ao40 y444.length co40)).heap[gb439]? = some (.cells #[.slice none 0 0, .int .i64 0] 66 (0, 0))) := ⟨by (with_reducible repeat (first | refine blk_drewN ?_ _ | refine blk_drew ?_ | refine blk_alloc ?_ _)); refine blk_far ?_ NB439_438.out _; (with_reducible repeat (first | refine blk_drewN ?_ _ | refine blk_drew ?_ | refine blk_alloc ?_ _)); exact BK439.out⟩
                          have n3_ : Aside0 (Below w.heap.size w (w39.setCell ⟨gb438, 0, none⟩ (.slice Ao40 y444.length co40))) := ⟨by repeat (first | (with_reducible first | exact HB.out | apply below_alloc | apply pw_below_drewN | apply below_drew1 | refine below_set ?_ GE438.out | refine below_set ?_ GE439.out) | exact HB.out)⟩
                          (try clear HO446)
                          (try clear BK438)
                          (try clear BK439)
                          (try clear HB)
                          generalize (w39.setCell ⟨gb438, 0, none⟩ (.slice Ao40 y444.length co40)) = w42 at n0_ n1_ n2_ n3_ ⊢
                          have HO446 := n0_
                          have BK438 := n1_
                          have BK439 := n2_
                          have HB := n3_
                          clear n0_ n1_ n2_ n3_
                          have n0_ := Aside0.mk (Kd.R_drew HO446.out)
                          have n1_ := Aside0.mk (blk_drew BK438.out)
                          have n2_ := Aside0.mk (blk_drew BK439.out)
                          have n3_ := Aside0.mk (below_drew1 HB.out)
                          clear HO446
                          clear BK438
                          clear BK439
                          clear HB
                          have HO446 := n0_
                          have BK438 := n1_
                          have BK439 := n2_
                          have HB := n3_
                          clear n0_ n1_ n2_ n3_
                          have p447 : 0 ≤ ((ji30) : Int) := of_decide_eq_true (by first | (with_reducible assumption) | assumption)
                          have q447 : (ji30) < (y444.length : Int) := of_decide_eq_true (by first | (with_reducible assumption) | assumption)
                          obtain ⟨ad447, e447, hx447_0⟩ := Kd.at_int (Kd.R_reads' HO446.out).2.2 (ji30) p447 q447
                          cases e447
                          replace p447 := eq_true p447
                          replace q447 := eq_true q447
                          have p36 : 0 ≤ ((ji30) : Int) := of_decide_eq_true (by first | (with_reducible assumption) | assumption)
                          have q36 : ((ji30) : Int) < ((y444.length : Int) : Int) := of_decide_eq_true (by first | (with_reducible assumption) | assumption)
                          obtain ⟨go36, co36, eo36, gb36, gl36, cl36, HG36⟩ := Kd.R_form HO446.out (by omega)
                          (first | cases eo36 | (injection eo36 with ea_ en_ ec_; (first | subst ea_ | (injection ea_ with ea_; subst ea_)); subst ec_; clear en_))
                          have GB36 := Aside0.mk gb36
                          have GG36 := Aside0.mk HG36
                          clear gb36 gl36 HG36
                          (first | simp only [add_plain] at hx447_0 | skip)
                          obtain ⟨hx36_0, hf36_0⟩ := Kd.R_celln 0 HO446.out ((ji30) : Int) p36 q36
                          replace p36 := eq_true p36
                          replace q36 := eq_true q36
                          have HP44 := Kd.R_putn HO446.out ((ji30) : Int) (Go.bits .or .u8 (rd y444 (ji30)) (ji35))
                          rw [← Ny448.out] at HP44
                          have HQ44 := Aside0.mk HP44
                          clear HP44
                          refine start_ (n := 17) (S := fun w' => w'.cell? ⟨gb438, 0, none⟩ = some (.slice (some ⟨go36, 0, none⟩) y444.length co40) ∧ w'.cell? ⟨gb438, 1, none⟩ = some (.int .i64 x439001_2) ∧ w'.cell? ⟨go36, ((ji30)).toNat, none⟩ = some (.int .u8 (rd y444 (ji30)))) (ds := [16]) #[false, false, false, false, false, false, false, false, false, false, false, false, false, false, false, false, false] (by kernel_rfl) rfl rfl ⟨(blk_cell BK438.out 0).trans rfl, (blk_cell BK438.out 1).trans rfl, hx447_0⟩ (fun hHeld => ?_); refine with_tabW bits_Put.tab10 bits_Put.bits10 (fun HT_ HW_ => ?_)
                          generalize w42.drew = w43 at HO446 BK438 BK439 HB GG36 HQ44 hf36_0 hx36_0 hx447_0 hHeld ⊢
                          refine pure_ (i := 0) (N := some 41) (v := ?_) (a' := ?_) #[true, false, false, false, false, false, false, false, false, false, false, false, false, false, false, false, false] rfl rfl (any_of HT_.out (by kernel_rfl)) (fun _ _ _ h => h) (Or.inl ⟨by rfl, ?_⟩) ?_ ?_
                          rotate_left
                          · intro w'
                            go_simp
                            with_reducible rfl
                          rotate_left
                          · simp only [Act.put, List.setIfInBounds_toArray, List.set_cons_zero, List.set_cons_succ, i64_w, i32_w]
                            rfl
                          refine pure_ (i := 2) (N := some 43) (v := ?_) (a' := ?_) #[true, false, true, false, false, false, false, false, false, false, false, false, false, false, false, false, false] rfl rfl (any_of HT_.out (by kernel_rfl)) (fun _ _ _ h => h) (Or.inl ⟨by rfl, ?_⟩) ?_ ?_
                          rotate_left
                          · intro w'
                            go_simp
                            with_reducible rfl
                          rotate_left
                          · simp only [Act.put, List.setIfInBounds_toArray, List.set_cons_zero, List.set_cons_succ, i64_w, i32_w]
                            rfl
                          refine pure_ (i := 7) (N := some 48) (v := ?_) (a' := ?_) #[true, false, true, false, false, false, false, true, false, false, false, false, false, false, false, false, false] rfl rfl (any_of HT_.out (by kernel_rfl)) (fun _ _ _ h => h) (Or.inl ⟨by rfl, ?_⟩) ?_ ?_
                          rotate_left
                          · intro w'
                            go_simp
                            with_reducible rfl
                          rotate_left
                          · simp only [Act.put, List.setIfInBounds_toArray, List.set_cons_zero, List.set_cons_succ, i64_w, i32_w]
                            rfl
                          refine pure_ (i := 8) (N := some 49) (v := ?_) (a' := ?_) #[true, false, true, false, false, false, false, true, true, false, false, false, false, false, false, false, false] rfl rfl (any_of HT_.out (by kernel_rfl)) (fun _ _ _ h => h) (Or.inl ⟨by rfl, ?_⟩) ?_ ?_
                          rotate_left
                          · intro w'
                            go_simp
                            with_reducible rfl
                          rotate_left
                          · simp only [Act.put, List.setIfInBounds_toArray, List.set_cons_zero, List.set_cons_succ, i64_w, i32_w]
                            rfl
                          refine pure_ (i := 9) (N := some 50) (v := ?_) (a' := ?_) #[true, false, true, false, false, false, false, true, true, true, false, false, false, false, false, false, false] rfl rfl (any_of HT_.out (by kernel_rfl)) (fun _ _ _ h => h) (Or.inl ⟨by rfl, ?_⟩) ?_ ?_
                          rotate_left
                          · intro w'
                            go_simp
                            with_reducible rfl
                          rotate_left
                          · simp only [Act.put, List.setIfInBounds_toArray, List.set_cons_zero, List.set_cons_succ, i64_w, i32_w]
                            rfl
                          refine pure_ (i := 10) (N := some 51) (v := ?_) (a' := ?_) #[true, false, true, false, false, false, false, true, true, true, true, false, false, false, false, false, false] rfl rfl (any_of HT_.out (by kernel_rfl)) (fun _ _ _ h => h) (Or.inl ⟨by rfl, ?_⟩) ?_ ?_
                          rotate_left
                          · intro w'
                            go_simp
                            with_reducible rfl
                          rotate_left
                          · simp only [Act.put, List.setIfInBounds_toArray, List.set_cons_zero, List.set_cons_succ, i64_w, i32_w]
                            rfl
                          refine take_ (i := 1) (N := some 42) (v := ?_) (a' := ?_) #[true, true, true, false, false, false, false, true, true, true, true, false, false, false, false, false, false] rfl rfl (take_ofW HT_.out HW_.out (by kernel_rfl)) (fun _ _ _ h => h) (Or.inl ⟨by rfl, ?_⟩) hHeld ?_ ?_
                          rotate_left
                          · rintro w' ⟨s0, s1, s2⟩
                            go_simp
                            with_reducible rfl
                          rotate_left
                          · simp only [Act.put, List.setIfInBounds_toArray, List.set_cons_zero, List.set_cons_succ, i64_w, i32_w]
                            rfl
                          refine take_ (i := 3) (N := some 44) (v := ?_) (a' := ?_) #[true, true, true, true, false, false, false, true, true, true, true, false, false, false, false, false, false] rfl rfl (take_ofW HT_.out HW_.out (by kernel_rfl)) (fun _ _ _ h => h) (Or.inl ⟨by rfl, ?_⟩) hHeld ?_ ?_
                          rotate_left
                          · rintro w' ⟨s0, s1, s2⟩
                            go_simp
                            with_reducible rfl
                          rotate_left
                          · simp only [Act.put, List.setIfInBounds_toArray, List.set_cons_zero, List.set_cons_succ, i64_w, i32_w]
                            rfl
                          refine pure_ (i := 4) (N := some 45) (v := ?_) (a' := ?_) #[true, true, true, true, true, false, false, true, true, true, true, false, false, false, false, false, false] rfl rfl (any_of HT_.out (by kernel_rfl)) (fun _ _ _ h => h) (Or.inl ⟨by rfl, ?_⟩) ?_ ?_
                          rotate_left
                          · intro w'
                            go_simp
                            with_reducible rfl
                          rotate_left
                          · simp only [Act.put, List.setIfInBounds_toArray, List.set_cons_zero, List.set_cons_succ, i64_w, i32_w]
                            rfl
                          refine pure_ (i := 5) (N := some 46) (v := ?_) (a' := ?_) #[true, true, true, true, true, true, false, true, true, true, true, false, false, false, false, false, false] rfl rfl (any_of HT_.out (by kernel_rfl)) (fun _ _ _ h => h) (Or.inl ⟨by rfl, ?_⟩) ?_ ?_
                          rotate_left
                          · intro w'
                            go_simp
                            with_reducible rfl
                          rotate_left
                          · simp only [Act.put, List.setIfInBounds_toArray, List.set_cons_zero, List.set_cons_succ, i64_w, i32_w]
                            rfl
                          refine take_ (i := 6) (N := some 47) (v := ?_) (a' := ?_) #[true, true, true, true, true, true, true, true, true, true, true, false, false, false, false, false, false] rfl rfl (take_ofW HT_.out HW_.out (by kernel_rfl)) (fun _ _ _ h => h) (Or.inl ⟨by rfl, ?_⟩) hHeld ?_ ?_
                          rotate_left
                          · rintro w' ⟨s0, s1, s2⟩
                            go_simp
                            with_reducible rfl
                          rotate_left
                          · simp only [Act.put, List.setIfInBounds_toArray, List.set_cons_zero, List.set_cons_succ, i64_w, i32_w]
                            rfl
                          refine take_ (i := 11) (N := some 52) (v := ?_) (a' := ?_) #[true, true, true, true, true, true, true, true, true, true, true, true, false, false, false, false, false] rfl rfl (take_ofW HT_.out HW_.out (by kernel_rfl)) (fun _ _ _ h => h) (Or.inl ⟨by rfl, ?_⟩) hHeld ?_ ?_
                          rotate_left
                          · rintro w' ⟨s0, s1, s2⟩
                            go_simp
                            with_reducible rfl
                          rotate_left
                          · simp only [Act.put, List.setIfInBounds_toArray, List.set_cons_zero, List.set_cons_succ, i64_w, i32_w]
                            rfl
                          refine pure_ (i := 12) (N := some 53) (v := ?_) (a' := ?_) #[true, true, true, true, true, true, true, true, true, true, true, true, true, false, false, false, false] rfl rfl (any_of HT_.out (by kernel_rfl)) (fun _ _ _ h => h) (Or.inl ⟨by rfl, ?_⟩) ?_ ?_
                          rotate_left
                          · intro w'
                            go_simp
                            with_reducible rfl
                          rotate_left
                          · simp only [Act.put, List.setIfInBounds_toArray, List.set_cons_zero, List.set_cons_succ, i64_w, i32_w]
                            rfl
                          refine pure_ (i := 13) (N := some 54) (v := ?_) (a' := ?_) #[true, true, true, true, true, true, true, true, true, true, true, true, true, true, false, false, false] rfl rfl (any_of HT_.out (by kernel_rfl)) (fun _ _ _ h => h) (Or.inl ⟨by rfl, ?_⟩) ?_ ?_
                          rotate_left
                          · intro w'
                            go_simp
                            with_reducible rfl
                          rotate_left
                          · simp only [Act.put, List.setIfInBounds_toArray, List.set_cons_zero, List.set_cons_succ, i64_w, i32_w]
                            rfl
                          refine pure_ (i := 14) (N := some 55) (v := ?_) (a' := ?_) #[true, true, true, true, true, true, true, true, true, true, true, true, true, true, true, false, false] rfl rfl (any_of HT_.out (by kernel_rfl)) (fun _ _ _ h => h) (Or.inl ⟨by rfl, ?_⟩) ?_ ?_
                          rotate_left
                          · intro w'
                            go_simp
                            with_reducible rfl
                          rotate_left
                          · simp only [Act.put, List.setIfInBounds_toArray, List.set_cons_zero, List.set_cons_succ, i64_w, i32_w]
                            rfl
                          refine pure_ (i := 15) (N := some 56) (v := ?_) (a' := ?_) #[true, true, true, true, true, true, true, true, true, true, true, true, true, true, true, true, false] rfl rfl (any_of HT_.out (by kernel_rfl)) (fun _ _ _ h => h) (Or.inl ⟨by rfl, ?_⟩) ?_ ?_
                          rotate_left
                          · intro w'
                            go_simp
                            with_reducible rfl
                          rotate_left
                          · simp only [Act.put, List.setIfInBounds_toArray, List.set_cons_zero, List.set_cons_succ, i64_w, i32_w]
                            rfl
                          refine last_ (i := 16) (N := none) #[true, true, true, true, true, true, true, true, true, true, true, true, true, true, true, true, true] rfl rfl (one_of HT_.out (by kernel_rfl)) (by decide) (fun K hK => ?_)
                          refine skip_ (w1 := ?_) (by rfl) rfl ?_ ?_
                          rotate_left
                          · go_simp
                            rfl
                          refine hK.out _ _ ?_
                          clear hK K
                          refine done_ (done_of HT_.out (by kernel_rfl)) ?_
                          have n0_ : Aside0 (Kd.R (Kd.int .u8) 5 (w43.setCell ⟨go36, ((ji30) : Int).toNat, none⟩ (.int .u8 (Go.bits .or .u8 (rd y444 (ji30)) (ji35)))) w.heap.size (fun _ => True) (.slice (some ⟨go36, 0, none⟩) y444.length co40) y448) := ⟨by (with_reducible repeat (first | apply Kd.R_alloc | apply Kd.R_drewN | apply Kd.R_drew)); exact HQ44.out⟩
                          have n1_ : Aside0 ((w43.setCell ⟨go36, ((ji30) : Int).toNat, none⟩ (.int .u8 (Go.bits .or .u8 (rd y444 (ji30)) (ji35)))).heap[gb438]? = some (.cells #[.slice (some ⟨go36, 0, none⟩) y444.length co40, .int .i64 x439001_2] 66 (0, 0))) := ⟨by (with_reducible repeat (first | refine blk_drewN ?_ _ | refine blk_drew ?_ | refine blk_alloc ?_ _)); refine blk_far ?_ (by have h_ := Kd.R_ne HO446.out BK438.out (by decide); intro e_; exact h_ (by rw [e_]; rfl)) _; (with_reducible repeat (first | refine blk_drewN ?_ _ | refine blk_drew ?_ | refine blk_alloc ?_ _)); exact BK438.out⟩
                          have n2_ : Aside0 ((w43.setCell ⟨go36, ((ji30) : Int).toNat, none⟩ (.int .u8 (Go.bits .or .u8 (rd y444 (ji30)) (ji35)))).heap[gb439]? = some (.cells #[.slice none 0 0, .int .i64 0] 66 (0, 0))) := ⟨by (with_reducible repeat (first | refine blk_drewN ?_ _ | refine blk_drew ?_ | refine blk_alloc ?_ _)); refine blk_far ?_ (by have h_ := Kd.R_ne HO446.out BK439.out (by decide); intro e_; exact h_ (by rw [e_]; rfl)) _; (with_reducible repeat (first | refine blk_drewN ?_ _ | refine blk_drew ?_ | refine blk_alloc ?_ _)); exact BK439.out⟩
                          have n3_ : Aside0 (Below w.heap.size w (w43.setCell ⟨go36, ((ji30) : Int).toNat, none⟩ (.int .u8 (Go.bits .or .u8 (rd y444 (ji30)) (ji35))))) := ⟨by repeat (first | (with_reducible first | exact HB.out | apply below_alloc | apply pw_below_drewN | apply below_drew1 | refine below_set ?_ GB36.out | refine below_set ?_ GE438.out | refine below_set ?_ GE439.out) | exact HB.out)⟩
                          (try clear HO446)
                          (try clear BK438)
                          (try clear BK439)
                          (try clear HB)
                          (try simp only [IntKind.wrap_u8, IntKind.wrap_u32])
                          (try simp only [show _ = ji35 from hji35w.2 (by omega)])
                          generalize (w43.setCell ⟨go36, ((ji30) : Int).toNat, none⟩ (.int .u8 (Go.bits .or .u8 (rd y444 (ji30)) (ji35)))) = w45 at n0_ n1_ n2_ n3_ ⊢
                          have HO446 := n0_
                          have BK438 := n1_
                          have BK439 := n2_
                          have HB := n3_
                          clear n0_ n1_ n2_ n3_
                          have hcz46_0 : w45.cell? ⟨gb438, 0, none⟩ = some (.slice (some ⟨go36, 0, none⟩) y444.length co40) := (blk_cell BK438.out 0).trans rfl
                          have hcz46_1 : w45.cell? ⟨gb438, 1, none⟩ = some (.int .i64 x439001_2) := (blk_cell BK438.out 1).trans rfl
                          have hfz46_0 := blk_frozen BK438.out 0
                          have hfz46_1 := blk_frozen BK438.out 1
                          try go_wp2
                          first | go_roundg k2 | (subst hji30; go_roundg k2)
                          case measure => have := HJ4.out; have := HK2.out; omega
                          case rel => exact ⟨(x1_2 / 2), (wrap64 (x30_2 + 1)), (y448), (wrap64 (x439001_2 + 1)), (.slice (some ⟨go36, 0, none⟩) y444.length co40), (by first | rfl | (simp; done) | (simp [*]; done)), (by first | rfl | (simp; done) | (simp [*]; done)), H', ⟨by have := HJ4.out; have := HK2.out; omega⟩, ⟨by (with_reducible repeat (first | apply Kd.R_alloc | apply Kd.R_drewN | apply Kd.R_drew)); exact Kd.R_mono (Kd.R_far (p := ⟨gb438, 1, none⟩) (Kd.R_types HO446.out BK438.out (by decide)) (fun _ hk => hk.2) (.int .i64 (wrap64 (x439001_2 + 1)))) (fun _ hk => trivial)⟩, ⟨by (with_reducible repeat (first | refine blk_drewN ?_ _ | refine blk_drew ?_ | refine blk_alloc ?_ _)); refine blk_put (cs := #[.slice (some ⟨go36, 0, none⟩) y444.length co40, .int .i64 x439001_2]) ?_ 1 _ rfl; (with_reducible repeat (first | refine blk_drewN ?_ _ | refine blk_drew ?_ | refine blk_alloc ?_ _)); exact BK438.out⟩, ⟨by (with_reducible repeat (first | refine blk_drewN ?_ _ | refine blk_drew ?_ | refine blk_alloc ?_ _)); refine blk_far ?_ NB439_438.out _; (with_reducible repeat (first | refine blk_drewN ?_ _ | refine blk_drew ?_ | refine blk_alloc ?_ _)); exact BK439.out⟩, ⟨by repeat (first | (with_reducible first | exact HB.out | apply below_alloc | apply pw_below_drewN | apply below_drew1 | refine below_set ?_ GE438.out | refine below_set ?_ GE439.out) | exact HB.out)⟩⟩
                        · rw [if_neg c34] at H
                          exact absurd H (by simp)
                      · rw [if_neg c32] at H
                        exact absurd H (by simp)
                    · rw [if_neg c31] at H
                      exact absurd H (by simp)
                  · rw [if_neg c29] at H
                    exact absurd H (by simp)
                · rw [if_neg c28] at H
                  have c28b0 : ((Int.tmod x439001_2 8) == 0) = false := beq_eq_false_iff_ne.mpr c28
                  have c28b1 : ((Int.tmod x439001_2 8) != 0) = true := bne_iff_ne.mpr c28
                  obtain ⟨ji47, hji47⟩ : ∃ j_ : Int, (wrap64 (Int.tdiv x439001_2 8)) = j_ := ⟨_, rfl⟩
                  replace H : (if 0 ≤ (ji47) then (if (ji47) < (x439000_2.length : Int) then (if 0 ≤ (Int.tmod x439001_2 8) then (bits_Put.l0 k2 (x1_2 / 2) a2 (wrap64 (x30_2 + 1)) (x439000_2.set ((ji47) : Int).toNat (Go.bits .or .u8 (rd x439000_2 (ji47)) (shl .u8 ((Go.bits .and .u64 x1_2 1) % 256) (Int.tmod x439001_2 8)))) (wrap64 (x439001_2 + 1))) else (none)) else (none)) else (none)) = some (r1, r2, r3) := by first | (rw [hji47] at H; exact H) | (simp only [hji47] at H ⊢; exact H)
                  have hji47w : (IntKind.i64.wrap (Int.tdiv x439001_2 8)) = ji47 := (i64_w _).trans hji47
                  by_cases c48 : 0 ≤ (ji47)
                  · rw [if_pos c48] at H
                    have c48b0 : decide (0 ≤ (ji47)) = true := decide_eq_true c48
                    clear c48
                    by_cases c49 : (ji47) < (x439000_2.length : Int)
                    · rw [if_pos c49] at H
                      have c49b0 : decide ((ji47) < (x439000_2.length : Int)) = true := decide_eq_true c49
                      clear c49
                      obtain ⟨ji50, hji50⟩ : ∃ j_ : Int, (Int.tmod x439001_2 8) = j_ := ⟨_, rfl⟩
                      replace H : (if 0 ≤ (ji50) then (bits_Put.l0 k2 (x1_2 / 2) a2 (wrap64 (x30_2 + 1)) (x439000_2.set ((ji47) : Int).toNat (Go.bits .or .u8 (rd x439000_2 (ji47)) (shl .u8 ((Go.bits .and .u64 x1_2 1) % 256) (ji50)))) (wrap64 (x439001_2 + 1))) else (none)) = some (r1, r2, r3) := by first | (rw [hji50] at H; exact H) | (simp only [hji50] at H ⊢; exact H)
                      have hji50b : ji50 ≤ 8 := by have h_ := Int.tmod_lt_of_pos x439001_2 (show (0 : Int) < 8 by decide); rw [hji50] at h_; omega
                      (try rw [hji50] at c28b0)
                      (try rw [hji50] at c28b1)
                      by_cases c51 : 0 ≤ (ji50)
                      · rw [if_pos c51] at H
                        have c51b0 := eq_true c51
                        have c51b1 : decide (0 ≤ (ji50)) = true := decide_eq_true c51
                        clear c51
                        obtain ⟨ji52, hji52⟩ : ∃ j_ : Int, (shl .u8 ((Go.bits .and .u64 x1_2 1) % 256) (ji50)) = j_ := ⟨_, rfl⟩
                        replace H : (bits_Put.l0 k2 (x1_2 / 2) a2 (wrap64 (x30_2 + 1)) (x439000_2.set ((ji47) : Int).toNat (Go.bits .or .u8 (rd x439000_2 (ji47)) (ji52))) (wrap64 (x439001_2 + 1))) = some (r1, r2, r3) := by first | (rw [hji52] at H; exact H) | (simp only [hji52] at H ⊢; exact H)
                        have hji52_ : (IntKind.u8.wrap (((Go.bits .and .u64 x1_2 1) % 256) * 2 ^ min (ji50).toNat 8)) = ji52 := hji52
                        have hji52z : (ji50) ≤ 8 → (IntKind.u8.wrap (((Go.bits .and .u64 x1_2 1) % 256) * 2 ^ (ji50).toNat)) = ji52 := shl_small hji52
                        have hji52y : (((Go.bits .and .u64 x1_2 1) % 256) * 2 ^ min (ji50).toNat 8 % 256) = ji52 := (IntKind.wrap_u8 _).symm.trans hji52_
                        have hji52x : (ji50) ≤ 8 → (((Go.bits .and .u64 x1_2 1) % 256) * 2 ^ (ji50).toNat % 256) = ji52 := fun h_ => (IntKind.wrap_u8 _).symm.trans (hji52z h_)
                        have hji52w : (((Go.bits .and .u64 x1_2 1) % 256) * 2 ^ min (ji50).toNat 8 % 256) = ji52 ∧ ((ji50) ≤ 8 → (((Go.bits .and .u64 x1_2 1) % 256) * 2 ^ (ji50).toNat % 256) = ji52) := ⟨hji52y, hji52x⟩
                        obtain ⟨y450, hy450⟩ : ∃ y_ : List Int, y_ = (x439000_2.set ((ji47) : Int).toNat (Go.bits .or .u8 (rd x439000_2 (ji47)) (ji52))) := ⟨_, rfl⟩
                        replace H : (bits_Put.l0 k2 (x1_2 / 2) a2 (wrap64 (x30_2 + 1)) y450 (wrap64 (x439001_2 + 1))) = some (r1, r2, r3) := by first | (rw [hy450]; with_reducible exact H) | (have H2_ := (Option.bind_some _ _).symm.trans H; rw [hy450]; with_reducible exact H2_) | (have H2_ := (Option.bind_some _ _).symm.trans H; with_reducible exact H2_) | with_reducible exact H | (rw [hy450]; exact H) | exact H
                        have Ny450 := Aside0.mk hy450
                        clear hy450
                        have H' := Aside0.mk H
                        clear H
                        have hnb54 := NB438_439.out
                        have hnc54 := NB439_438.out
                        have hcz55_0 : wr.cell? ⟨gb438, 0, none⟩ = some (u439000) := (blk_cell BK438.out 0).trans rfl
                        have hcz55_1 : wr.cell? ⟨gb438, 1, none⟩ = some (.int .i64 x439001_2) := (blk_cell BK438.out 1).trans rfl
                        have hfz55_0 := blk_frozen BK438.out 0
                        have hfz55_1 := blk_frozen BK438.out 1
                        try go_wp2
                        have n0_ := Aside0.mk (Kd.R_drew HO_439000.out)
                        have n1_ := Aside0.mk (blk_drew BK438.out)
                        have n2_ := Aside0.mk (blk_drew BK439.out)
                        have n3_ := Aside0.mk (below_drew1 HB.out)
                        clear HO_439000
                        clear BK438
                        clear BK439
                        clear HB
                        have HO_439000 := n0_
                        have BK438 := n1_
                        have BK439 := n2_
                        have HB := n3_
                        clear n0_ n1_ n2_ n3_
                        obtain ⟨Ao57, co57, eo57⟩ := Kd.R_slice HO_439000.out
                        (first | subst eo57 | (injection eo57 with f1_ f2_ f3_; have f4_ := f1_.symm; have f5_ := f3_.symm; clear f1_ f2_ f3_; subst f4_; subst f5_))
                        have p449 : 0 ≤ ((ji47) : Int) := of_decide_eq_true (by first | (with_reducible assumption) | assumption)
                        have q449 : (ji47) < (x439000_2.length : Int) := of_decide_eq_true (by first | (with_reducible assumption) | assumption)
                        obtain ⟨ad449, e449, hx449_0⟩ := Kd.at_int (Kd.R_reads' HO_439000.out).2.2 (ji47) p449 q449
                        cases e449
                        replace p449 := eq_true p449
                        replace q449 := eq_true q449
                        have p53 : 0 ≤ ((ji47) : Int) := of_decide_eq_true (by first | (with_reducible assumption) | assumption)
                        have q53 : ((ji47) : Int) < ((x439000_2.length : Int) : Int) := of_decide_eq_true (by first | (with_reducible assumption) | assumption)
                        obtain ⟨go53, co53, eo53, gb53, gl53, cl53, HG53⟩ := Kd.R_form HO_439000.out (by omega)
                        (first | cases eo53 | (injection eo53 with ea_ en_ ec_; (first | subst ea_ | (injection ea_ with ea_; subst ea_)); subst ec_; clear en_))
                        have GB53 := Aside0.mk gb53
                        have GG53 := Aside0.mk HG53
                        clear gb53 gl53 HG53
                        (first | simp only [add_plain] at hx449_0 | skip)
                        obtain ⟨hx53_0, hf53_0⟩ := Kd.R_celln 0 HO_439000.out ((ji47) : Int) p53 q53
                        replace p53 := eq_true p53
                        replace q53 := eq_true q53
                        have HP58 := Kd.R_putn HO_439000.out ((ji47) : Int) (Go.bits .or .u8 (rd x439000_2 (ji47)) (ji52))
                        rw [← Ny450.out] at HP58
                        have HQ58 := Aside0.mk HP58
                        clear HP58
                        refine start_ (n := 17) (S := fun w' => w'.cell? ⟨gb438, 0, none⟩ = some (.slice (some ⟨go53, 0, none⟩) x439000_2.length co57) ∧ w'.cell? ⟨gb438, 1, none⟩ = some (.int .i64 x439001_2) ∧ w'.cell? ⟨go53, ((ji47)).toNat, none⟩ = some (.int .u8 (rd x439000_2 (ji47)))) (ds := [16]) #[false, false, false, false, false, false, false, false, false, false, false, false, false, false, false, false, false] (by kernel_rfl) rfl rfl ⟨(blk_cell BK438.out 0).trans rfl, (blk_cell BK438.out 1).trans rfl, hx449_0⟩ (fun hHeld => ?_); refine with_tabW bits_Put.tab10 bits_Put.bits10 (fun HT_ HW_ => ?_)
                        generalize wr.drew = w56 at HO_439000 BK438 BK439 HB GG53 HQ58 hf53_0 hx449_0 hx53_0 hHeld ⊢
                        refine pure_ (i := 0) (N := some 41) (v := ?_) (a' := ?_) #[true, false, false, false, false, false, false, false, false, false, false, false, false, false, false, false, false] rfl rfl (any_of HT_.out (by kernel_rfl)) (fun _ _ _ h => h) (Or.inl ⟨by rfl, ?_⟩) ?_ ?_
                        rotate_left
                        · intro w'
                          go_simp
                          with_reducible rfl
                        rotate_left
                        · simp only [Act.put, List.setIfInBounds_toArray, List.set_cons_zero, List.set_cons_succ, i64_w, i32_w]
                          rfl
                        refine pure_ (i := 2) (N := some 43) (v := ?_) (a' := ?_) #[true, false, true, false, false, false, false, false, false, false, false, false, false, false, false, false, false] rfl rfl (any_of HT_.out (by kernel_rfl)) (fun _ _ _ h => h) (Or.inl ⟨by rfl, ?_⟩) ?_ ?_
                        rotate_left
                        · intro w'
                          go_simp
                          with_reducible rfl
                        rotate_left
                        · simp only [Act.put, List.setIfInBounds_toArray, List.set_cons_zero, List.set_cons_succ, i64_w, i32_w]
                          rfl
                        refine pure_ (i := 7) (N := some 48) (v := ?_) (a' := ?_) #[true, false, true, false, false, false, false, true, false, false, false, false, false, false, false, false, false] rfl rfl (any_of HT_.out (by kernel_rfl)) (fun _ _ _ h => h) (Or.inl ⟨by rfl, ?_⟩) ?_ ?_
                        rotate_left
                        · intro w'
                          go_simp
                          with_reducible rfl
                        rotate_left
                        · simp only [Act.put, List.setIfInBounds_toArray, List.set_cons_zero, List.set_cons_succ, i64_w, i32_w]
                          rfl
                        refine pure_ (i := 8) (N := some 49) (v := ?_) (a' := ?_) #[true, false, true, false, false, false, false, true, true, false, false, false, false, false, false, false, false] rfl rfl (any_of HT_.out (by kernel_rfl)) (fun _ _ _ h => h) (Or.inl ⟨by rfl, ?_⟩) ?_ ?_
                        rotate_left
                        · intro w'
                          go_simp
                          with_reducible rfl
                        rotate_left
                        · simp only [Act.put, List.setIfInBounds_toArray, List.set_cons_zero, List.set_cons_succ, i64_w, i32_w]
                          rfl
                        refine pure_ (i := 9) (N := some 50) (v := ?_) (a' := ?_) #[true, false, true, false, false, false, false, true, true, true, false, false, false, false, false, false, false] rfl rfl (any_of HT_.out (by kernel_rfl)) (fun _ _ _ h => h) (Or.inl ⟨by rfl, ?_⟩) ?_ ?_
                        rotate_left
                        · intro w'
                          go_simp
                          with_reducible rfl
                        rotate_left
                        · simp only [Act.put, List.setIfInBounds_toArray, List.set_cons_zero, List.set_cons_succ, i64_w, i32_w]
                          rfl
                        refine pure_ (i := 10) (N := some 51) (v := ?_) (a' := ?_) #[true, false, true, false, false, false, false, true, true, true, true, false, false, false, false, false, false] rfl rfl (any_of HT_.out (by kernel_rfl)) (fun _ _ _ h => h) (Or.inl ⟨by rfl, ?_⟩) ?_ ?_
                        rotate_left
                        · intro w'
                          go_simp
                          with_reducible rfl
                        rotate_left
                        · simp only [Act.put, List.setIfInBounds_toArray, List.set_cons_zero, List.set_cons_succ, i64_w, i32_w]
                          rfl
                        refine take_ (i := 1) (N := some 42) (v := ?_) (a' := ?_) #[true, true, true, false, false, false, false, true, true, true, true, false, false, false, false, false, false] rfl rfl (take_ofW HT_.out HW_.out (by kernel_rfl)) (fun _ _ _ h => h) (Or.inl ⟨by rfl, ?_⟩) hHeld ?_ ?_
                        rotate_left
                        · rintro w' ⟨s0, s1, s2⟩
                          go_simp
                          with_reducible rfl
                        rotate_left
                        · simp only [Act.put, List.setIfInBounds_toArray, List.set_cons_zero, List.set_cons_succ, i64_w, i32_w]
                          rfl
                        refine take_ (i := 3) (N := some 44) (v := ?_) (a' := ?_) #[true, true, true, true, false, false, false, true, true, true, true, false, false, false, false, false, false] rfl rfl (take_ofW HT_.out HW_.out (by kernel_rfl)) (fun _ _ _ h => h) (Or.inl ⟨by rfl, ?_⟩) hHeld ?_ ?_
                        rotate_left
                        · rintro w' ⟨s0, s1, s2⟩
                          go_simp
                          with_reducible rfl
                        rotate_left
                        · simp only [Act.put, List.setIfInBounds_toArray, List.set_cons_zero, List.set_cons_succ, i64_w, i32_w]
                          rfl
                        refine pure_ (i := 4) (N := some 45) (v := ?_) (a' := ?_) #[true, true, true, true, true, false, false, true, true, true, true, false, false, false, false, false, false] rfl rfl (any_of HT_.out (by kernel_rfl)) (fun _ _ _ h => h) (Or.inl ⟨by rfl, ?_⟩) ?_ ?_
                        rotate_left
                        · intro w'
                          go_simp
                          with_reducible rfl
                        rotate_left
                        · simp only [Act.put, List.setIfInBounds_toArray, List.set_cons_zero, List.set_cons_succ, i64_w, i32_w]
                          rfl
                        refine pure_ (i := 5) (N := some 46) (v := ?_) (a' := ?_) #[true, true, true, true, true, true, false, true, true, true, true, false, false, false, false, false, false] rfl rfl (any_of HT_.out (by kernel_rfl)) (fun _ _ _ h => h) (Or.inl ⟨by rfl, ?_⟩) ?_ ?_
                        rotate_left
                        · intro w'
                          go_simp
                          with_reducible rfl
                        rotate_left
                        · simp only [Act.put, List.setIfInBounds_toArray, List.set_cons_zero, List.set_cons_succ, i64_w, i32_w]
                          rfl
                        refine take_ (i := 6) (N := some 47) (v := ?_) (a' := ?_) #[true, true, true, true, true, true, true, true, true, true, true, false, false, false, false, false, false] rfl rfl (take_ofW HT_.out HW_.out (by kernel_rfl)) (fun _ _ _ h => h) (Or.inl ⟨by rfl, ?_⟩) hHeld ?_ ?_
                        rotate_left
                        · rintro w' ⟨s0, s1, s2⟩
                          go_simp
                          with_reducible rfl
                        rotate_left
                        · simp only [Act.put, List.setIfInBounds_toArray, List.set_cons_zero, List.set_cons_succ, i64_w, i32_w]
                          rfl
                        refine take_ (i := 11) (N := some 52) (v := ?_) (a' := ?_) #[true, true, true, true, true, true, true, true, true, true, true, true, false, false, false, false, false] rfl rfl (take_ofW HT_.out HW_.out (by kernel_rfl)) (fun _ _ _ h => h) (Or.inl ⟨by rfl, ?_⟩) hHeld ?_ ?_
                        rotate_left
                        · rintro w' ⟨s0, s1, s2⟩
                          go_simp
                          with_reducible rfl
                        rotate_left
                        · simp only [Act.put, List.setIfInBounds_toArray, List.set_cons_zero, List.set_cons_succ, i64_w, i32_w]
                          rfl
                        refine pure_ (i := 12) (N := some 53) (v := ?_) (a' := ?_) #[true, true, true, true, true, true, true, true, true, true, true, true, true, false, false, false, false] rfl rfl (any_of HT_.out (by kernel_rfl)) (fun _ _ _ h => h) (Or.inl ⟨by rfl, ?_⟩) ?_ ?_
                        rotate_left
                        · intro w'
                          go_simp
                          with_reducible rfl
                        rotate_left
                        · simp only [Act.put, List.setIfInBounds_toArray, List.set_cons_zero, List.set_cons_succ, i64_w, i32_w]
                          rfl
                        refine pure_ (i := 13) (N := some 54) (v := ?_) (a' := ?_) #[true, true, true, true, true, true, true, true, true, true, true, true, true, true, false, false, false] rfl rfl (any_of HT_.out (by kernel_rfl)) (fun _ _ _ h => h) (Or.inl ⟨by rfl, ?_⟩) ?_ ?_
                        rotate_left
                        · intro w'
                          go_simp
                          with_reducible rfl
                        rotate_left
                        · simp only [Act.put, List.setIfInBounds_toArray, List.set_cons_zero, List.set_cons_succ, i64_w, i32_w]
                          rfl
                        refine pure_ (i := 14) (N := some 55) (v := ?_) (a' := ?_) #[true, true, true, true, true, true, true, true, true, true, true, true, true, true, true, false, false] rfl rfl (any_of HT_.out (by kernel_rfl)) (fun _ _ _ h => h) (Or.inl ⟨by rfl, ?_⟩) ?_ ?_
                        rotate_left
                        · intro w'
                          go_simp
                          with_reducible rfl
                        rotate_left
                        · simp only [Act.put, List.setIfInBounds_toArray, List.set_cons_zero, List.set_cons_succ, i64_w, i32_w]
                          rfl
                        refine pure_ (i := 15) (N := some 56) (v := ?_) (a' := ?_) #[true, true, true, true, true, true, true, true, true, true, true, true, true, true, true, true, false] rfl rfl (any_of HT_.out (by kernel_rfl)) (fun _ _ _ h => h) (Or.inl ⟨by rfl, ?_⟩) ?_ ?_
                        rotate_left
                        · intro w'
                          go_simp
                          with_reducible rfl
                        rotate_left
                        · simp only [Act.put, List.setIfInBounds_toArray, List.set_cons_zero, List.set_cons_succ, i64_w, i32_w]
                          rfl
                        refine last_ (i := 16) (N := none) #[true, true, true, true, true, true, true, true, true, true, true, true, true, true, true, true, true] rfl rfl (one_of HT_.out (by kernel_rfl)) (by decide) (fun K hK => ?_)
                        refine skip_ (w1 := ?_) (by rfl) rfl ?_ ?_
                        rotate_left
                        · go_simp
                          rfl
                        refine hK.out _ _ ?_
                        clear hK K
                        refine done_ (done_of HT_.out (by kernel_rfl)) ?_
                        have n0_ : Aside0 (Kd.R (Kd.int .u8) 5 (w56.setCell ⟨go53, ((ji47) : Int).toNat, none⟩ (.int .u8 (Go.bits .or .u8 (rd x439000_2 (ji47)) (ji52)))) w.heap.size (fun _ => True) (.slice (some ⟨go53, 0, none⟩) x439000_2.length co57) y450) := ⟨by (with_reducible repeat (first | apply Kd.R_alloc | apply Kd.R_drewN | apply Kd.R_drew)); exact HQ58.out⟩
                        have n1_ : Aside0 ((w56.setCell ⟨go53, ((ji47) : Int).toNat, none⟩ (.int .u8 (Go.bits .or .u8 (rd x439000_2 (ji47)) (ji52)))).heap[gb438]? = some (.cells #[.slice (some ⟨go53, 0, none⟩) x439000_2.length co57, .int .i64 x439001_2] 66 (0, 0))) := ⟨by (with_reducible repeat (first | refine blk_drewN ?_ _ | refine blk_drew ?_ | refine blk_alloc ?_ _)); refine blk_far ?_ (by have h_ := Kd.R_ne HO_439000.out BK438.out (by decide); intro e_; exact h_ (by rw [e_]; rfl)) _; (with_reducible repeat (first | refine blk_drewN ?_ _ | refine blk_drew ?_ | refine blk_alloc ?_ _)); exact BK438.out⟩
                        have n2_ : Aside0 ((w56.setCell ⟨go53, ((ji47) : Int).toNat, none⟩ (.int .u8 (Go.bits .or .u8 (rd x439000_2 (ji47)) (ji52)))).heap[gb439]? = some (.cells #[.slice none 0 0, .int .i64 0] 66 (0, 0))) := ⟨by (with_reducible repeat (first | refine blk_drewN ?_ _ | refine blk_drew ?_ | refine blk_alloc ?_ _)); refine blk_far ?_ (by have h_ := Kd.R_ne HO_439000.out BK439.out (by decide); intro e_; exact h_ (by rw [e_]; rfl)) _; (with_reducible repeat (first | refine blk_drewN ?_ _ | refine blk_drew ?_ | refine blk_alloc ?_ _)); exact BK439.out⟩
                        have n3_ : Aside0 (Below w.heap.size w (w56.setCell ⟨go53, ((ji47) : Int).toNat, none⟩ (.int .u8 (Go.bits .or .u8 (rd x439000_2 (ji47)) (ji52))))) := ⟨by repeat (first | (with_reducible first | exact HB.out | apply below_alloc | apply pw_below_drewN | apply below_drew1 | refine below_set ?_ GB53.out | refine below_set ?_ GE438.out | refine below_set ?_ GE439.out) | exact HB.out)⟩
                        (try clear HO_439000)
                        (try clear BK438)
                        (try clear BK439)
                        (try clear HB)
                        (try simp only [IntKind.wrap_u8, IntKind.wrap_u32])
                        (try simp only [show _ = ji52 from hji52w.2 (by omega)])
                        generalize (w56.setCell ⟨go53, ((ji47) : Int).toNat, none⟩ (.int .u8 (Go.bits .or .u8 (rd x439000_2 (ji47)) (ji52)))) = w59 at n0_ n1_ n2_ n3_ ⊢
                        have HO_439000 := n0_
                        have BK438 := n1_
                        have BK439 := n2_
                        have HB := n3_
                        clear n0_ n1_ n2_ n3_
                        have hcz60_0 : w59.cell? ⟨gb438, 0, none⟩ = some (.slice (some ⟨go53, 0, none⟩) x439000_2.length co57) := (blk_cell BK438.out 0).trans rfl
                        have hcz60_1 : w59.cell? ⟨gb438, 1, none⟩ = some (.int .i64 x439001_2) := (blk_cell BK438.out 1).trans rfl
                        have hfz60_0 := blk_frozen BK438.out 0
                        have hfz60_1 := blk_frozen BK438.out 1
                        try go_wp2
                        first | go_roundg k2 | (subst hji47; go_roundg k2)
                        case measure => have := HJ4.out; have := HK2.out; omega
                        case rel => exact ⟨(x1_2 / 2), (wrap64 (x30_2 + 1)), (y450), (wrap64 (x439001_2 + 1)), (.slice (some ⟨go53, 0, none⟩) x439000_2.length co57), (by first | rfl | (simp; done) | (simp [*]; done)), (by first | rfl | (simp; done) | (simp [*]; done)), H', ⟨by have := HJ4.out; have := HK2.out; omega⟩, ⟨by (with_reducible repeat (first | apply Kd.R_alloc | apply Kd.R_drewN | apply Kd.R_drew)); exact Kd.R_mono (Kd.R_far (p := ⟨gb438, 1, none⟩) (Kd.R_types HO_439000.out BK438.out (by decide)) (fun _ hk => hk.2) (.int .i64 (wrap64 (x439001_2 + 1)))) (fun _ hk => trivial)⟩, ⟨by (with_reducible repeat (first | refine blk_drewN ?_ _ | refine blk_drew ?_ | refine blk_alloc ?_ _)); refine blk_put (cs := #[.slice (some ⟨go53, 0, none⟩) x439000_2.length co57, .int .i64 x439001_2]) ?_ 1 _ rfl; (with_reducible repeat (first | refine blk_drewN ?_ _ | refine blk_drew ?_ | refine blk_alloc ?_ _)); exact BK438.out⟩, ⟨by (with_reducible repeat (first | refine blk_drewN ?_ _ | refine blk_drew ?_ | refine blk_alloc ?_ _)); refine blk_far ?_ NB439_438.out _; (with_reducible repeat (first | refine blk_drewN ?_ _ | refine blk_drew ?_ | refine blk_alloc ?_ _)); exact BK439.out⟩, ⟨by repeat (first | (with_reducible first | exact HB.out | apply below_alloc | apply pw_below_drewN | apply below_drew1 | refine below_set ?_ GE438.out | refine below_set ?_ GE439.out) | exact HB.out)⟩⟩
                      · rw [if_neg c51] at H
                        exact absurd H (by simp)
                    · rw [if_neg c49] at H
                      exact absurd H (by simp)
                  · rw [if_neg c48] at H
                    exact absurd H (by simp)
              · rw [if_neg c27] at H
                have c27b0 : decide (x30_2 < a2) = false := decide_eq_false c27
                clear c27
                simp only [Option.some.injEq, Prod.mk.injEq] at H
                obtain ⟨rfl, rfl, rfl⟩ := H
                have hnb61 := NB438_439.out
                have hnc61 := NB439_438.out
                have hcz62_0 : wr.cell? ⟨gb438, 0, none⟩ = some (u439000) := (blk_cell BK438.out 0).trans rfl
                have hcz62_1 : wr.cell? ⟨gb438, 1, none⟩ = some (.int .i64 x439001_2) := (blk_cell BK438.out 1).trans rfl
                have hfz62_0 := blk_frozen BK438.out 0
                have hfz62_1 := blk_frozen BK438.out 1
                obtain ⟨Ao63, co63, eo63⟩ := Kd.R_slice HO_439000.out
                subst eo63
                have hcz64_0 : wr.cell? ⟨gb439, 0, none⟩ = some (.slice none 0 0) := (blk_cell BK439.out 0).trans rfl
                have hcz64_1 : wr.cell? ⟨gb439, 1, none⟩ = some (.int .i64 0) := (blk_cell BK439.out 1).trans rfl
                have hfz64_0 := blk_frozen BK439.out 0
                have hfz64_1 := blk_frozen BK439.out 1
                go_wp2
                refine bodyPost_ret (results_ct rfl _ _ gb439 66 #[.slice Ao63 x439000_2.length co63, .int .i64 x439001_2] (0, 0) _ rfl (by (with_reducible repeat (first | refine blk_drewN ?_ _ | refine blk_drew ?_ | refine blk_alloc ?_ _)); refine blk_put (cs := #[.slice Ao63 x439000_2.length co63, .int .i64 0]) ?_ 1 _ rfl; (with_reducible repeat (first | refine blk_drewN ?_ _ | refine blk_drew ?_ | refine blk_alloc ?_ _)); refine blk_put (cs := #[.slice none 0 0, .int .i64 0]) ?_ 0 _ rfl; (with_reducible repeat (first | refine blk_drewN ?_ _ | refine blk_drew ?_ | refine blk_alloc ?_ _)); exact BK439.out) Try.underlying66 rfl (by kernel_rfl)) rfl ?_
                exact ⟨_, by first | rfl | (simp [errW_none, errW_some] <;> rfl) | (simp [*, errW_none, errW_some] <;> rfl), by (with_reducible repeat (first | apply Kd.R_alloc | apply Kd.R_drewN | apply Kd.R_drew)); exact Kd.R_mono (Kd.R_far (p := ⟨gb439, 1, none⟩) (Kd.R_far (p := ⟨gb439, 0, none⟩) (Kd.R_types HO_439000.out BK439.out (by decide)) (fun _ hk => hk.2) (.slice Ao63 x439000_2.length co63)) (fun _ hk => hk.2) (.int .i64 x439001_2)) (fun _ hk => trivial), by repeat (first | (with_reducible first | exact HB.out | apply below_alloc | apply pw_below_drewN | apply below_drew1 | refine below_set ?_ GE438.out | refine below_set ?_ GE439.out) | exact HB.out)⟩

end Go.Proofs.Ytpdfdaoohknfoaa.P
