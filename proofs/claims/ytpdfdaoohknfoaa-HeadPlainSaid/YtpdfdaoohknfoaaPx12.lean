-- PRINTED by print.py (a twelfth state) out of the translation. Not trusted: Lean checks it.
import Derived.Test.YtpdfdaoohknfoaaPx0
import Derived.Test.YtpdfdaoohknfoaaPx5
import Derived.Test.YtpdfdaoohknfoaaPx8
import Derived.Test.YtpdfdaoohknfoaaPx9
namespace Go.Proofs.Ytpdfdaoohknfoaa.P
open Go.RowKit Go.Proofs.YtpdfdaoohknfoaaW.PrintWords Go.Proofs.YtpdfdaoohknfoaaW.PrintLast Go.Proofs.YtpdfdaoohknfoaaW.PrintMore
attribute [local go_sem] max2_int min2_int max_two min_two max_three min_three max_four min_four   -- for this text's walks alone
set_option linter.unusedVariables false
set_option linter.unusedSimpArgs false

/-! ### vhead_Read: function 25 -/
/-- numbers read by the eye -/
def vhead_Read.get (k : Nat) (l : List Int) (x n : Int) : Option (Int × Int) := (bits_Get.f k l x n).bind fun r => some (r.1, wrap64 r.2.1)
def vhead_Read.list (k : Nat) (l : List Int) : Nat → Int → List Int → Option (List Int × Int)
  | 0, x, out => some (out, x)
  | d + 1, x, out => (vhead_Read.get k l x 5).bind fun r => vhead_Read.list k l d r.1 (out ++ [r.2])
/-- nothing and an error -/
def vhead_Read.no (e : Int) : Option (Int × Int × List Int × List Int × Int) := some (0, 0, [], [], e)
def vhead_Read.f (k : Nat) (l0 : List Int) : Option (Int × Int × List Int × List Int × Int) :=
  if (l0.length : Int) < 41 then vhead_Read.no 4 else if (l0.length : Int) > 41 then vhead_Read.no 2 else
    (vhead_Read.get k l0 0 16).bind fun r1 => if r1.2 = 22099 then
      (vhead_Read.get k l0 r1.1 1).bind fun r2 => (vhead_Read.get k l0 r2.1 4).bind fun r3 => (vhead_Read.list k l0 45 r3.1 []).bind fun r4 => (vhead_Read.list k l0 16 r4.2 []).bind fun r5 =>
        (bits_Left.f l0 r5.2).bind fun m => (vhead_Read.get k l0 r5.2 m).bind fun r6 => if r6.2 = 0 then
          (vhead_Right.f k (wrap64 (r2.2 + 1)) r3.2 r4.1 r5.1).bind fun t => if t = true then some (wrap64 (r2.2 + 1), r3.2, r4.1, r5.1, 0) else vhead_Read.no 2
        else vhead_Read.no 2
    else vhead_Read.no 2
theorem vhead_Read.get_mono (k : Nat) (l : List Int) (x n : Int) : LeO (vhead_Read.get k l x n) (vhead_Read.get (k + 1) l x n) := LeO.bind (bits_Get.mono _ _ _ _) (fun _ => LeO.refl _)
theorem vhead_Read.list_mono (k : Nat) (l : List Int) : ∀ (d : Nat) (x : Int) (out : List Int), LeO (vhead_Read.list k l d x out) (vhead_Read.list (k + 1) l d x out)
  | 0, _, _ => LeO.refl _
  | d + 1, x, _ => LeO.bind (vhead_Read.get_mono k l x 5) (fun _ => vhead_Read.list_mono k l d _ _)
theorem vhead_Read.mono : ∀ a0 k, LeO (vhead_Read.f k a0) (vhead_Read.f (k + 1) a0) := by
  intro a0 k
  exact LeO.ite (LeO.refl _) (LeO.ite (LeO.refl _) (LeO.bind (vhead_Read.get_mono _ _ _ _) (fun _ => LeO.ite (LeO.bind (vhead_Read.get_mono _ _ _ _) (fun _ => LeO.bind (vhead_Read.get_mono _ _ _ _) (fun _ => LeO.bind (vhead_Read.list_mono _ _ _ _ _) (fun _ => LeO.bind (vhead_Read.list_mono _ _ _ _ _) (fun _ => LeO.bind (LeO.refl _) (fun _ => LeO.bind (vhead_Read.get_mono _ _ _ _) (fun _ => LeO.ite (LeO.bind (vhead_Right.mono _ _ _ _ _) (fun _ => LeO.refl _)) (LeO.refl _)))))))) (LeO.refl _))))
theorem vhead_Read.grown_set {w W : World} (hb : Below w.heap.size w W) (g i j : Nat) (u v : Value) : w.grownBy ((W.setCell ⟨g, i, none⟩ u).setCell ⟨g, j, none⟩ v) (some g) :=
  ⟨hb.os, hb.tape, hb.output, by simpa [World.setCell] using hb.size, fun k hk hne => by
    have hne' : k ≠ g := fun e => hne (by rw [e])
    exact (Below.heap_setCell _ ⟨g, j, none⟩ v k hne').trans ((Below.heap_setCell _ ⟨g, i, none⟩ u k hne').trans (hb.block k hk))⟩
theorem vhead_Read.grown_trans {a b c : World} {g : Nat} (h : a.grownBy b (some g)) (k : b.grownBy c (some g)) : a.grownBy c (some g) :=
  ⟨k.os.trans h.os, k.tape.trans h.tape, k.output.trans h.output, Nat.le_trans h.size k.size, fun i hi hne => (k.block i (Nat.lt_of_lt_of_le hi h.size) hne).trans (h.block i hi hne)⟩
theorem vhead_Read.grown_below {a b c : World} {g : Nat} (h : a.grownBy b (some g)) (k : Below a.heap.size b c) : a.grownBy c (some g) :=
  ⟨k.os.trans h.os, k.tape.trans h.tape, k.output.trans h.output, Nat.le_trans h.size k.size, fun i hi hne => (k.block i hi).trans (h.block i hi hne)⟩
set_option maxHeartbeats 8000000 in
set_option maxRecDepth 100000 in
theorem vhead_Read.get_calls (k g : Nat) (A0 : Option Addr) (c0 : Nat) (l : List Int) (x n r1 r2 : Int) (T : TypeId) (w : World) (hblk : w.heap[g]? = some (.cells #[.slice A0 l.length c0, .int .i64 x] T (0, 0))) (hC : Kd.C (Kd.int .u8) w A0 l.length l) (hc : l.length ≤ c0) (h : vhead_Read.get k l x n = some (r1, r2)) :
    Calls Try.prog 44 #[.pointer (some ⟨g, 0, none⟩), .int .i64 n] w fun e w' => e = .returned (.int .i64 r2) ∧ w'.heap[g]? = some (.cells #[.slice A0 l.length c0, .int .i64 r1] T (0, 0)) ∧ w.grownBy w' (some g) := by
  have hu77 := Try.underlying77
  have hu79 := Try.underlying79
  have HR := Aside0.mk hC
  have HC := Aside0.mk hc
  have HBL := Aside0.mk hblk
  clear hC hc
  unfold vhead_Read.get at h
  replace h := Option.bind_eq_some_iff.mp h
  obtain ⟨⟨t1, t2, t3⟩, A40, H⟩ := h
  have A4 := Aside0.mk A40
  clear A40
  simp only [Option.some.injEq, Prod.mk.injEq] at H
  obtain ⟨rfl, rfl⟩ := H
  have hcz_0 : w.cell? ⟨g, 0, none⟩ = some (.slice A0 l.length c0) := (blk_cell hblk 0).trans rfl
  have hcz_1 : w.cell? ⟨g, 1, none⟩ = some (.int .i64 x) := (blk_cell hblk 1).trans rfl
  clear hblk
  go_enter Try.func44, Try.ntmps44
  go_wp2_with (first
    | (go_at_call 55; (with_reducible refine (bits_Get.calls k _ _ l x n t1 t2 t3 _ ?side1 ?side2 A4.out).mono ?_); (case side1 => exact HR.out); (case side2 => exact HC.out); rintro e w8 ⟨rfl, hb⟩; have n2_ := Aside0.mk (blk_below HBL.out hb); have n3_ := Aside0.mk hb; clear HBL hcz_0 hcz_1; have HBL := n2_; have HB := n3_; clear n2_ n3_; clear hb)
    | ((with_reducible refine gate_dst (N := 5) rfl ?_); refine box_event ?hg (N := 5) ?hd (cs := #[.slice none 0 0, .int .i64 0]) (t := 77) ?hr ?_; (case hd => rfl); (case hg => rfl); (case hr => first | (go_simp; done) | (go_simp; rfl)); intro gb5 hg w9 hbox hb; have n1_ := Aside0.mk (below_step HB.out hb); have n2_ := Aside0.mk hbox; have n3_ := Aside0.mk ((by rw [hg]; exact (below_size HB.out)) : w.heap.size ≤ gb5); have n4_ := Aside0.mk (blk_below HBL.out hb); have n5_ := Aside0.mk ((by rw [hg]; exact Nat.ne_of_lt (blk_lt HBL.out)) : g ≠ gb5); clear HB HBL; have HB := n1_; have BK5 := n2_; have GE5 := n3_; have HBL := n4_; have NE := n5_; clear n1_ n2_ n3_ n4_ n5_; clear hb hbox hg; have hnb := NE.out; have hnc := NE.out.symm; have hcz_0 : w9.cell? ⟨g, 0, none⟩ = some (.slice A0 l.length c0) := (blk_cell HBL.out 0).trans rfl; have hcz_1 : w9.cell? ⟨g, 1, none⟩ = some (.int .i64 x) := (blk_cell HBL.out 1).trans rfl; have hcz5_0 : w9.cell? ⟨gb5, 0, none⟩ = some (.slice none 0 0) := (blk_cell BK5.out 0).trans rfl; have hcz5_1 : w9.cell? ⟨gb5, 1, none⟩ = some (.int .i64 0) := (blk_cell BK5.out 1).trans rfl; have hfz_0 := blk_frozen HBL.out 0; have hfz_1 := blk_frozen HBL.out 1; have hfz5_0 := blk_frozen BK5.out 0; have hfz5_1 := blk_frozen BK5.out 1))
  go_ret
  exact ⟨rfl, by refine blk_put (cs := #[.slice A0 l.length c0, .int .i64 x]) ?_ 1 _ rfl; refine blk_put (cs := #[.slice A0 l.length c0, .int .i64 x]) ?_ 0 _ rfl; refine blk_far ?_ NE.out _; refine blk_far ?_ NE.out _; exact HBL.out, vhead_Read.grown_set (below_set (below_set HB.out GE5.out) GE5.out) g 0 1 _ _⟩
set_option maxHeartbeats 8000000 in
set_option maxRecDepth 100000 in
theorem vhead_Read.list_calls (k g : Nat) (A0 : Option Addr) (c0 : Nat) (l : List Int) (x : Int) (n : Nat) (m : Int) (hm : m = (n : Int)) (r1 : List Int) (r2 : Int) (T : TypeId) (w0 w : World) (hblk : w.heap[g]? = some (.cells #[.slice A0 l.length c0, .int .i64 x] T (0, 0))) (hT : (3 : Nat) ≠ T) (hB0 : Below w0.heap.size w0 w) (hgb : w0.heap.size ≤ g) (hC : Kd.C (Kd.int .u8) w0 A0 l.length l) (hc : l.length ≤ c0) (hn : n ≤ 1000) (h : vhead_Read.list k l n x [] = some (r1, r2)) :
    Calls Try.prog 45 #[.pointer (some ⟨g, 0, none⟩), .int .i64 m] w fun e w' => ∃ v_ : Value, e = .returned v_ ∧ w'.heap[g]? = some (.cells #[.slice A0 l.length c0, .int .i64 r2] T (0, 0)) ∧ Kd.R (Kd.int .i64) 3 w' w.heap.size (fun _ => True) v_ r1 ∧ w.grownBy w' (some g) := by
  subst hm
  have HC0 := Aside0.mk hC
  have HC := Aside0.mk hc
  have HBL := Aside0.mk hblk
  have HB0 := Aside0.mk hB0
  have HGB := Aside0.mk hgb
  have HT := Aside0.mk hT
  have HN := Aside0.mk hn
  have HH := Aside0.mk h
  clear hC hc hblk hB0 hgb hT hn h
  go_enter Try.func45, Try.ntmps45
  go_wp2
  go_loopg [5, 7] n (fun d s5 s7 wr => ∃ (out : List Int) (x' : Int), out.length + d = n ∧ s7 = .int .i64 (out.length : Int) ∧ Aside0 (vhead_Read.list k l d x' out = some (r1, r2)) ∧ Aside0 (wr.heap[g]? = some (.cells #[.slice A0 l.length c0, .int .i64 x'] T (0, 0))) ∧ Aside0 (Kd.R (Kd.int .i64) 3 wr w.heap.size (fun _ => True) s5 out) ∧ Aside0 (w.grownBy wr (some g)))
  case atStart => exact ⟨[], x, by simp, rfl, HH, HBL, ⟨Kd.R_nil _ _ _ _ _⟩, ⟨World.grownBy.refl _ _⟩⟩
  case round =>
    obtain ⟨out, x', hj, rfl, HH2, HBL2, HR2, HG2⟩ := hrel
    cases gk with
    | zero =>
      have cjb : decide ((out.length : Int) < (n : Int)) = false := decide_eq_false (by omega)
      have H := HH2.out
      simp only [vhead_Read.list, Option.some.injEq, Prod.mk.injEq] at H
      obtain ⟨rfl, rfl⟩ := H
      go_wp2
      go_ret
      exact ⟨_, rfl, HBL2.out, HR2.out, HG2.out⟩
    | succ d =>
      have cjb : decide ((out.length : Int) < (n : Int)) = true := decide_eq_true (by omega)
      have H := HH2.out
      simp only [vhead_Read.list] at H
      replace H := Option.bind_eq_some_iff.mp H
      obtain ⟨⟨n1, b1⟩, A50, H⟩ := H
      have A5 := Aside0.mk A50
      have HN2 := Aside0.mk H
      have HJ := Aside0.mk hj
      clear A50 H HH2
      have HB2 := Aside0.mk (HB0.out.grown HG2.out (below_size HB0.out) (fun k_ hk => by cases hk; exact HGB.out))
      obtain ⟨Ao, co, eo⟩ := Kd.R_slice HR2.out
      subst eo
      go_wp2_with (first
        | (go_at_call 44; (with_reducible refine (vhead_Read.get_calls k g A0 c0 l x' 5 n1 b1 T _ HBL2.out (Kd.C_below HC0.out HB2.out) HC.out A5.out).mono ?_); rintro e w9 ⟨rfl, hblk_, hg_⟩; have n1_ := Aside0.mk hblk_; have n2_ := Aside0.mk (Kd.R_mono (Kd.R_grown (Kd.R_types HR2.out HBL2.out (by intro q hq; have := HT.out; simp [Kd.E, Kd.int, Kd.scalar] at hq; omega)) hg_ (fun k_ hk => by intro e; injection e with e; exact hk.2 e)) (fun _ hk => hk)); have n3_ := Aside0.mk (vhead_Read.grown_trans HG2.out hg_); clear HBL2 HR2 HG2 HB2; have HBL2 := n1_; have HR2 := n2_; have HG2 := n3_; clear n1_ n2_ n3_; clear hblk_ hg_)
        | ((with_reducible refine gate_builtin (b := .append) (xs := #[.tmp 9, .tmp 12]) rfl ?_); at_builtin; refine Kd.R_append (Kd.int .i64) (w0 := w9) w.heap.size rfl (.tmp 9) (.tmp 12) 22 3 (.int .i64 0) 8 rfl Try.underlying22 info3 rfl (by decide) (by omega) (.slice Ao out.length co) out b1 [.int .i64 b1] (fun k_ => k_ ≠ g) (fun _ => False) rfl rfl ?aP (fun _ hk => hk.elim) ?aF ?aO ?aB ?aS ?aL ?_; (case aP => exact rfl); (case aF => exact (fun k_ hk => Nat.ne_of_gt (Nat.lt_of_lt_of_le (blk_lt HBL2.out) hk))); (case aO => exact Kd.R_mono (Kd.R_types HR2.out HBL2.out (by intro q hq; have := HT.out; simp [Kd.E, Kd.int, Kd.scalar] at hq; omega)) (fun _ hk => hk.2)); (case aB => exact Below.refl _ _); (case aS => exact HG2.out.size); (case aL => have := HN.out; have := HJ.out; omega); intro v13 w12 ho hb hg hat; have n1_ := Aside0.mk (blk_grown HBL2.out hg (Kd.R_ne HR2.out HBL2.out HT.out)); have n2_ := Aside0.mk (Kd.R_mono ho (ok' := fun _ => True) (fun _ _ => trivial)); have n3_ := Aside0.mk (vhead_Read.grown_below HG2.out hb); clear HBL2 HR2 HG2; have HBL2 := n1_; have HR2 := n2_; have HG2 := n3_; clear n1_ n2_ n3_; clear ho hb hg hat))
      go_roundg d
      case measure => omega
      case rel => exact ⟨out ++ [b1], n1, by (have := HJ.out; simp; omega), by (have := HN.out; have := HJ.out; simp; unfold wrap64; omega), HN2, HBL2, HR2, HG2⟩
set_option maxHeartbeats 8000000 in
set_option maxRecDepth 100000 in
theorem vhead_Read.calls (k : Nat) (A0 : Option Addr) (c0 : Nat) (l0 : List Int) (r1 : Int) (r2 : Int) (r3 : List Int) (r4 : List Int) (r5 : Int) (w : World) (hr0 : Kd.C (Kd.int .u8) w A0 l0.length l0) (hc0 : l0.length ≤ c0) (h : vhead_Read.f k l0 = some (r1, r2, r3, r4, r5)) :
    Calls Try.prog 25 #[.slice A0 l0.length c0] w fun e w' => ∃ v2_ v3_ : Value, e = .returned (.tuple #[.agg #[.int .i64 r1, .int .i64 r2, v2_, v3_], .int .i64 r5]) ∧ Kd.R (Kd.int .i64) 3 w' w.heap.size (fun k_ => some k_ ≠ (v3_ : Value).ownBlock) v2_ r3 ∧ Kd.R (Kd.int .i64) 3 w' w.heap.size (fun k_ => some k_ ≠ (v2_ : Value).ownBlock) v3_ r4 ∧ Below w.heap.size w w' := by
  have hu24 := Try.underlying24
  have hu77 := Try.underlying77
  have hu79 := Try.underlying79
  have HR0 := Aside0.mk hr0
  have HC0 := Aside0.mk hc0
  clear hr0 hc0
  have HB := Aside0.mk (Below.refl w.heap.size w)
  unfold vhead_Read.f at h
  by_cases c1 : (l0.length : Int) < 41
  · rw [if_pos c1] at h
    have c1b0 : decide ((l0.length : Int) < 41) = true := decide_eq_true c1
    have c1b1 : decide (l0.length < 41) = true := decide_eq_true (by omega)
    clear c1
    simp only [vhead_Read.no, Option.some.injEq, Prod.mk.injEq] at h
    obtain ⟨rfl, rfl, rfl, rfl, rfl⟩ := h
    go_enter Try.func25, Try.ntmps25
    go_wp2_with (first | ((with_reducible refine gate_dst (N := 2) rfl ?_); refine box_event ?hg (N := 2) ?hd (cs := #[.int .i64 0, .int .i64 0, .slice none 0 0, .slice none 0 0]) (t := 24) ?hr ?_; (case hd => rfl); (case hg => rfl); (case hr => first | (go_simp; done) | (go_simp; rfl)); intro g2 hg w3 hbox hb; have m1_ := Aside0.mk (below_step HB.out hb); have m2_ := Aside0.mk hbox; have m3_ := Aside0.mk ((by rw [hg]; exact (below_size HB.out)) : w.heap.size ≤ g2); clear HB; have HB := m1_; have BKg2 := m2_; have GEg2 := m3_; clear m1_ m2_ m3_; clear hb hbox hg; have hczg2_0 : w3.cell? ⟨g2, 0, none⟩ = some (.int .i64 0) := (blk_cell BKg2.out 0).trans rfl; have hfzg2_0 := blk_frozen BKg2.out 0; have hczg2_1 : w3.cell? ⟨g2, 1, none⟩ = some (.int .i64 0) := (blk_cell BKg2.out 1).trans rfl; have hfzg2_1 := blk_frozen BKg2.out 1; have hczg2_2 : w3.cell? ⟨g2, 2, none⟩ = some (.slice none 0 0) := (blk_cell BKg2.out 2).trans rfl; have hfzg2_2 := blk_frozen BKg2.out 2; have hczg2_3 : w3.cell? ⟨g2, 3, none⟩ = some (.slice none 0 0) := (blk_cell BKg2.out 3).trans rfl; have hfzg2_3 := blk_frozen BKg2.out 3))
    refine bodyPost_ret (results_ct rfl _ _ g2 24 #[.int .i64 0, .int .i64 0, .slice none 0 0, .slice none 0 0] (0, 0) _ rfl (by (refine blk_put (cs := #[.int .i64 0, .int .i64 0, .slice none 0 0, .slice none 0 0]) ?_ 3 _ rfl; refine blk_put (cs := #[.int .i64 0, .int .i64 0, .slice none 0 0, .slice none 0 0]) ?_ 2 _ rfl; refine blk_put (cs := #[.int .i64 0, .int .i64 0, .slice none 0 0, .slice none 0 0]) ?_ 1 _ rfl; refine blk_put (cs := #[.int .i64 0, .int .i64 0, .slice none 0 0, .slice none 0 0]) ?_ 0 _ rfl; exact BKg2.out)) hu24 rfl (by kernel_rfl)) rfl ?_
    exact ⟨_, _, rfl, Kd.R_nil _ _ _ _ _, Kd.R_nil _ _ _ _ _, by repeat (first | exact HB.out | refine below_set ?_ GEg2.out)⟩
  · rw [if_neg c1] at h
    have c1b0 : decide ((l0.length : Int) < 41) = false := decide_eq_false c1
    have c1b1 : decide (l0.length < 41) = false := decide_eq_false (by omega)
    by_cases c2 : (l0.length : Int) > 41
    · rw [if_pos c2] at h
      have c2b0 : decide (41 < (l0.length : Int)) = true := decide_eq_true c2
      have c2b1 : decide (41 < l0.length) = true := decide_eq_true (by omega)
      clear c1 c2
      simp only [vhead_Read.no, Option.some.injEq, Prod.mk.injEq] at h
      obtain ⟨rfl, rfl, rfl, rfl, rfl⟩ := h
      go_enter Try.func25, Try.ntmps25
      go_upto_region 4 with (first | ((with_reducible refine gate_dst (N := 2) rfl ?_); refine box_event ?hg (N := 2) ?hd (cs := #[.int .i64 0, .int .i64 0, .slice none 0 0, .slice none 0 0]) (t := 24) ?hr ?_; (case hd => rfl); (case hg => rfl); (case hr => first | (go_simp; done) | (go_simp; rfl)); intro g2 hg w3 hbox hb; have m1_ := Aside0.mk (below_step HB.out hb); have m2_ := Aside0.mk hbox; have m3_ := Aside0.mk ((by rw [hg]; exact (below_size HB.out)) : w.heap.size ≤ g2); clear HB; have HB := m1_; have BKg2 := m2_; have GEg2 := m3_; clear m1_ m2_ m3_; clear hb hbox hg) | ((with_reducible refine gate_dst (N := 13) rfl ?_); refine box_event ?hg (N := 13) ?hd (cs := #[.slice A0 l0.length c0, .int .i64 0]) (t := 79) ?hr ?_; (case hd => rfl); (case hg => rfl); (case hr => first | (go_simp; done) | (go_simp; rfl)); intro ge hg w4 hbox hb; have m1_ := Aside0.mk (below_step HB.out hb); have m2_ := Aside0.mk hbox; have m3_ := Aside0.mk ((by rw [hg]; exact (below_size HB.out)) : w.heap.size ≤ ge); have og2_ := Aside0.mk (blk_below BKg2.out hb); have pg2_ := Aside0.mk ((by rw [hg]; exact Nat.ne_of_lt (blk_lt BKg2.out)) : g2 ≠ ge); clear HB BKg2; have HB := m1_; have BKge := m2_; have GEge := m3_; clear m1_ m2_ m3_; have BKg2 := og2_; have Ng2ge := pg2_; clear og2_ pg2_; clear hb hbox hg))
      have hczg2_0 : w4.cell? ⟨g2, 0, none⟩ = some (.int .i64 0) := (blk_cell BKg2.out 0).trans rfl
      have hfzg2_0 := blk_frozen BKg2.out 0
      have hczg2_1 : w4.cell? ⟨g2, 1, none⟩ = some (.int .i64 0) := (blk_cell BKg2.out 1).trans rfl
      have hfzg2_1 := blk_frozen BKg2.out 1
      have hczg2_2 : w4.cell? ⟨g2, 2, none⟩ = some (.slice none 0 0) := (blk_cell BKg2.out 2).trans rfl
      have hfzg2_2 := blk_frozen BKg2.out 2
      have hczg2_3 : w4.cell? ⟨g2, 3, none⟩ = some (.slice none 0 0) := (blk_cell BKg2.out 3).trans rfl
      have hfzg2_3 := blk_frozen BKg2.out 3
      go_wp2
      refine bodyPost_ret (results_ct rfl _ _ g2 24 #[.int .i64 0, .int .i64 0, .slice none 0 0, .slice none 0 0] (0, 0) _ rfl (by (refine blk_put (cs := #[.int .i64 0, .int .i64 0, .slice none 0 0, .slice none 0 0]) ?_ 3 _ rfl; refine blk_put (cs := #[.int .i64 0, .int .i64 0, .slice none 0 0, .slice none 0 0]) ?_ 2 _ rfl; refine blk_put (cs := #[.int .i64 0, .int .i64 0, .slice none 0 0, .slice none 0 0]) ?_ 1 _ rfl; refine blk_put (cs := #[.int .i64 0, .int .i64 0, .slice none 0 0, .slice none 0 0]) ?_ 0 _ rfl; exact BKg2.out)) hu24 rfl (by kernel_rfl)) rfl ?_
      exact ⟨_, _, rfl, Kd.R_nil _ _ _ _ _, Kd.R_nil _ _ _ _ _, by repeat (first | exact HB.out | refine below_set ?_ GEg2.out)⟩
    · rw [if_neg c2] at h
      have c2b0 : decide (41 < (l0.length : Int)) = false := decide_eq_false c2
      have c2b1 : decide (41 < l0.length) = false := decide_eq_false (by omega)
      clear c1 c2
      replace h := Option.bind_eq_some_iff.mp h
      obtain ⟨⟨n1, b1⟩, A10, h⟩ := h
      have A1 := Aside0.mk A10
      clear A10
      have HH := Aside0.mk h
      clear h
      go_enter Try.func25, Try.ntmps25
      go_upto_region 4 with (first | ((with_reducible refine gate_dst (N := 2) rfl ?_); refine box_event ?hg (N := 2) ?hd (cs := #[.int .i64 0, .int .i64 0, .slice none 0 0, .slice none 0 0]) (t := 24) ?hr ?_; (case hd => rfl); (case hg => rfl); (case hr => first | (go_simp; done) | (go_simp; rfl)); intro g2 hg w3 hbox hb; have m1_ := Aside0.mk (below_step HB.out hb); have m2_ := Aside0.mk hbox; have m3_ := Aside0.mk ((by rw [hg]; exact (below_size HB.out)) : w.heap.size ≤ g2); clear HB; have HB := m1_; have BKg2 := m2_; have GEg2 := m3_; clear m1_ m2_ m3_; clear hb hbox hg) | ((with_reducible refine gate_dst (N := 13) rfl ?_); refine box_event ?hg (N := 13) ?hd (cs := #[.slice A0 l0.length c0, .int .i64 0]) (t := 79) ?hr ?_; (case hd => rfl); (case hg => rfl); (case hr => first | (go_simp; done) | (go_simp; rfl)); intro ge hg w4 hbox hb; have m1_ := Aside0.mk (below_step HB.out hb); have m2_ := Aside0.mk hbox; have m3_ := Aside0.mk ((by rw [hg]; exact (below_size HB.out)) : w.heap.size ≤ ge); have og2_ := Aside0.mk (blk_below BKg2.out hb); have pg2_ := Aside0.mk ((by rw [hg]; exact Nat.ne_of_lt (blk_lt BKg2.out)) : g2 ≠ ge); clear HB BKg2; have HB := m1_; have BKge := m2_; have GEge := m3_; clear m1_ m2_ m3_; have BKg2 := og2_; have Ng2ge := pg2_; clear og2_ pg2_; clear hb hbox hg))
      have H := HH.out
      clear HH
      by_cases c3 : b1 = 22099
      · rw [if_pos c3] at H
        have c3b0 : (b1 == 22099) = true := beq_iff_eq.mpr c3
        have c3b1 : (b1 != 22099) = false := bne_eq_false_iff_eq.mpr c3
        clear c3
        replace H := Option.bind_eq_some_iff.mp H
        obtain ⟨⟨n2, b2⟩, A10, H⟩ := H
        have A2 := Aside0.mk A10
        clear A10
        replace H := Option.bind_eq_some_iff.mp H
        obtain ⟨⟨n3, b3⟩, A10, H⟩ := H
        have A3 := Aside0.mk A10
        clear A10
        replace H := Option.bind_eq_some_iff.mp H
        obtain ⟨⟨b4, n4⟩, A10, H⟩ := H
        have A4 := Aside0.mk A10
        clear A10
        replace H := Option.bind_eq_some_iff.mp H
        obtain ⟨⟨b5, n5⟩, A10, H⟩ := H
        have A5 := Aside0.mk A10
        clear A10
        replace H := Option.bind_eq_some_iff.mp H
        obtain ⟨m6, A10, H⟩ := H
        have A6 := Aside0.mk A10
        clear A10
        replace H := Option.bind_eq_some_iff.mp H
        obtain ⟨⟨n7, b7⟩, A10, H⟩ := H
        have A7 := Aside0.mk A10
        clear A10
        have HH := Aside0.mk H
        clear H
        go_upto_region 6 with (first | (go_at_call 44; (with_reducible refine (vhead_Read.get_calls k ge A0 c0 l0 0 16 n1 b1 79 _ BKge.out (Kd.C_below HR0.out HB.out) HC0.out A1.out).mono ?_); rintro e w5 ⟨rfl, hblk_, hg_⟩; have m1_ := Aside0.mk hblk_; have m2_ := Aside0.mk (HB.out.grown hg_ (below_size HB.out) (fun k_ hk => by cases hk; exact GEge.out)); have og2_ := Aside0.mk ((hg_.block g2 (blk_lt BKg2.out) (by intro e_; injection e_ with e_; exact Ng2ge.out e_)).trans BKg2.out); clear BKge HB BKg2; have BKge := m1_; have HB := m2_; clear m1_ m2_; have BKg2 := og2_; clear og2_; clear hblk_ hg_))
        go_upto_region 7 with (first | (go_at_call 44; (with_reducible refine (vhead_Read.get_calls k ge A0 c0 l0 n1 1 n2 b2 79 _ BKge.out (Kd.C_below HR0.out HB.out) HC0.out A2.out).mono ?_); rintro e w6 ⟨rfl, hblk_, hg_⟩; have m1_ := Aside0.mk hblk_; have m2_ := Aside0.mk (HB.out.grown hg_ (below_size HB.out) (fun k_ hk => by cases hk; exact GEge.out)); have og2_ := Aside0.mk ((hg_.block g2 (blk_lt BKg2.out) (by intro e_; injection e_ with e_; exact Ng2ge.out e_)).trans BKg2.out); clear BKge HB BKg2; have BKge := m1_; have HB := m2_; clear m1_ m2_; have BKg2 := og2_; clear og2_; clear hblk_ hg_) | ((with_reducible refine gate_dst (N := 5) rfl ?_); refine box_event ?hg (N := 5) ?hd (cs := #[.int .i64 0, .int .i64 0, .slice none 0 0, .slice none 0 0]) (t := 24) ?hr ?_; (case hd => rfl); (case hg => rfl); (case hr => first | (go_simp; done) | (go_simp; rfl)); intro gh hg w7 hbox hb; have m1_ := Aside0.mk (below_step HB.out hb); have m2_ := Aside0.mk hbox; have m3_ := Aside0.mk ((by rw [hg]; exact (below_size HB.out)) : w.heap.size ≤ gh); have og2_ := Aside0.mk (blk_below BKg2.out hb); have pg2_ := Aside0.mk ((by rw [hg]; exact Nat.ne_of_lt (blk_lt BKg2.out)) : g2 ≠ gh); have oge_ := Aside0.mk (blk_below BKge.out hb); have pge_ := Aside0.mk ((by rw [hg]; exact Nat.ne_of_lt (blk_lt BKge.out)) : ge ≠ gh); clear HB BKg2 BKge; have HB := m1_; have BKgh := m2_; have GEgh := m3_; clear m1_ m2_ m3_; have BKg2 := og2_; have Ng2gh := pg2_; clear og2_ pg2_; have BKge := oge_; have Ngegh := pge_; clear oge_ pge_; clear hb hbox hg; have Nghge := Aside0.mk Ngegh.out.symm; have hczgh_0 : w7.cell? ⟨gh, 0, none⟩ = some (.int .i64 0) := (blk_cell BKgh.out 0).trans rfl; have hfzgh_0 := blk_frozen BKgh.out 0; have hczgh_1 : w7.cell? ⟨gh, 1, none⟩ = some (.int .i64 0) := (blk_cell BKgh.out 1).trans rfl; have hfzgh_1 := blk_frozen BKgh.out 1; have hczgh_2 : w7.cell? ⟨gh, 2, none⟩ = some (.slice none 0 0) := (blk_cell BKgh.out 2).trans rfl; have hfzgh_2 := blk_frozen BKgh.out 2; have hczgh_3 : w7.cell? ⟨gh, 3, none⟩ = some (.slice none 0 0) := (blk_cell BKgh.out 3).trans rfl; have hfzgh_3 := blk_frozen BKgh.out 3))
        have m1_ := Aside0.mk (blk_put (cs := #[.int .i64 (wrap64 (b2 + 1)), .int .i64 0, .slice none 0 0, .slice none 0 0]) (cs' := #[.int .i64 (wrap64 (b2 + 1)), .int .i64 0, .slice none 0 0, .slice none 0 0]) (blk_put (cs := #[.int .i64 (wrap64 (b2 + 1)), .int .i64 0, .slice none 0 0, .slice none 0 0]) (cs' := #[.int .i64 (wrap64 (b2 + 1)), .int .i64 0, .slice none 0 0, .slice none 0 0]) (blk_put (cs := #[.int .i64 (wrap64 (b2 + 1)), .int .i64 0, .slice none 0 0, .slice none 0 0]) (cs' := #[.int .i64 (wrap64 (b2 + 1)), .int .i64 0, .slice none 0 0, .slice none 0 0]) (blk_put (cs := #[.int .i64 0, .int .i64 0, .slice none 0 0, .slice none 0 0]) (cs' := #[.int .i64 (wrap64 (b2 + 1)), .int .i64 0, .slice none 0 0, .slice none 0 0]) BKgh.out 0 (.int .i64 (wrap64 (b2 + 1))) rfl) 1 (.int .i64 0) rfl) 2 (.slice none 0 0) rfl) 3 (.slice none 0 0) rfl)
        have m2_ := Aside0.mk (below_set (j := 3) (v := .slice none 0 0) (below_set (j := 2) (v := .slice none 0 0) (below_set (j := 1) (v := .int .i64 0) (below_set (j := 0) (v := .int .i64 (wrap64 (b2 + 1))) HB.out GEgh.out) GEgh.out) GEgh.out) GEgh.out)
        have oge_ := Aside0.mk (blk_far (p := ⟨gh, 3, none⟩) (blk_far (p := ⟨gh, 2, none⟩) (blk_far (p := ⟨gh, 1, none⟩) (blk_far (p := ⟨gh, 0, none⟩) BKge.out Ngegh.out (.int .i64 (wrap64 (b2 + 1)))) Ngegh.out (.int .i64 0)) Ngegh.out (.slice none 0 0)) Ngegh.out (.slice none 0 0))
        have og2_ := Aside0.mk (blk_far (p := ⟨gh, 3, none⟩) (blk_far (p := ⟨gh, 2, none⟩) (blk_far (p := ⟨gh, 1, none⟩) (blk_far (p := ⟨gh, 0, none⟩) BKg2.out Ng2gh.out (.int .i64 (wrap64 (b2 + 1)))) Ng2gh.out (.int .i64 0)) Ng2gh.out (.slice none 0 0)) Ng2gh.out (.slice none 0 0))
        clear BKgh HB BKge BKg2
        have BKgh := m1_
        have HB := m2_
        have BKge := oge_
        have BKg2 := og2_
        clear m1_ m2_ oge_ og2_
        clear hczgh_0 hfzgh_0 hczgh_1 hfzgh_1 hczgh_2 hfzgh_2 hczgh_3 hfzgh_3
        generalize ((((w7.setCell ⟨gh, 0, none⟩ (.int .i64 (wrap64 (b2 + 1)))).setCell ⟨gh, 1, none⟩ (.int .i64 0)).setCell ⟨gh, 2, none⟩ (.slice none 0 0)).setCell ⟨gh, 3, none⟩ (.slice none 0 0)) = w8 at BKgh HB BKge BKg2 ⊢
        go_upto_region 8 with (first | (go_at_call 44; (with_reducible refine (vhead_Read.get_calls k ge A0 c0 l0 n2 4 n3 b3 79 _ BKge.out (Kd.C_below HR0.out HB.out) HC0.out A3.out).mono ?_); rintro e w9 ⟨rfl, hblk_, hg_⟩; have m1_ := Aside0.mk hblk_; have m2_ := Aside0.mk (HB.out.grown hg_ (below_size HB.out) (fun k_ hk => by cases hk; exact GEge.out)); have og2_ := Aside0.mk ((hg_.block g2 (blk_lt BKg2.out) (by intro e_; injection e_ with e_; exact Ng2ge.out e_)).trans BKg2.out); have ogh_ := Aside0.mk ((hg_.block gh (blk_lt BKgh.out) (by intro e_; injection e_ with e_; exact Nghge.out e_)).trans BKgh.out); clear BKge HB BKg2 BKgh; have BKge := m1_; have HB := m2_; clear m1_ m2_; have BKg2 := og2_; clear og2_; have BKgh := ogh_; clear ogh_; clear hblk_ hg_; have hczgh_0 : w9.cell? ⟨gh, 0, none⟩ = some (.int .i64 (wrap64 (b2 + 1))) := (blk_cell BKgh.out 0).trans rfl; have hfzgh_0 := blk_frozen BKgh.out 0; have hczgh_1 : w9.cell? ⟨gh, 1, none⟩ = some (.int .i64 0) := (blk_cell BKgh.out 1).trans rfl; have hfzgh_1 := blk_frozen BKgh.out 1; have hczgh_2 : w9.cell? ⟨gh, 2, none⟩ = some (.slice none 0 0) := (blk_cell BKgh.out 2).trans rfl; have hfzgh_2 := blk_frozen BKgh.out 2; have hczgh_3 : w9.cell? ⟨gh, 3, none⟩ = some (.slice none 0 0) := (blk_cell BKgh.out 3).trans rfl; have hfzgh_3 := blk_frozen BKgh.out 3))
        have m1_ := Aside0.mk (blk_put (cs := #[.int .i64 (wrap64 (b2 + 1)), .int .i64 0, .slice none 0 0, .slice none 0 0]) (cs' := #[.int .i64 (wrap64 (b2 + 1)), .int .i64 b3, .slice none 0 0, .slice none 0 0]) BKgh.out 1 (.int .i64 b3) rfl)
        have m2_ := Aside0.mk (below_set (j := 1) (v := .int .i64 b3) HB.out GEgh.out)
        have oge_ := Aside0.mk (blk_far (p := ⟨gh, 1, none⟩) BKge.out Ngegh.out (.int .i64 b3))
        have og2_ := Aside0.mk (blk_far (p := ⟨gh, 1, none⟩) BKg2.out Ng2gh.out (.int .i64 b3))
        clear BKgh HB BKge BKg2
        have BKgh := m1_
        have HB := m2_
        have BKge := oge_
        have BKg2 := og2_
        clear m1_ m2_ oge_ og2_
        clear hczgh_0 hfzgh_0 hczgh_1 hfzgh_1 hczgh_2 hfzgh_2 hczgh_3 hfzgh_3
        generalize (w9.setCell ⟨gh, 1, none⟩ (.int .i64 b3)) = w10 at BKgh HB BKge BKg2 ⊢
        go_upto_region 9 with (first | (go_at_call 45; (with_reducible refine (vhead_Read.list_calls k ge A0 c0 l0 n3 45 45 rfl b4 n4 79 w _ BKge.out (by decide) HB.out GEge.out HR0.out HC0.out (by decide) A4.out).mono ?_); rintro e w11 ⟨v4, rfl, hblk_, hR_, hg_⟩; obtain ⟨Ao4, co4, eo4⟩ := Kd.R_slice hR_; subst eo4; have m9_ := Aside0.mk (Kd.R_lower hR_ (below_size HB.out)); have m1_ := Aside0.mk hblk_; have m2_ := Aside0.mk (HB.out.grown hg_ (below_size HB.out) (fun k_ hk => by cases hk; exact GEge.out)); have og2_ := Aside0.mk ((hg_.block g2 (blk_lt BKg2.out) (by intro e_; injection e_ with e_; exact Ng2ge.out e_)).trans BKg2.out); have ogh_ := Aside0.mk ((hg_.block gh (blk_lt BKgh.out) (by intro e_; injection e_ with e_; exact Nghge.out e_)).trans BKgh.out); clear BKge HB BKg2 BKgh; have BKge := m1_; have HB := m2_; clear m1_ m2_; have BKg2 := og2_; clear og2_; have BKgh := ogh_; clear ogh_; clear hblk_ hg_; have HO4 := m9_; clear m9_; clear hR_; have hczgh_0 : w11.cell? ⟨gh, 0, none⟩ = some (.int .i64 (wrap64 (b2 + 1))) := (blk_cell BKgh.out 0).trans rfl; have hfzgh_0 := blk_frozen BKgh.out 0; have hczgh_1 : w11.cell? ⟨gh, 1, none⟩ = some (.int .i64 b3) := (blk_cell BKgh.out 1).trans rfl; have hfzgh_1 := blk_frozen BKgh.out 1; have hczgh_2 : w11.cell? ⟨gh, 2, none⟩ = some (.slice none 0 0) := (blk_cell BKgh.out 2).trans rfl; have hfzgh_2 := blk_frozen BKgh.out 2; have hczgh_3 : w11.cell? ⟨gh, 3, none⟩ = some (.slice none 0 0) := (blk_cell BKgh.out 3).trans rfl; have hfzgh_3 := blk_frozen BKgh.out 3))
        have m1_ := Aside0.mk (blk_put (cs := #[.int .i64 (wrap64 (b2 + 1)), .int .i64 b3, .slice none 0 0, .slice none 0 0]) (cs' := #[.int .i64 (wrap64 (b2 + 1)), .int .i64 b3, .slice Ao4 b4.length co4, .slice none 0 0]) BKgh.out 2 (.slice Ao4 b4.length co4) rfl)
        have m2_ := Aside0.mk (below_set (j := 2) (v := .slice Ao4 b4.length co4) HB.out GEgh.out)
        have oge_ := Aside0.mk (blk_far (p := ⟨gh, 2, none⟩) BKge.out Ngegh.out (.slice Ao4 b4.length co4))
        have og2_ := Aside0.mk (blk_far (p := ⟨gh, 2, none⟩) BKg2.out Ng2gh.out (.slice Ao4 b4.length co4))
        have qHO4_ := Aside0.mk (Kd.R_mono (Kd.R_far (p := ⟨gh, 2, none⟩) (Kd.R_types HO4.out BKgh.out (by decide)) (fun _ hk => hk.2) (.slice Ao4 b4.length co4)) (fun _ hk => hk.1))
        clear BKgh HB BKge BKg2 HO4
        have BKgh := m1_
        have HB := m2_
        have BKge := oge_
        have BKg2 := og2_
        have HO4 := qHO4_
        clear m1_ m2_ oge_ og2_ qHO4_
        clear hczgh_0 hfzgh_0 hczgh_1 hfzgh_1 hczgh_2 hfzgh_2 hczgh_3 hfzgh_3
        generalize (w11.setCell ⟨gh, 2, none⟩ (.slice Ao4 b4.length co4)) = w12 at BKgh HB BKge BKg2 HO4 ⊢
        go_upto_region 10 with (first | (go_at_call 45; (with_reducible refine (vhead_Read.list_calls k ge A0 c0 l0 n4 16 16 rfl b5 n5 79 w _ BKge.out (by decide) HB.out GEge.out HR0.out HC0.out (by decide) A5.out).mono ?_); rintro e w13 ⟨v5, rfl, hblk_, hR_, hg_⟩; obtain ⟨Ao5, co5, eo5⟩ := Kd.R_slice hR_; subst eo5; have m9_ := Aside0.mk (Kd.R_mono (Kd.R_lower (Kd.R_bound hR_) (below_size HB.out)) (ok' := fun k_ => some k_ ≠ (Value.slice Ao4 b4.length co4).ownBlock) (fun k_ hk => by intro e; have h1_ := Kd.R_lt HO4.out k_ e.symm; have h2_ := hk.2.1; omega)); have m8_ := Aside0.mk (Kd.R_mono (Kd.R_grown (Kd.R_types (Kd.R_bound HO4.out) BKge.out (by decide)) hg_ (fun k_ hk => by intro e; injection e with e; exact hk.2 e)) (ok' := fun k_ => some k_ ≠ (Value.slice Ao5 b5.length co5).ownBlock) (fun k_ hk => by intro e; have h1_ := Kd.R_base hR_ k_ e.symm; have h2_ := hk.1.2.2.1; omega)); clear HO4; have m1_ := Aside0.mk hblk_; have m2_ := Aside0.mk (HB.out.grown hg_ (below_size HB.out) (fun k_ hk => by cases hk; exact GEge.out)); have og2_ := Aside0.mk ((hg_.block g2 (blk_lt BKg2.out) (by intro e_; injection e_ with e_; exact Ng2ge.out e_)).trans BKg2.out); have ogh_ := Aside0.mk ((hg_.block gh (blk_lt BKgh.out) (by intro e_; injection e_ with e_; exact Nghge.out e_)).trans BKgh.out); clear BKge HB BKg2 BKgh; have BKge := m1_; have HB := m2_; clear m1_ m2_; have BKg2 := og2_; clear og2_; have BKgh := ogh_; clear ogh_; clear hblk_ hg_; have HO5 := m9_; have HO4 := m8_; clear m9_ m8_; clear hR_; have hczgh_0 : w13.cell? ⟨gh, 0, none⟩ = some (.int .i64 (wrap64 (b2 + 1))) := (blk_cell BKgh.out 0).trans rfl; have hfzgh_0 := blk_frozen BKgh.out 0; have hczgh_1 : w13.cell? ⟨gh, 1, none⟩ = some (.int .i64 b3) := (blk_cell BKgh.out 1).trans rfl; have hfzgh_1 := blk_frozen BKgh.out 1; have hczgh_2 : w13.cell? ⟨gh, 2, none⟩ = some (.slice Ao4 b4.length co4) := (blk_cell BKgh.out 2).trans rfl; have hfzgh_2 := blk_frozen BKgh.out 2; have hczgh_3 : w13.cell? ⟨gh, 3, none⟩ = some (.slice none 0 0) := (blk_cell BKgh.out 3).trans rfl; have hfzgh_3 := blk_frozen BKgh.out 3))
        have m1_ := Aside0.mk (blk_put (cs := #[.int .i64 (wrap64 (b2 + 1)), .int .i64 b3, .slice Ao4 b4.length co4, .slice none 0 0]) (cs' := #[.int .i64 (wrap64 (b2 + 1)), .int .i64 b3, .slice Ao4 b4.length co4, .slice Ao5 b5.length co5]) BKgh.out 3 (.slice Ao5 b5.length co5) rfl)
        have m2_ := Aside0.mk (below_set (j := 3) (v := .slice Ao5 b5.length co5) HB.out GEgh.out)
        have oge_ := Aside0.mk (blk_far (p := ⟨gh, 3, none⟩) BKge.out Ngegh.out (.slice Ao5 b5.length co5))
        have og2_ := Aside0.mk (blk_far (p := ⟨gh, 3, none⟩) BKg2.out Ng2gh.out (.slice Ao5 b5.length co5))
        have qHO4_ := Aside0.mk (Kd.R_mono (Kd.R_far (p := ⟨gh, 3, none⟩) (Kd.R_types HO4.out BKgh.out (by decide)) (fun _ hk => hk.2) (.slice Ao5 b5.length co5)) (fun _ hk => hk.1))
        have qHO5_ := Aside0.mk (Kd.R_mono (Kd.R_far (p := ⟨gh, 3, none⟩) (Kd.R_types HO5.out BKgh.out (by decide)) (fun _ hk => hk.2) (.slice Ao5 b5.length co5)) (fun _ hk => hk.1))
        clear BKgh HB BKge BKg2 HO4 HO5
        have BKgh := m1_
        have HB := m2_
        have BKge := oge_
        have BKg2 := og2_
        have HO4 := qHO4_
        have HO5 := qHO5_
        clear m1_ m2_ oge_ og2_ qHO4_ qHO5_
        clear hczgh_0 hfzgh_0 hczgh_1 hfzgh_1 hczgh_2 hfzgh_2 hczgh_3 hfzgh_3
        generalize (w13.setCell ⟨gh, 3, none⟩ (.slice Ao5 b5.length co5)) = w14 at BKgh HB BKge BKg2 HO4 HO5 ⊢
        have hczge_0 : w14.cell? ⟨ge, 0, none⟩ = some (.slice A0 l0.length c0) := (blk_cell BKge.out 0).trans rfl
        have hczge_1 : w14.cell? ⟨ge, 1, none⟩ = some (.int .i64 n5) := (blk_cell BKge.out 1).trans rfl
        have H := HH.out
        clear HH
        by_cases c7 : b7 = 0
        · rw [if_pos c7] at H
          have c7b0 : (b7 == 0) = true := beq_iff_eq.mpr c7
          have c7b1 : (b7 != 0) = false := bne_eq_false_iff_eq.mpr c7
          clear c7
          replace H := Option.bind_eq_some_iff.mp H
          obtain ⟨t, A10, H⟩ := H
          have A8 := Aside0.mk A10
          clear A10
          by_cases ct : t = true
          · subst ct
            rw [if_pos rfl] at H
            simp only [Option.some.injEq, Prod.mk.injEq] at H
            obtain ⟨rfl, rfl, rfl, rfl, rfl⟩ := H
            go_wp2_with (first | (go_at_call 46; (with_reducible refine (bits_Left.calls _ _ l0 n5 m6 _ ?side1 ?side2 A6.out).mono ?_); (case side1 => exact Kd.C_below HR0.out HB.out); (case side2 => exact HC0.out); rintro e w15 ⟨rfl, hb⟩; clear hczge_0 hczge_1; have m2_ := Aside0.mk (below_step HB.out hb); have og2_ := Aside0.mk (blk_below BKg2.out hb); have oge_ := Aside0.mk (blk_below BKge.out hb); have ogh_ := Aside0.mk (blk_below BKgh.out hb); have qHO4_ := Aside0.mk (Kd.R_below HO4.out hb); have qHO5_ := Aside0.mk (Kd.R_below HO5.out hb); clear HB BKg2 BKge BKgh HO4 HO5; have HB := m2_; clear m2_; have BKg2 := og2_; clear og2_; have BKge := oge_; clear oge_; have BKgh := ogh_; clear ogh_; have HO4 := qHO4_; clear qHO4_; have HO5 := qHO5_; clear qHO5_; clear hb) | (go_at_call 44; (with_reducible refine (vhead_Read.get_calls k ge A0 c0 l0 n5 m6 n7 b7 79 _ BKge.out (Kd.C_below HR0.out HB.out) HC0.out A7.out).mono ?_); rintro e w16 ⟨rfl, hblk_, hg_⟩; have m1_ := Aside0.mk hblk_; have m2_ := Aside0.mk (HB.out.grown hg_ (below_size HB.out) (fun k_ hk => by cases hk; exact GEge.out)); have og2_ := Aside0.mk ((hg_.block g2 (blk_lt BKg2.out) (by intro e_; injection e_ with e_; exact Ng2ge.out e_)).trans BKg2.out); have ogh_ := Aside0.mk ((hg_.block gh (blk_lt BKgh.out) (by intro e_; injection e_ with e_; exact Nghge.out e_)).trans BKgh.out); have qHO4_ := Aside0.mk (Kd.R_mono (Kd.R_grown (Kd.R_types HO4.out BKge.out (by decide)) hg_ (fun k_ hk => by intro e; injection e with e; exact hk.2 e)) (fun _ hk => hk.1)); have qHO5_ := Aside0.mk (Kd.R_mono (Kd.R_grown (Kd.R_types HO5.out BKge.out (by decide)) hg_ (fun k_ hk => by intro e; injection e with e; exact hk.2 e)) (fun _ hk => hk.1)); clear BKge HB BKg2 BKgh HO4 HO5; have BKge := m1_; have HB := m2_; clear m1_ m2_; have BKg2 := og2_; clear og2_; have BKgh := ogh_; clear ogh_; have HO4 := qHO4_; clear qHO4_; have HO5 := qHO5_; clear qHO5_; clear hblk_ hg_; have hczgh_0 : w16.cell? ⟨gh, 0, none⟩ = some (.int .i64 (wrap64 (b2 + 1))) := (blk_cell BKgh.out 0).trans rfl; have hfzgh_0 := blk_frozen BKgh.out 0; have hczgh_1 : w16.cell? ⟨gh, 1, none⟩ = some (.int .i64 b3) := (blk_cell BKgh.out 1).trans rfl; have hfzgh_1 := blk_frozen BKgh.out 1; have hczgh_2 : w16.cell? ⟨gh, 2, none⟩ = some (.slice Ao4 b4.length co4) := (blk_cell BKgh.out 2).trans rfl; have hfzgh_2 := blk_frozen BKgh.out 2; have hczgh_3 : w16.cell? ⟨gh, 3, none⟩ = some (.slice Ao5 b5.length co5) := (blk_cell BKgh.out 3).trans rfl; have hfzgh_3 := blk_frozen BKgh.out 3) | (go_at_call 17; (with_reducible refine (vhead_Right.calls k _ _ _ _ b4 _ _ b5 true _ ?s1 ?s2 ?s3 ?s4 A8.out).mono ?_); (case s1 => exact (Kd.R_reads' HO4.out).2.2); (case s2 => exact (Kd.R_reads' HO4.out).2.1); (case s3 => exact (Kd.R_reads' HO5.out).2.2); (case s4 => exact (Kd.R_reads' HO5.out).2.1); rintro e w17 ⟨rfl, hb⟩; clear hczgh_0 hfzgh_0 hczgh_1 hfzgh_1 hczgh_2 hfzgh_2 hczgh_3 hfzgh_3; have m2_ := Aside0.mk (below_step HB.out hb); have og2_ := Aside0.mk (blk_below BKg2.out hb); have oge_ := Aside0.mk (blk_below BKge.out hb); have ogh_ := Aside0.mk (blk_below BKgh.out hb); have qHO4_ := Aside0.mk (Kd.R_below HO4.out hb); have qHO5_ := Aside0.mk (Kd.R_below HO5.out hb); clear HB BKg2 BKge BKgh HO4 HO5; have HB := m2_; clear m2_; have BKg2 := og2_; clear og2_; have BKge := oge_; clear oge_; have BKgh := ogh_; clear ogh_; have HO4 := qHO4_; clear qHO4_; have HO5 := qHO5_; clear qHO5_; clear hb; have hczg2_0 : w17.cell? ⟨g2, 0, none⟩ = some (.int .i64 0) := (blk_cell BKg2.out 0).trans rfl; have hfzg2_0 := blk_frozen BKg2.out 0; have hczg2_1 : w17.cell? ⟨g2, 1, none⟩ = some (.int .i64 0) := (blk_cell BKg2.out 1).trans rfl; have hfzg2_1 := blk_frozen BKg2.out 1; have hczg2_2 : w17.cell? ⟨g2, 2, none⟩ = some (.slice none 0 0) := (blk_cell BKg2.out 2).trans rfl; have hfzg2_2 := blk_frozen BKg2.out 2; have hczg2_3 : w17.cell? ⟨g2, 3, none⟩ = some (.slice none 0 0) := (blk_cell BKg2.out 3).trans rfl; have hfzg2_3 := blk_frozen BKg2.out 3; have hczgh_0 : w17.cell? ⟨gh, 0, none⟩ = some (.int .i64 (wrap64 (b2 + 1))) := (blk_cell BKgh.out 0).trans rfl; have hfzgh_0 := blk_frozen BKgh.out 0; have hczgh_1 : w17.cell? ⟨gh, 1, none⟩ = some (.int .i64 b3) := (blk_cell BKgh.out 1).trans rfl; have hfzgh_1 := blk_frozen BKgh.out 1; have hczgh_2 : w17.cell? ⟨gh, 2, none⟩ = some (.slice Ao4 b4.length co4) := (blk_cell BKgh.out 2).trans rfl; have hfzgh_2 := blk_frozen BKgh.out 2; have hczgh_3 : w17.cell? ⟨gh, 3, none⟩ = some (.slice Ao5 b5.length co5) := (blk_cell BKgh.out 3).trans rfl; have hfzgh_3 := blk_frozen BKgh.out 3))
            refine bodyPost_ret (results_ct rfl _ _ g2 24 #[.int .i64 (wrap64 (b2 + 1)), .int .i64 b3, .slice Ao4 b4.length co4, .slice Ao5 b5.length co5] (0, 0) _ rfl (by (refine blk_put (cs := #[.int .i64 (wrap64 (b2 + 1)), .int .i64 b3, .slice Ao4 b4.length co4, .slice none 0 0]) ?_ 3 _ rfl; refine blk_put (cs := #[.int .i64 (wrap64 (b2 + 1)), .int .i64 b3, .slice none 0 0, .slice none 0 0]) ?_ 2 _ rfl; refine blk_put (cs := #[.int .i64 (wrap64 (b2 + 1)), .int .i64 0, .slice none 0 0, .slice none 0 0]) ?_ 1 _ rfl; refine blk_put (cs := #[.int .i64 0, .int .i64 0, .slice none 0 0, .slice none 0 0]) ?_ 0 _ rfl; exact BKg2.out)) hu24 rfl (by kernel_rfl)) rfl ?_
            exact ⟨_, _, rfl, Kd.R_mono (Kd.R_far (p := ⟨g2, 3, none⟩) (Kd.R_far (p := ⟨g2, 2, none⟩) (Kd.R_far (p := ⟨g2, 1, none⟩) (Kd.R_far (p := ⟨g2, 0, none⟩) (Kd.R_types HO4.out BKg2.out (by decide)) (fun _ hk => hk.2) (.int .i64 (wrap64 (b2 + 1)))) (fun _ hk => hk.2) (.int .i64 b3)) (fun _ hk => hk.2) (.slice Ao4 b4.length co4)) (fun _ hk => hk.2) (.slice Ao5 b5.length co5)) (fun _ hk => hk.1), Kd.R_mono (Kd.R_far (p := ⟨g2, 3, none⟩) (Kd.R_far (p := ⟨g2, 2, none⟩) (Kd.R_far (p := ⟨g2, 1, none⟩) (Kd.R_far (p := ⟨g2, 0, none⟩) (Kd.R_types HO5.out BKg2.out (by decide)) (fun _ hk => hk.2) (.int .i64 (wrap64 (b2 + 1)))) (fun _ hk => hk.2) (.int .i64 b3)) (fun _ hk => hk.2) (.slice Ao4 b4.length co4)) (fun _ hk => hk.2) (.slice Ao5 b5.length co5)) (fun _ hk => hk.1), by repeat (first | exact HB.out | refine below_set ?_ GEg2.out)⟩
          · replace ct := Bool.eq_false_iff.mpr ct
            subst ct
            rw [if_neg (by decide)] at H
            simp only [vhead_Read.no, Option.some.injEq, Prod.mk.injEq] at H
            obtain ⟨rfl, rfl, rfl, rfl, rfl⟩ := H
            go_wp2_with (first | (go_at_call 46; (with_reducible refine (bits_Left.calls _ _ l0 n5 m6 _ ?side1 ?side2 A6.out).mono ?_); (case side1 => exact Kd.C_below HR0.out HB.out); (case side2 => exact HC0.out); rintro e w15 ⟨rfl, hb⟩; clear hczge_0 hczge_1; have m2_ := Aside0.mk (below_step HB.out hb); have og2_ := Aside0.mk (blk_below BKg2.out hb); have oge_ := Aside0.mk (blk_below BKge.out hb); have ogh_ := Aside0.mk (blk_below BKgh.out hb); have qHO4_ := Aside0.mk (Kd.R_below HO4.out hb); have qHO5_ := Aside0.mk (Kd.R_below HO5.out hb); clear HB BKg2 BKge BKgh HO4 HO5; have HB := m2_; clear m2_; have BKg2 := og2_; clear og2_; have BKge := oge_; clear oge_; have BKgh := ogh_; clear ogh_; have HO4 := qHO4_; clear qHO4_; have HO5 := qHO5_; clear qHO5_; clear hb) | (go_at_call 44; (with_reducible refine (vhead_Read.get_calls k ge A0 c0 l0 n5 m6 n7 b7 79 _ BKge.out (Kd.C_below HR0.out HB.out) HC0.out A7.out).mono ?_); rintro e w16 ⟨rfl, hblk_, hg_⟩; have m1_ := Aside0.mk hblk_; have m2_ := Aside0.mk (HB.out.grown hg_ (below_size HB.out) (fun k_ hk => by cases hk; exact GEge.out)); have og2_ := Aside0.mk ((hg_.block g2 (blk_lt BKg2.out) (by intro e_; injection e_ with e_; exact Ng2ge.out e_)).trans BKg2.out); have ogh_ := Aside0.mk ((hg_.block gh (blk_lt BKgh.out) (by intro e_; injection e_ with e_; exact Nghge.out e_)).trans BKgh.out); have qHO4_ := Aside0.mk (Kd.R_mono (Kd.R_grown (Kd.R_types HO4.out BKge.out (by decide)) hg_ (fun k_ hk => by intro e; injection e with e; exact hk.2 e)) (fun _ hk => hk.1)); have qHO5_ := Aside0.mk (Kd.R_mono (Kd.R_grown (Kd.R_types HO5.out BKge.out (by decide)) hg_ (fun k_ hk => by intro e; injection e with e; exact hk.2 e)) (fun _ hk => hk.1)); clear BKge HB BKg2 BKgh HO4 HO5; have BKge := m1_; have HB := m2_; clear m1_ m2_; have BKg2 := og2_; clear og2_; have BKgh := ogh_; clear ogh_; have HO4 := qHO4_; clear qHO4_; have HO5 := qHO5_; clear qHO5_; clear hblk_ hg_; have hczgh_0 : w16.cell? ⟨gh, 0, none⟩ = some (.int .i64 (wrap64 (b2 + 1))) := (blk_cell BKgh.out 0).trans rfl; have hfzgh_0 := blk_frozen BKgh.out 0; have hczgh_1 : w16.cell? ⟨gh, 1, none⟩ = some (.int .i64 b3) := (blk_cell BKgh.out 1).trans rfl; have hfzgh_1 := blk_frozen BKgh.out 1; have hczgh_2 : w16.cell? ⟨gh, 2, none⟩ = some (.slice Ao4 b4.length co4) := (blk_cell BKgh.out 2).trans rfl; have hfzgh_2 := blk_frozen BKgh.out 2; have hczgh_3 : w16.cell? ⟨gh, 3, none⟩ = some (.slice Ao5 b5.length co5) := (blk_cell BKgh.out 3).trans rfl; have hfzgh_3 := blk_frozen BKgh.out 3) | (go_at_call 17; (with_reducible refine (vhead_Right.calls k _ _ _ _ b4 _ _ b5 false _ ?s1 ?s2 ?s3 ?s4 A8.out).mono ?_); (case s1 => exact (Kd.R_reads' HO4.out).2.2); (case s2 => exact (Kd.R_reads' HO4.out).2.1); (case s3 => exact (Kd.R_reads' HO5.out).2.2); (case s4 => exact (Kd.R_reads' HO5.out).2.1); rintro e w17 ⟨rfl, hb⟩; clear hczgh_0 hfzgh_0 hczgh_1 hfzgh_1 hczgh_2 hfzgh_2 hczgh_3 hfzgh_3; have m2_ := Aside0.mk (below_step HB.out hb); have og2_ := Aside0.mk (blk_below BKg2.out hb); have oge_ := Aside0.mk (blk_below BKge.out hb); have ogh_ := Aside0.mk (blk_below BKgh.out hb); have qHO4_ := Aside0.mk (Kd.R_below HO4.out hb); have qHO5_ := Aside0.mk (Kd.R_below HO5.out hb); clear HB BKg2 BKge BKgh HO4 HO5; have HB := m2_; clear m2_; have BKg2 := og2_; clear og2_; have BKge := oge_; clear oge_; have BKgh := ogh_; clear ogh_; have HO4 := qHO4_; clear qHO4_; have HO5 := qHO5_; clear qHO5_; clear hb; have hczg2_0 : w17.cell? ⟨g2, 0, none⟩ = some (.int .i64 0) := (blk_cell BKg2.out 0).trans rfl; have hfzg2_0 := blk_frozen BKg2.out 0; have hczg2_1 : w17.cell? ⟨g2, 1, none⟩ = some (.int .i64 0) := (blk_cell BKg2.out 1).trans rfl; have hfzg2_1 := blk_frozen BKg2.out 1; have hczg2_2 : w17.cell? ⟨g2, 2, none⟩ = some (.slice none 0 0) := (blk_cell BKg2.out 2).trans rfl; have hfzg2_2 := blk_frozen BKg2.out 2; have hczg2_3 : w17.cell? ⟨g2, 3, none⟩ = some (.slice none 0 0) := (blk_cell BKg2.out 3).trans rfl; have hfzg2_3 := blk_frozen BKg2.out 3))
            refine bodyPost_ret (results_ct rfl _ _ g2 24 #[.int .i64 0, .int .i64 0, .slice none 0 0, .slice none 0 0] (0, 0) _ rfl (by (refine blk_put (cs := #[.int .i64 0, .int .i64 0, .slice none 0 0, .slice none 0 0]) ?_ 3 _ rfl; refine blk_put (cs := #[.int .i64 0, .int .i64 0, .slice none 0 0, .slice none 0 0]) ?_ 2 _ rfl; refine blk_put (cs := #[.int .i64 0, .int .i64 0, .slice none 0 0, .slice none 0 0]) ?_ 1 _ rfl; refine blk_put (cs := #[.int .i64 0, .int .i64 0, .slice none 0 0, .slice none 0 0]) ?_ 0 _ rfl; exact BKg2.out)) hu24 rfl (by kernel_rfl)) rfl ?_
            exact ⟨_, _, rfl, Kd.R_nil _ _ _ _ _, Kd.R_nil _ _ _ _ _, by repeat (first | exact HB.out | refine below_set ?_ GEg2.out)⟩
        · rw [if_neg c7] at H
          have c7b0 : (b7 == 0) = false := beq_eq_false_iff_ne.mpr c7
          have c7b1 : (b7 != 0) = true := bne_iff_ne.mpr c7
          simp only [vhead_Read.no, Option.some.injEq, Prod.mk.injEq] at H
          obtain ⟨rfl, rfl, rfl, rfl, rfl⟩ := H
          go_wp2_with (first | (go_at_call 46; (with_reducible refine (bits_Left.calls _ _ l0 n5 m6 _ ?side1 ?side2 A6.out).mono ?_); (case side1 => exact Kd.C_below HR0.out HB.out); (case side2 => exact HC0.out); rintro e w15 ⟨rfl, hb⟩; clear hczge_0 hczge_1; have m2_ := Aside0.mk (below_step HB.out hb); have og2_ := Aside0.mk (blk_below BKg2.out hb); have oge_ := Aside0.mk (blk_below BKge.out hb); have ogh_ := Aside0.mk (blk_below BKgh.out hb); have qHO4_ := Aside0.mk (Kd.R_below HO4.out hb); have qHO5_ := Aside0.mk (Kd.R_below HO5.out hb); clear HB BKg2 BKge BKgh HO4 HO5; have HB := m2_; clear m2_; have BKg2 := og2_; clear og2_; have BKge := oge_; clear oge_; have BKgh := ogh_; clear ogh_; have HO4 := qHO4_; clear qHO4_; have HO5 := qHO5_; clear qHO5_; clear hb) | (go_at_call 44; (with_reducible refine (vhead_Read.get_calls k ge A0 c0 l0 n5 m6 n7 b7 79 _ BKge.out (Kd.C_below HR0.out HB.out) HC0.out A7.out).mono ?_); rintro e w16 ⟨rfl, hblk_, hg_⟩; have m1_ := Aside0.mk hblk_; have m2_ := Aside0.mk (HB.out.grown hg_ (below_size HB.out) (fun k_ hk => by cases hk; exact GEge.out)); have og2_ := Aside0.mk ((hg_.block g2 (blk_lt BKg2.out) (by intro e_; injection e_ with e_; exact Ng2ge.out e_)).trans BKg2.out); clear BKge HB BKg2; have BKge := m1_; have HB := m2_; clear m1_ m2_; have BKg2 := og2_; clear og2_; clear hblk_ hg_; have hczg2_0 : w16.cell? ⟨g2, 0, none⟩ = some (.int .i64 0) := (blk_cell BKg2.out 0).trans rfl; have hfzg2_0 := blk_frozen BKg2.out 0; have hczg2_1 : w16.cell? ⟨g2, 1, none⟩ = some (.int .i64 0) := (blk_cell BKg2.out 1).trans rfl; have hfzg2_1 := blk_frozen BKg2.out 1; have hczg2_2 : w16.cell? ⟨g2, 2, none⟩ = some (.slice none 0 0) := (blk_cell BKg2.out 2).trans rfl; have hfzg2_2 := blk_frozen BKg2.out 2; have hczg2_3 : w16.cell? ⟨g2, 3, none⟩ = some (.slice none 0 0) := (blk_cell BKg2.out 3).trans rfl; have hfzg2_3 := blk_frozen BKg2.out 3))
          refine bodyPost_ret (results_ct rfl _ _ g2 24 #[.int .i64 0, .int .i64 0, .slice none 0 0, .slice none 0 0] (0, 0) _ rfl (by (refine blk_put (cs := #[.int .i64 0, .int .i64 0, .slice none 0 0, .slice none 0 0]) ?_ 3 _ rfl; refine blk_put (cs := #[.int .i64 0, .int .i64 0, .slice none 0 0, .slice none 0 0]) ?_ 2 _ rfl; refine blk_put (cs := #[.int .i64 0, .int .i64 0, .slice none 0 0, .slice none 0 0]) ?_ 1 _ rfl; refine blk_put (cs := #[.int .i64 0, .int .i64 0, .slice none 0 0, .slice none 0 0]) ?_ 0 _ rfl; exact BKg2.out)) hu24 rfl (by kernel_rfl)) rfl ?_
          exact ⟨_, _, rfl, Kd.R_nil _ _ _ _ _, Kd.R_nil _ _ _ _ _, by repeat (first | exact HB.out | refine below_set ?_ GEg2.out)⟩
      · rw [if_neg c3] at H
        have c3b0 : (b1 == 22099) = false := beq_eq_false_iff_ne.mpr c3
        have c3b1 : (b1 != 22099) = true := bne_iff_ne.mpr c3
        simp only [vhead_Read.no, Option.some.injEq, Prod.mk.injEq] at H
        obtain ⟨rfl, rfl, rfl, rfl, rfl⟩ := H
        go_wp2_with (first | (go_at_call 44; (with_reducible refine (vhead_Read.get_calls k ge A0 c0 l0 0 16 n1 b1 79 _ BKge.out (Kd.C_below HR0.out HB.out) HC0.out A1.out).mono ?_); rintro e w5 ⟨rfl, hblk_, hg_⟩; have m1_ := Aside0.mk hblk_; have m2_ := Aside0.mk (HB.out.grown hg_ (below_size HB.out) (fun k_ hk => by cases hk; exact GEge.out)); have og2_ := Aside0.mk ((hg_.block g2 (blk_lt BKg2.out) (by intro e_; injection e_ with e_; exact Ng2ge.out e_)).trans BKg2.out); clear BKge HB BKg2; have BKge := m1_; have HB := m2_; clear m1_ m2_; have BKg2 := og2_; clear og2_; clear hblk_ hg_; have hczg2_0 : w5.cell? ⟨g2, 0, none⟩ = some (.int .i64 0) := (blk_cell BKg2.out 0).trans rfl; have hfzg2_0 := blk_frozen BKg2.out 0; have hczg2_1 : w5.cell? ⟨g2, 1, none⟩ = some (.int .i64 0) := (blk_cell BKg2.out 1).trans rfl; have hfzg2_1 := blk_frozen BKg2.out 1; have hczg2_2 : w5.cell? ⟨g2, 2, none⟩ = some (.slice none 0 0) := (blk_cell BKg2.out 2).trans rfl; have hfzg2_2 := blk_frozen BKg2.out 2; have hczg2_3 : w5.cell? ⟨g2, 3, none⟩ = some (.slice none 0 0) := (blk_cell BKg2.out 3).trans rfl; have hfzg2_3 := blk_frozen BKg2.out 3))
        refine bodyPost_ret (results_ct rfl _ _ g2 24 #[.int .i64 0, .int .i64 0, .slice none 0 0, .slice none 0 0] (0, 0) _ rfl (by (refine blk_put (cs := #[.int .i64 0, .int .i64 0, .slice none 0 0, .slice none 0 0]) ?_ 3 _ rfl; refine blk_put (cs := #[.int .i64 0, .int .i64 0, .slice none 0 0, .slice none 0 0]) ?_ 2 _ rfl; refine blk_put (cs := #[.int .i64 0, .int .i64 0, .slice none 0 0, .slice none 0 0]) ?_ 1 _ rfl; refine blk_put (cs := #[.int .i64 0, .int .i64 0, .slice none 0 0, .slice none 0 0]) ?_ 0 _ rfl; exact BKg2.out)) hu24 rfl (by kernel_rfl)) rfl ?_
        exact ⟨_, _, rfl, Kd.R_nil _ _ _ _ _, Kd.R_nil _ _ _ _ _, by repeat (first | exact HB.out | refine below_set ?_ GEg2.out)⟩

end Go.Proofs.Ytpdfdaoohknfoaa.P
