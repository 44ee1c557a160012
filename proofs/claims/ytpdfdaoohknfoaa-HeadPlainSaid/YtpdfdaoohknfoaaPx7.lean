-- PRINTED by print.py (a twelfth state) out of the translation. Not trusted: Lean checks it.
import Derived.Test.YtpdfdaoohknfoaaPx0
import Derived.Test.YtpdfdaoohknfoaaPx5
import Derived.Test.YtpdfdaoohknfoaaPx40
namespace Go.Proofs.Ytpdfdaoohknfoaa.P
open Go.RowKit Go.Proofs.YtpdfdaoohknfoaaW.PrintWords Go.Proofs.YtpdfdaoohknfoaaW.PrintLast Go.Proofs.YtpdfdaoohknfoaaW.PrintMore
attribute [local go_sem] max2_int min2_int max_two min_two max_three min_three max_four min_four   -- for this text's walks alone
set_option linter.unusedVariables false
set_option linter.unusedSimpArgs false

/-! ### vhead_Write: function 23 -/
/-- numbers written by the pen -/
def vhead_Write.put (k : Nat) (B : List Int) (N v n : Int) : Option (List Int × Int) := (bits_Put.f k B N (IntKind.u64.wrap v) n).bind fun r => some (r.1, r.2.1)
def vhead_Write.list (k : Nat) : List Int → List Int → Int → Option (List Int × Int)
  | [], B, N => some (B, N)
  | v :: l, B, N => (vhead_Write.put k B N v 5).bind fun r => vhead_Write.list k l r.1 r.2
def vhead_Write.f (k : Nat) (a0_0 : Int) (a0_1 : Int) (l0_2 : List Int) (l0_3 : List Int) : Option (List Int × Int) :=
  (vhead_Right.f k a0_0 a0_1 l0_2 l0_3).bind fun t => if t = true then (if l0_2.length ≤ 1000 ∧ l0_3.length ≤ 1000 then
    ((vhead_Write.put k [] 0 22099 16).bind fun r1 => (vhead_Write.put k r1.1 r1.2 (wrap64 (a0_0 - 1)) 1).bind fun r2 => (vhead_Write.put k r2.1 r2.2 a0_1 4).bind fun r3 =>
      (vhead_Write.list k l0_2 r3.1 r3.2).bind fun r4 => (vhead_Write.list k l0_3 r4.1 r4.2).bind fun r5 => some (r5.1, 0)) else none) else some (([] : List Int), 1)
theorem vhead_Write.put_mono (k : Nat) (B : List Int) (N v n : Int) : LeO (vhead_Write.put k B N v n) (vhead_Write.put (k + 1) B N v n) := LeO.bind (bits_Put.mono _ _ _ _ _) (fun _ => LeO.refl _)
theorem vhead_Write.list_mono (k : Nat) : ∀ (l B : List Int) (N : Int), LeO (vhead_Write.list k l B N) (vhead_Write.list (k + 1) l B N)
  | [], _, _ => LeO.refl _
  | v :: l, B, N => LeO.bind (vhead_Write.put_mono k B N v 5) (fun _ => vhead_Write.list_mono k l _ _)
theorem vhead_Write.mono : ∀ a0 a1 a2 a3 k, LeO (vhead_Write.f k a0 a1 a2 a3) (vhead_Write.f (k + 1) a0 a1 a2 a3) := by
  intro a0 a1 a2 a3 k
  exact LeO.bind (vhead_Right.mono _ _ _ _ _) (fun _ => LeO.ite (LeO.ite (LeO.bind (vhead_Write.put_mono _ _ _ _ _) (fun _ => LeO.bind (vhead_Write.put_mono _ _ _ _ _) (fun _ => LeO.bind (vhead_Write.put_mono _ _ _ _ _) (fun _ => LeO.bind (vhead_Write.list_mono _ _ _ _) (fun _ => LeO.bind (vhead_Write.list_mono _ _ _ _) (fun _ => LeO.refl _)))))) (LeO.refl _)) (LeO.refl _))
theorem vhead_Write.grown_set {w W : World} (hb : Below w.heap.size w W) (g i j : Nat) (u v : Value) : w.grownBy ((W.setCell ⟨g, i, none⟩ u).setCell ⟨g, j, none⟩ v) (some g) :=
  ⟨hb.os, hb.tape, hb.output, by simpa [World.setCell] using hb.size, fun k hk hne => by
    have hne' : k ≠ g := fun e => hne (by rw [e])
    exact (Below.heap_setCell _ ⟨g, j, none⟩ v k hne').trans ((Below.heap_setCell _ ⟨g, i, none⟩ u k hne').trans (hb.block k hk))⟩
theorem vhead_Write.grown_trans {a b c : World} {g : Nat} (h : a.grownBy b (some g)) (k : b.grownBy c (some g)) : a.grownBy c (some g) :=
  ⟨k.os.trans h.os, k.tape.trans h.tape, k.output.trans h.output, Nat.le_trans h.size k.size, fun i hi hne => (k.block i (Nat.lt_of_lt_of_le hi h.size) hne).trans (h.block i hi hne)⟩
set_option maxHeartbeats 8000000 in
set_option maxRecDepth 100000 in
theorem vhead_Write.put_calls (k g base : Nat) (vB : Value) (B : List Int) (N v n r1' : Int) (r1 : List Int) (T : TypeId) (w : World) (hblk : w.heap[g]? = some (.cells #[vB, .int .i64 N] T (0, 0))) (hR : Kd.R (Kd.int .u8) 5 w base (fun k_ => k_ ≠ g) vB B) (hbase : base ≤ w.heap.size) (h : vhead_Write.put k B N v n = some (r1, r1')) :
    Calls Try.prog 40 #[.pointer (some ⟨g, 0, none⟩), .int .i64 v, .int .i64 n] w fun e w' => e = .returned (.tuple #[]) ∧ ∃ v0_ : Value, w'.heap[g]? = some (.cells #[v0_, .int .i64 r1'] T (0, 0)) ∧ Kd.R (Kd.int .u8) 5 w' base (fun k_ => k_ ≠ g) v0_ r1 ∧ w.grownBy w' (some g) := by
  have hu66 := Try.underlying66
  have hu68 := Try.underlying68
  have hglt : g < w.heap.size := blk_lt hblk
  obtain ⟨A0, c0, e0⟩ := Kd.R_slice hR
  subst e0
  have HR := Aside0.mk hR
  have HBL := Aside0.mk hblk
  have HG := Aside0.mk hglt
  have HBS := Aside0.mk hbase
  clear hR hglt hbase
  unfold vhead_Write.put at h
  replace h := Option.bind_eq_some_iff.mp h
  obtain ⟨⟨t1, t2, t3⟩, A40, H⟩ := h
  have A4 := Aside0.mk A40
  clear A40
  simp only [Option.some.injEq, Prod.mk.injEq] at H
  obtain ⟨rfl, rfl⟩ := H
  have hcz_0 : w.cell? ⟨g, 0, none⟩ = some (.slice A0 B.length c0) := (blk_cell hblk 0).trans rfl
  have hcz_1 : w.cell? ⟨g, 1, none⟩ = some (.int .i64 N) := (blk_cell hblk 1).trans rfl
  clear hblk
  go_enter Try.func40, Try.ntmps40
  go_wp2_with (first | (go_at_call 64; (with_reducible refine (bits_Put.calls k _ _ B N (IntKind.u64.wrap v) n t1 t2 t3 _ ?side1 ?side2 A4.out).mono ?_); (case side1 => repeat (first | exact (Kd.R_reads' HR.out).2.2 | (with_reducible refine Kd.C_alloc ?_ _) | (with_reducible refine Kd.C_drewN ?_ _) | (with_reducible refine Kd.C_drew ?_))); (case side2 => exact (Kd.R_reads' HR.out).2.1); rintro e w8 ⟨v138, rfl, ho0, hb⟩; obtain ⟨Ao, co, eo⟩ := Kd.R_slice ho0; subst eo; have n1_ := Aside0.mk ho0; have n2_ := Aside0.mk (blk_below HBL.out hb); have n3_ := Aside0.mk hb; clear HBL hcz_0 hcz_1; have HO := n1_; have HBL := n2_; have HB := n3_; clear n1_ n2_ n3_; clear hb ho0; have hcz_0 : w8.cell? ⟨g, 0, none⟩ = some (.slice A0 B.length c0) := (blk_cell HBL.out 0).trans rfl; have hcz_1 : w8.cell? ⟨g, 1, none⟩ = some (.int .i64 N) := (blk_cell HBL.out 1).trans rfl; have hfz_0 := blk_frozen HBL.out 0; have hfz_1 := blk_frozen HBL.out 1))
  go_end0
  exact ⟨rfl, _, by refine blk_put (cs := #[.slice Ao t1.length co, .int .i64 N]) ?_ 1 _ rfl; refine blk_put (cs := #[.slice A0 B.length c0, .int .i64 N]) ?_ 0 _ rfl; exact HBL.out, Kd.R_mono (Kd.R_far (p := ⟨g, 1, none⟩) (Kd.R_far (p := ⟨g, 0, none⟩) (Kd.R_mono (Kd.R_lower (Kd.R_bound HO.out) HBS.out) (fun k_ hk => Nat.ne_of_gt (Nat.lt_of_lt_of_le HG.out hk.2.1))) (fun _ hk => hk) _) (fun _ hk => hk) _) (fun _ hk => hk), vhead_Write.grown_set HB.out g 0 1 _ _⟩
set_option maxHeartbeats 8000000 in
set_option maxRecDepth 100000 in
theorem vhead_Write.list_calls (k g base : Nat) (vB : Value) (B : List Int) (N : Int) (A1 : Option Addr) (c1 : Nat) (l : List Int) (r1 : List Int) (r1' : Int) (T : TypeId) (w0 w : World) (hblk : w.heap[g]? = some (.cells #[vB, .int .i64 N] T (0, 0))) (hR : Kd.R (Kd.int .u8) 5 w base (fun k_ => k_ ≠ g) vB B) (hbase : base ≤ w.heap.size) (hgb : w0.heap.size ≤ g) (hB0 : Below w0.heap.size w0 w) (hl : Kd.C (Kd.int .i64) w0 A1 l.length l) (hcl : l.length ≤ c1) (hsz : l.length ≤ 1000) (h : vhead_Write.list k l B N = some (r1, r1')) :
    Calls Try.prog 41 #[.pointer (some ⟨g, 0, none⟩), .slice A1 l.length c1] w fun e w' => e = .returned (.tuple #[]) ∧ ∃ v0_ : Value, w'.heap[g]? = some (.cells #[v0_, .int .i64 r1'] T (0, 0)) ∧ Kd.R (Kd.int .u8) 5 w' base (fun k_ => k_ ≠ g) v0_ r1 ∧ w.grownBy w' (some g) := by
  have HBL := Aside0.mk hblk
  have HR := Aside0.mk hR
  have HBS := Aside0.mk hbase
  have HGB := Aside0.mk hgb
  have HB0 := Aside0.mk hB0
  have HL := Aside0.mk hl
  have HCL := Aside0.mk hcl
  have HSZ := Aside0.mk hsz
  have HH := Aside0.mk h
  clear hblk hR hbase hgb hB0 hl hcl hsz h
  go_enter Try.func41, Try.ntmps41
  go_wp2
  go_loopg [8] l.length (fun d s8 wr => ∃ (j : Nat) (vB' : Value) (B' : List Int) (N' : Int), j + d = l.length ∧ s8 = .int .i64 (j : Int) ∧ Aside0 (vhead_Write.list k (l.drop j) B' N' = some (r1, r1')) ∧ Aside0 (wr.heap[g]? = some (.cells #[vB', .int .i64 N'] T (0, 0))) ∧ Aside0 (Kd.R (Kd.int .u8) 5 wr base (fun k_ => k_ ≠ g) vB' B') ∧ Aside0 (w.grownBy wr (some g)))
  case atStart => exact ⟨0, vB, B, N, by omega, rfl, ⟨by simpa using HH.out⟩, HBL, HR, ⟨World.grownBy.refl _ _⟩⟩
  case round =>
    obtain ⟨j, vB', B', N', hj, rfl, HH2, HBL2, HR2, HG2⟩ := hrel
    cases gk with
    | zero =>
      have cjb : decide ((j : Int) < (l.length : Int)) = false := decide_eq_false (by omega)
      have H := HH2.out
      rw [List.drop_eq_nil_of_le (by omega)] at H
      simp only [vhead_Write.list, Option.some.injEq, Prod.mk.injEq] at H
      obtain ⟨rfl, rfl⟩ := H
      go_wp2
      go_end0
      exact ⟨rfl, vB', HBL2.out, HR2.out, HG2.out⟩
    | succ d =>
      have cjb : decide ((j : Int) < (l.length : Int)) = true := decide_eq_true (by omega)
      have H := HH2.out
      have hjl : j < l.length := by omega
      rw [List.drop_eq_getElem_cons hjl] at H
      have hrd : rd l (j : Int) = l[j] := by simp [rd, List.getD_eq_getElem?_getD, hjl]
      rw [← hrd] at H
      simp only [vhead_Write.list] at H
      replace H := Option.bind_eq_some_iff.mp H
      obtain ⟨⟨b1, n1⟩, A50, H⟩ := H
      have A5 := Aside0.mk A50
      have HN := Aside0.mk H
      clear A50 H hrd HH2
      have HB2 := Aside0.mk (HB0.out.grown HG2.out (below_size HB0.out) (fun k_ hk => by cases hk; exact HGB.out))
      have p1 : 0 ≤ (j : Int) := by omega
      have q1 : (j : Int) < (l.length : Int) := by omega
      obtain ⟨ad1, e1, hx1⟩ := Kd.at_int HL.out (j : Int) p1 q1
      cases e1
      replace hx1 := (HB2.out.cell (World.block_lt_of_cell? w0 _ hx1)).trans hx1
      rw [Int.toNat_natCast] at hx1
      replace p1 := eq_true p1
      replace q1 := eq_true q1
      go_wp2_with (first | (go_at_call 40; (with_reducible refine (vhead_Write.put_calls k g base vB' B' N' (rd l (j : Int)) 5 n1 b1 T _ HBL2.out HR2.out (Nat.le_trans HBS.out HG2.out.size) A5.out).mono ?_); rintro e w9 ⟨rfl, v9, hblk_, hR_, hg_⟩))
      go_roundg d
      case measure => omega
      case rel => exact ⟨j + 1, v9, b1, n1, by omega, by (have := HSZ.out; simp; unfold wrap64; omega), HN, ⟨by repeat (first | exact hblk_ | apply blk_drew)⟩, ⟨by repeat (first | exact hR_ | apply Kd.R_drew)⟩, ⟨vhead_Write.grown_trans HG2.out hg_⟩⟩
set_option maxHeartbeats 8000000 in
set_option maxRecDepth 100000 in
theorem vhead_Write.calls (k : Nat) (a0_0 : Int) (a0_1 : Int) (A0_2 : Option Addr) (c0_2 : Nat) (l0_2 : List Int) (A0_3 : Option Addr) (c0_3 : Nat) (l0_3 : List Int) (r1 : List Int) (r2 : Int) (w : World) (hr0_2 : Kd.C (Kd.int .i64) w A0_2 l0_2.length l0_2) (hc0_2 : l0_2.length ≤ c0_2) (hr0_3 : Kd.C (Kd.int .i64) w A0_3 l0_3.length l0_3) (hc0_3 : l0_3.length ≤ c0_3) (h : vhead_Write.f k a0_0 a0_1 l0_2 l0_3 = some (r1, r2)) :
    Calls Try.prog 23 #[.agg #[.int .i64 a0_0, .int .i64 a0_1, .slice A0_2 l0_2.length c0_2, .slice A0_3 l0_3.length c0_3]] w fun e w' => ∃ v0_ : Value, e = .returned (.tuple #[v0_, .int .i64 r2]) ∧ Kd.R (Kd.int .u8) 5 w' w.heap.size (fun _ => True) v0_ r1 ∧ Below w.heap.size w w' := by
  have hu24 := Try.underlying24
  have hu66 := Try.underlying66
  have hu68 := Try.underlying68
  have hu70 := Try.underlying70
  have HR0_2 := Aside0.mk hr0_2
  have HC0_2 := Aside0.mk hc0_2
  have HR0_3 := Aside0.mk hr0_3
  have HC0_3 := Aside0.mk hc0_3
  clear hr0_2 hc0_2 hr0_3 hc0_3
  have HB := Aside0.mk (Below.refl w.heap.size w)
  unfold vhead_Write.f at h
  replace h := Option.bind_eq_some_iff.mp h
  obtain ⟨t1, A40, H⟩ := h
  have A0 := Aside0.mk A40
  have HC5 := Aside0.mk H
  clear A40 H
  go_enter Try.func23, Try.ntmps23
  go_upto_region 1 with (first | ((with_reducible refine gate_dst (N := 1) rfl ?_); refine box_event ?hg (N := 1) ?hd (cs := #[.int .i64 a0_0, .int .i64 a0_1, .slice A0_2 l0_2.length c0_2, .slice A0_3 l0_3.length c0_3]) (t := 24) ?hr ?_; (case hd => rfl); (case hg => rfl); (case hr => first | (go_simp; done) | (go_simp; rfl)); intro gb1 hg w4 hbox hb; have n1_ := Aside0.mk (below_step HB.out hb); have n2_ := Aside0.mk hbox; have n3_ := Aside0.mk ((by rw [hg]; exact (below_size HB.out)) : w.heap.size ≤ gb1); clear HB; have HB := n1_; have BK1 := n2_; have GE1 := n3_; clear n1_ n2_ n3_; clear hb hbox hg))
  have hcz1_0 : w4.cell? ⟨gb1, 0, none⟩ = some (.int .i64 a0_0) := (blk_cell BK1.out 0).trans rfl
  have hcz1_1 : w4.cell? ⟨gb1, 1, none⟩ = some (.int .i64 a0_1) := (blk_cell BK1.out 1).trans rfl
  have hcz1_2 : w4.cell? ⟨gb1, 2, none⟩ = some (.slice A0_2 l0_2.length c0_2) := (blk_cell BK1.out 2).trans rfl
  have hcz1_3 : w4.cell? ⟨gb1, 3, none⟩ = some (.slice A0_3 l0_3.length c0_3) := (blk_cell BK1.out 3).trans rfl
  have H := HC5.out
  clear HC5
  by_cases ct : t1 = true
  · subst ct
    rw [if_pos rfl] at H
    by_cases cl : l0_2.length ≤ 1000 ∧ l0_3.length ≤ 1000
    · rw [if_pos cl] at H
      have SZ_2 := Aside0.mk cl.1
      have SZ_3 := Aside0.mk cl.2
      clear cl
      replace H := Option.bind_eq_some_iff.mp H
      obtain ⟨⟨b1, n1⟩, A10, H⟩ := H
      have A1 := Aside0.mk A10
      clear A10
      replace H := Option.bind_eq_some_iff.mp H
      obtain ⟨⟨b2, n2⟩, A10, H⟩ := H
      have A2 := Aside0.mk A10
      clear A10
      replace H := Option.bind_eq_some_iff.mp H
      obtain ⟨⟨b3, n3⟩, A10, H⟩ := H
      have A3 := Aside0.mk A10
      clear A10
      replace H := Option.bind_eq_some_iff.mp H
      obtain ⟨⟨b4, n4⟩, A10, H⟩ := H
      have A4 := Aside0.mk A10
      clear A10
      replace H := Option.bind_eq_some_iff.mp H
      obtain ⟨⟨b5, n5⟩, A10, H⟩ := H
      have A5 := Aside0.mk A10
      clear A10
      simp only [Option.some.injEq, Prod.mk.injEq] at H
      obtain ⟨rfl, rfl⟩ := H
      go_upto_region 4 with (first
        | (go_at_call 17; (with_reducible refine (vhead_Right.calls k _ _ _ _ l0_2 _ _ l0_3 true _ ?s1 ?s2 ?s3 ?s4 A0.out).mono ?_); (case s1 => exact Kd.C_below HR0_2.out HB.out); (case s2 => exact HC0_2.out); (case s3 => exact Kd.C_below HR0_3.out HB.out); (case s4 => exact HC0_3.out); rintro e w5 ⟨rfl, hb⟩; have n1_ := Aside0.mk (below_step HB.out hb); have n2_ := Aside0.mk (blk_below BK1.out hb); clear HB BK1 hcz1_0 hcz1_1 hcz1_2 hcz1_3; have HB := n1_; have BK1 := n2_; clear n1_ n2_; clear hb)
        | ((with_reducible refine gate_dst (N := 9) rfl ?_); refine box_event ?hg (N := 9) ?hd (cs := #[.slice none 0 0, .int .i64 0]) (t := 70) ?hr ?_; (case hd => rfl); (case hg => rfl); (case hr => first | (go_simp; done) | (go_simp; rfl)); intro gb9 hg w9 hbox hb; have n1_ := Aside0.mk (below_step HB.out hb); have n2_ := Aside0.mk hbox; have n3_ := Aside0.mk ((by rw [hg]; exact (below_size HB.out)) : w.heap.size ≤ gb9); have n4_ := Aside0.mk (blk_below BK1.out hb); have n5_ := Aside0.mk ((by rw [hg]; exact Nat.ne_of_lt (blk_lt BK1.out)) : gb1 ≠ gb9); clear HB BK1; have HB := n1_; have BK9 := n2_; have GE9 := n3_; have BK1 := n4_; have N19 := n5_; clear n1_ n2_ n3_ n4_ n5_; clear hb hbox hg; have HR := Aside0.mk (Kd.R_nil (Kd.int .u8) 5 w9 w.heap.size (fun k_ => k_ ≠ gb9))))
      go_upto_region 5 with (first | (go_at_call 40; (with_reducible refine (vhead_Write.put_calls k gb9 w.heap.size _ [] 0 22099 16 n1 b1 70 _ BK9.out HR.out (below_size HB.out) A1.out).mono ?_); rintro e w10 ⟨rfl, v1, hblk_, hR_, hg_⟩; have n1_ := Aside0.mk hblk_; have n2_ := Aside0.mk hR_; have n3_ := Aside0.mk ((hg_.block gb1 (blk_lt BK1.out) (by intro e_; injection e_ with e_; exact N19.out e_)).trans BK1.out); have n4_ := Aside0.mk (HB.out.grown hg_ (below_size HB.out) (fun k_ hk => by cases hk; exact GE9.out)); clear BK9 HR BK1 HB; have BK9 := n1_; have HR := n2_; have BK1 := n3_; have HB := n4_; clear n1_ n2_ n3_ n4_; clear hblk_ hR_ hg_))
      go_upto_region 5 with (fail)
      have n1_ := Aside0.mk (blk_drew BK9.out)
      have n2_ := Aside0.mk (Kd.R_drew HR.out)
      have n3_ := Aside0.mk (blk_drew BK1.out)
      have n4_ := Aside0.mk (below_drew1 HB.out)
      clear BK9 HR BK1 HB
      have BK9 := n1_
      have HR := n2_
      have BK1 := n3_
      have HB := n4_
      clear n1_ n2_ n3_ n4_
      refine start_ (n := 7) (S := fun w' => w'.cell? ⟨gb1, 0, none⟩ = some (.int .i64 a0_0) ∧ w'.cell? ⟨gb1, 1, none⟩ = some (.int .i64 a0_1) ∧ w'.cell? ⟨gb1, 2, none⟩ = some (.slice A0_2 l0_2.length c0_2) ∧ w'.cell? ⟨gb1, 3, none⟩ = some (.slice A0_3 l0_3.length c0_3)) (ds := []) #[false, false, false, false, false, false, false] (by kernel_rfl) rfl rfl ⟨(blk_cell BK1.out 0).trans rfl, (blk_cell BK1.out 1).trans rfl, (blk_cell BK1.out 2).trans rfl, (blk_cell BK1.out 3).trans rfl⟩ (fun hHeld => ?_)
      generalize w10.drew = wd5 at BK9 HR BK1 HB hHeld ⊢
      refine pure_ (i := 0) (N := some 14) (v := ?_) (a' := ?_) #[true, false, false, false, false, false, false] rfl rfl (by kernel_rfl) (fun _ _ _ h => h) (Or.inl ⟨by rfl, ?_⟩) ?_ ?_
      rotate_left
      · intro w'
        go_simp
        with_reducible rfl
      rotate_left
      · simp only [Act.put, List.setIfInBounds_toArray, List.set_cons_zero, List.set_cons_succ, i64_w, i32_w]
        rfl
      refine pure_ (i := 1) (N := some 15) (v := ?_) (a' := ?_) #[true, true, false, false, false, false, false] rfl rfl (by kernel_rfl) (fun _ _ _ h => h) (Or.inl ⟨by rfl, ?_⟩) ?_ ?_
      rotate_left
      · intro w'
        go_simp
        with_reducible rfl
      rotate_left
      · simp only [Act.put, List.setIfInBounds_toArray, List.set_cons_zero, List.set_cons_succ, i64_w, i32_w]
        rfl
      refine pure_ (i := 2) (N := some 16) (v := ?_) (a' := ?_) #[true, true, true, false, false, false, false] rfl rfl (by kernel_rfl) (fun _ _ _ h => h) (Or.inl ⟨by rfl, ?_⟩) ?_ ?_
      rotate_left
      · intro w'
        go_simp
        with_reducible rfl
      rotate_left
      · simp only [Act.put, List.setIfInBounds_toArray, List.set_cons_zero, List.set_cons_succ, i64_w, i32_w]
        rfl
      refine pure_ (i := 3) (N := some 17) (v := ?_) (a' := ?_) #[true, true, true, true, false, false, false] rfl rfl (by kernel_rfl) (fun _ _ _ h => h) (Or.inl ⟨by rfl, ?_⟩) ?_ ?_
      rotate_left
      · intro w'
        go_simp
        with_reducible rfl
      rotate_left
      · simp only [Act.put, List.setIfInBounds_toArray, List.set_cons_zero, List.set_cons_succ, i64_w, i32_w]
        rfl
      refine take_ (i := 4) (N := some 18) (v := ?_) (a' := ?_) #[true, true, true, true, true, false, false] rfl rfl (by kernel_rfl) (fun _ _ _ h => h) (Or.inl ⟨by rfl, ?_⟩) hHeld ?_ ?_
      rotate_left
      · rintro w' ⟨s0, s1, s2, s3⟩
        go_simp
        with_reducible rfl
      rotate_left
      · simp only [Act.put, List.setIfInBounds_toArray, List.set_cons_zero, List.set_cons_succ, i64_w, i32_w]
        rfl
      refine pure_ (i := 5) (N := some 19) (v := ?_) (a' := ?_) #[true, true, true, true, true, true, false] rfl rfl (by kernel_rfl) (fun _ _ _ h => h) (Or.inl ⟨by rfl, ?_⟩) ?_ ?_
      rotate_left
      · intro w'
        go_simp
        with_reducible rfl
      rotate_left
      · simp only [Act.put, List.setIfInBounds_toArray, List.set_cons_zero, List.set_cons_succ, i64_w, i32_w]
        rfl
      refine one_ (i := 6) (N := some 20) #[true, true, true, true, true, true, true] rfl rfl (by kernel_rfl) (by decide) (fun K hK => ?_)
      refine goes_ Try.func40 (by kernel_rfl) rfl #[.pointer (some ⟨gb9, 0, none⟩), .int .i64 (wrap64 (a0_0 - 1)), .int .i64 1] (by rfl) rfl rfl (by (try simp only [List.map_toArray, List.map_cons, List.map_nil]); first | done | rfl) ?_
      with_reducible refine (vhead_Write.put_calls k gb9 w.heap.size _ b1 n1 (wrap64 (a0_0 - 1)) 1 n2 b2 70 _ BK9.out HR.out (below_size HB.out) A2.out).mono ?_
      rintro e w11 ⟨rfl, v2, hblk_, hR_, hg_⟩
      refine ⟨_, rfl, ?_⟩
      have n1_ := Aside0.mk hblk_
      have n2_ := Aside0.mk hR_
      have n3_ := Aside0.mk ((hg_.block gb1 (blk_lt BK1.out) (by intro e_; injection e_ with e_; exact N19.out e_)).trans BK1.out)
      have n4_ := Aside0.mk (HB.out.grown hg_ (below_size HB.out) (fun k_ hk => by cases hk; exact GE9.out))
      clear BK9 HR BK1 HB
      have BK9 := n1_
      have HR := n2_
      have BK1 := n3_
      have HB := n4_
      clear n1_ n2_ n3_ n4_
      clear hblk_ hR_ hg_
      refine hK.out _ _ ⟨(blk_cell BK1.out 0).trans rfl, (blk_cell BK1.out 1).trans rfl, (blk_cell BK1.out 2).trans rfl, (blk_cell BK1.out 3).trans rfl⟩ (fun hHeld => ?_)
      clear hK K
      refine norm_ (a' := ?_) ?_ ?_
      rotate_left
      · show Act.put _ (some 20) _ = _
        simp only [Act.put, List.setIfInBounds_toArray, List.set_cons_zero, List.set_cons_succ, i64_w, i32_w]
        rfl
      refine done_ (by kernel_rfl) ?_
      go_upto_region 6 with (fail)
      have n1_ := Aside0.mk (blk_drew BK9.out)
      have n2_ := Aside0.mk (Kd.R_drew HR.out)
      have n3_ := Aside0.mk (blk_drew BK1.out)
      have n4_ := Aside0.mk (below_drew1 HB.out)
      clear BK9 HR BK1 HB
      have BK9 := n1_
      have HR := n2_
      have BK1 := n3_
      have HB := n4_
      clear n1_ n2_ n3_ n4_
      refine start_ (n := 6) (S := fun w' => w'.cell? ⟨gb1, 0, none⟩ = some (.int .i64 a0_0) ∧ w'.cell? ⟨gb1, 1, none⟩ = some (.int .i64 a0_1) ∧ w'.cell? ⟨gb1, 2, none⟩ = some (.slice A0_2 l0_2.length c0_2) ∧ w'.cell? ⟨gb1, 3, none⟩ = some (.slice A0_3 l0_3.length c0_3)) (ds := []) #[false, false, false, false, false, false] (by kernel_rfl) rfl rfl ⟨(blk_cell BK1.out 0).trans rfl, (blk_cell BK1.out 1).trans rfl, (blk_cell BK1.out 2).trans rfl, (blk_cell BK1.out 3).trans rfl⟩ (fun hHeld => ?_)
      generalize w11.drew = wd6 at BK9 HR BK1 HB hHeld ⊢
      refine pure_ (i := 0) (N := some 21) (v := ?_) (a' := ?_) #[true, false, false, false, false, false] rfl rfl (by kernel_rfl) (fun _ _ _ h => h) (Or.inl ⟨by rfl, ?_⟩) ?_ ?_
      rotate_left
      · intro w'
        go_simp
        with_reducible rfl
      rotate_left
      · simp only [Act.put, List.setIfInBounds_toArray, List.set_cons_zero, List.set_cons_succ, i64_w, i32_w]
        rfl
      refine pure_ (i := 1) (N := some 22) (v := ?_) (a' := ?_) #[true, true, false, false, false, false] rfl rfl (by kernel_rfl) (fun _ _ _ h => h) (Or.inl ⟨by rfl, ?_⟩) ?_ ?_
      rotate_left
      · intro w'
        go_simp
        with_reducible rfl
      rotate_left
      · simp only [Act.put, List.setIfInBounds_toArray, List.set_cons_zero, List.set_cons_succ, i64_w, i32_w]
        rfl
      refine pure_ (i := 2) (N := some 23) (v := ?_) (a' := ?_) #[true, true, true, false, false, false] rfl rfl (by kernel_rfl) (fun _ _ _ h => h) (Or.inl ⟨by rfl, ?_⟩) ?_ ?_
      rotate_left
      · intro w'
        go_simp
        with_reducible rfl
      rotate_left
      · simp only [Act.put, List.setIfInBounds_toArray, List.set_cons_zero, List.set_cons_succ, i64_w, i32_w]
        rfl
      refine pure_ (i := 3) (N := some 24) (v := ?_) (a' := ?_) #[true, true, true, true, false, false] rfl rfl (by kernel_rfl) (fun _ _ _ h => h) (Or.inl ⟨by rfl, ?_⟩) ?_ ?_
      rotate_left
      · intro w'
        go_simp
        with_reducible rfl
      rotate_left
      · simp only [Act.put, List.setIfInBounds_toArray, List.set_cons_zero, List.set_cons_succ, i64_w, i32_w]
        rfl
      refine take_ (i := 4) (N := some 25) (v := ?_) (a' := ?_) #[true, true, true, true, true, false] rfl rfl (by kernel_rfl) (fun _ _ _ h => h) (Or.inl ⟨by rfl, ?_⟩) hHeld ?_ ?_
      rotate_left
      · rintro w' ⟨s0, s1, s2, s3⟩
        go_simp
        with_reducible rfl
      rotate_left
      · simp only [Act.put, List.setIfInBounds_toArray, List.set_cons_zero, List.set_cons_succ, i64_w, i32_w]
        rfl
      refine one_ (i := 5) (N := some 26) #[true, true, true, true, true, true] rfl rfl (by kernel_rfl) (by decide) (fun K hK => ?_)
      refine goes_ Try.func40 (by kernel_rfl) rfl #[.pointer (some ⟨gb9, 0, none⟩), .int .i64 a0_1, .int .i64 4] (by rfl) rfl rfl (by (try simp only [List.map_toArray, List.map_cons, List.map_nil]); first | done | rfl) ?_
      with_reducible refine (vhead_Write.put_calls k gb9 w.heap.size _ b2 n2 a0_1 4 n3 b3 70 _ BK9.out HR.out (below_size HB.out) A3.out).mono ?_
      rintro e w12 ⟨rfl, v3, hblk_, hR_, hg_⟩
      refine ⟨_, rfl, ?_⟩
      have n1_ := Aside0.mk hblk_
      have n2_ := Aside0.mk hR_
      have n3_ := Aside0.mk ((hg_.block gb1 (blk_lt BK1.out) (by intro e_; injection e_ with e_; exact N19.out e_)).trans BK1.out)
      have n4_ := Aside0.mk (HB.out.grown hg_ (below_size HB.out) (fun k_ hk => by cases hk; exact GE9.out))
      clear BK9 HR BK1 HB
      have BK9 := n1_
      have HR := n2_
      have BK1 := n3_
      have HB := n4_
      clear n1_ n2_ n3_ n4_
      clear hblk_ hR_ hg_
      refine hK.out _ _ ⟨(blk_cell BK1.out 0).trans rfl, (blk_cell BK1.out 1).trans rfl, (blk_cell BK1.out 2).trans rfl, (blk_cell BK1.out 3).trans rfl⟩ (fun hHeld => ?_)
      clear hK K
      refine norm_ (a' := ?_) ?_ ?_
      rotate_left
      · show Act.put _ (some 26) _ = _
        simp only [Act.put, List.setIfInBounds_toArray, List.set_cons_zero, List.set_cons_succ, i64_w, i32_w]
        rfl
      refine done_ (by kernel_rfl) ?_
      go_upto_region 7 with (fail)
      have n1_ := Aside0.mk (blk_drew BK9.out)
      have n2_ := Aside0.mk (Kd.R_drew HR.out)
      have n3_ := Aside0.mk (blk_drew BK1.out)
      have n4_ := Aside0.mk (below_drew1 HB.out)
      clear BK9 HR BK1 HB
      have BK9 := n1_
      have HR := n2_
      have BK1 := n3_
      have HB := n4_
      clear n1_ n2_ n3_ n4_
      refine start_ (n := 6) (S := fun w' => w'.cell? ⟨gb1, 0, none⟩ = some (.int .i64 a0_0) ∧ w'.cell? ⟨gb1, 1, none⟩ = some (.int .i64 a0_1) ∧ w'.cell? ⟨gb1, 2, none⟩ = some (.slice A0_2 l0_2.length c0_2) ∧ w'.cell? ⟨gb1, 3, none⟩ = some (.slice A0_3 l0_3.length c0_3)) (ds := []) #[false, false, false, false, false, false] (by kernel_rfl) rfl rfl ⟨(blk_cell BK1.out 0).trans rfl, (blk_cell BK1.out 1).trans rfl, (blk_cell BK1.out 2).trans rfl, (blk_cell BK1.out 3).trans rfl⟩ (fun hHeld => ?_)
      generalize w12.drew = wd7 at BK9 HR BK1 HB hHeld ⊢
      refine pure_ (i := 0) (N := some 27) (v := ?_) (a' := ?_) #[true, false, false, false, false, false] rfl rfl (by kernel_rfl) (fun _ _ _ h => h) (Or.inl ⟨by rfl, ?_⟩) ?_ ?_
      rotate_left
      · intro w'
        go_simp
        with_reducible rfl
      rotate_left
      · simp only [Act.put, List.setIfInBounds_toArray, List.set_cons_zero, List.set_cons_succ, i64_w, i32_w]
        rfl
      refine pure_ (i := 1) (N := some 28) (v := ?_) (a' := ?_) #[true, true, false, false, false, false] rfl rfl (by kernel_rfl) (fun _ _ _ h => h) (Or.inl ⟨by rfl, ?_⟩) ?_ ?_
      rotate_left
      · intro w'
        go_simp
        with_reducible rfl
      rotate_left
      · simp only [Act.put, List.setIfInBounds_toArray, List.set_cons_zero, List.set_cons_succ, i64_w, i32_w]
        rfl
      refine pure_ (i := 2) (N := some 29) (v := ?_) (a' := ?_) #[true, true, true, false, false, false] rfl rfl (by kernel_rfl) (fun _ _ _ h => h) (Or.inl ⟨by rfl, ?_⟩) ?_ ?_
      rotate_left
      · intro w'
        go_simp
        with_reducible rfl
      rotate_left
      · simp only [Act.put, List.setIfInBounds_toArray, List.set_cons_zero, List.set_cons_succ, i64_w, i32_w]
        rfl
      refine pure_ (i := 3) (N := some 30) (v := ?_) (a' := ?_) #[true, true, true, true, false, false] rfl rfl (by kernel_rfl) (fun _ _ _ h => h) (Or.inl ⟨by rfl, ?_⟩) ?_ ?_
      rotate_left
      · intro w'
        go_simp
        with_reducible rfl
      rotate_left
      · simp only [Act.put, List.setIfInBounds_toArray, List.set_cons_zero, List.set_cons_succ, i64_w, i32_w]
        rfl
      refine take_ (i := 4) (N := some 31) (v := ?_) (a' := ?_) #[true, true, true, true, true, false] rfl rfl (by kernel_rfl) (fun _ _ _ h => h) (Or.inl ⟨by rfl, ?_⟩) hHeld ?_ ?_
      rotate_left
      · rintro w' ⟨s0, s1, s2, s3⟩
        go_simp
        with_reducible rfl
      rotate_left
      · simp only [Act.put, List.setIfInBounds_toArray, List.set_cons_zero, List.set_cons_succ, i64_w, i32_w]
        rfl
      refine one_ (i := 5) (N := some 32) #[true, true, true, true, true, true] rfl rfl (by kernel_rfl) (by decide) (fun K hK => ?_)
      refine goes_ Try.func41 (by kernel_rfl) rfl #[.pointer (some ⟨gb9, 0, none⟩), .slice A0_2 l0_2.length c0_2] (by rfl) rfl rfl (by (try simp only [List.map_toArray, List.map_cons, List.map_nil]); first | done | rfl) ?_
      with_reducible refine (vhead_Write.list_calls k gb9 w.heap.size _ b3 n3 A0_2 c0_2 l0_2 b4 n4 70 w _ BK9.out HR.out (below_size HB.out) GE9.out HB.out HR0_2.out HC0_2.out SZ_2.out A4.out).mono ?_
      rintro e w13 ⟨rfl, v4, hblk_, hR_, hg_⟩
      refine ⟨_, rfl, ?_⟩
      have n1_ := Aside0.mk hblk_
      have n2_ := Aside0.mk hR_
      have n3_ := Aside0.mk ((hg_.block gb1 (blk_lt BK1.out) (by intro e_; injection e_ with e_; exact N19.out e_)).trans BK1.out)
      have n4_ := Aside0.mk (HB.out.grown hg_ (below_size HB.out) (fun k_ hk => by cases hk; exact GE9.out))
      clear BK9 HR BK1 HB
      have BK9 := n1_
      have HR := n2_
      have BK1 := n3_
      have HB := n4_
      clear n1_ n2_ n3_ n4_
      clear hblk_ hR_ hg_
      refine hK.out _ _ ⟨(blk_cell BK1.out 0).trans rfl, (blk_cell BK1.out 1).trans rfl, (blk_cell BK1.out 2).trans rfl, (blk_cell BK1.out 3).trans rfl⟩ (fun hHeld => ?_)
      clear hK K
      refine norm_ (a' := ?_) ?_ ?_
      rotate_left
      · show Act.put _ (some 32) _ = _
        simp only [Act.put, List.setIfInBounds_toArray, List.set_cons_zero, List.set_cons_succ, i64_w, i32_w]
        rfl
      refine done_ (by kernel_rfl) ?_
      go_upto_region 8 with (fail)
      have n1_ := Aside0.mk (blk_drew BK9.out)
      have n2_ := Aside0.mk (Kd.R_drew HR.out)
      have n3_ := Aside0.mk (blk_drew BK1.out)
      have n4_ := Aside0.mk (below_drew1 HB.out)
      clear BK9 HR BK1 HB
      have BK9 := n1_
      have HR := n2_
      have BK1 := n3_
      have HB := n4_
      clear n1_ n2_ n3_ n4_
      refine start_ (n := 6) (S := fun w' => w'.cell? ⟨gb1, 0, none⟩ = some (.int .i64 a0_0) ∧ w'.cell? ⟨gb1, 1, none⟩ = some (.int .i64 a0_1) ∧ w'.cell? ⟨gb1, 2, none⟩ = some (.slice A0_2 l0_2.length c0_2) ∧ w'.cell? ⟨gb1, 3, none⟩ = some (.slice A0_3 l0_3.length c0_3)) (ds := []) #[false, false, false, false, false, false] (by kernel_rfl) rfl rfl ⟨(blk_cell BK1.out 0).trans rfl, (blk_cell BK1.out 1).trans rfl, (blk_cell BK1.out 2).trans rfl, (blk_cell BK1.out 3).trans rfl⟩ (fun hHeld => ?_)
      generalize w13.drew = wd8 at BK9 HR BK1 HB hHeld ⊢
      refine pure_ (i := 0) (N := some 33) (v := ?_) (a' := ?_) #[true, false, false, false, false, false] rfl rfl (by kernel_rfl) (fun _ _ _ h => h) (Or.inl ⟨by rfl, ?_⟩) ?_ ?_
      rotate_left
      · intro w'
        go_simp
        with_reducible rfl
      rotate_left
      · simp only [Act.put, List.setIfInBounds_toArray, List.set_cons_zero, List.set_cons_succ, i64_w, i32_w]
        rfl
      refine pure_ (i := 1) (N := some 34) (v := ?_) (a' := ?_) #[true, true, false, false, false, false] rfl rfl (by kernel_rfl) (fun _ _ _ h => h) (Or.inl ⟨by rfl, ?_⟩) ?_ ?_
      rotate_left
      · intro w'
        go_simp
        with_reducible rfl
      rotate_left
      · simp only [Act.put, List.setIfInBounds_toArray, List.set_cons_zero, List.set_cons_succ, i64_w, i32_w]
        rfl
      refine pure_ (i := 2) (N := some 35) (v := ?_) (a' := ?_) #[true, true, true, false, false, false] rfl rfl (by kernel_rfl) (fun _ _ _ h => h) (Or.inl ⟨by rfl, ?_⟩) ?_ ?_
      rotate_left
      · intro w'
        go_simp
        with_reducible rfl
      rotate_left
      · simp only [Act.put, List.setIfInBounds_toArray, List.set_cons_zero, List.set_cons_succ, i64_w, i32_w]
        rfl
      refine pure_ (i := 3) (N := some 36) (v := ?_) (a' := ?_) #[true, true, true, true, false, false] rfl rfl (by kernel_rfl) (fun _ _ _ h => h) (Or.inl ⟨by rfl, ?_⟩) ?_ ?_
      rotate_left
      · intro w'
        go_simp
        with_reducible rfl
      rotate_left
      · simp only [Act.put, List.setIfInBounds_toArray, List.set_cons_zero, List.set_cons_succ, i64_w, i32_w]
        rfl
      refine take_ (i := 4) (N := some 37) (v := ?_) (a' := ?_) #[true, true, true, true, true, false] rfl rfl (by kernel_rfl) (fun _ _ _ h => h) (Or.inl ⟨by rfl, ?_⟩) hHeld ?_ ?_
      rotate_left
      · rintro w' ⟨s0, s1, s2, s3⟩
        go_simp
        with_reducible rfl
      rotate_left
      · simp only [Act.put, List.setIfInBounds_toArray, List.set_cons_zero, List.set_cons_succ, i64_w, i32_w]
        rfl
      refine one_ (i := 5) (N := some 38) #[true, true, true, true, true, true] rfl rfl (by kernel_rfl) (by decide) (fun K hK => ?_)
      refine goes_ Try.func41 (by kernel_rfl) rfl #[.pointer (some ⟨gb9, 0, none⟩), .slice A0_3 l0_3.length c0_3] (by rfl) rfl rfl (by (try simp only [List.map_toArray, List.map_cons, List.map_nil]); first | done | rfl) ?_
      with_reducible refine (vhead_Write.list_calls k gb9 w.heap.size _ b4 n4 A0_3 c0_3 l0_3 b5 n5 70 w _ BK9.out HR.out (below_size HB.out) GE9.out HB.out HR0_3.out HC0_3.out SZ_3.out A5.out).mono ?_
      rintro e w14 ⟨rfl, v5, hblk_, hR_, hg_⟩
      refine ⟨_, rfl, ?_⟩
      have n1_ := Aside0.mk hblk_
      have n2_ := Aside0.mk hR_
      have n3_ := Aside0.mk ((hg_.block gb1 (blk_lt BK1.out) (by intro e_; injection e_ with e_; exact N19.out e_)).trans BK1.out)
      have n4_ := Aside0.mk (HB.out.grown hg_ (below_size HB.out) (fun k_ hk => by cases hk; exact GE9.out))
      clear BK9 HR BK1 HB
      have BK9 := n1_
      have HR := n2_
      have BK1 := n3_
      have HB := n4_
      clear n1_ n2_ n3_ n4_
      clear hblk_ hR_ hg_
      refine hK.out _ _ ⟨(blk_cell BK1.out 0).trans rfl, (blk_cell BK1.out 1).trans rfl, (blk_cell BK1.out 2).trans rfl, (blk_cell BK1.out 3).trans rfl⟩ (fun hHeld => ?_)
      clear hK K
      refine norm_ (a' := ?_) ?_ ?_
      rotate_left
      · show Act.put _ (some 38) _ = _
        simp only [Act.put, List.setIfInBounds_toArray, List.set_cons_zero, List.set_cons_succ, i64_w, i32_w]
        rfl
      refine done_ (by kernel_rfl) ?_
      have hcz9_0 : w14.cell? ⟨gb9, 0, none⟩ = some v5 := (blk_cell BK9.out 0).trans rfl
      go_wp2
      go_ret2
      exact ⟨v5, rfl, Kd.R_mono HR.out (fun _ _ => trivial), by repeat (first | exact HB.out | apply below_drew1)⟩
    · rw [if_neg cl] at H
      exact absurd H (by simp)
  · replace ct := Bool.eq_false_iff.mpr ct
    subst ct
    have H1 : some (([] : List Int), (1 : Int)) = some (r1, r2) := by rw [if_neg (by decide)] at H; exact H
    simp only [Option.some.injEq, Prod.mk.injEq] at H1
    obtain ⟨rfl, rfl⟩ := H1
    clear H
    go_wp2_with (first | (go_at_call 17; (with_reducible refine (vhead_Right.calls k _ _ _ _ l0_2 _ _ l0_3 false _ ?s1 ?s2 ?s3 ?s4 A0.out).mono ?_); (case s1 => exact Kd.C_below HR0_2.out HB.out); (case s2 => exact HC0_2.out); (case s3 => exact Kd.C_below HR0_3.out HB.out); (case s4 => exact HC0_3.out); rintro e w5 ⟨rfl, hb⟩; have n1_ := Aside0.mk (below_step HB.out hb); clear HB; have HB := n1_; clear n1_; clear hb))
    go_ret2
    exact ⟨_, rfl, Kd.R_nil _ _ _ _ _, by repeat (first | exact HB.out | apply below_drew1)⟩

end Go.Proofs.Ytpdfdaoohknfoaa.P
