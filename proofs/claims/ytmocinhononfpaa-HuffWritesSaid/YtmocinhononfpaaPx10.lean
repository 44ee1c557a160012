-- PRINTED by print.py (a twelfth state) out of the translation. Not trusted: Lean checks it.
import Derived.Maps.OwnSet
import Derived.DeepKeys4
import Derived.Test.YtmocinhononfpaaPx0
import Derived.Test.YtmocinhononfpaaPx3
import Derived.Test.YtmocinhononfpaaPx9
namespace Go.Proofs.Ytmocinhononfpaa.P
open Go.RowKit Go.Proofs.YtmocinhononfpaaW.PrintWords Go.Proofs.YtmocinhononfpaaW.PrintLast Go.Proofs.YtmocinhononfpaaW.PrintMore
attribute [local go_sem] max2_int min2_int max_two min_two max_three min_three max_four min_four   -- for this text's walks alone
set_option linter.unusedVariables false
set_option linter.unusedSimpArgs false

/-! ### huff_Read: function 21 -/
/-- the table: the codes of used symbols, the last one first -/
def huff_Read.tab (c l : List Int) : Nat → List (Int × Int × Int)
  | 0 => []
  | j + 1 => if rd l (j : Int) > 0 then (rd c (j : Int), rd l (j : Int), (j : Int)) :: huff_Read.tab c l j else huff_Read.tab c l j
def huff_Read.look : List (Int × Int × Int) → Int → Int → Option Int
  | [], _, _ => none
  | x :: M, c, n => if x.1 = c ∧ x.2.1 = n then some x.2.2 else huff_Read.look M c n
def huff_Read.size : List (Int × Int × Int) → Nat
  | [] => 0
  | x :: M => if (huff_Read.look M x.1 x.2.1).isSome = true then huff_Read.size M else huff_Read.size M + 1
/-- all numbers are in range -/
def huff_Read.fit (c l : List Int) : Bool := c.all (fun x => decide (0 ≤ x ∧ x < 4294967296)) && l.all (fun x => decide (-9223372036854775808 ≤ x ∧ x ≤ 9223372036854775807)) && decide (l.length ≤ c.length ∧ l.length ≤ 1000000)
def huff_Read.go (k : Nat) (l0_0 : List Int) (a0_1 : Int) (M : List (Int × Int × Int)) : Nat → Int → Int → Option (Int × Int × Int)
  | 0, _, _ => some (a0_1, 0, 2)
  | d + 1, x, m => (bits_Get.f k l0_0 x 1).bind fun g => if g.2.2 = 0 then
      (if 0 ≤ Go.bits .or .u32 (IntKind.u32.wrap (m * 2)) (IntKind.u32.wrap g.2.1) ∧ Go.bits .or .u32 (IntKind.u32.wrap (m * 2)) (IntKind.u32.wrap g.2.1) < 4294967296 then
        (if (huff_Read.look M (Go.bits .or .u32 (IntKind.u32.wrap (m * 2)) (IntKind.u32.wrap g.2.1)) (16 - (d : Int))).isSome = true then
          some (g.1, (huff_Read.look M (Go.bits .or .u32 (IntKind.u32.wrap (m * 2)) (IntKind.u32.wrap g.2.1)) (16 - (d : Int))).getD 0, 0)
        else if huff_Read.size M = 1 then some (a0_1, 0, 2)
        else huff_Read.go k l0_0 a0_1 M d g.1 (Go.bits .or .u32 (IntKind.u32.wrap (m * 2)) (IntKind.u32.wrap g.2.1)))
      else none) else some (a0_1, 0, g.2.2)
def huff_Read.f (k : Nat) (l0_0 : List Int) (a0_1 : Int) (l1 : List Int) : Option (Int × Int × Int) :=
  (huff_Codes.f k l1).bind fun c => if c.2 = 0 then (if a0_1 < 0 then some (a0_1, 0, 1) else if huff_Read.fit c.1 l1 = true then huff_Read.go k l0_0 a0_1 (huff_Read.tab c.1 l1 l1.length) 16 a0_1 0 else none) else some (a0_1, 0, 1)
theorem huff_Read.go_mono (l0_0 : List Int) (a0_1 : Int) (M : List (Int × Int × Int)) (k : Nat) : ∀ (d : Nat) (x m : Int), LeO (huff_Read.go k l0_0 a0_1 M d x m) (huff_Read.go (k + 1) l0_0 a0_1 M d x m)
  | 0, _, _ => LeO.refl _
  | d + 1, x, m => by
    unfold huff_Read.go
    exact LeO.bind (bits_Get.mono _ _ _ _) (fun _ => LeO.ite (LeO.ite (LeO.ite (LeO.refl _) (LeO.ite (LeO.refl _) (huff_Read.go_mono l0_0 a0_1 M k d _ _))) (LeO.refl _)) (LeO.refl _))
theorem huff_Read.mono : ∀ a0 a1 a2 k, LeO (huff_Read.f k a0 a1 a2) (huff_Read.f (k + 1) a0 a1 a2) := by
  intro a0 a1 a2 k
  unfold huff_Read.f
  exact LeO.bind (huff_Codes.mono _ _) (fun _ => LeO.ite (LeO.ite (LeO.refl _) (LeO.ite (huff_Read.go_mono _ _ _ _ _ _ _) (LeO.refl _))) (LeO.refl _))
/-! the map -/
theorem huff_Read.law : Go.Maps.Keyed Try.prog 65 := Go.Maps.Keyed.of_law (deep_law_laid (by kernel_rfl) (m := 2) (by omega) (by decide) (by kernel_rfl) (by kernel_rfl))
theorem huff_Read.zeroE (w : World) : (zeroValue 3).run Try.prog w = .ok (.int .i64 0) w := by kernel_rfl
theorem huff_Read.lits {c n : Int} (hc : (Lit.int .u32 c).wf = true) (hn : (Lit.int .i64 n).wf = true) (d : Nat) : Try.prog.keyLits (d + 2) 65 [.int .u32 c, .int .i64 n] = some [.int .u32 c, .int .i64 n] := by
  have e2 : Try.prog.cellsOf 65 = 2 := by kernel_rfl
  have e3 : Try.prog.cellsOf 29 = 1 := by kernel_rfl
  have e4 : Try.prog.cellsOf 3 = 1 := by kernel_rfl
  simp [Program.keyLits, Try.underlying65, Try.underlying29, Try.underlying3, hc, hn, e2, e3, e4]
theorem huff_Read.key {c n : Int} (hc : (Lit.int .u32 c).wf = true) (hn : (Lit.int .i64 n).wf = true) : ∃ kl, keyOf Try.prog 65 (.agg #[.int .u32 c, .int .i64 n]) = some kl := by
  have h1 : (keyOf Try.prog 65 (.agg #[.int .u32 c, .int .i64 n])).isSome = true := by
    simp [keyOf, Try.underlying65, Value.formed]
    rw [if_pos ⟨by kernel_rfl, by kernel_rfl⟩]
    have e := huff_Read.lits hc hn (Try.prog.types.size - 1)
    rw [show Try.prog.types.size - 1 + 2 = Try.prog.types.size + 1 by kernel_rfl] at e
    simp only [Value.cells]
    exact (congrArg (fun o => (Option.map (fun ls => Lit.string (keyBytes ls)) o).isSome) e).trans rfl
  exact Option.isSome_iff_exists.1 h1
def huff_Read.Tells (D : DataW Unit) (M : List (Int × Int × Int)) : Prop :=
  (∀ (c n : Int) (kl : Lit), keyOf Try.prog 65 (.agg #[.int .u32 c, .int .i64 n]) = some kl → Maps.has D kl = (huff_Read.look M c n).isSome ∧ D.atKey kl (.lit (.int .i64 0)) = .lit (.int .i64 ((huff_Read.look M c n).getD 0))) ∧ Maps.size D = huff_Read.size M
def huff_Read.Own (w : World) (b n : Nat) (M : List (Int × Int × Int)) : Prop :=
  ∃ D : DataW Unit, w.ownsMap Try.prog 65 (plainElem Try.prog 3) b n D ∧ huff_Read.Tells D M
theorem huff_Read.own_below {w w1 : World} {b n : Nat} {M : List (Int × Int × Int)} (h : huff_Read.Own w b n M) (hb : Below w.heap.size w w1) : huff_Read.Own w1 b n M := by
  obtain ⟨D, h, ht⟩ := h
  have hlt := h.lt
  obtain ⟨es, clock, hm, F, hs, hD⟩ := h
  exact ⟨D, ⟨es, clock, (hb.block b hlt).trans hm, F, hs, hD⟩, ht⟩
theorem huff_Read.own_lt {w : World} {b n : Nat} {M : List (Int × Int × Int)} (h : huff_Read.Own w b n M) : b < w.heap.size := by
  obtain ⟨D, h, ht⟩ := h; exact h.lt
theorem huff_Read.own_far {w : World} {b n : Nat} {M : List (Int × Int × Int)} (h : huff_Read.Own w b n M) {p : Addr} (hp : b ≠ p.block) (u : Value) : huff_Read.Own (w.setCell p u) b n M := by
  obtain ⟨D, ⟨es, clock, hm, F, hs, hD⟩, ht⟩ := h
  exact ⟨D, ⟨es, clock, (Below.heap_setCell w p u b hp).trans hm, F, hs, hD⟩, ht⟩
theorem huff_Read.own_drew {w : World} {b n : Nat} {M : List (Int × Int × Int)} (h : huff_Read.Own w b n M) : huff_Read.Own w.drew b n M := h
theorem huff_Read.own_made (w : World) : huff_Read.Own (w.alloc (.map #[] 0)) w.heap.size 0 [] :=
  ⟨.map [], World.ownsMap_made _ _ _ _, fun c n kl h => ⟨rfl, rfl⟩, rfl⟩
theorem huff_Read.tells_put {D : DataW Unit} {M : List (Int × Int × Int)} (h : huff_Read.Tells D M) (hD : Maps.Tidy D) {c n s : Int} {kl : Lit} (hk : keyOf Try.prog 65 (.agg #[.int .u32 c, .int .i64 n]) = some kl) :
    huff_Read.Tells (D.put kl (.lit (.int .i64 s))) ((c, n, s) :: M) := by
  have hkl := huff_Read.law.key hk
  refine ⟨fun c' n' kl' hk' => ?_, ?_⟩
  · by_cases e : c = c' ∧ n = n'
    · obtain ⟨rfl, rfl⟩ := e
      obtain rfl : kl = kl' := Option.some.inj (hk.symm.trans hk')
      rw [Maps.has_put_same hD.isMap hkl, Maps.atKey_put_same hD.isMap hkl]
      simp [huff_Read.look]
    · have hne : kl' ≠ kl := by
        rintro rfl
        have := huff_Read.law.inj hk hk'
        simp at this
        exact e this
      rw [Maps.has_put_other hne, Maps.atKey_put_other hne]
      have : huff_Read.look ((c, n, s) :: M) c' n' = huff_Read.look M c' n' := by simp only [huff_Read.look]; rw [if_neg e]
      rw [this]
      exact h.1 c' n' kl' hk'
  · rw [Maps.size_put hD, h.2, (h.1 c n kl hk).1]; rfl
theorem huff_Read.wf64 {x : Int} (h : -9223372036854775808 ≤ x ∧ x ≤ 9223372036854775807) : (Lit.int .i64 x).wf = true := by
  simp [Lit.wf, IntKind.min, IntKind.max, IntKind.bits, IntKind.signed]; omega
theorem huff_Read.wf32 {x : Int} (h : 0 ≤ x ∧ x < 4294967296) : (Lit.int .u32 x).wf = true := by
  simp [Lit.wf, IntKind.min, IntKind.max, IntKind.bits, IntKind.signed]; omega
theorem huff_Read.rd_all {p : Int → Bool} {l : List Int} (h : l.all p = true) (j : Nat) (hj : j < l.length) : p (rd l (j : Int)) = true := by
  have : rd l (j : Int) ∈ l := by simp [rd, List.getD_eq_getElem?_getD, hj]
  exact List.all_eq_true.1 h _ this
theorem huff_Read.fit_at {c l : List Int} (h : huff_Read.fit c l = true) : l.length ≤ c.length ∧ l.length ≤ 1000000 ∧ ∀ j : Nat, j < l.length → (Lit.int .u32 (rd c (j : Int))).wf = true ∧ (Lit.int .i64 (rd l (j : Int))).wf = true ∧ (Lit.int .i64 (j : Int)).wf = true := by
  simp only [huff_Read.fit, Bool.and_eq_true, decide_eq_true_eq] at h
  refine ⟨h.2.1, h.2.2, fun j hj => ⟨huff_Read.wf32 ?_, huff_Read.wf64 ?_, huff_Read.wf64 (by omega)⟩⟩
  · have := huff_Read.rd_all h.1.1 j (by omega); simpa using this
  · have := huff_Read.rd_all h.1.2 j hj; simpa using this
set_option maxHeartbeats 8000000 in
set_option maxRecDepth 100000 in
theorem huff_Read.calls (k : Nat) (A0_0 : Option Addr) (c0_0 : Nat) (l0_0 : List Int) (a0_1 : Int) (A1 : Option Addr) (c1 : Nat) (l1 : List Int) (r1 : Int) (r2 : Int) (r3 : Int) (w : World) (hr0_0 : Kd.C (Kd.int .u8) w A0_0 l0_0.length l0_0) (hc0_0 : l0_0.length ≤ c0_0) (hr1 : Kd.C (Kd.int .i64) w A1 l1.length l1) (hc1 : l1.length ≤ c1) (h : huff_Read.f k l0_0 a0_1 l1 = some (r1, r2, r3)) :
    Calls Try.prog 21 #[.agg #[.slice A0_0 l0_0.length c0_0, .int .i64 a0_1], .slice A1 l1.length c1] w fun e w' => e = .returned (.tuple #[.agg #[.slice A0_0 l0_0.length c0_0, .int .i64 r1], .int .i64 r2, .int .i64 r3]) ∧ Below w.heap.size w w' := by
  have hu45 := Try.underlying45
  have hu65 := Try.underlying65
  have hmm := @run_makeMap Try.prog
  have HR0_0 := Aside0.mk hr0_0
  have HC0_0 := Aside0.mk hc0_0
  have HR1 := Aside0.mk hr1
  have HC1 := Aside0.mk hc1
  clear hr0_0 hc0_0 hr1 hc1
  have HB := Aside0.mk (Below.refl w.heap.size w)
  unfold huff_Read.f at h
  replace h := Option.bind_eq_some_iff.mp h
  obtain ⟨⟨t1, t2⟩, A40, H⟩ := h
  have A4 := Aside0.mk A40
  clear A40
  have HC5 := Aside0.mk H
  clear H
  go_enter Try.func21, Try.ntmps21
  go_upto_region 2 with (first
    | ((with_reducible refine gate_dst (N := 2) rfl ?_); refine box_event ?hg (N := 2) ?hd (cs := #[.slice A0_0 l0_0.length c0_0, .int .i64 a0_1]) (t := 45) ?hr ?_; (case hd => rfl); (case hg => rfl); (case hr => first | (go_simp; done) | (go_simp; rfl)); intro gb2 hg w4 hbox hb; have n1_ := Aside0.mk (below_step HB.out hb); have n2_ := Aside0.mk hbox; have n3_ := Aside0.mk ((by rw [hg]; exact (below_size HB.out)) : w.heap.size ≤ gb2); clear HB; have HB := n1_; have BK2 := n2_; have GE2 := n3_; clear n1_ n2_ n3_; clear hb hbox hg)
    | ((with_reducible refine gate_dst (N := 4) rfl ?_); refine box_event ?hg (N := 4) ?hd (cs := #[.slice none 0 0, .int .i64 0]) (t := 45) ?hr ?_; (case hd => rfl); (case hg => rfl); (case hr => first | (go_simp; done) | (go_simp; rfl)); intro gb4 hg w5 hbox hb; have n0_ := Aside0.mk (blk_below BK2.out hb); have n1_ := Aside0.mk (below_step HB.out hb); have n2_ := Aside0.mk hbox; have n3_ := Aside0.mk ((by rw [hg]; exact (below_size HB.out)) : w.heap.size ≤ gb4); have n4_ := Aside0.mk ((by rw [hg]; exact Nat.ne_of_lt (blk_lt BK2.out)) : gb2 ≠ gb4); clear BK2 HB; have BK2 := n0_; have HB := n1_; have BK4 := n2_; have GE4 := n3_; have NB := n4_; clear n0_ n1_ n2_ n3_ n4_; clear hb hbox hg)
    | (go_at_call 13; (with_reducible refine (huff_Codes.calls k _ _ l1 t1 t2 _ ?side1 ?side2 A4.out).mono ?_); (case side1 => exact (Kd.C_below HR1.out HB.out)); (case side2 => exact HC1.out); rintro e w8 ⟨v138, rfl, ho0, hb⟩; have n1_ := Aside0.mk ho0; have n2_ := Aside0.mk (blk_below BK2.out hb); have n3_ := Aside0.mk (blk_below BK4.out hb); have n4_ := Aside0.mk (below_step HB.out hb); clear BK2; clear BK4; clear HB; have HO := n1_; have BK2 := n2_; have BK4 := n3_; have HB := n4_; clear n1_ n2_ n3_ n4_; clear hb ho0))
  (try simp only [Act.put, List.setIfInBounds_toArray, List.set_cons_zero, List.set_cons_succ])
  have H := HC5.out
  clear HC5
  have hcz2_0 : w8.cell? ⟨gb2, 0, none⟩ = some (.slice A0_0 l0_0.length c0_0) := (blk_cell BK2.out 0).trans rfl
  have hcz2_1 : w8.cell? ⟨gb2, 1, none⟩ = some (.int .i64 a0_1) := (blk_cell BK2.out 1).trans rfl
  have hnb4 := NB.out
  have hnc4 := NB.out.symm
  have hcz4_0 : w8.cell? ⟨gb4, 0, none⟩ = some (.slice none 0 0) := (blk_cell BK4.out 0).trans rfl
  have hcz4_1 : w8.cell? ⟨gb4, 1, none⟩ = some (.int .i64 0) := (blk_cell BK4.out 1).trans rfl
  have hfz4_0 := blk_frozen BK4.out 0
  have hfz4_1 := blk_frozen BK4.out 1
  by_cases ce : t2 = 0
  · rw [if_pos ce] at H
    have ceb0 : (t2 == 0) = true := beq_iff_eq.mpr ce
    have ceb1 : (t2 != 0) = false := bne_eq_false_iff_eq.mpr ce
    clear ce
    by_cases ca : a0_1 < 0
    · rw [if_pos ca] at H
      have cab0 : decide (a0_1 < 0) = true := decide_eq_true ca
      clear ca
      simp only [Option.some.injEq, Prod.mk.injEq] at H
      obtain ⟨rfl, rfl, rfl⟩ := H
      go_wp2
      refine bodyPost_ret (results_ctt rfl _ _ gb4 45 #[.slice A0_0 l0_0.length c0_0, .int .i64 a0_1] (0, 0) _ rfl (by (with_reducible repeat (first | refine blk_drewN ?_ _ | refine blk_drew ?_ | refine blk_alloc ?_ _)); refine blk_put (cs := #[.slice A0_0 l0_0.length c0_0, .int .i64 0]) ?_ 1 _ rfl; (with_reducible repeat (first | refine blk_drewN ?_ _ | refine blk_drew ?_ | refine blk_alloc ?_ _)); refine blk_put (cs := #[.slice none 0 0, .int .i64 0]) ?_ 0 _ rfl; (with_reducible repeat (first | refine blk_drewN ?_ _ | refine blk_drew ?_ | refine blk_alloc ?_ _)); exact BK4.out) Try.underlying45 rfl (by kernel_rfl)) rfl ?_
      exact ⟨by first | rfl | (simp; done) | (simp [*]; done), by repeat (first | (with_reducible first | exact HB.out | apply below_alloc | apply pw_below_drewN | apply below_drew1 | refine below_set ?_ GE2.out | refine below_set ?_ GE4.out) | exact HB.out)⟩
    · rw [if_neg ca] at H
      have cab0 : decide (a0_1 < 0) = false := decide_eq_false ca
      clear ca
      by_cases cf : huff_Read.fit t1 l1 = true
      · rw [if_pos cf] at H
        have HF := Aside0.mk cf
        have H' := Aside0.mk H
        clear H cf
        obtain ⟨Ao, co, eo⟩ := Kd.R_slice HO.out
        (first | subst eo | (injection eo with f1_ f2_ f3_; have f4_ := f1_.symm; have f5_ := f3_.symm; clear f1_ f2_ f3_; subst f4_; subst f5_))
        have HOC := Aside0.mk (Kd.R_reads' HO.out).2.2
        have hfit := huff_Read.fit_at HF.out
        have HFIT := Aside0.mk hfit
        clear hfit
        go_wp2
        go_loopg [35] l1.length (fun g s35 wr => ∃ j : Nat, j + g = l1.length ∧ s35 = .int .i64 (j : Int) ∧ Aside0 (huff_Read.Own wr w8.heap.size j (huff_Read.tab t1 l1 j)) ∧ Aside0 (Below w8.heap.size w8 wr))
        case atStart => exact ⟨0, by omega, rfl, ⟨huff_Read.own_made w8⟩, ⟨by repeat (first | exact Below.refl _ _ | apply below_alloc)⟩⟩
        case round =>
          obtain ⟨j, hj, rfl, HM, HB8⟩ := hrel
          have HBa := Aside0.mk (below_step HB.out HB8.out)
          cases gk with
          | zero =>
            have cjb : decide ((j : Int) < (l1.length : Int)) = false := decide_eq_false (by omega)
            obtain rfl : j = l1.length := by omega
            clear HFIT HF hj
            have n2_ := Aside0.mk (blk_below BK2.out HB8.out)
            have n3_ := Aside0.mk (blk_below BK4.out HB8.out)
            have HM2 := HM
            clear BK2 BK4 HB HB8 HM HO HOC hcz2_0 hcz2_1 hcz4_0 hcz4_1 hfz4_0 hfz4_1
            have BK2 := n2_
            have BK4 := n3_
            clear n2_ n3_
            have HB := HBa
            clear HBa
            have HB2 := Aside0.mk (Below.refl wr.heap.size wr)
            have hcz2_0 : wr.cell? ⟨gb2, 0, none⟩ = some (.slice A0_0 l0_0.length c0_0) := (blk_cell BK2.out 0).trans rfl
            have hcz2_1 : wr.cell? ⟨gb2, 1, none⟩ = some (.int .i64 a0_1) := (blk_cell BK2.out 1).trans rfl
            go_upto_region 12 with (first
              | ((with_reducible refine gate_dst (N := 12) rfl ?_); refine box_event ?hg (N := 12) ?hd (cs := #[.slice none 0 0, .int .i64 0]) (t := 45) ?hr ?_; (case hd => rfl); (case hg => rfl); (case hr => first | (go_simp; done) | (go_simp; rfl)); intro gb12 hg w10 hbox hb; have n1_ := Aside0.mk (below_step HB2.out hb); have n2_ := Aside0.mk hbox; have n3_ := Aside0.mk ((by rw [hg]; exact (below_size HB2.out)) : wr.heap.size ≤ gb12); clear HB2; have HB2 := n1_; have BK12 := n2_; have GE12 := n3_; clear n1_ n2_ n3_; clear hb hbox hg)
              | ((with_reducible refine gate_dst (N := 13) rfl ?_); refine box_event ?hg (N := 13) ?hd (cs := #[.int .u32 0, .int .i64 0]) (t := 65) ?hr ?_; (case hd => rfl); (case hg => rfl); (case hr => first | (go_simp; done) | (go_simp; rfl)); intro gb13 hg w11 hbox hb; have n0_ := Aside0.mk (blk_below BK12.out hb); have n1_ := Aside0.mk (below_step HB2.out hb); have n2_ := Aside0.mk hbox; have n3_ := Aside0.mk ((by rw [hg]; exact (below_size HB2.out)) : wr.heap.size ≤ gb13); have n4_ := Aside0.mk ((by rw [hg]; exact Nat.ne_of_gt (blk_lt BK12.out)) : gb13 ≠ gb12); clear BK12 HB2; have BK12 := n0_; have HB2 := n1_; have BK13 := n2_; have GE13 := n3_; have ND := n4_; clear n0_ n1_ n2_ n3_ n4_; clear hb hbox hg; have hnd := ND.out; have hne := ND.out.symm; have hcz12_0 : w11.cell? ⟨gb12, 0, none⟩ = some (.slice none 0 0) := (blk_cell BK12.out 0).trans rfl; have hcz12_1 : w11.cell? ⟨gb12, 1, none⟩ = some (.int .i64 0) := (blk_cell BK12.out 1).trans rfl; have hcz13_0 : w11.cell? ⟨gb13, 0, none⟩ = some (.int .u32 0) := (blk_cell BK13.out 0).trans rfl; have hcz13_1 : w11.cell? ⟨gb13, 1, none⟩ = some (.int .i64 0) := (blk_cell BK13.out 1).trans rfl; have hfz12_0 := blk_frozen BK12.out 0; have hfz12_1 := blk_frozen BK12.out 1; have hfz13_0 := blk_frozen BK13.out 0; have hfz13_1 := blk_frozen BK13.out 1))
            obtain ⟨W2, hW2⟩ : ∃ W2 : World, W2 = wr := ⟨_, rfl⟩
            subst hW2
            have LT2 := Aside0.mk (blk_lt BK2.out)
            have LT4 := Aside0.mk (blk_lt BK4.out)
            have LTM := Aside0.mk (huff_Read.own_lt HM2.out)
            clear hcz2_0 hcz2_1
            have n0_ : Aside0 ((((((w11.setCell ⟨gb12, 0, none⟩ (.slice A0_0 l0_0.length c0_0)).setCell ⟨gb12, 1, none⟩ (.int .i64 a0_1)).setCell ⟨gb13, 0, none⟩ (.int .u32 0)).setCell ⟨gb13, 1, none⟩ (.int .i64 0))).heap[gb12]? = some (.cells #[.slice A0_0 l0_0.length c0_0, .int .i64 a0_1] 45 (0, 0))) := ⟨by refine blk_far ?_ hne _; refine blk_far ?_ hne _; refine blk_put (cs := #[.slice A0_0 l0_0.length c0_0, .int .i64 0]) ?_ 1 _ rfl; refine blk_put (cs := #[.slice none 0 0, .int .i64 0]) ?_ 0 _ rfl; exact BK12.out⟩
            have n1_ : Aside0 ((((((w11.setCell ⟨gb12, 0, none⟩ (.slice A0_0 l0_0.length c0_0)).setCell ⟨gb12, 1, none⟩ (.int .i64 a0_1)).setCell ⟨gb13, 0, none⟩ (.int .u32 0)).setCell ⟨gb13, 1, none⟩ (.int .i64 0))).heap[gb13]? = some (.cells #[.int .u32 0, .int .i64 0] 65 (0, 0))) := ⟨by refine blk_put (cs := #[.int .u32 0, .int .i64 0]) ?_ 1 _ rfl; refine blk_put (cs := #[.int .u32 0, .int .i64 0]) ?_ 0 _ rfl; refine blk_far ?_ hnd _; refine blk_far ?_ hnd _; exact BK13.out⟩
            have n2_ : Aside0 (Below W2.heap.size W2 ((((w11.setCell ⟨gb12, 0, none⟩ (.slice A0_0 l0_0.length c0_0)).setCell ⟨gb12, 1, none⟩ (.int .i64 a0_1)).setCell ⟨gb13, 0, none⟩ (.int .u32 0)).setCell ⟨gb13, 1, none⟩ (.int .i64 0))) := ⟨by repeat (first | (with_reducible first | exact HB2.out | apply below_alloc | apply pw_below_drewN | apply below_drew1 | refine below_set ?_ GE12.out | refine below_set ?_ GE13.out) | exact HB2.out)⟩
            clear HB2 BK12 BK13
            clear hcz12_0 hcz12_1 hcz13_0 hcz13_1 hfz12_0 hfz12_1 hfz13_0 hfz13_1
            generalize (((w11.setCell ⟨gb12, 0, none⟩ (.slice A0_0 l0_0.length c0_0)).setCell ⟨gb12, 1, none⟩ (.int .i64 a0_1)).setCell ⟨gb13, 0, none⟩ (.int .u32 0)).setCell ⟨gb13, 1, none⟩ (.int .i64 0) = W3 at n0_ n1_ n2_ ⊢
            go_loopg [] 16 (fun g wr => ∃ (x m mm : Int), Aside0 (mm = 16 - (g : Int)) ∧ Aside0 (g ≤ 16) ∧ Aside0 (huff_Read.go k l0_0 a0_1 (huff_Read.tab t1 l1 l1.length) g x m = some (r1, r2, r3)) ∧ Aside0 (wr.heap[gb12]? = some (.cells #[.slice A0_0 l0_0.length c0_0, .int .i64 x] 45 (0, 0))) ∧ Aside0 (wr.heap[gb13]? = some (.cells #[.int .u32 m, .int .i64 mm] 65 (0, 0))) ∧ Aside0 (Below W2.heap.size W2 wr))
            case atStart => exact ⟨a0_1, 0, 0, ⟨by omega⟩, ⟨Nat.le_refl _⟩, H', n0_, n1_, n2_⟩
            case round =>
              clear H' n0_ n1_ n2_
              obtain ⟨x, m, mm, HMM, HD16, H', BK12, BK13, HB2⟩ := hrel
              have HBw := Aside0.mk (below_step HB.out HB2.out)
              have n2_ := Aside0.mk (blk_below BK2.out HB2.out)
              have n3_ := Aside0.mk (blk_below BK4.out HB2.out)
              have n4_ := Aside0.mk (huff_Read.own_below HM2.out HB2.out)
              clear BK2 BK4
              have BK2 := n2_
              have BK4 := n3_
              have HMw := n4_
              clear n2_ n3_ n4_
              have hcz2_0 : wr.cell? ⟨gb2, 0, none⟩ = some (.slice A0_0 l0_0.length c0_0) := (blk_cell BK2.out 0).trans rfl
              have hcz2_1 : wr.cell? ⟨gb2, 1, none⟩ = some (.int .i64 a0_1) := (blk_cell BK2.out 1).trans rfl
              have hcz4_0 : wr.cell? ⟨gb4, 0, none⟩ = some (.slice none 0 0) := (blk_cell BK4.out 0).trans rfl
              have hcz4_1 : wr.cell? ⟨gb4, 1, none⟩ = some (.int .i64 0) := (blk_cell BK4.out 1).trans rfl
              have hfz4_0 := blk_frozen BK4.out 0
              have hfz4_1 := blk_frozen BK4.out 1
              have hcz12_0 : wr.cell? ⟨gb12, 0, none⟩ = some (.slice A0_0 l0_0.length c0_0) := (blk_cell BK12.out 0).trans rfl
              have hcz12_1 : wr.cell? ⟨gb12, 1, none⟩ = some (.int .i64 x) := (blk_cell BK12.out 1).trans rfl
              have hcz13_0 : wr.cell? ⟨gb13, 0, none⟩ = some (.int .u32 m) := (blk_cell BK13.out 0).trans rfl
              have hcz13_1 : wr.cell? ⟨gb13, 1, none⟩ = some (.int .i64 mm) := (blk_cell BK13.out 1).trans rfl
              have hfz12_0 := blk_frozen BK12.out 0
              have hfz12_1 := blk_frozen BK12.out 1
              have hfz13_0 := blk_frozen BK13.out 0
              have hfz13_1 := blk_frozen BK13.out 1
              cases gk with
              | zero =>
                have H := H'.out
                clear H'
                simp only [huff_Read.go, Option.some.injEq, Prod.mk.injEq] at H
                obtain ⟨rfl, rfl, rfl⟩ := H
                have cmb : decide (mm < 16) = false := decide_eq_false (by have := HMM.out; omega)
                go_wp2
                refine bodyPost_ret (results_ctt rfl _ _ gb4 45 #[.slice A0_0 l0_0.length c0_0, .int .i64 a0_1] (0, 0) _ rfl (by (with_reducible repeat (first | refine blk_drewN ?_ _ | refine blk_drew ?_ | refine blk_alloc ?_ _)); refine blk_put (cs := #[.slice A0_0 l0_0.length c0_0, .int .i64 0]) ?_ 1 _ rfl; (with_reducible repeat (first | refine blk_drewN ?_ _ | refine blk_drew ?_ | refine blk_alloc ?_ _)); refine blk_put (cs := #[.slice none 0 0, .int .i64 0]) ?_ 0 _ rfl; (with_reducible repeat (first | refine blk_drewN ?_ _ | refine blk_drew ?_ | refine blk_alloc ?_ _)); exact BK4.out) Try.underlying45 rfl (by kernel_rfl)) rfl ?_
                exact ⟨by first | rfl | (simp; done) | (simp [*]; done), by repeat (first | (with_reducible first | exact HBw.out | apply below_alloc | apply pw_below_drewN | apply below_drew1 | refine below_set ?_ GE2.out | refine below_set ?_ GE4.out) | exact HBw.out)⟩
              | succ d =>
                have H := H'.out
                clear H'
                simp only [huff_Read.go] at H
                replace H := Option.bind_eq_some_iff.mp H
                obtain ⟨⟨t3, t4, t5⟩, A50, H⟩ := H
                have A5 := Aside0.mk A50
                have HC6 := Aside0.mk H
                clear A50 H
                have cmb : decide (mm < 16) = true := decide_eq_true (by have := HMM.out; omega)
                go_upto_region 14 with (first
                  | (go_at_call 30; (with_reducible refine (bits_Get.calls k _ _ l0_0 x 1 t3 t4 t5 _ ?side1 ?side2 A5.out).mono ?_); (case side1 => repeat (first | exact (Kd.C_below HR0_0.out HBw.out) | (with_reducible refine Kd.C_alloc ?_ _) | (with_reducible refine Kd.C_drewN ?_ _) | (with_reducible refine Kd.C_drew ?_))); (case side2 => exact HC0_0.out); rintro e wg ⟨rfl, hb⟩; have n2_ := Aside0.mk (blk_below BK2.out hb); have n3_ := Aside0.mk (blk_below BK4.out hb); have n4_ := Aside0.mk (huff_Read.own_below HMw.out hb); have n5_ := Aside0.mk (blk_below BK12.out hb); have n6_ := Aside0.mk (blk_below BK13.out hb); have n7_ := Aside0.mk (below_step HB2.out hb); have n8_ := Aside0.mk (below_step HBw.out hb); clear BK2 BK4 HMw BK12 BK13 HB2 HBw hcz2_0 hcz2_1 hcz4_0 hcz4_1 hfz4_0 hfz4_1 hcz12_0 hcz12_1 hcz13_0 hcz13_1 hfz12_0 hfz12_1 hfz13_0 hfz13_1; have BK2 := n2_; have BK4 := n3_; have HMw := n4_; have BK12 := n5_; have BK13 := n6_; have HB2 := n7_; have HBw := n8_; clear n2_ n3_ n4_ n5_ n6_ n7_ n8_; clear hb)
                  | ((with_reducible refine gate_dst (N := 14) rfl ?_); refine box_event ?hg (N := 14) ?hd (cs := #[.slice none 0 0, .int .i64 0]) (t := 45) ?hr ?_; (case hd => rfl); (case hg => rfl); (case hr => first | (go_simp; done) | (go_simp; rfl)); intro gb14 hg w14 hbox hb; have n2_ := Aside0.mk (blk_below BK2.out hb); have n3_ := Aside0.mk (blk_below BK4.out hb); have n4_ := Aside0.mk (huff_Read.own_below HMw.out hb); have n5_ := Aside0.mk (blk_below BK12.out hb); have n6_ := Aside0.mk (blk_below BK13.out hb); have n7_ := Aside0.mk (below_step HB2.out hb); have n8_ := Aside0.mk (below_step HBw.out hb); have n9_ := Aside0.mk hbox; have m1_ := Aside0.mk ((by rw [hg]; exact (below_size HBw.out)) : w.heap.size ≤ gb14); have m2_ := Aside0.mk ((by rw [hg]; exact Nat.ne_of_gt (blk_lt BK12.out)) : gb14 ≠ gb12); have m3_ := Aside0.mk ((by rw [hg]; exact Nat.ne_of_gt (blk_lt BK13.out)) : gb14 ≠ gb13); have m4_ := Aside0.mk ((by rw [hg]; exact Nat.ne_of_gt (blk_lt BK2.out)) : gb14 ≠ gb2); have m5_ := Aside0.mk ((by rw [hg]; exact Nat.ne_of_gt (blk_lt BK4.out)) : gb14 ≠ gb4); have m6_ := Aside0.mk ((by rw [hg]; exact (below_size HB2.out)) : W2.heap.size ≤ gb14); have m7_ := Aside0.mk hg; clear BK2 BK4 HMw BK12 BK13 HB2 HBw; have BK2 := n2_; have BK4 := n3_; have HMw := n4_; have BK12 := n5_; have BK13 := n6_; have HB2 := n7_; have HBw := n8_; have BK14 := n9_; have GE14 := m1_; have N12 := m2_; have N13 := m3_; have N2 := m4_; have N4 := m5_; have GF14 := m6_; clear n2_ n3_ n4_ n5_ n6_ n7_ n8_ n9_ m1_ m2_ m3_ m4_ m5_ m6_ m7_; clear hb hbox hg; have hcz14_0 : w14.cell? ⟨gb14, 0, none⟩ = some (.slice none 0 0) := (blk_cell BK14.out 0).trans rfl; have hcz14_1 : w14.cell? ⟨gb14, 1, none⟩ = some (.int .i64 0) := (blk_cell BK14.out 1).trans rfl; have hfz14_0 := blk_frozen BK14.out 0; have hfz14_1 := blk_frozen BK14.out 1))
                have hNM : w8.heap.size ≠ gb14 := Nat.ne_of_lt (Nat.lt_of_lt_of_le (huff_Read.own_lt HM2.out) GF14.out)
                have n1_ : Aside0 (((w14.setCell ⟨gb14, 0, none⟩ (.slice A0_0 l0_0.length c0_0)).setCell ⟨gb14, 1, none⟩ (.int .i64 t3)).heap[gb2]? = some (.cells #[.slice A0_0 l0_0.length c0_0, .int .i64 a0_1] 45 (0, 0))) := ⟨by refine blk_far ?_ N2.out.symm _; refine blk_far ?_ N2.out.symm _; exact BK2.out⟩
                have n2_ : Aside0 (((w14.setCell ⟨gb14, 0, none⟩ (.slice A0_0 l0_0.length c0_0)).setCell ⟨gb14, 1, none⟩ (.int .i64 t3)).heap[gb4]? = some (.cells #[.slice none 0 0, .int .i64 0] 45 (0, 0))) := ⟨by refine blk_far ?_ N4.out.symm _; refine blk_far ?_ N4.out.symm _; exact BK4.out⟩
                have n3_ : Aside0 (((w14.setCell ⟨gb14, 0, none⟩ (.slice A0_0 l0_0.length c0_0)).setCell ⟨gb14, 1, none⟩ (.int .i64 t3)).heap[gb12]? = some (.cells #[.slice A0_0 l0_0.length c0_0, .int .i64 x] 45 (0, 0))) := ⟨by refine blk_far ?_ N12.out.symm _; refine blk_far ?_ N12.out.symm _; exact BK12.out⟩
                have n4_ : Aside0 (((w14.setCell ⟨gb14, 0, none⟩ (.slice A0_0 l0_0.length c0_0)).setCell ⟨gb14, 1, none⟩ (.int .i64 t3)).heap[gb13]? = some (.cells #[.int .u32 m, .int .i64 mm] 65 (0, 0))) := ⟨by refine blk_far ?_ N13.out.symm _; refine blk_far ?_ N13.out.symm _; exact BK13.out⟩
                have n5_ : Aside0 (((w14.setCell ⟨gb14, 0, none⟩ (.slice A0_0 l0_0.length c0_0)).setCell ⟨gb14, 1, none⟩ (.int .i64 t3)).heap[gb14]? = some (.cells #[.slice A0_0 l0_0.length c0_0, .int .i64 t3] 45 (0, 0))) := ⟨by refine blk_put (cs := #[.slice A0_0 l0_0.length c0_0, .int .i64 0]) ?_ 1 _ rfl; refine blk_put (cs := #[.slice none 0 0, .int .i64 0]) ?_ 0 _ rfl; exact BK14.out⟩
                have n6_ : Aside0 (huff_Read.Own ((w14.setCell ⟨gb14, 0, none⟩ (.slice A0_0 l0_0.length c0_0)).setCell ⟨gb14, 1, none⟩ (.int .i64 t3)) w8.heap.size l1.length (huff_Read.tab t1 l1 l1.length)) := ⟨huff_Read.own_far (huff_Read.own_far HMw.out hNM _) hNM _⟩
                have n7_ : Aside0 (Below W2.heap.size W2 ((w14.setCell ⟨gb14, 0, none⟩ (.slice A0_0 l0_0.length c0_0)).setCell ⟨gb14, 1, none⟩ (.int .i64 t3))) := ⟨below_set (below_set HB2.out GF14.out) GF14.out⟩
                have n8_ : Aside0 (Below w.heap.size w ((w14.setCell ⟨gb14, 0, none⟩ (.slice A0_0 l0_0.length c0_0)).setCell ⟨gb14, 1, none⟩ (.int .i64 t3))) := ⟨below_set (below_set HBw.out GE14.out) GE14.out⟩
                clear BK2 BK4 BK12 BK13 BK14 HMw HB2 HBw hcz14_0 hcz14_1 hfz14_0 hfz14_1 hNM
                have BK2 := n1_
                have BK4 := n2_
                have BK12 := n3_
                have BK13 := n4_
                have BK14 := n5_
                have HMw := n6_
                have HB2 := n7_
                have HBw := n8_
                clear n1_ n2_ n3_ n4_ n5_ n6_ n7_ n8_
                generalize ((w14.setCell ⟨gb14, 0, none⟩ (.slice A0_0 l0_0.length c0_0)).setCell ⟨gb14, 1, none⟩ (.int .i64 t3)) = wr2 at BK2 BK4 BK12 BK13 BK14 HMw HB2 HBw ⊢
                have H := HC6.out
                clear HC6
                have hcz2_0 : wr2.cell? ⟨gb2, 0, none⟩ = some (.slice A0_0 l0_0.length c0_0) := (blk_cell BK2.out 0).trans rfl
                have hcz2_1 : wr2.cell? ⟨gb2, 1, none⟩ = some (.int .i64 a0_1) := (blk_cell BK2.out 1).trans rfl
                have hcz4_0 : wr2.cell? ⟨gb4, 0, none⟩ = some (.slice none 0 0) := (blk_cell BK4.out 0).trans rfl
                have hcz4_1 : wr2.cell? ⟨gb4, 1, none⟩ = some (.int .i64 0) := (blk_cell BK4.out 1).trans rfl
                have hfz4_0 := blk_frozen BK4.out 0
                have hfz4_1 := blk_frozen BK4.out 1
                by_cases c5 : t5 = 0
                · subst c5
                  have c5b0 : ((0 : Int) == 0) = true := rfl
                  have c5b1 : ((0 : Int) != 0) = false := rfl
                  rw [if_pos rfl] at H
                  by_cases cn : 0 ≤ Go.bits .or .u32 (IntKind.u32.wrap (m * 2)) (IntKind.u32.wrap t4) ∧ Go.bits .or .u32 (IntKind.u32.wrap (m * 2)) (IntKind.u32.wrap t4) < 4294967296
                  · rw [if_pos cn] at H
                    have CN := Aside0.mk cn
                    have HC7 := Aside0.mk H
                    clear H cn
                    clear hcz2_0 hcz2_1 hcz4_0 hcz4_1 hfz4_0 hfz4_1
                    go_upto_region 16 with (fail)
                    have n1_ := Aside0.mk (blk_drew BK2.out)
                    have n2_ := Aside0.mk (blk_drew BK4.out)
                    have n3_ := Aside0.mk (blk_drew BK12.out)
                    have n4_ := Aside0.mk (blk_drew BK13.out)
                    have n5_ := Aside0.mk (blk_drew BK14.out)
                    have n6_ := Aside0.mk (huff_Read.own_drew HMw.out)
                    have n7_ := Aside0.mk (below_drew1 HB2.out)
                    have n8_ := Aside0.mk (below_drew1 HBw.out)
                    clear BK2 BK4 BK12 BK13 BK14 HMw HB2 HBw
                    have BK2 := n1_
                    have BK4 := n2_
                    have BK12 := n3_
                    have BK13 := n4_
                    have BK14 := n5_
                    have HMw := n6_
                    have HB2 := n7_
                    have HBw := n8_
                    clear n1_ n2_ n3_ n4_ n5_ n6_ n7_ n8_
                    have hne : gb14 ≠ gb12 := N12.out
                    have hnd : gb13 ≠ gb12 := ND.out
                    have hnd' : gb12 ≠ gb13 := ND.out.symm
                    refine start_ (n := 13) (S := fun w' => w'.cell? ⟨gb14, 0, none⟩ = some (.slice A0_0 l0_0.length c0_0) ∧ w'.cell? ⟨gb14, 1, none⟩ = some (.int .i64 t3) ∧ w'.cell? ⟨gb13, 0, none⟩ = some (.int .u32 m) ∧ w'.cell? ⟨gb13, 1, none⟩ = some (.int .i64 mm)) (ds := [12]) #[false, false, false, false, false, false, false, false, false, false, false, false, false] (by kernel_rfl) rfl rfl ⟨(blk_cell BK14.out 0).trans rfl, (blk_cell BK14.out 1).trans rfl, (blk_cell BK13.out 0).trans rfl, (blk_cell BK13.out 1).trans rfl⟩ (fun hHeld => ?_)
                    generalize wr2.drew = w38 at BK2 BK4 BK12 BK13 BK14 HB2 HBw hHeld HMw ⊢
                    have hcz12_0 : w38.cell? ⟨gb12, 0, none⟩ = some (.slice A0_0 l0_0.length c0_0) := (blk_cell BK12.out 0).trans rfl
                    have hcz12_1 : w38.cell? ⟨gb12, 1, none⟩ = some (.int .i64 x) := (blk_cell BK12.out 1).trans rfl
                    have hcz13_0 : w38.cell? ⟨gb13, 0, none⟩ = some (.int .u32 m) := (blk_cell BK13.out 0).trans rfl
                    have hcz13_1 : w38.cell? ⟨gb13, 1, none⟩ = some (.int .i64 mm) := (blk_cell BK13.out 1).trans rfl
                    have hfz12_0 := blk_frozen BK12.out 0
                    have hfz12_1 := blk_frozen BK12.out 1
                    have hfz13_0 := blk_frozen BK13.out 0
                    have hfz13_1 := blk_frozen BK13.out 1
                    refine pure_ (i := 1) (N := some 67) (v := ?_) (a' := ?_) #[false, true, false, false, false, false, false, false, false, false, false, false, false] rfl rfl (by kernel_rfl) (fun _ _ _ h => h) (Or.inl ⟨by rfl, ?_⟩) ?_ ?_
                    rotate_left
                    · intro w'
                      go_simp
                      with_reducible rfl
                    rotate_left
                    · simp only [Act.put, List.setIfInBounds_toArray, List.set_cons_zero, List.set_cons_succ, i64_w, i32_w]
                      rfl
                    refine pure_ (i := 4) (N := some 70) (v := ?_) (a' := ?_) #[false, true, false, false, true, false, false, false, false, false, false, false, false] rfl rfl (by kernel_rfl) (fun _ _ _ h => h) (Or.inl ⟨by rfl, ?_⟩) ?_ ?_
                    rotate_left
                    · intro w'
                      go_simp
                      with_reducible rfl
                    rotate_left
                    · simp only [Act.put, List.setIfInBounds_toArray, List.set_cons_zero, List.set_cons_succ, i64_w, i32_w]
                      rfl
                    refine pure_ (i := 5) (N := some 71) (v := ?_) (a' := ?_) #[false, true, false, false, true, true, false, false, false, false, false, false, false] rfl rfl (by kernel_rfl) (fun _ _ _ h => h) (Or.inl ⟨by rfl, ?_⟩) ?_ ?_
                    rotate_left
                    · intro w'
                      go_simp
                      with_reducible rfl
                    rotate_left
                    · simp only [Act.put, List.setIfInBounds_toArray, List.set_cons_zero, List.set_cons_succ, i64_w, i32_w]
                      rfl
                    refine pure_ (i := 7) (N := some 73) (v := ?_) (a' := ?_) #[false, true, false, false, true, true, false, true, false, false, false, false, false] rfl rfl (by kernel_rfl) (fun _ _ _ h => h) (Or.inl ⟨by rfl, ?_⟩) ?_ ?_
                    rotate_left
                    · intro w'
                      go_simp
                      with_reducible rfl
                    rotate_left
                    · simp only [Act.put, List.setIfInBounds_toArray, List.set_cons_zero, List.set_cons_succ, i64_w, i32_w]
                      rfl
                    refine take_ (i := 0) (N := some 66) (v := ?_) (a' := ?_) #[true, true, false, false, true, true, false, true, false, false, false, false, false] rfl rfl (by kernel_rfl) (fun _ _ _ h => h) (Or.inl ⟨by rfl, ?_⟩) hHeld ?_ ?_
                    rotate_left
                    · rintro w' ⟨s0, s1, s2, s3⟩
                      go_simp
                      with_reducible rfl
                    rotate_left
                    · simp only [Act.put, List.setIfInBounds_toArray, List.set_cons_zero, List.set_cons_succ, i64_w, i32_w]
                      rfl
                    refine take_ (i := 2) (N := some 68) (v := ?_) (a' := ?_) #[true, true, true, false, true, true, false, true, false, false, false, false, false] rfl rfl (by kernel_rfl) (fun _ _ _ h => h) (Or.inl ⟨by rfl, ?_⟩) hHeld ?_ ?_
                    rotate_left
                    · rintro w' ⟨s0, s1, s2, s3⟩
                      go_simp
                      with_reducible rfl
                    rotate_left
                    · simp only [Act.put, List.setIfInBounds_toArray, List.set_cons_zero, List.set_cons_succ, i64_w, i32_w]
                      rfl
                    refine pure_ (i := 3) (N := some 69) (v := ?_) (a' := ?_) #[true, true, true, true, true, true, false, true, false, false, false, false, false] rfl rfl (by kernel_rfl) (fun _ _ _ h => h) (Or.inl ⟨by rfl, ?_⟩) ?_ ?_
                    rotate_left
                    · intro w'
                      go_simp
                      with_reducible rfl
                    rotate_left
                    · simp only [Act.put, List.setIfInBounds_toArray, List.set_cons_zero, List.set_cons_succ, i64_w, i32_w]
                      rfl
                    refine pure_ (i := 6) (N := some 72) (v := ?_) (a' := ?_) #[true, true, true, true, true, true, true, true, false, false, false, false, false] rfl rfl (by kernel_rfl) (fun _ _ _ h => h) (Or.inl ⟨by rfl, ?_⟩) ?_ ?_
                    rotate_left
                    · intro w'
                      go_simp
                      with_reducible rfl
                    rotate_left
                    · simp only [Act.put, List.setIfInBounds_toArray, List.set_cons_zero, List.set_cons_succ, i64_w, i32_w]
                      rfl
                    refine take_ (i := 8) (N := some 74) (v := ?_) (a' := ?_) #[true, true, true, true, true, true, true, true, true, false, false, false, false] rfl rfl (by kernel_rfl) (fun _ _ _ h => h) (Or.inl ⟨by rfl, ?_⟩) hHeld ?_ ?_
                    rotate_left
                    · rintro w' ⟨s0, s1, s2, s3⟩
                      go_simp
                      with_reducible rfl
                    rotate_left
                    · simp only [Act.put, List.setIfInBounds_toArray, List.set_cons_zero, List.set_cons_succ, i64_w, i32_w]
                      rfl
                    refine pure_ (i := 9) (N := some 75) (v := ?_) (a' := ?_) #[true, true, true, true, true, true, true, true, true, true, false, false, false] rfl rfl (by kernel_rfl) (fun _ _ _ h => h) (Or.inl ⟨by rfl, ?_⟩) ?_ ?_
                    rotate_left
                    · intro w'
                      go_simp
                      with_reducible rfl
                    rotate_left
                    · simp only [Act.put, List.setIfInBounds_toArray, List.set_cons_zero, List.set_cons_succ, i64_w, i32_w]
                      rfl
                    refine pure_ (i := 10) (N := some 76) (v := ?_) (a' := ?_) #[true, true, true, true, true, true, true, true, true, true, true, false, false] rfl rfl (by kernel_rfl) (fun _ _ _ h => h) (Or.inl ⟨by rfl, ?_⟩) ?_ ?_
                    rotate_left
                    · intro w'
                      go_simp
                      with_reducible rfl
                    rotate_left
                    · simp only [Act.put, List.setIfInBounds_toArray, List.set_cons_zero, List.set_cons_succ, i64_w, i32_w]
                      rfl
                    refine one_ (i := 11) (N := none) #[true, true, true, true, true, true, true, true, true, true, true, true, false] rfl rfl (by kernel_rfl) (by decide) (fun K hK => ?_)
                    refine skip_ (w1 := ?_) (by rfl) rfl ?_ ?_
                    rotate_left
                    · go_simp
                      rfl
                    refine hK.out _ _ ⟨((cell_far (p := ⟨gb12, 1, none⟩) (show gb14 ≠ gb12 from hne) _).trans ((cell_far (p := ⟨gb12, 0, none⟩) (show gb14 ≠ gb12 from hne) _).trans hHeld.1)), ((cell_far (p := ⟨gb12, 1, none⟩) (show gb14 ≠ gb12 from hne) _).trans ((cell_far (p := ⟨gb12, 0, none⟩) (show gb14 ≠ gb12 from hne) _).trans hHeld.2.1)), ((cell_far (p := ⟨gb12, 1, none⟩) (show gb13 ≠ gb12 from hnd) _).trans ((cell_far (p := ⟨gb12, 0, none⟩) (show gb13 ≠ gb12 from hnd) _).trans hHeld.2.2.1)), ((cell_far (p := ⟨gb12, 1, none⟩) (show gb13 ≠ gb12 from hnd) _).trans ((cell_far (p := ⟨gb12, 0, none⟩) (show gb13 ≠ gb12 from hnd) _).trans hHeld.2.2.2))⟩ (fun hHeld => ?_)
                    clear hK K
                    refine last_ (i := 12) (N := none) #[true, true, true, true, true, true, true, true, true, true, true, true, true] rfl rfl (by kernel_rfl) (by decide) (fun K hK => ?_)
                    refine skip_ (w1 := ?_) (by rfl) rfl ?_ ?_
                    rotate_left
                    · go_simp
                      rfl
                    refine hK.out _ _ ?_
                    clear hK K
                    refine done_ (by kernel_rfl) ?_
                    have n1_ : Aside0 (((((w38.setCell ⟨gb12, 0, none⟩ (.slice A0_0 l0_0.length c0_0)).setCell ⟨gb12, 1, none⟩ (.int .i64 t3)).setCell ⟨gb13, 0, none⟩ (.int .u32 (Go.bits .or .u32 (IntKind.u32.wrap (m * 2)) (IntKind.u32.wrap t4)))).setCell ⟨gb13, 1, none⟩ (.int .i64 (wrap64 (mm + 1)))).heap[gb2]? = some (.cells #[.slice A0_0 l0_0.length c0_0, .int .i64 a0_1] 45 (0, 0))) := ⟨by have q2_ := Nat.ne_of_lt (Nat.lt_of_lt_of_le LT2.out GE12.out); have q3_ := Nat.ne_of_lt (Nat.lt_of_lt_of_le LT2.out GE13.out); refine blk_far ?_ q3_ _; refine blk_far ?_ q3_ _; refine blk_far ?_ q2_ _; refine blk_far ?_ q2_ _; exact BK2.out⟩
                    have n2_ : Aside0 (((((w38.setCell ⟨gb12, 0, none⟩ (.slice A0_0 l0_0.length c0_0)).setCell ⟨gb12, 1, none⟩ (.int .i64 t3)).setCell ⟨gb13, 0, none⟩ (.int .u32 (Go.bits .or .u32 (IntKind.u32.wrap (m * 2)) (IntKind.u32.wrap t4)))).setCell ⟨gb13, 1, none⟩ (.int .i64 (wrap64 (mm + 1)))).heap[gb4]? = some (.cells #[.slice none 0 0, .int .i64 0] 45 (0, 0))) := ⟨by have q2_ := Nat.ne_of_lt (Nat.lt_of_lt_of_le LT4.out GE12.out); have q3_ := Nat.ne_of_lt (Nat.lt_of_lt_of_le LT4.out GE13.out); refine blk_far ?_ q3_ _; refine blk_far ?_ q3_ _; refine blk_far ?_ q2_ _; refine blk_far ?_ q2_ _; exact BK4.out⟩
                    have n3_ : Aside0 (((((w38.setCell ⟨gb12, 0, none⟩ (.slice A0_0 l0_0.length c0_0)).setCell ⟨gb12, 1, none⟩ (.int .i64 t3)).setCell ⟨gb13, 0, none⟩ (.int .u32 (Go.bits .or .u32 (IntKind.u32.wrap (m * 2)) (IntKind.u32.wrap t4)))).setCell ⟨gb13, 1, none⟩ (.int .i64 (wrap64 (mm + 1)))).heap[gb12]? = some (.cells #[.slice A0_0 l0_0.length c0_0, .int .i64 t3] 45 (0, 0))) := ⟨by refine blk_far ?_ hnd' _; refine blk_far ?_ hnd' _; refine blk_put (cs := #[.slice A0_0 l0_0.length c0_0, .int .i64 x]) ?_ 1 _ rfl; refine blk_put (cs := #[.slice A0_0 l0_0.length c0_0, .int .i64 x]) ?_ 0 _ rfl; exact BK12.out⟩
                    have n4_ : Aside0 (((((w38.setCell ⟨gb12, 0, none⟩ (.slice A0_0 l0_0.length c0_0)).setCell ⟨gb12, 1, none⟩ (.int .i64 t3)).setCell ⟨gb13, 0, none⟩ (.int .u32 (Go.bits .or .u32 (IntKind.u32.wrap (m * 2)) (IntKind.u32.wrap t4)))).setCell ⟨gb13, 1, none⟩ (.int .i64 (wrap64 (mm + 1)))).heap[gb13]? = some (.cells #[.int .u32 (Go.bits .or .u32 (IntKind.u32.wrap (m * 2)) (IntKind.u32.wrap t4)), .int .i64 (wrap64 (mm + 1))] 65 (0, 0))) := ⟨by refine blk_put (cs := #[.int .u32 (Go.bits .or .u32 (IntKind.u32.wrap (m * 2)) (IntKind.u32.wrap t4)), .int .i64 mm]) ?_ 1 _ rfl; refine blk_put (cs := #[.int .u32 m, .int .i64 mm]) ?_ 0 _ rfl; refine blk_far ?_ hnd _; refine blk_far ?_ hnd _; exact BK13.out⟩
                    have n6_ : Aside0 (huff_Read.Own ((((w38.setCell ⟨gb12, 0, none⟩ (.slice A0_0 l0_0.length c0_0)).setCell ⟨gb12, 1, none⟩ (.int .i64 t3)).setCell ⟨gb13, 0, none⟩ (.int .u32 (Go.bits .or .u32 (IntKind.u32.wrap (m * 2)) (IntKind.u32.wrap t4)))).setCell ⟨gb13, 1, none⟩ (.int .i64 (wrap64 (mm + 1)))) w8.heap.size l1.length (huff_Read.tab t1 l1 l1.length)) := ⟨by have q2_ := Nat.ne_of_lt (Nat.lt_of_lt_of_le LTM.out GE12.out); have q3_ := Nat.ne_of_lt (Nat.lt_of_lt_of_le LTM.out GE13.out); refine huff_Read.own_far ?_ q3_ _; refine huff_Read.own_far ?_ q3_ _; refine huff_Read.own_far ?_ q2_ _; refine huff_Read.own_far ?_ q2_ _; exact HMw.out⟩
                    have n7_ : Aside0 (Below W2.heap.size W2 ((((w38.setCell ⟨gb12, 0, none⟩ (.slice A0_0 l0_0.length c0_0)).setCell ⟨gb12, 1, none⟩ (.int .i64 t3)).setCell ⟨gb13, 0, none⟩ (.int .u32 (Go.bits .or .u32 (IntKind.u32.wrap (m * 2)) (IntKind.u32.wrap t4)))).setCell ⟨gb13, 1, none⟩ (.int .i64 (wrap64 (mm + 1))))) := ⟨below_set (below_set (below_set (below_set HB2.out GE12.out) GE12.out) GE13.out) GE13.out⟩
                    have n8_ : Aside0 (Below w.heap.size w ((((w38.setCell ⟨gb12, 0, none⟩ (.slice A0_0 l0_0.length c0_0)).setCell ⟨gb12, 1, none⟩ (.int .i64 t3)).setCell ⟨gb13, 0, none⟩ (.int .u32 (Go.bits .or .u32 (IntKind.u32.wrap (m * 2)) (IntKind.u32.wrap t4)))).setCell ⟨gb13, 1, none⟩ (.int .i64 (wrap64 (mm + 1))))) := ⟨by have q2_ := Nat.le_trans (below_size HB.out) GE12.out; have q3_ := Nat.le_trans (below_size HB.out) GE13.out; exact below_set (below_set (below_set (below_set HBw.out q2_) q2_) q3_) q3_⟩
                    clear BK2 BK4 BK12 BK13 BK14 HMw HB2 HBw hcz12_0 hcz12_1 hcz13_0 hcz13_1 hfz12_0 hfz12_1 hfz13_0 hfz13_1 hHeld
                    have BK2 := n1_
                    have BK4 := n2_
                    have BK12 := n3_
                    have BK13 := n4_
                    have HMw := n6_
                    have HB2 := n7_
                    have HBw := n8_
                    clear n1_ n2_ n3_ n4_ n6_ n7_ n8_
                    generalize ((((w38.setCell ⟨gb12, 0, none⟩ (.slice A0_0 l0_0.length c0_0)).setCell ⟨gb12, 1, none⟩ (.int .i64 t3)).setCell ⟨gb13, 0, none⟩ (.int .u32 (Go.bits .or .u32 (IntKind.u32.wrap (m * 2)) (IntKind.u32.wrap t4)))).setCell ⟨gb13, 1, none⟩ (.int .i64 (wrap64 (mm + 1)))) = wv at BK2 BK4 BK12 BK13 HMw HB2 HBw ⊢
                    have hmw : wrap64 (mm + 1) = 16 - (d : Int) := by
                      have := HMM.out
                      have := HD16.out
                      unfold wrap64; omega
                    rw [hmw] at BK13
                    have H := HC7.out
                    clear HC7
                    obtain ⟨nb, hnb_⟩ : ∃ nb : Int, (Go.bits .or .u32 (IntKind.u32.wrap (m * 2)) (IntKind.u32.wrap t4)) = nb := ⟨_, rfl⟩
                    have CN' := CN.out
                    rw [hnb_] at H BK13 CN'
                    have CNb := Aside0.mk CN'
                    clear CN CN'
                    obtain ⟨q, hq⟩ : ∃ q : Int, 16 - (d : Int) = q := ⟨_, rfl⟩
                    rw [hq] at H BK13
                    have HQ := Aside0.mk hq
                    clear hmw hq
                    obtain ⟨kl, hkl⟩ := huff_Read.key (huff_Read.wf32 CNb.out) (huff_Read.wf64 (x := q) (by have := HD16.out; have := HQ.out; omega))
                    obtain ⟨D, hown, htell⟩ := HMw.out
                    have HOW := Aside0.mk hown
                    have HKL := Aside0.mk hkl
                    have HT := Aside0.mk htell
                    clear hown hkl htell
                    have hcz12_0 : wv.cell? ⟨gb12, 0, none⟩ = some (.slice A0_0 l0_0.length c0_0) := (blk_cell BK12.out 0).trans rfl
                    have hcz12_1 : wv.cell? ⟨gb12, 1, none⟩ = some (.int .i64 t3) := (blk_cell BK12.out 1).trans rfl
                    have hcz13_0 : wv.cell? ⟨gb13, 0, none⟩ = some (.int .u32 nb) := (blk_cell BK13.out 0).trans rfl
                    have hcz13_1 : wv.cell? ⟨gb13, 1, none⟩ = some (.int .i64 q) := (blk_cell BK13.out 1).trans rfl
                    have hcz2_0 : wv.cell? ⟨gb2, 0, none⟩ = some (.slice A0_0 l0_0.length c0_0) := (blk_cell BK2.out 0).trans rfl
                    have hcz2_1 : wv.cell? ⟨gb2, 1, none⟩ = some (.int .i64 a0_1) := (blk_cell BK2.out 1).trans rfl
                    have hcz4_0 : wv.cell? ⟨gb4, 0, none⟩ = some (.slice none 0 0) := (blk_cell BK4.out 0).trans rfl
                    have hcz4_1 : wv.cell? ⟨gb4, 1, none⟩ = some (.int .i64 0) := (blk_cell BK4.out 1).trans rfl
                    have hfz4_0 := blk_frozen BK4.out 0
                    have hfz4_1 := blk_frozen BK4.out 1
                    by_cases cl : (huff_Read.look (huff_Read.tab t1 l1 l1.length) nb q).isSome = true
                    · rw [if_pos cl] at H
                      have hhas : Maps.has D kl = true := (HT.out.1 nb q kl HKL.out).1.trans cl
                      have HAT := Aside0.mk (HT.out.1 nb q kl HKL.out).2
                      simp only [Option.some.injEq, Prod.mk.injEq] at H
                      obtain ⟨rfl, rfl, rfl⟩ := H
                      clear cl
                      go_wp2_with (first | (at_lookup; refine wpList_lookup_own_ok_int _ rfl _ _ 63 rfl 65 3 .i64 huff_Read.law Try.underlying63 Try.underlying3 (huff_Read.zeroE _) w8.heap.size l1.length D rfl HOW.out _ kl rfl HKL.out ?_; intro c hat hwc; obtain rfl : (huff_Read.look (huff_Read.tab t1 l1 l1.length) nb q).getD 0 = c := (by have h_ := HAT.out.symm.trans hat; simpa using h_); clear hat hwc) | go_in)
                      refine bodyPost_ret (results_ctt rfl _ _ gb4 45 #[.slice A0_0 l0_0.length c0_0, .int .i64 t3] (0, 0) _ rfl (by (with_reducible repeat (first | refine blk_drewN ?_ _ | refine blk_drew ?_ | refine blk_alloc ?_ _)); refine blk_put (cs := #[.slice A0_0 l0_0.length c0_0, .int .i64 0]) ?_ 1 _ rfl; (with_reducible repeat (first | refine blk_drewN ?_ _ | refine blk_drew ?_ | refine blk_alloc ?_ _)); refine blk_put (cs := #[.slice none 0 0, .int .i64 0]) ?_ 0 _ rfl; (with_reducible repeat (first | refine blk_drewN ?_ _ | refine blk_drew ?_ | refine blk_alloc ?_ _)); exact BK4.out) Try.underlying45 rfl (by kernel_rfl)) rfl ?_
                      exact ⟨by first | rfl | (simp; done) | (simp [*]; done), by repeat (first | (with_reducible first | exact HBw.out | apply below_alloc | apply pw_below_drewN | apply below_drew1 | refine below_set ?_ GE2.out | refine below_set ?_ GE4.out) | exact HBw.out)⟩
                    · rw [if_neg cl] at H
                      have hhas : Maps.has D kl = false := (HT.out.1 nb q kl HKL.out).1.trans (by simpa using cl)
                      by_cases cz : huff_Read.size (huff_Read.tab t1 l1 l1.length) = 1
                      · rw [if_pos cz] at H
                        have czb : (((Maps.size D : Nat) : Int) == 1) = true := by rw [HT.out.2, cz]; rfl
                        simp only [Option.some.injEq, Prod.mk.injEq] at H
                        obtain ⟨rfl, rfl, rfl⟩ := H
                        clear cl cz
                        go_wp2_with (first | (at_lookup; refine wpList_lookup_own_ok_int _ rfl _ _ 63 rfl 65 3 .i64 huff_Read.law Try.underlying63 Try.underlying3 (huff_Read.zeroE _) w8.heap.size l1.length D rfl HOW.out _ kl rfl HKL.out ?_; intro c hat hwc; clear hat hwc) | (at_len; refine wpList_len_own _ rfl _ 63 rfl 65 3 Try.underlying63 (plainElem Try.prog 3) w8.heap.size l1.length D rfl HOW.out ?_) | go_in)
                        refine bodyPost_ret (results_ctt rfl _ _ gb4 45 #[.slice A0_0 l0_0.length c0_0, .int .i64 a0_1] (0, 0) _ rfl (by (with_reducible repeat (first | refine blk_drewN ?_ _ | refine blk_drew ?_ | refine blk_alloc ?_ _)); refine blk_put (cs := #[.slice A0_0 l0_0.length c0_0, .int .i64 0]) ?_ 1 _ rfl; (with_reducible repeat (first | refine blk_drewN ?_ _ | refine blk_drew ?_ | refine blk_alloc ?_ _)); refine blk_put (cs := #[.slice none 0 0, .int .i64 0]) ?_ 0 _ rfl; (with_reducible repeat (first | refine blk_drewN ?_ _ | refine blk_drew ?_ | refine blk_alloc ?_ _)); exact BK4.out) Try.underlying45 rfl (by kernel_rfl)) rfl ?_
                        exact ⟨by first | rfl | (simp; done) | (simp [*]; done), by repeat (first | (with_reducible first | exact HBw.out | apply below_alloc | apply pw_below_drewN | apply below_drew1 | refine below_set ?_ GE2.out | refine below_set ?_ GE4.out) | exact HBw.out)⟩
                      · rw [if_neg cz] at H
                        have czb : (((Maps.size D : Nat) : Int) == 1) = false := by rw [beq_eq_false_iff_ne, HT.out.2]; omega
                        have HGO := Aside0.mk H
                        clear H cl cz
                        go_wp2_with (first | (at_lookup; refine wpList_lookup_own_ok_int _ rfl _ _ 63 rfl 65 3 .i64 huff_Read.law Try.underlying63 Try.underlying3 (huff_Read.zeroE _) w8.heap.size l1.length D rfl HOW.out _ kl rfl HKL.out ?_; intro c hat hwc; clear hat hwc) | (at_len; refine wpList_len_own _ rfl _ 63 rfl 65 3 Try.underlying63 (plainElem Try.prog 3) w8.heap.size l1.length D rfl HOW.out ?_) | go_in)
                        go_roundg d
                        case measure => omega
                        case rel => exact ⟨t3, nb, q, ⟨HQ.out.symm⟩, ⟨by have := HD16.out; omega⟩, HGO, ⟨by repeat (first | exact BK12.out | apply blk_drew)⟩, ⟨by repeat (first | exact BK13.out | apply blk_drew)⟩, ⟨by repeat (first | exact HB2.out | apply below_drew1)⟩⟩
                  · rw [if_neg cn] at H
                    exact absurd H (by simp)
                · rw [if_neg c5] at H
                  have c5b0 : (t5 == 0) = false := beq_eq_false_iff_ne.mpr c5
                  have c5b1 : (t5 != 0) = true := bne_iff_ne.mpr c5
                  simp only [Option.some.injEq, Prod.mk.injEq] at H
                  obtain ⟨rfl, rfl, rfl⟩ := H
                  go_wp2
                  refine bodyPost_ret (results_ctt rfl _ _ gb4 45 #[.slice A0_0 l0_0.length c0_0, .int .i64 a0_1] (0, 0) _ rfl (by (with_reducible repeat (first | refine blk_drewN ?_ _ | refine blk_drew ?_ | refine blk_alloc ?_ _)); refine blk_put (cs := #[.slice A0_0 l0_0.length c0_0, .int .i64 0]) ?_ 1 _ rfl; (with_reducible repeat (first | refine blk_drewN ?_ _ | refine blk_drew ?_ | refine blk_alloc ?_ _)); refine blk_put (cs := #[.slice none 0 0, .int .i64 0]) ?_ 0 _ rfl; (with_reducible repeat (first | refine blk_drewN ?_ _ | refine blk_drew ?_ | refine blk_alloc ?_ _)); exact BK4.out) Try.underlying45 rfl (by kernel_rfl)) rfl ?_
                  exact ⟨by first | rfl | (simp; done) | (simp [*]; done), by repeat (first | (with_reducible first | exact HBw.out | apply below_alloc | apply pw_below_drewN | apply below_drew1 | refine below_set ?_ GE2.out | refine below_set ?_ GE4.out) | exact HBw.out)⟩
          | succ g =>
            have cjb : decide ((j : Int) < (l1.length : Int)) = true := decide_eq_true (by omega)
            obtain ⟨hfc, hfl, hfj⟩ := HFIT.out
            have p1 : 0 ≤ (j : Int) := by omega
            have q1 : (j : Int) < (l1.length : Int) := by omega
            have q2 : (j : Int) < (t1.length : Int) := by omega
            obtain ⟨hwc, hwn, hwj⟩ := hfj j (by omega)
            clear hfc hfl hfj
            obtain ⟨kl, hkl⟩ := huff_Read.key hwc hwn
            obtain ⟨D, hown, htell⟩ := HM.out
            have HT := Aside0.mk htell
            have HOW := Aside0.mk hown
            have HKL := Aside0.mk hkl
            have HWJ := Aside0.mk hwj
            clear htell hown hkl hwc hwn hwj
            have hjm : j < maxLen := by have := HFIT.out.2.1; unfold maxLen; omega
            have HJM := Aside0.mk hjm
            clear hjm
            obtain ⟨ad1, e1, hx1⟩ := Kd.at_int HR1.out (j : Int) p1 q1
            cases e1
            obtain ⟨ad2, e2, hx2⟩ := Kd.at_int HOC.out (j : Int) p1 q2
            cases e2
            replace hx1 := (HBa.out.cell (World.block_lt_of_cell? w _ hx1)).trans hx1
            replace hx2 := (HB8.out.cell (World.block_lt_of_cell? w8 _ hx2)).trans hx2
            rw [Int.toNat_natCast] at hx1 hx2
            replace p1 := eq_true p1
            replace q1 := eq_true q1
            replace q2 := eq_true q2
            by_cases cu : rd l1 (j : Int) > 0
            · have cub : decide (0 < rd l1 (j : Int)) = true := decide_eq_true cu
              have HCU := Aside0.mk cu
              clear cu
              go_wp2_with (first | (at_mapUpdate; refine wpList_mapUpdate_own _ rfl _ _ _ 63 rfl 65 3 huff_Read.law Try.underlying63 (plainElem Try.prog 3) w8.heap.size j D rfl HOW.out HJM.out _ _ kl rfl rfl HKL.out (.lit (.int .i64 (j : Int))) [] (plainElem_int Try.underlying3 HWJ.out) ?_; intro w9 hown1 hgrow1) | go_in)
              go_roundg g
              case measure => omega
              case rel =>
                refine ⟨j + 1, by omega, by (have := HFIT.out.2.1; simp; unfold wrap64; omega), ⟨⟨_, hown1, ?_⟩⟩, ⟨HB8.out.grown hgrow1 (below_size HB8.out) (fun k_ hk => by cases hk; exact Nat.le_refl _)⟩⟩
                have e : huff_Read.tab t1 l1 (j + 1) = (rd t1 (j : Int), rd l1 (j : Int), (j : Int)) :: huff_Read.tab t1 l1 j := if_pos HCU.out
                rw [e]
                exact huff_Read.tells_put HT.out (HOW.out.tidy huff_Read.law) HKL.out
            · have cub : decide (0 < rd l1 (j : Int)) = false := decide_eq_false cu
              have HCU := Aside0.mk cu
              clear cu
              go_wp2
              go_roundg g
              case measure => omega
              case rel =>
                have e : huff_Read.tab t1 l1 (j + 1) = huff_Read.tab t1 l1 j := if_neg (by have := HCU.out; omega)
                refine ⟨j + 1, by omega, by (have := HFIT.out.2.1; simp; unfold wrap64; omega), ⟨⟨D, HOW.out.mono (Nat.le_succ j), by rw [e]; exact HT.out⟩⟩, ⟨by repeat (first | exact HB8.out | apply pw_below_drewN | apply below_drew1)⟩⟩
      · rw [if_neg cf] at H
        exact absurd H (by simp)
  · rw [if_neg ce] at H
    have ceb0 : (t2 == 0) = false := beq_eq_false_iff_ne.mpr ce
    have ceb1 : (t2 != 0) = true := bne_iff_ne.mpr ce
    simp only [Option.some.injEq, Prod.mk.injEq] at H
    obtain ⟨rfl, rfl, rfl⟩ := H
    go_wp2
    refine bodyPost_ret (results_ctt rfl _ _ gb4 45 #[.slice A0_0 l0_0.length c0_0, .int .i64 a0_1] (0, 0) _ rfl (by (with_reducible repeat (first | refine blk_drewN ?_ _ | refine blk_drew ?_ | refine blk_alloc ?_ _)); refine blk_put (cs := #[.slice A0_0 l0_0.length c0_0, .int .i64 0]) ?_ 1 _ rfl; (with_reducible repeat (first | refine blk_drewN ?_ _ | refine blk_drew ?_ | refine blk_alloc ?_ _)); refine blk_put (cs := #[.slice none 0 0, .int .i64 0]) ?_ 0 _ rfl; (with_reducible repeat (first | refine blk_drewN ?_ _ | refine blk_drew ?_ | refine blk_alloc ?_ _)); exact BK4.out) Try.underlying45 rfl (by kernel_rfl)) rfl ?_
    exact ⟨by first | rfl | (simp; done) | (simp [*]; done), by repeat (first | (with_reducible first | exact HB.out | apply below_alloc | apply pw_below_drewN | apply below_drew1 | refine below_set ?_ GE2.out | refine below_set ?_ GE4.out) | exact HB.out)⟩

end Go.Proofs.Ytmocinhononfpaa.P
