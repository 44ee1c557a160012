/- Words, walks and what they compute, as the law's proof needs them. -/
import Derived.Test.YtdajlfijkbafiaaA3
set_option linter.unusedVariables false
set_option linter.unusedSimpArgs false
namespace Go.Proofs.Ytdajlfijkbafiaa.P
open Go.RowKit Go.Proofs.YtdajlfijkbafiaaW.PrintWords Go.Proofs.YtdajlfijkbafiaaW.PrintLast Go.Proofs.YtdajlfijkbafiaaW.PrintMore
attribute [local go_sem] max2_int min2_int max_two min_two max_three min_three max_four min_four
def couple_way_one_by_couple_part.f (k : Nat) (a0_0 : Int) (a1 : Int) (a2 : Int) : Option (Int × Int × Int) := (couple_within.f k a0_0 (([a1, a2] : List Int))).bind fun t166 => (if t166 = true then ((couple_part.f a1 a2).bind fun bt167 => (some (bt167.1, bt167.2, 0))) else (some (0, 0, 1)))
theorem couple_way_one_by_couple_part.mono : ∀ a0 a1 a2 k, LeO (couple_way_one_by_couple_part.f k a0 a1 a2) (couple_way_one_by_couple_part.f (k + 1) a0 a1 a2) := by
  intro a0 a1 a2 k
  unfold couple_way_one_by_couple_part.f
  with_reducible repeat' first
   | exact couple_within.mono _ _ _
   | exact LeO.refl _
   | exact LeO.none _
   | refine LeO.ite ?_ ?_
   | refine LeO.bind ?_ (fun _ => ?_)
set_option maxHeartbeats 8000000 in
set_option maxRecDepth 100000 in
theorem couple_way_one_by_couple_part.calls (k : Nat) (a0_0 : Int) (a1 : Int) (a2 : Int) (r1 : Int) (r2 : Int) (r3 : Int) (w : World) (h : couple_way_one_by_couple_part.f k a0_0 a1 a2 = some (r1, r2, r3)) :
    Calls Try.prog 94 #[.agg #[.int .i64 a0_0, .func (.func 93) #[] #[]], .int .i64 a1, .int .i64 a2] w fun e w' => e = .returned (.tuple #[.int .i64 r1, .int .i64 r2, .int .i64 r3]) ∧ Below w.heap.size w w' := by
 have hu101 := Try.underlying101
 have HB := Aside0.mk (Below.refl w.heap.size w)
 have H : ((couple_within.f k a0_0 (([a1, a2] : List Int))).bind fun t166 => (if t166 = true then ((couple_part.f a1 a2).bind fun bt167 => (some (bt167.1, bt167.2, 0))) else (some (0, 0, 1)))) = some (r1, r2, r3) := h
 clear h
 obtain ⟨y163, hy163⟩ : ∃ y_ : List Int, y_ = (([a1, a2] : List Int)) := ⟨_, rfl⟩
 replace H : ((couple_within.f k a0_0 y163).bind fun t166 => (if t166 = true then ((couple_part.f a1 a2).bind fun bt167 => (some (bt167.1, bt167.2, 0))) else (some (0, 0, 1)))) = some (r1, r2, r3) := by first | (rw [hy163]; with_reducible exact H) | (have H2_ := (Option.bind_some _ _).symm.trans H; rw [hy163]; with_reducible exact H2_) | (have H2_ := (Option.bind_some _ _).symm.trans H; with_reducible exact H2_) | with_reducible exact H | (rw [hy163]; exact H) | exact H
 have Ny163 := Aside0.mk hy163
 clear hy163
 obtain ⟨t166, A4, H⟩ := ob_ H
 (try dsimp only at H)
 by_cases c5 : t166 = true
 {
 subst c5
 rw [if_pos rfl] at H
 obtain ⟨⟨t167, t168⟩, A6, H⟩ := ob_ H
 (try dsimp only at H)
 simp only [Option.some.injEq, Prod.mk.injEq] at H
 obtain ⟨rfl, rfl, rfl⟩ := H
 go_enter Try.func94, Try.ntmps94
 go_wp2_with (first | ((with_reducible refine gate_dst (N := 3) rfl ?_); refine bx_ HB 3 #[.int .i64 a0_0, .func (.func 93) #[] #[]] 101 ?_; clear HB; intro gb162 hg w7 hb BK162 GE162 HB; have GW162 := GE162; clear hb hg; obtain ⟨hcz8_0, hcz8_1, hfz8_0, hfz8_1⟩ := e2_ BK162) | ((with_reducible refine gate_dst (N := 15) rfl ?_); refine Kd.R_lit (Kd.int .i64) _ 2 ?hg (N := 15) ?hd (xs := ([a1, a2] : List Int)) (inner := [.int .i64 a1, .int .i64 a2]) (ok := fun _ => True) (okp := fun _ => True) ?hr ?hp (fun _ hk => hk) trivial (Below.refl _ _) (Nat.le_refl _) (by simp) ?_; (case hd => rfl); (case hg => rfl); (case hr => first | (go_simp; done) | (go_simp; rfl)); (case hp => exact (Reps.one (show Kd.M (Kd.int .i64) _ _ _ a1 [.int .i64 a1] from rfl) (Reps.one (show Kd.M (Kd.int .i64) _ _ _ a2 [.int .i64 a2] from rfl) (Reps.none _ _)))); intro v164 w9 ho10 hb hg_ hnew_; clear hg_ hnew_; (first | rw [← Ny163.out] at ho10 | (simp only [Int.reduceToNat] at ho10; rw [← Ny163.out] at ho10)); have HO165 := Aside0.mk (Kd.R_lower ho10 (bs_ HB)); replace BK162 := FB_ BK162 hb; replace HB := BS_ HB hb; clear hb ho10; obtain ⟨Ao11, co11, eo11⟩ := Kd.R_slice HO165.out; subst eo11) | ((with_reducible refine gate_callee (f := 111) rfl ?_); refine gL_ (some 16) Try.func111 #[.int .i64 a0_0, .slice Ao11 y163.length co11] ?_; (with_reducible refine (couple_within.calls k a0_0 _ _ y163 true _ ?side1 ?side2 A4.out).mono ?_); (case side1 => exact kCt_ (Kd.R_reads' HO165.out).2.2); (case side2 => exact (Kd.R_reads' HO165.out).2.1); rintro e w' ⟨rfl, ⟨nd, rfl⟩⟩; refine ⟨_, rfl, ?_⟩; obtain ⟨hcz12_0, hcz12_1, hfz12_0, hfz12_1⟩ := e2_ BK162) | (go_at_call 93; (with_reducible refine (couple_part.calls a1 a2 t167 t168 _ A6.out).mono ?_); rintro e w' ⟨rfl, ⟨nd, rfl⟩⟩))
 go_ret3
 exact ⟨by first | rfl | (simp [errW_none, errW_some] <;> rfl) | (simp [*, errW_none, errW_some] <;> rfl), bl_ HB⟩}
 {
 replace c5 := Bool.eq_false_iff.mpr c5
 subst c5
 rw [if_neg (show ¬ (false = true) by decide)] at H
 simp only [Option.some.injEq, Prod.mk.injEq] at H
 obtain ⟨rfl, rfl, rfl⟩ := H
 go_enter Try.func94, Try.ntmps94
 go_wp2_with (first | ((with_reducible refine gate_dst (N := 3) rfl ?_); refine bx_ HB 3 #[.int .i64 a0_0, .func (.func 93) #[] #[]] 101 ?_; clear HB; intro gb162 hg w13 hb BK162 GE162 HB; have GW162 := GE162; clear hb hg; obtain ⟨hcz14_0, hcz14_1, hfz14_0, hfz14_1⟩ := e2_ BK162) | ((with_reducible refine gate_dst (N := 15) rfl ?_); refine Kd.R_lit (Kd.int .i64) _ 2 ?hg (N := 15) ?hd (xs := ([a1, a2] : List Int)) (inner := [.int .i64 a1, .int .i64 a2]) (ok := fun _ => True) (okp := fun _ => True) ?hr ?hp (fun _ hk => hk) trivial (Below.refl _ _) (Nat.le_refl _) (by simp) ?_; (case hd => rfl); (case hg => rfl); (case hr => first | (go_simp; done) | (go_simp; rfl)); (case hp => exact (Reps.one (show Kd.M (Kd.int .i64) _ _ _ a1 [.int .i64 a1] from rfl) (Reps.one (show Kd.M (Kd.int .i64) _ _ _ a2 [.int .i64 a2] from rfl) (Reps.none _ _)))); intro v164 w15 ho16 hb hg_ hnew_; clear hg_ hnew_; (first | rw [← Ny163.out] at ho16 | (simp only [Int.reduceToNat] at ho16; rw [← Ny163.out] at ho16)); have HO165 := Aside0.mk (Kd.R_lower ho16 (bs_ HB)); replace BK162 := FB_ BK162 hb; replace HB := BS_ HB hb; clear hb ho16; obtain ⟨Ao17, co17, eo17⟩ := Kd.R_slice HO165.out; subst eo17) | ((with_reducible refine gate_callee (f := 111) rfl ?_); refine gL_ (some 16) Try.func111 #[.int .i64 a0_0, .slice Ao17 y163.length co17] ?_; (with_reducible refine (couple_within.calls k a0_0 _ _ y163 false _ ?side1 ?side2 A4.out).mono ?_); (case side1 => exact kCt_ (Kd.R_reads' HO165.out).2.2); (case side2 => exact (Kd.R_reads' HO165.out).2.1); rintro e w' ⟨rfl, ⟨nd, rfl⟩⟩; refine ⟨_, rfl, ?_⟩))
 go_ret3
 exact ⟨by first | rfl | (simp [errW_none, errW_some] <;> rfl) | (simp [*, errW_none, errW_some] <;> rfl), bl_ HB⟩}
def couple_way_all_by_couple_part.l0 : Nat → List Int → List Int → List Int → List Int → Int → Int → Int → Option (List Int × List Int × Int)
  | 0, _, _, _, _, _, _, _ => none
  | k + 1, x1, x2, x9, x10, x21, x22, x170000 => if x22 < x21 then (if 0 ≤ x22 then (if x22 < (x1.length : Int) then (if x22 < (x2.length : Int) then ((couple_way_one_by_couple_part.f k x170000 (rd x1 x22) (rd x2 x22)).bind fun bt172 => (if bt172.2.2 = 0 then (if x9.length < 17592186044416 then (if x10.length < 17592186044416 then (couple_way_all_by_couple_part.l0 k x1 x2 (x9 ++ [bt172.1]) (x10 ++ [bt172.2.1]) x21 (wrap64 (x22 + 1)) x170000) else (none)) else (none)) else (some (([] : List Int), ([] : List Int), bt172.2.2)))) else (none)) else (none)) else (none)) else (some (x9, x10, 0))
def couple_way_all_by_couple_part.f (k : Nat) (a0_0 : Int) (l1 : List Int) (l2 : List Int) : Option (List Int × List Int × Int) := if (l1.length : Int) = (l2.length : Int) then (couple_way_all_by_couple_part.l0 k l1 l2 ([] : List Int) ([] : List Int) (l1.length : Int) 0 a0_0) else (some (([] : List Int), ([] : List Int), 1))
theorem couple_way_all_by_couple_part.mono_l : ∀ k, (∀ y0 y1 y2 y3 y4 y5 y6, LeO (couple_way_all_by_couple_part.l0 k y0 y1 y2 y3 y4 y5 y6) (couple_way_all_by_couple_part.l0 (k + 1) y0 y1 y2 y3 y4 y5 y6))
  | 0 => fun _ _ _ _ _ _ _ r h => by simp [couple_way_all_by_couple_part.l0] at h
  | k + 1 => by
    have ih0 := couple_way_all_by_couple_part.mono_l k
    · intro y0 y1 y2 y3 y4 y5 y6
      unfold couple_way_all_by_couple_part.l0
      with_reducible repeat' first
   | exact ih0 _ _ _ _ _ _ _
   | exact couple_way_one_by_couple_part.mono _ _ _ _
   | exact LeO.refl _
   | exact LeO.none _
   | refine LeO.ite ?_ ?_
   | refine LeO.bind ?_ (fun _ => ?_)
theorem couple_way_all_by_couple_part.mono : ∀ a0 a1 a2 k, LeO (couple_way_all_by_couple_part.f k a0 a1 a2) (couple_way_all_by_couple_part.f (k + 1) a0 a1 a2) := by
  intro a0 a1 a2 k
  have ih0 := couple_way_all_by_couple_part.mono_l k
  unfold couple_way_all_by_couple_part.f
  with_reducible repeat' first
   | exact ih0 _ _ _ _ _ _ _
   | exact couple_way_one_by_couple_part.mono _ _ _ _
   | exact LeO.refl _
   | exact LeO.none _
   | refine LeO.ite ?_ ?_
   | refine LeO.bind ?_ (fun _ => ?_)
def couple_way_all_by_couple_part.T7 : Bool × List (List Nat × List Nat) := (true, [([], []), ([], []), ([], []), ([1, 2], [1, 2]), ([3], [3]), ([], []), ([], []), ([5, 6], [5, 6]), ([7], [7]), ([0, 4, 8], [0, 4, 8]), ([9], [9]), ([10], [10]), ([10], [10]), ([10], [10]), ([11, 9, 0, 1, 2, 3, 4, 5, 6, 7, 8, 9, 10, 11], [11]), ([12, 14, 0, 1, 2, 3, 4, 5, 6, 7, 8, 9, 10, 11, 12, 14], [12]), ([13, 15, 0, 1, 2, 3, 4, 5, 6, 7, 8, 9, 10, 11, 12, 13, 14, 15], [13])])
def couple_way_all_by_couple_part.B7 : List Nat := [0, 0, 0, 6, 14, 0, 0, 96, 224, 511, 1023, 2047, 2047, 2047, 4095, 24575, 65535]
theorem couple_way_all_by_couple_part.tab7 : rtab .any (opsOf Try.f67 7) = couple_way_all_by_couple_part.T7 := by kernel_rfl
theorem couple_way_all_by_couple_part.bits7 : waitsOk couple_way_all_by_couple_part.T7.2 couple_way_all_by_couple_part.B7 = true := by kernel_rfl
set_option maxHeartbeats 8000000 in
set_option maxRecDepth 100000 in
theorem couple_way_all_by_couple_part.calls (k : Nat) (a0_0 : Int) (A1 : Option Addr) (c1 : Nat) (l1 : List Int) (A2 : Option Addr) (c2 : Nat) (l2 : List Int) (r1 : List Int) (r2 : List Int) (r3 : Int) (w : World) (hr1 : Kd.C (Kd.int .i64) w A1 l1.length l1) (hc1 : l1.length ≤ c1) (hr2 : Kd.C (Kd.int .i64) w A2 l2.length l2) (hc2 : l2.length ≤ c2) (h : couple_way_all_by_couple_part.f k a0_0 l1 l2 = some (r1, r2, r3)) :
    Calls Try.prog 67 #[.agg #[.int .i64 a0_0, .func (.func 93) #[] #[]], .slice A1 l1.length c1, .slice A2 l2.length c2] w fun e w' => ∃ v0_ v1_ : Value, e = .returned (.tuple #[v0_, v1_, .int .i64 r3]) ∧ Kd.R (Kd.int .i64) 2 w' w.heap.size (fun k_ => some k_ ≠ (v1_ : Value).ownBlock) v0_ r1 ∧ Kd.R (Kd.int .i64) 2 w' w.heap.size (fun k_ => some k_ ≠ (v0_ : Value).ownBlock) v1_ r2 ∧ Below w.heap.size w w' := by
 have hu101 := Try.underlying101
 have HR1 := Aside0.mk hr1
 have HC1 := Aside0.mk hc1
 clear hr1 hc1
 have HR2 := Aside0.mk hr2
 have HC2 := Aside0.mk hc2
 clear hr2 hc2
 have HB := Aside0.mk (Below.refl w.heap.size w)
 have H : (if (l1.length : Int) = (l2.length : Int) then (couple_way_all_by_couple_part.l0 k l1 l2 ([] : List Int) ([] : List Int) (l1.length : Int) 0 a0_0) else (some (([] : List Int), ([] : List Int), 1))) = some (r1, r2, r3) := h
 clear h
 by_cases c4 : (l1.length : Int) = (l2.length : Int)
 {
 rw [if_pos c4] at H
 have c4b0 : ((l1.length : Int) == (l2.length : Int)) = true := beq_iff_eq.mpr c4
 have c4b1 : ((l1.length : Int) != (l2.length : Int)) = false := bne_eq_false_iff_eq.mpr c4
 have c4b2 : (l1.length == l2.length) = true := by first | simpa using c4 | (simp at c4 ⊢; omega)
 clear c4
 have H' := Aside0.mk H
 clear H
 go_enter Try.func67, Try.ntmps67
 go_wp2_with (first | ((with_reducible refine gate_dst (N := 3) rfl ?_); refine bx_ HB 3 #[.int .i64 a0_0, .func (.func 93) #[] #[]] 101 ?_; clear HB; intro gb169 hg w5 hb BK169 GE169 HB; have GW169 := GE169; clear hb hg))
 go_loopg [9, 10, 22] k (fun kq v9 v10 v22 w' => ∃ (x9_1 : List Int) (x10_1 : List Int) (x22_1 : Int), v22 = .int .i64 x22_1 ∧ Aside0 (couple_way_all_by_couple_part.l0 kq l1 l2 x9_1 x10_1 (l1.length : Int) x22_1 a0_0 = some (r1, r2, r3)) ∧ Aside0 (kq ≤ k) ∧ Aside0 (Kd.R (Kd.int .i64) 2 w' w.heap.size (fun k_ => some k_ ≠ (v10 : Value).ownBlock) v9 x9_1) ∧ Aside0 (Kd.R (Kd.int .i64) 2 w' w.heap.size (fun k_ => some k_ ≠ (v9 : Value).ownBlock) v10 x10_1) ∧ Aside0 (w'.heap[gb169]? = some (.cells #[.int .i64 a0_0, .func (.func 93) #[] #[]] 101 (0, 0))) ∧ Aside0 (Below w.heap.size w w'))
 case atStart => exact ⟨(([] : List Int)), (([] : List Int)), (0), rs_, H', ⟨Nat.le_refl _⟩, ⟨by first | exact Kd.R_nil _ _ _ _ _ | exact Kd.N_nil _ _ _ _ _ | exact Kd.V_nil _ _ _ _ _ | exact Kd.Q_nil _ _ _ _ _ | exact Kd.S_nil _ _ _ _ _⟩, ⟨by first | exact Kd.R_nil _ _ _ _ _ | exact Kd.N_nil _ _ _ _ _ | exact Kd.V_nil _ _ _ _ _ | exact Kd.Q_nil _ _ _ _ _ | exact Kd.S_nil _ _ _ _ _⟩, ⟨bk_ BK169⟩, ⟨bl_ HB⟩⟩
 case round => (
 clear H'
 try clear c4
 try clear c4b0
 try clear c4b1
 try clear c4b2
 obtain ⟨x9_1, x10_1, x22_1, rfl, HA, HK1, HO_9, HO_10, BK169, HB⟩ := hrel
 cases gk with
 | zero => exact absurd HA.out (by simp [couple_way_all_by_couple_part.l0])
 | succ k1 => (
 have H := HA.out
 clear HA
 simp only [couple_way_all_by_couple_part.l0] at H
 by_cases c6 : x22_1 < (l1.length : Int)
 {
 rw [if_pos c6] at H
 have c6b0 : decide (x22_1 < (l1.length : Int)) = true := decide_eq_true c6
 clear c6
 by_cases c7 : 0 ≤ x22_1
 {
 rw [if_pos c7] at H
 have c7b0 : decide (0 ≤ x22_1) = true := decide_eq_true c7
 clear c7
 by_cases c8 : x22_1 < (l1.length : Int)
 {
 rw [if_pos c8] at H
 have c8b0 : decide (x22_1 < (l1.length : Int)) = true := decide_eq_true c8
 clear c8
 by_cases c9 : x22_1 < (l2.length : Int)
 {
 rw [if_pos c9] at H
 have c9b0 : decide (x22_1 < (l2.length : Int)) = true := decide_eq_true c9
 clear c9
 obtain ⟨⟨t172, t173, t174⟩, A10, H⟩ := ob_ H
 (try dsimp only at H)
 by_cases c11 : t174 = 0
 {
 rw [if_pos c11] at H
 have c11b0 : (t174 == 0) = true := beq_iff_eq.mpr c11
 have c11b1 : (t174 != 0) = false := bne_eq_false_iff_eq.mpr c11
 clear c11
 by_cases c12 : x9_1.length < 17592186044416
 {
 rw [if_pos c12] at H
 have LMc12 := Aside0.mk c12
 clear c12
 obtain ⟨y175, hy175⟩ : ∃ y_ : List Int, y_ = (x9_1 ++ [t172]) := ⟨_, rfl⟩
 replace H : (if x10_1.length < 17592186044416 then (couple_way_all_by_couple_part.l0 k1 l1 l2 y175 (x10_1 ++ [t173]) (l1.length : Int) (wrap64 (x22_1 + 1)) a0_0) else (none)) = some (r1, r2, r3) := by first | (rw [hy175]; with_reducible exact H) | (have H2_ := (Option.bind_some _ _).symm.trans H; rw [hy175]; with_reducible exact H2_) | (have H2_ := (Option.bind_some _ _).symm.trans H; with_reducible exact H2_) | with_reducible exact H | (rw [hy175]; exact H) | exact H
 have Ny175 := Aside0.mk hy175
 clear hy175
 by_cases c13 : x10_1.length < 17592186044416
 {
 rw [if_pos c13] at H
 have LMc13 := Aside0.mk c13
 clear c13
 obtain ⟨y178, hy178⟩ : ∃ y_ : List Int, y_ = (x10_1 ++ [t173]) := ⟨_, rfl⟩
 replace H : (couple_way_all_by_couple_part.l0 k1 l1 l2 y175 y178 (l1.length : Int) (wrap64 (x22_1 + 1)) a0_0) = some (r1, r2, r3) := by first | (rw [hy178]; with_reducible exact H) | (have H2_ := (Option.bind_some _ _).symm.trans H; rw [hy178]; with_reducible exact H2_) | (have H2_ := (Option.bind_some _ _).symm.trans H; with_reducible exact H2_) | with_reducible exact H | (rw [hy178]; exact H) | exact H
 have Ny178 := Aside0.mk hy178
 clear hy178
 have H' := Aside0.mk H
 clear H
 try go_wp2
 replace HO_9 := Aside0.mk (Kd.R_drew HO_9.out)
 replace HO_10 := Aside0.mk (Kd.R_drew HO_10.out)
 replace BK169 := Aside0.mk (blk_drew BK169.out)
 replace HB := Aside0.mk (below_drew1 HB.out)
 have p170 : 0 ≤ (x22_1 : Int) := of_decide_eq_true am_
 have q170 : x22_1 < (l1.length : Int) := of_decide_eq_true am_
 obtain ⟨ad170, e170, hx170_0⟩ := Kd.at_int HR1.out x22_1 p170 q170
 have hw170_0 := hx170_0
 cases e170
 replace hx170_0 := (HB.out.cell (World.block_lt_of_cell? w _ hx170_0)).trans hx170_0
 replace p170 := eq_true p170
 replace q170 := eq_true q170
 have p171 : 0 ≤ (x22_1 : Int) := of_decide_eq_true am_
 have q171 : x22_1 < (l2.length : Int) := of_decide_eq_true am_
 obtain ⟨ad171, e171, hx171_0⟩ := Kd.at_int HR2.out x22_1 p171 q171
 have hw171_0 := hx171_0
 cases e171
 replace hx171_0 := (HB.out.cell (World.block_lt_of_cell? w _ hx171_0)).trans hx171_0
 replace p171 := eq_true p171
 replace q171 := eq_true q171
 refine start_ (n := 17) (S := fun w' => w'.cell? ⟨gb169, 0, none⟩ = some (.int .i64 a0_0) ∧ w'.cell? ⟨gb169, 1, none⟩ = some (.func (.func 93) #[] #[]) ∧ w'.cell? (ad170.add (x22_1).toNat) = some (.int .i64 (rd l1 x22_1)) ∧ w'.cell? (ad171.add (x22_1).toNat) = some (.int .i64 (rd l2 x22_1))) (ds := []) (B_ 17 0) kf_ rfl rfl ⟨ce_ BK169 0, ce_ BK169 1, ((HB.out.cell (World.block_lt_of_cell? w _ hw170_0)).trans hw170_0), ((HB.out.cell (World.block_lt_of_cell? w _ hw171_0)).trans hw171_0)⟩ (fun hHeld => ?_); refine with_tabW couple_way_all_by_couple_part.tab7 couple_way_all_by_couple_part.bits7 (fun HT_ HW_ => ?_)
 generalize wr.drew = w14 at HO_9 HO_10 BK169 HB hx170_0 hx171_0 hHeld ⊢
 refine pu_ 1 (some 27) (B_ 17 2) HT_ ?_
 refine pu_ 2 (some 28) (B_ 17 6) HT_ ?_
 refine pu_ 3 (some 29) (B_ 17 14) HT_ ?_
 refine pu_ 5 (some 31) (B_ 17 46) HT_ ?_
 refine pu_ 6 (some 32) (B_ 17 110) HT_ ?_
 refine pu_ 7 (some 33) (B_ 17 238) HT_ ?_
 refine take_ (i := 0) (N := some 26) (v := ?_) (a' := ?_) (B_ 17 239) rfl rfl (take_ofW HT_.out HW_.out kf_) (fun _ _ _ h => h) (Or.inl ⟨by rfl, ?_⟩) hHeld ?_ ?_
 rotate_left
 {
 rintro w' ⟨s0, s1, s2, s3⟩
 go_simp
 with_reducible rfl}
 rotate_left
 {
 exact sp_}
 refine take_ (i := 4) (N := some 30) (v := ?_) (a' := ?_) (B_ 17 255) rfl rfl (take_ofW HT_.out HW_.out kf_) (fun _ _ _ h => h) (Or.inl ⟨by rfl, ?_⟩) hHeld ?_ ?_
 rotate_left
 {
 rintro w' ⟨s0, s1, s2, s3⟩
 go_simp
 with_reducible rfl}
 rotate_left
 {
 exact sp_}
 refine take_ (i := 8) (N := some 34) (v := ?_) (a' := ?_) (B_ 17 511) rfl rfl (take_ofW HT_.out HW_.out kf_) (fun _ _ _ h => h) (Or.inl ⟨by rfl, ?_⟩) hHeld ?_ ?_
 rotate_left
 {
 rintro w' ⟨s0, s1, s2, s3⟩
 go_simp
 with_reducible rfl}
 rotate_left
 {
 exact sp_}
 refine one_ (i := 9) (N := some 35) (B_ 17 1023) rfl rfl (one_of HT_.out kf_) (by decide) (fun K hK => ?_)
 refine goes_ Try.func94 kf_ rfl #[.agg #[.int .i64 a0_0, .func (.func 93) #[] #[]], .int .i64 (rd l1 x22_1), .int .i64 (rd l2 x22_1)] (by rfl) rfl rfl ar_ ?_
 with_reducible refine (couple_way_one_by_couple_part.calls k1 a0_0 (rd l1 x22_1) (rd l2 x22_1) t172 t173 t174 _ A10.out).mono ?_
 rintro e w15 ⟨rfl, hb⟩
 refine ⟨_, rfl, ?_⟩
 replace HO_9 := FR_ HO_9 hb
 replace HO_10 := FR_ HO_10 hb
 replace BK169 := FB_ BK169 hb
 replace HB := BS_ HB hb
 (try clear hb)
 refine hK.out _ _ ⟨ce_ BK169 0, ce_ BK169 1, ((HB.out.cell (World.block_lt_of_cell? w _ hw170_0)).trans hw170_0), ((HB.out.cell (World.block_lt_of_cell? w _ hw171_0)).trans hw171_0)⟩ (fun hHeld => ?_)
 clear hK K
 refine norm_ (a' := ?_) ?_ ?_
 rotate_left
 {
 show Act.put _ (some 35) _ = _
 exact sp_}
 refine pu_ 10 (some 25) (B_ 17 2047) HT_ ?_
 refine pu_ 11 (some 36) (B_ 17 4095) HT_ ?_
 refine pu_ 12 (some 37) (B_ 17 8191) HT_ ?_
 refine pu_ 13 (some 38) (B_ 17 16383) HT_ ?_
 refine pu_ 14 (some 12) (B_ 17 32767) HT_ ?_
 refine pu_ 15 (some 13) (B_ 17 65535) HT_ ?_
 refine pu_ 16 (some 14) (B_ 17 131071) HT_ ?_
 refine done_ (done_of HT_.out kf_) ?_
 try go_wp2_with (first | ((with_reducible refine gate_builtin (b := .append) (xs := #[.tmp 42, .tmp 44]) rfl ?_); at_builtin; refine Kd.R_append (Kd.int .i64) (w0 := w) w.heap.size rfl (.tmp 42) (.tmp 44) 53 2 (.int .i64 0) 8 rfl Try.underlying53 info2 rfl (by decide) (by omega) u9 x9_1 t172 [.int .i64 t172] (fun k_ => some k_ ≠ (u10 : Value).ownBlock) (fun _ => False) rfl rfl ?aP (fun _ hk => hk.elim) ?aF ?aO ?aB ?aS ?aL ?_; (case aP => exact rfl); (case aB => exact (bl_ HB)); (case aF => exact (fun k_ hk => Kd.fresh' (Kd.R_lt (kR_ HO_10)) k_ hk)); (case aO => exact (kR_ HO_9)); (case aS => exact (bs_ HB)); (case aL => have := LMc12.out; omega); intro v176 w16 ho hb hg hat; rw [← Ny175.out] at ho; replace HO_10 := Aside0.mk (Kd.R_after (ok := (fun _ => True)) (by (with_reducible repeat (first | apply Kd.R_alloc | apply Kd.R_drewN | apply Kd.R_drew)); exact Kd.R_mono HO_10.out (fun _ hk => ⟨trivial, hk⟩)) hg hat); replace BK169 := (FG_ BK169 hg (Kd.R_ne HO_9.out BK169.out (by decide))); replace HB := Aside0.mk (hb); have HO177 := Aside0.mk (ho); clear HO_9; clear ho hb hg hat) | ((with_reducible refine gate_builtin (b := .append) (xs := #[.tmp 46, .tmp 48]) rfl ?_); at_builtin; refine Kd.R_append (Kd.int .i64) (w0 := w) w.heap.size rfl (.tmp 46) (.tmp 48) 53 2 (.int .i64 0) 8 rfl Try.underlying53 info2 rfl (by decide) (by omega) u10 x10_1 t173 [.int .i64 t173] (fun k_ => some k_ ≠ (v176 : Value).ownBlock) (fun _ => False) rfl rfl ?aP (fun _ hk => hk.elim) ?aF ?aO ?aB ?aS ?aL ?_; (case aP => exact rfl); (case aB => exact (bl_ HB)); (case aF => exact (fun k_ hk => Kd.fresh' (Kd.R_lt (kR_ HO177)) k_ hk)); (case aO => exact (by (with_reducible repeat (first | apply Kd.R_alloc | apply Kd.R_drewN | apply Kd.R_drew)); exact Kd.R_mono HO_10.out (fun _ hk => hk.2))); (case aS => exact (bs_ HB)); (case aL => have := LMc13.out; omega); intro v179 w17 ho hb hg hat; rw [← Ny178.out] at ho; replace BK169 := (FG_ BK169 hg (Kd.R_ne HO_10.out BK169.out (by decide))); replace HO177 := Aside0.mk (Kd.R_after (ok := (fun _ => True)) (by (with_reducible repeat (first | apply Kd.R_alloc | apply Kd.R_drewN | apply Kd.R_drew)); exact Kd.R_mono HO177.out (fun _ hk => ⟨trivial, hk⟩)) hg hat); replace HB := Aside0.mk (hb); have HO180 := Aside0.mk (ho); clear HO_10; clear ho hb hg hat))
 go_roundg k1
 case measure => have := HK1.out; omega
 case rel => exact ⟨(y175), (y178), (wrap64 (x22_1 + 1)), rs_, H', ⟨by have := HK1.out; omega⟩, ⟨by (with_reducible repeat (first | apply Kd.R_alloc | apply Kd.R_drewN | apply Kd.R_drew)); exact Kd.R_mono HO177.out (fun _ hk => hk.2)⟩, ⟨kR_ HO180⟩, ⟨bk_ BK169⟩, ⟨bl_ HB⟩⟩}
 {
 rw [if_neg c13] at H
 exact absurd H (by simp)}}
 {
 rw [if_neg c12] at H
 exact absurd H (by simp)}}
 {
 rw [if_neg c11] at H
 have c11b0 : (t174 == 0) = false := beq_eq_false_iff_ne.mpr c11
 have c11b1 : (t174 != 0) = true := bne_iff_ne.mpr c11
 simp only [Option.some.injEq, Prod.mk.injEq] at H
 obtain ⟨rfl, rfl, rfl⟩ := H
 try go_wp2
 replace HO_9 := Aside0.mk (Kd.R_drew HO_9.out)
 replace HO_10 := Aside0.mk (Kd.R_drew HO_10.out)
 replace BK169 := Aside0.mk (blk_drew BK169.out)
 replace HB := Aside0.mk (below_drew1 HB.out)
 have p170 : 0 ≤ (x22_1 : Int) := of_decide_eq_true am_
 have q170 : x22_1 < (l1.length : Int) := of_decide_eq_true am_
 obtain ⟨ad170, e170, hx170_0⟩ := Kd.at_int HR1.out x22_1 p170 q170
 have hw170_0 := hx170_0
 cases e170
 replace hx170_0 := (HB.out.cell (World.block_lt_of_cell? w _ hx170_0)).trans hx170_0
 replace p170 := eq_true p170
 replace q170 := eq_true q170
 have p171 : 0 ≤ (x22_1 : Int) := of_decide_eq_true am_
 have q171 : x22_1 < (l2.length : Int) := of_decide_eq_true am_
 obtain ⟨ad171, e171, hx171_0⟩ := Kd.at_int HR2.out x22_1 p171 q171
 have hw171_0 := hx171_0
 cases e171
 replace hx171_0 := (HB.out.cell (World.block_lt_of_cell? w _ hx171_0)).trans hx171_0
 replace p171 := eq_true p171
 replace q171 := eq_true q171
 refine start_ (n := 17) (S := fun w' => w'.cell? ⟨gb169, 0, none⟩ = some (.int .i64 a0_0) ∧ w'.cell? ⟨gb169, 1, none⟩ = some (.func (.func 93) #[] #[]) ∧ w'.cell? (ad170.add (x22_1).toNat) = some (.int .i64 (rd l1 x22_1)) ∧ w'.cell? (ad171.add (x22_1).toNat) = some (.int .i64 (rd l2 x22_1))) (ds := []) (B_ 17 0) kf_ rfl rfl ⟨ce_ BK169 0, ce_ BK169 1, ((HB.out.cell (World.block_lt_of_cell? w _ hw170_0)).trans hw170_0), ((HB.out.cell (World.block_lt_of_cell? w _ hw171_0)).trans hw171_0)⟩ (fun hHeld => ?_); refine with_tabW couple_way_all_by_couple_part.tab7 couple_way_all_by_couple_part.bits7 (fun HT_ HW_ => ?_)
 generalize wr.drew = w18 at HO_9 HO_10 BK169 HB hx170_0 hx171_0 hHeld ⊢
 refine pu_ 1 (some 27) (B_ 17 2) HT_ ?_
 refine pu_ 2 (some 28) (B_ 17 6) HT_ ?_
 refine pu_ 3 (some 29) (B_ 17 14) HT_ ?_
 refine pu_ 5 (some 31) (B_ 17 46) HT_ ?_
 refine pu_ 6 (some 32) (B_ 17 110) HT_ ?_
 refine pu_ 7 (some 33) (B_ 17 238) HT_ ?_
 refine take_ (i := 0) (N := some 26) (v := ?_) (a' := ?_) (B_ 17 239) rfl rfl (take_ofW HT_.out HW_.out kf_) (fun _ _ _ h => h) (Or.inl ⟨by rfl, ?_⟩) hHeld ?_ ?_
 rotate_left
 {
 rintro w' ⟨s0, s1, s2, s3⟩
 go_simp
 with_reducible rfl}
 rotate_left
 {
 exact sp_}
 refine take_ (i := 4) (N := some 30) (v := ?_) (a' := ?_) (B_ 17 255) rfl rfl (take_ofW HT_.out HW_.out kf_) (fun _ _ _ h => h) (Or.inl ⟨by rfl, ?_⟩) hHeld ?_ ?_
 rotate_left
 {
 rintro w' ⟨s0, s1, s2, s3⟩
 go_simp
 with_reducible rfl}
 rotate_left
 {
 exact sp_}
 refine take_ (i := 8) (N := some 34) (v := ?_) (a' := ?_) (B_ 17 511) rfl rfl (take_ofW HT_.out HW_.out kf_) (fun _ _ _ h => h) (Or.inl ⟨by rfl, ?_⟩) hHeld ?_ ?_
 rotate_left
 {
 rintro w' ⟨s0, s1, s2, s3⟩
 go_simp
 with_reducible rfl}
 rotate_left
 {
 exact sp_}
 refine one_ (i := 9) (N := some 35) (B_ 17 1023) rfl rfl (one_of HT_.out kf_) (by decide) (fun K hK => ?_)
 refine goes_ Try.func94 kf_ rfl #[.agg #[.int .i64 a0_0, .func (.func 93) #[] #[]], .int .i64 (rd l1 x22_1), .int .i64 (rd l2 x22_1)] (by rfl) rfl rfl ar_ ?_
 with_reducible refine (couple_way_one_by_couple_part.calls k1 a0_0 (rd l1 x22_1) (rd l2 x22_1) t172 t173 t174 _ A10.out).mono ?_
 rintro e w19 ⟨rfl, hb⟩
 refine ⟨_, rfl, ?_⟩
 replace HO_9 := FR_ HO_9 hb
 replace HO_10 := FR_ HO_10 hb
 replace BK169 := FB_ BK169 hb
 replace HB := BS_ HB hb
 (try clear hb)
 refine hK.out _ _ ⟨ce_ BK169 0, ce_ BK169 1, ((HB.out.cell (World.block_lt_of_cell? w _ hw170_0)).trans hw170_0), ((HB.out.cell (World.block_lt_of_cell? w _ hw171_0)).trans hw171_0)⟩ (fun hHeld => ?_)
 clear hK K
 refine norm_ (a' := ?_) ?_ ?_
 rotate_left
 {
 show Act.put _ (some 35) _ = _
 exact sp_}
 refine pu_ 10 (some 25) (B_ 17 2047) HT_ ?_
 refine pu_ 11 (some 36) (B_ 17 4095) HT_ ?_
 refine pu_ 12 (some 37) (B_ 17 8191) HT_ ?_
 refine pu_ 13 (some 38) (B_ 17 16383) HT_ ?_
 refine pu_ 14 (some 12) (B_ 17 32767) HT_ ?_
 refine pu_ 15 (some 13) (B_ 17 65535) HT_ ?_
 refine pu_ 16 (some 14) (B_ 17 131071) HT_ ?_
 refine done_ (done_of HT_.out kf_) ?_
 try go_wp2
 go_ret3
 exact ⟨_, _, by first | rfl | (simp [errW_none, errW_some] <;> rfl) | (simp [*, errW_none, errW_some] <;> rfl), by first | exact Kd.R_nil _ _ _ _ _ | exact Kd.N_nil _ _ _ _ _ | exact Kd.V_nil _ _ _ _ _ | exact Kd.Q_nil _ _ _ _ _ | exact Kd.S_nil _ _ _ _ _, by first | exact Kd.R_nil _ _ _ _ _ | exact Kd.N_nil _ _ _ _ _ | exact Kd.V_nil _ _ _ _ _ | exact Kd.Q_nil _ _ _ _ _ | exact Kd.S_nil _ _ _ _ _, bl_ HB⟩}}
 {
 rw [if_neg c9] at H
 exact absurd H (by simp)}}
 {
 rw [if_neg c8] at H
 exact absurd H (by simp)}}
 {
 rw [if_neg c7] at H
 exact absurd H (by simp)}}
 {
 rw [if_neg c6] at H
 have c6b0 : decide (x22_1 < (l1.length : Int)) = false := decide_eq_false c6
 clear c6
 simp only [Option.some.injEq, Prod.mk.injEq] at H
 obtain ⟨rfl, rfl, rfl⟩ := H
 go_wp2
 go_ret3
 exact ⟨_, _, by first | rfl | (simp [errW_none, errW_some] <;> rfl) | (simp [*, errW_none, errW_some] <;> rfl), by (with_reducible repeat (first | apply Kd.R_alloc | apply Kd.R_drewN | apply Kd.R_drew)); exact HO_9.out, by (with_reducible repeat (first | apply Kd.R_alloc | apply Kd.R_drewN | apply Kd.R_drew)); exact HO_10.out, bl_ HB⟩}))}
 {
 rw [if_neg c4] at H
 have c4b0 : ((l1.length : Int) == (l2.length : Int)) = false := beq_eq_false_iff_ne.mpr c4
 have c4b1 : ((l1.length : Int) != (l2.length : Int)) = true := bne_iff_ne.mpr c4
 have c4b2 : (l1.length == l2.length) = false := by first | simpa using c4 | (simp at c4 ⊢; omega)
 simp only [Option.some.injEq, Prod.mk.injEq] at H
 obtain ⟨rfl, rfl, rfl⟩ := H
 go_enter Try.func67, Try.ntmps67
 go_wp2_with (first | ((with_reducible refine gate_dst (N := 3) rfl ?_); refine bx_ HB 3 #[.int .i64 a0_0, .func (.func 93) #[] #[]] 101 ?_; clear HB; intro gb169 hg w20 hb BK169 GE169 HB; have GW169 := GE169; clear hb hg))
 go_ret3
 exact ⟨_, _, by first | rfl | (simp [errW_none, errW_some] <;> rfl) | (simp [*, errW_none, errW_some] <;> rfl), by first | exact Kd.R_nil _ _ _ _ _ | exact Kd.N_nil _ _ _ _ _ | exact Kd.V_nil _ _ _ _ _ | exact Kd.Q_nil _ _ _ _ _ | exact Kd.S_nil _ _ _ _ _, by first | exact Kd.R_nil _ _ _ _ _ | exact Kd.N_nil _ _ _ _ _ | exact Kd.V_nil _ _ _ _ _ | exact Kd.Q_nil _ _ _ _ _ | exact Kd.S_nil _ _ _ _ _, bl_ HB⟩}
def couple_PartAll.f (k : Nat) (l0 : List Int) (l1 : List Int) : Option (List Int × List Int × Int) := (couple_parting.f).bind fun t181 => ((couple_way_all_by_couple_part.f k t181 l0 l1).bind fun bt182 => (some (bt182.1, bt182.2.1, bt182.2.2)))
theorem couple_PartAll.mono : ∀ a0 a1 k, LeO (couple_PartAll.f k a0 a1) (couple_PartAll.f (k + 1) a0 a1) := by
  intro a0 a1 k
  unfold couple_PartAll.f
  with_reducible repeat' first
   | exact couple_way_all_by_couple_part.mono _ _ _ _
   | exact LeO.refl _
   | exact LeO.none _
   | refine LeO.ite ?_ ?_
   | refine LeO.bind ?_ (fun _ => ?_)
set_option maxHeartbeats 8000000 in
set_option maxRecDepth 100000 in
theorem couple_PartAll.calls (k : Nat) (A0 : Option Addr) (c0 : Nat) (l0 : List Int) (A1 : Option Addr) (c1 : Nat) (l1 : List Int) (r1 : List Int) (r2 : List Int) (r3 : Int) (w : World) (hr0 : Kd.C (Kd.int .i64) w A0 l0.length l0) (hc0 : l0.length ≤ c0) (hr1 : Kd.C (Kd.int .i64) w A1 l1.length l1) (hc1 : l1.length ≤ c1) (h : couple_PartAll.f k l0 l1 = some (r1, r2, r3)) :
    Calls Try.prog 33 #[.slice A0 l0.length c0, .slice A1 l1.length c1] w fun e w' => ∃ v0_ v1_ : Value, e = .returned (.tuple #[v0_, v1_, .int .i64 r3]) ∧ Kd.R (Kd.int .i64) 2 w' w.heap.size (fun k_ => some k_ ≠ (v1_ : Value).ownBlock) v0_ r1 ∧ Kd.R (Kd.int .i64) 2 w' w.heap.size (fun k_ => some k_ ≠ (v0_ : Value).ownBlock) v1_ r2 ∧ Below w.heap.size w w' := by
 have HR0 := Aside0.mk hr0
 have HC0 := Aside0.mk hc0
 clear hr0 hc0
 have HR1 := Aside0.mk hr1
 have HC1 := Aside0.mk hc1
 clear hr1 hc1
 have HB := Aside0.mk (Below.refl w.heap.size w)
 have H : ((couple_parting.f).bind fun t181 => ((couple_way_all_by_couple_part.f k t181 l0 l1).bind fun bt182 => (some (bt182.1, bt182.2.1, bt182.2.2)))) = some (r1, r2, r3) := h
 clear h
 obtain ⟨t181, A3, H⟩ := ob_ H
 (try dsimp only at H)
 obtain ⟨⟨t182, t185, t188⟩, A4, H⟩ := ob_ H
 (try dsimp only at H)
 simp only [Option.some.injEq, Prod.mk.injEq] at H
 obtain ⟨rfl, rfl, rfl⟩ := H
 go_enter Try.func33, Try.ntmps33
 go_wp2_with (first | ((with_reducible refine gate_callee (f := 66) rfl ?_); refine gL_ (some 7) Try.func66 #[] ?_; (with_reducible refine (couple_parting.calls  t181 _ A3.out).mono ?_); rintro e w5 ⟨rfl, hb⟩; refine ⟨_, rfl, ?_⟩; replace HB := BS_ HB hb; (try clear hb)) | ((with_reducible refine gate_callee (f := 67) rfl ?_); refine gL_ (some 10) Try.func67 #[.agg #[.int .i64 t181, .func (.func 93) #[] #[]], .slice A0 l0.length c0, .slice A1 l1.length c1] ?_; (with_reducible refine (couple_way_all_by_couple_part.calls k t181 _ _ l0 _ _ l1 t182 t185 t188 _ ?side1 ?side2 ?side3 ?side4 A4.out).mono ?_); (case side1 => exact kC_ HR0 HB); (case side2 => exact HC0.out); (case side3 => exact kC_ HR1 HB); (case side4 => exact HC1.out); rintro e w6 ⟨v183, v186, rfl, ho0, ho1, hb⟩; refine ⟨_, rfl, ?_⟩; have HO184 := Aside0.mk (Kd.R_lower ho0 (bs_ HB)); have HO187 := Aside0.mk (Kd.R_lower ho1 (bs_ HB)); replace HB := BS_ HB hb; (try clear hb); (try clear ho0); (try clear ho1)))
 go_ret3
 exact ⟨_, _, by first | rfl | (simp [errW_none, errW_some] <;> rfl) | (simp [*, errW_none, errW_some] <;> rfl), by (with_reducible repeat (first | apply Kd.R_alloc | apply Kd.R_drewN | apply Kd.R_drew)); exact HO184.out, by (with_reducible repeat (first | apply Kd.R_alloc | apply Kd.R_drewN | apply Kd.R_drew)); exact HO187.out, bl_ HB⟩
def floor_At.f (a0 : Int) : Option (Int) := some (if a0 = 0 then 0 else if a0 = 1 then 1 else if a0 = 2 then 2 else if a0 = 3 then 4 else if a0 = 4 then 8 else if a0 = 5 then 15 else -1)
set_option maxHeartbeats 4000000 in
set_option maxRecDepth 100000 in
theorem floor_At.low (a0 : Int) (w : World) (h : a0 < 0) : Calls Try.prog 95 #[.int .i64 a0] w fun e w' => e = .returned (.int .i64 (-1)) ∧ Below w.heap.size w w' := by
  go_enter Try.func95, Try.ntmps95
  go_wp2
  go_ret
  exact ⟨rfl, by repeat (first | exact Below.refl _ _ | apply below_alloc | apply pw_below_drewN | apply below_drew1)⟩
set_option maxHeartbeats 4000000 in
set_option maxRecDepth 100000 in
theorem floor_At.high (a0 : Int) (w : World) (h : 6 ≤ a0) : Calls Try.prog 95 #[.int .i64 a0] w fun e w' => e = .returned (.int .i64 (-1)) ∧ Below w.heap.size w w' := by
  have h0 : ¬ a0 < 0 := by omega
  go_enter Try.func95, Try.ntmps95
  go_wp2
  go_ret
  exact ⟨rfl, by repeat (first | exact Below.refl _ _ | apply below_alloc | apply pw_below_drewN | apply below_drew1)⟩
set_option maxHeartbeats 4000000 in
set_option maxRecDepth 100000 in
theorem floor_At.mid (a0 r : Int) (w : World) (h : (a0 = 0 ∧ r = 0) ∨ (a0 = 1 ∧ r = 1) ∨ (a0 = 2 ∧ r = 2) ∨ (a0 = 3 ∧ r = 4) ∨ (a0 = 4 ∧ r = 8) ∨ (a0 = 5 ∧ r = 15)) : Calls Try.prog 95 #[.int .i64 a0] w fun e w' => e = .returned (.int .i64 r) ∧ Below w.heap.size w w' := by
  rcases h with ⟨rfl, rfl⟩ | ⟨rfl, rfl⟩ | ⟨rfl, rfl⟩ | ⟨rfl, rfl⟩ | ⟨rfl, rfl⟩ | ⟨rfl, rfl⟩
  all_goals
    go_enter Try.func95, Try.ntmps95
    go_wp2
    (try simp only [Exit.inBlock, Exit.then])
    refine bodyPost_ret (v := .agg #[.int .i64 0, .int .i64 1, .int .i64 2, .int .i64 4, .int .i64 8, .int .i64 15]) ?_ rfl ?_
    · exact results_cell_row rfl _ _ w.heap.size 139 _ (0, 0) _ (by rfl) (heap_alloc_new w _) Try.underlying139 rfl (by rfl)
    simp only []
    go_at_K
    go_wp2
    go_ret
    exact ⟨rfl, by repeat (first | exact Below.refl _ _ | apply below_alloc | apply pw_below_drewN | apply below_drew1)⟩
theorem floor_At.calls (a0 : Int) (r : Int) (w : World) (h : floor_At.f a0 = some r) : Calls Try.prog 95 #[.int .i64 a0] w fun e w' => e = .returned (.int .i64 r) ∧ Below w.heap.size w w' := by
 have e := Option.some.inj h
 by_cases h0 : a0 < 0
 {
 obtain rfl : r = -1 := by rw [← e]; repeat (rw [if_neg (by omega)])
 exact floor_At.low a0 w h0}
 by_cases h6 : 6 ≤ a0
 {
 obtain rfl : r = -1 := by rw [← e]; repeat (rw [if_neg (by omega)])
 exact floor_At.high a0 w h6}
 refine floor_At.mid a0 r w ?_
 have : a0 = 0 ∨ a0 = 1 ∨ a0 = 2 ∨ a0 = 3 ∨ a0 = 4 ∨ a0 = 5 := by omega
 rcases this with h | h | h | h | h | h <;> subst h <;> simp at e <;> omega
mutual
def floor_Line.l0 : Nat → List Int → List Int → Int → Option (List Int × Int)
  | 0, _, _, _ => none
  | k + 1, x0, x4, x13 => if x13 < 5 then ((floor_At.f x13).bind fun t193 => ((floor_At.f (wrap64 (x13 + 1))).bind fun t194 => (floor_Line.l1 k x0 x4 x13 t193 t194 t193 x13))) else (some (x4, 0))
def floor_Line.l1 : Nat → List Int → List Int → Int → Int → Int → Int → Int → Option (List Int × Int)
  | 0, _, _, _, _, _, _, _ => none
  | k + 1, x0, x4, x5, x6, x7, x8, x13 => if x8 ≤ x7 then (if 0 ≤ x5 then (if x5 < (x0.length : Int) then (if 0 ≤ (wrap64 (x5 + 1)) then (if (wrap64 (x5 + 1)) < (x0.length : Int) then (if (wrap64 (x7 - x6)) = 0 then (none) else (if 0 ≤ x8 then (if x8 < (x4.length : Int) then (floor_Line.l1 k x0 (x4.set (x8 : Int).toNat (wrap64 ((rd x0 x5) + (wrap64 (Int.tdiv (wrap64 ((wrap64 ((rd x0 (wrap64 (x5 + 1))) - (rd x0 x5))) * (wrap64 (x8 - x6)))) (wrap64 (x7 - x6))))))) x5 x6 x7 (wrap64 (x8 + 1)) x13) else (none)) else (none))) else (none)) else (none)) else (none)) else (none)) else (floor_Line.l0 k x0 x4 (wrap64 (x13 + 1)))
end
def floor_Line.f (k : Nat) (l0 : List Int) : Option (List Int × Int) := (floor_Right.f k l0).bind fun t189 => (if t189 = true then (if 16 ≤ 35184372088832 then (floor_Line.l0 k l0 (List.replicate 16 0) 0) else (none)) else (some (([] : List Int), 1)))
theorem floor_Line.mono_l : ∀ k, (∀ y0 y1 y2, LeO (floor_Line.l0 k y0 y1 y2) (floor_Line.l0 (k + 1) y0 y1 y2)) ∧ (∀ y0 y1 y2 y3 y4 y5 y6, LeO (floor_Line.l1 k y0 y1 y2 y3 y4 y5 y6) (floor_Line.l1 (k + 1) y0 y1 y2 y3 y4 y5 y6))
  | 0 => ⟨fun _ _ _ r h => by simp [floor_Line.l0] at h, fun _ _ _ _ _ _ _ r h => by simp [floor_Line.l1] at h⟩
  | k + 1 => by
    obtain ⟨ih0, ih1⟩ := floor_Line.mono_l k
    refine ⟨?_, ?_⟩
    all_goals (intros; first | unfold floor_Line.l0 | unfold floor_Line.l1)
    all_goals with_reducible repeat' first
     | exact ih0 _ _ _
     | exact ih1 _ _ _ _ _ _ _
     | exact floor_Right.mono _ _
     | exact LeO.refl _
     | exact LeO.none _
     | refine LeO.ite ?_ ?_
     | refine LeO.bind ?_ (fun _ => ?_)
theorem floor_Line.mono : ∀ a0 k, LeO (floor_Line.f k a0) (floor_Line.f (k + 1) a0) := by
  intro a0 k
  obtain ⟨ih0, ih1⟩ := floor_Line.mono_l k
  unfold floor_Line.f
  with_reducible repeat' first
   | exact ih0 _ _ _
   | exact ih1 _ _ _ _ _ _ _
   | exact floor_Right.mono _ _
   | exact LeO.refl _
   | exact LeO.none _
   | refine LeO.ite ?_ ?_
   | refine LeO.bind ?_ (fun _ => ?_)
def floor_Line.T11 : Bool × List (List Nat × List Nat) := (true, [([], []), ([], []), ([], []), ([], []), ([2, 3], [2, 3]), ([4], [4]), ([], []), ([], []), ([7], [7]), ([6, 8], [6, 8]), ([9], [9]), ([], []), ([], []), ([11, 12], [11, 12]), ([13], [13]), ([10, 14], [10, 14]), ([], []), ([], []), ([16, 17], [16, 17]), ([15, 18], [15, 18]), ([], []), ([], []), ([20, 21], [20, 21]), ([19, 22], [19, 22]), ([5, 23], [5, 23]), ([0, 1, 0, 1, 2, 3, 4, 5, 6, 7, 8, 9, 10, 11, 12, 13, 14, 15, 16, 17, 18, 19, 20, 21, 22, 23, 24], [0, 1]), ([25, 24, 0, 1, 2, 3, 4, 5, 6, 7, 8, 9, 10, 11, 12, 13, 14, 15, 16, 17, 18, 19, 20, 21, 22, 23, 24], [24, 25])])
def floor_Line.B11 : List Nat := [0, 0, 0, 0, 12, 28, 0, 0, 128, 448, 960, 0, 0, 6144, 14336, 32704, 0, 0, 196608, 524224, 0, 0, 3145728, 8388544, 16777212, 33554431, 67108863]
theorem floor_Line.tab11 : rtab .any (opsOf Try.f68 11) = floor_Line.T11 := by kernel_rfl
theorem floor_Line.bits11 : waitsOk floor_Line.T11.2 floor_Line.B11 = true := by kernel_rfl
set_option maxHeartbeats 8000000 in
set_option maxRecDepth 100000 in
theorem floor_Line.calls (k : Nat) (A0 : Option Addr) (c0 : Nat) (l0 : List Int) (r1 : List Int) (r2 : Int) (w : World) (hr0 : Kd.C (Kd.int .i64) w A0 l0.length l0) (hc0 : l0.length ≤ c0) (h : floor_Line.f k l0 = some (r1, r2)) :
    Calls Try.prog 68 #[.slice A0 l0.length c0] w fun e w' => ∃ v0_ : Value, e = .returned (.tuple #[v0_, .int .i64 r2]) ∧ Kd.R (Kd.int .i64) 3 w' w.heap.size (fun _ => True) v0_ r1 ∧ Below w.heap.size w w' := by
 have HR0 := Aside0.mk hr0
 have HC0 := Aside0.mk hc0
 clear hr0 hc0
 have HB := Aside0.mk (Below.refl w.heap.size w)
 have H : ((floor_Right.f k l0).bind fun t189 => (if t189 = true then (if 16 ≤ 35184372088832 then (floor_Line.l0 k l0 (List.replicate 16 0) 0) else (none)) else (some (([] : List Int), 1)))) = some (r1, r2) := h
 clear h
 obtain ⟨t189, A2, H⟩ := ob_ H
 (try dsimp only at H)
 by_cases c3 : t189 = true
 {
 subst c3
 rw [if_pos rfl] at H
 by_cases c4 : 16 ≤ 35184372088832
 {
 rw [if_pos c4] at H
 have c4b0 := eq_true c4
 have c4b1 : decide (16 ≤ 35184372088832) = true := decide_eq_true c4
 clear c4
 obtain ⟨y190, hy190⟩ : ∃ y_ : List Int, y_ = (List.replicate 16 0) := ⟨_, rfl⟩
 replace H : (floor_Line.l0 k l0 y190 0) = some (r1, r2) := by first | (rw [hy190]; with_reducible exact H) | (have H2_ := (Option.bind_some _ _).symm.trans H; rw [hy190]; with_reducible exact H2_) | (have H2_ := (Option.bind_some _ _).symm.trans H; with_reducible exact H2_) | with_reducible exact H | (rw [hy190]; exact H) | exact H
 have Ny190 := Aside0.mk hy190
 clear hy190
 have H' := Aside0.mk H
 clear H
 go_enter Try.func68, Try.ntmps68
 go_wp2_with (first | ((with_reducible refine gate_callee (f := 86) rfl ?_); refine gL_ (some 10) Try.func86 #[.slice A0 l0.length c0] ?_; (with_reducible refine (floor_Right.calls k _ _ l0 true _ ?side1 ?side2 A2.out).mono ?_); (case side1 => repeat (first | exact HR0.out | (with_reducible refine Kd.C_alloc ?_ _) | (with_reducible refine Kd.C_drewN ?_ _) | (with_reducible refine Kd.C_drew ?_))); (case side2 => exact HC0.out); rintro e w' ⟨rfl, ⟨nd, rfl⟩⟩; refine ⟨_, rfl, ?_⟩) | ((with_reducible refine gate_dst (N := 12) rfl ?_); refine Kd.R_make (Kd.int .i64) _ 3 rfl (N := 12) rfl 22 _ _ rfl 16 rfl rfl Try.underlying22 (.int .i64 0) 8 info3 rfl (by decide) (by omega) 0 (ok := fun _ => True) (okp := fun _ => True) rfl (fun _ hk => hk) trivial (by omega) (by omega) (Below.refl _ _) (Nat.le_refl _) ?_; intro v191 w5 ho6 hb hg_ hnew_; clear hg_ hnew_; (first | rw [← Ny190.out] at ho6 | (simp only [Int.reduceToNat] at ho6; rw [← Ny190.out] at ho6)); have HO192 := Aside0.mk (Kd.R_lower ho6 (bs_ HB)); replace HB := BS_ HB hb; clear hb ho6))
 go_loopg [13] k (fun kq v13 w' => ∃ (x4_1 : List Int) (x13_1 : Int), v13 = .int .i64 x13_1 ∧ Aside0 (floor_Line.l0 kq l0 x4_1 x13_1 = some (r1, r2)) ∧ Aside0 (kq ≤ k) ∧ Aside0 (Kd.R (Kd.int .i64) 3 w' w.heap.size (fun _ => True) v191 x4_1) ∧ Aside0 (Below w.heap.size w w'))
 case atStart => exact ⟨(y190), (0), rs_, H', ⟨Nat.le_refl _⟩, ⟨kR_ HO192⟩, ⟨bl_ HB⟩⟩
 case round => (
 clear H'
 try clear c3
 try clear c4
 try clear c4b0
 try clear c4b1
 obtain ⟨x4_1, x13_1, rfl, HA, HK1, HO_4, HB⟩ := hrel
 cases gk with
 | zero => exact absurd HA.out (by simp [floor_Line.l0])
 | succ k1 => (
 have H := HA.out
 clear HA
 simp only [floor_Line.l0] at H
 by_cases c7 : x13_1 < 5
 {
 rw [if_pos c7] at H
 have c7b0 : decide (x13_1 < 5) = true := decide_eq_true c7
 clear c7
 obtain ⟨t193, A8, H⟩ := ob_ H
 (try dsimp only at H)
 obtain ⟨t194, A9, H⟩ := ob_ H
 (try dsimp only at H)
 have H' := Aside0.mk H
 clear H
 go_wp2_with (first | ((with_reducible refine gate_callee (f := 95) rfl ?_); refine gL_ (some 17) Try.func95 #[.int .i64 x13_1] ?_; (with_reducible refine (floor_At.calls x13_1 t193 _ A8.out).mono ?_); rintro e w10 ⟨rfl, hb⟩; refine ⟨_, rfl, ?_⟩; replace HO_4 := FR_ HO_4 hb; replace HB := BS_ HB hb; (try clear hb)) | ((with_reducible refine gate_callee (f := 95) rfl ?_); refine gL_ (some 20) Try.func95 #[.int .i64 (wrap64 (x13_1 + 1))] ?_; (with_reducible refine (floor_At.calls (wrap64 (x13_1 + 1)) t194 _ A9.out).mono ?_); rintro e w11 ⟨rfl, hb⟩; refine ⟨_, rfl, ?_⟩; replace HO_4 := FR_ HO_4 hb; replace HB := BS_ HB hb; (try clear hb)))
 go_loopg [8] k1 (fun kq v8 w' => ∃ (x4_2 : List Int) (x8_2 : Int), v8 = .int .i64 x8_2 ∧ Aside0 (floor_Line.l1 kq l0 x4_2 x13_1 t193 t194 x8_2 x13_1 = some (r1, r2)) ∧ Aside0 (kq ≤ k1) ∧ Aside0 (Kd.R (Kd.int .i64) 3 w' w.heap.size (fun _ => True) v191 x4_2) ∧ Aside0 (Below w.heap.size w w'))
 case atStart => exact ⟨(x4_1), (t193), rs_, H', ⟨Nat.le_refl _⟩, ⟨kR_ HO_4⟩, ⟨bl_ HB⟩⟩
 case round => (
 clear H'
 try clear c3
 try clear c4
 try clear c4b0
 try clear c4b1
 try clear c7
 try clear c7b0
 obtain ⟨x4_2, x8_2, rfl, HA, HK2, HO_4, HB⟩ := hrel
 cases gk with
 | zero => exact absurd HA.out (by simp [floor_Line.l1])
 | succ k2 => (
 have H := HA.out
 clear HA
 simp only [floor_Line.l1] at H
 by_cases c12 : x8_2 ≤ t194
 {
 rw [if_pos c12] at H
 have c12b0 : decide (x8_2 ≤ t194) = true := decide_eq_true c12
 clear c12
 by_cases c13 : 0 ≤ x13_1
 {
 rw [if_pos c13] at H
 have c13b0 : decide (0 ≤ x13_1) = true := decide_eq_true c13
 clear c13
 by_cases c14 : x13_1 < (l0.length : Int)
 {
 rw [if_pos c14] at H
 have c14b0 : decide (x13_1 < (l0.length : Int)) = true := decide_eq_true c14
 clear c14
 obtain ⟨ji15, hji15⟩ : ∃ j_ : Int, (wrap64 (x13_1 + 1)) = j_ := ⟨_, rfl⟩
 replace H : (if 0 ≤ (ji15) then (if (ji15) < (l0.length : Int) then (if (wrap64 (t194 - t193)) = 0 then (none) else (if 0 ≤ x8_2 then (if x8_2 < (x4_2.length : Int) then (floor_Line.l1 k2 l0 (x4_2.set (x8_2 : Int).toNat (wrap64 ((rd l0 x13_1) + (wrap64 (Int.tdiv (wrap64 ((wrap64 ((rd l0 (ji15)) - (rd l0 x13_1))) * (wrap64 (x8_2 - t193)))) (wrap64 (t194 - t193))))))) x13_1 t193 t194 (wrap64 (x8_2 + 1)) x13_1) else (none)) else (none))) else (none)) else (none)) = some (r1, r2) := by first | (rw [hji15] at H; exact H) | (simp only [hji15] at H ⊢; exact H)
 have hji15w : (IntKind.i64.wrap (x13_1 + 1)) = ji15 := (i64_w _).trans hji15
 by_cases c16 : 0 ≤ (ji15)
 {
 rw [if_pos c16] at H
 have c16b0 : decide (0 ≤ (ji15)) = true := decide_eq_true c16
 clear c16
 by_cases c17 : (ji15) < (l0.length : Int)
 {
 rw [if_pos c17] at H
 have c17b0 : decide ((ji15) < (l0.length : Int)) = true := decide_eq_true c17
 clear c17
 by_cases c18 : (wrap64 (t194 - t193)) = 0
 {
 rw [if_pos c18] at H
 exact absurd H (by simp)}
 {
 rw [if_neg c18] at H
 have c18b0 : ((wrap64 (t194 - t193)) == 0) = false := beq_eq_false_iff_ne.mpr c18
 have c18b1 : ((wrap64 (t194 - t193)) != 0) = true := bne_iff_ne.mpr c18
 by_cases c19 : 0 ≤ x8_2
 {
 rw [if_pos c19] at H
 have c19b0 : decide (0 ≤ x8_2) = true := decide_eq_true c19
 clear c19
 by_cases c20 : x8_2 < (x4_2.length : Int)
 {
 rw [if_pos c20] at H
 have c20b0 : decide (x8_2 < (x4_2.length : Int)) = true := decide_eq_true c20
 clear c20
 obtain ⟨y198, hy198⟩ : ∃ y_ : List Int, y_ = (x4_2.set (x8_2 : Int).toNat (wrap64 ((rd l0 x13_1) + (wrap64 (Int.tdiv (wrap64 ((wrap64 ((rd l0 (ji15)) - (rd l0 x13_1))) * (wrap64 (x8_2 - t193)))) (wrap64 (t194 - t193))))))) := ⟨_, rfl⟩
 replace H : (floor_Line.l1 k2 l0 y198 x13_1 t193 t194 (wrap64 (x8_2 + 1)) x13_1) = some (r1, r2) := by first | (rw [hy198]; with_reducible exact H) | (have H2_ := (Option.bind_some _ _).symm.trans H; rw [hy198]; with_reducible exact H2_) | (have H2_ := (Option.bind_some _ _).symm.trans H; with_reducible exact H2_) | with_reducible exact H | (rw [hy198]; exact H) | exact H
 have Ny198 := Aside0.mk hy198
 clear hy198
 have H' := Aside0.mk H
 clear H
 try go_wp2
 replace HO_4 := Aside0.mk (Kd.R_drew HO_4.out)
 replace HB := Aside0.mk (below_drew1 HB.out)
 have p195 : 0 ≤ (x13_1 : Int) := of_decide_eq_true am_
 have q195 : x13_1 < (l0.length : Int) := of_decide_eq_true am_
 obtain ⟨ad195, e195, hx195_0⟩ := Kd.at_int HR0.out x13_1 p195 q195
 have hw195_0 := hx195_0
 cases e195
 replace hx195_0 := (HB.out.cell (World.block_lt_of_cell? w _ hx195_0)).trans hx195_0
 replace p195 := eq_true p195
 replace q195 := eq_true q195
 have p196 : 0 ≤ ((ji15) : Int) := of_decide_eq_true am_
 have q196 : (ji15) < (l0.length : Int) := of_decide_eq_true am_
 obtain ⟨ad196, e196, hx196_0⟩ := Kd.at_int HR0.out (ji15) p196 q196
 have hw196_0 := hx196_0
 obtain rfl : ad195 = ad196 := (by injection e196)
 replace hx196_0 := (HB.out.cell (World.block_lt_of_cell? w _ hx196_0)).trans hx196_0
 replace p196 := eq_true p196
 replace q196 := eq_true q196
 have p197 : 0 ≤ (x13_1 : Int) := of_decide_eq_true am_
 have q197 : x13_1 < (l0.length : Int) := of_decide_eq_true am_
 obtain ⟨ad197, e197, hx197_0⟩ := Kd.at_int HR0.out x13_1 p197 q197
 have hw197_0 := hx197_0
 obtain rfl : ad195 = ad197 := (by injection e197)
 replace hx197_0 := (HB.out.cell (World.block_lt_of_cell? w _ hx197_0)).trans hx197_0
 replace p197 := eq_true p197
 replace q197 := eq_true q197
 have p21 : 0 ≤ (x8_2 : Int) := of_decide_eq_true am_
 have q21 : (x8_2 : Int) < ((x4_2.length : Int) : Int) := of_decide_eq_true am_
 obtain ⟨go21, co21, eo21, gb21, gl21, cl21, HG21⟩ := Kd.R_form HO_4.out (by omega)
 (first | cases eo21 | (injection eo21 with ea_ en_ ec_; (first | subst ea_ | (injection ea_ with ea_; subst ea_)); subst ec_; clear en_))
 have GB21 := Aside0.mk gb21
 have GG21 := Aside0.mk HG21
 clear gb21 gl21 HG21
 obtain ⟨hx21_0, hf21_0⟩ := Kd.R_celln 0 HO_4.out (x8_2 : Int) p21 q21
 replace p21 := eq_true p21
 replace q21 := eq_true q21
 have HP23 := Kd.R_putn HO_4.out (x8_2 : Int) (wrap64 ((rd l0 x13_1) + (wrap64 (Int.tdiv (wrap64 ((wrap64 ((rd l0 (ji15)) - (rd l0 x13_1))) * (wrap64 (x8_2 - t193)))) (wrap64 (t194 - t193))))))
 rw [← Ny198.out] at HP23
 have HQ23 := Aside0.mk HP23
 clear HP23
 refine start_ (n := 27) (S := fun w' => w'.cell? (ad195.add (x13_1).toNat) = some (.int .i64 (rd l0 x13_1)) ∧ w'.cell? (ad195.add ((ji15)).toNat) = some (.int .i64 (rd l0 (ji15))) ∧ w'.cell? (ad195.add (x13_1).toNat) = some (.int .i64 (rd l0 x13_1))) (ds := [26]) (B_ 27 0) kf_ rfl rfl ⟨((HB.out.cell (World.block_lt_of_cell? w _ hw195_0)).trans hw195_0), ((HB.out.cell (World.block_lt_of_cell? w _ hw196_0)).trans hw196_0), ((HB.out.cell (World.block_lt_of_cell? w _ hw197_0)).trans hw197_0)⟩ (fun hHeld => ?_); refine with_tabW floor_Line.tab11 floor_Line.bits11 (fun HT_ HW_ => ?_)
 generalize wr.drew = w22 at HO_4 HB GG21 HQ23 hf21_0 hx195_0 hx196_0 hx197_0 hx21_0 hHeld ⊢
 refine pu_ 0 (some 27) (B_ 27 1) HT_ ?_
 refine pu_ 1 (some 28) (B_ 27 3) HT_ ?_
 refine pu_ 2 (some 29) (B_ 27 7) HT_ ?_
 refine pu_ 3 (some 30) (B_ 27 15) HT_ ?_
 refine pu_ 4 (some 31) (B_ 27 31) HT_ ?_
 refine pu_ 6 (some 33) (B_ 27 95) HT_ ?_
 refine pu_ 7 (some 34) (B_ 27 223) HT_ ?_
 refine pu_ 8 (some 35) (B_ 27 479) HT_ ?_
 refine pu_ 9 (some 36) (B_ 27 991) HT_ ?_
 refine pu_ 11 (some 38) (B_ 27 3039) HT_ ?_
 refine pu_ 12 (some 39) (B_ 27 7135) HT_ ?_
 refine pu_ 13 (some 40) (B_ 27 15327) HT_ ?_
 refine pu_ 16 (some 43) (B_ 27 80863) HT_ ?_
 refine pu_ 17 (some 44) (B_ 27 211935) HT_ ?_
 refine pu_ 18 (some 45) (B_ 27 474079) HT_ ?_
 refine pu_ 20 (some 47) (B_ 27 1522655) HT_ ?_
 refine pu_ 21 (some 48) (B_ 27 3619807) HT_ ?_
 refine pu_ 22 (some 49) (B_ 27 7814111) HT_ ?_
 refine take_ (i := 5) (N := some 32) (v := ?_) (a' := ?_) (B_ 27 7814143) rfl rfl (take_ofW HT_.out HW_.out kf_) (fun _ _ _ h => h) (Or.inl ⟨by rfl, ?_⟩) hHeld ?_ ?_
 rotate_left
 {
 rintro w' ⟨s0, s1, s2⟩
 go_simp
 with_reducible rfl}
 rotate_left
 {
 exact sp_}
 refine take_ (i := 10) (N := some 37) (v := ?_) (a' := ?_) (B_ 27 7815167) rfl rfl (take_ofW HT_.out HW_.out kf_) (fun _ _ _ h => h) (Or.inl ⟨by rfl, ?_⟩) hHeld ?_ ?_
 rotate_left
 {
 rintro w' ⟨s0, s1, s2⟩
 go_simp
 with_reducible rfl}
 rotate_left
 {
 exact sp_}
 refine take_ (i := 14) (N := some 41) (v := ?_) (a' := ?_) (B_ 27 7831551) rfl rfl (take_ofW HT_.out HW_.out kf_) (fun _ _ _ h => h) (Or.inl ⟨by rfl, ?_⟩) hHeld ?_ ?_
 rotate_left
 {
 rintro w' ⟨s0, s1, s2⟩
 go_simp
 with_reducible rfl}
 rotate_left
 {
 exact sp_}
 refine pu_ 15 (some 42) (B_ 27 7864319) HT_ ?_
 refine pu_ 19 (some 46) (B_ 27 8388607) HT_ ?_
 refine pu_ 23 (some 50) (B_ 27 16777215) HT_ ?_
 refine pu_ 24 (some 51) (B_ 27 33554431) HT_ ?_
 refine pu_ 25 (some 52) (B_ 27 67108863) HT_ ?_
 refine last_ (i := 26) (N := none) (B_ 27 134217727) rfl rfl (one_of HT_.out kf_) (by decide) (fun K hK => ?_)
 refine skip_ (w1 := ?_) (by rfl) rfl ?_ ?_
 rotate_left
 {
 go_simp
 rfl}
 refine hK.out _ _ ?_
 clear hK K
 refine done_ (done_of HT_.out kf_) ?_
 try go_wp2
 first | go_roundg k2 | (subst hji15; go_roundg k2)
 case measure => have := HK1.out; have := HK2.out; omega
 case rel => exact ⟨(y198), (wrap64 (x8_2 + 1)), rs_, H', ⟨by have := HK1.out; have := HK2.out; omega⟩, ⟨kR_ HQ23⟩, ⟨by repeat (first | (with_reducible first | exact HB.out | apply below_alloc | apply pw_below_drewN | apply below_drew1 | refine below_set ?_ GB21.out) | exact HB.out)⟩⟩}
 {
 rw [if_neg c20] at H
 exact absurd H (by simp)}}
 {
 rw [if_neg c19] at H
 exact absurd H (by simp)}}}
 {
 rw [if_neg c17] at H
 exact absurd H (by simp)}}
 {
 rw [if_neg c16] at H
 exact absurd H (by simp)}}
 {
 rw [if_neg c14] at H
 exact absurd H (by simp)}}
 {
 rw [if_neg c13] at H
 exact absurd H (by simp)}}
 {
 rw [if_neg c12] at H
 have c12b0 : decide (x8_2 ≤ t194) = false := decide_eq_false c12
 clear c12
 have H' := Aside0.mk H
 clear H
 go_wp2
 go_roundg k2
 case measure => have := HK1.out; have := HK2.out; omega
 case rel => exact ⟨(x4_2), (wrap64 (x13_1 + 1)), rs_, H', ⟨by have := HK1.out; have := HK2.out; omega⟩, ⟨kR_ HO_4⟩, ⟨bl_ HB⟩⟩}))}
 {
 rw [if_neg c7] at H
 have c7b0 : decide (x13_1 < 5) = false := decide_eq_false c7
 clear c7
 simp only [Option.some.injEq, Prod.mk.injEq] at H
 obtain ⟨rfl, rfl⟩ := H
 go_wp2
 go_ret2
 exact ⟨_, by first | rfl | (simp [errW_none, errW_some] <;> rfl) | (simp [*, errW_none, errW_some] <;> rfl), by (with_reducible repeat (first | apply Kd.R_alloc | apply Kd.R_drewN | apply Kd.R_drew)); exact HO_4.out, bl_ HB⟩}))}
 {
 rw [if_neg c4] at H
 exact absurd H (by simp)}}
 {
 replace c3 := Bool.eq_false_iff.mpr c3
 subst c3
 rw [if_neg (show ¬ (false = true) by decide)] at H
 simp only [Option.some.injEq, Prod.mk.injEq] at H
 obtain ⟨rfl, rfl⟩ := H
 go_enter Try.func68, Try.ntmps68
 go_wp2_with (first | ((with_reducible refine gate_callee (f := 86) rfl ?_); refine gL_ (some 10) Try.func86 #[.slice A0 l0.length c0] ?_; (with_reducible refine (floor_Right.calls k _ _ l0 false _ ?side1 ?side2 A2.out).mono ?_); (case side1 => repeat (first | exact HR0.out | (with_reducible refine Kd.C_alloc ?_ _) | (with_reducible refine Kd.C_drewN ?_ _) | (with_reducible refine Kd.C_drew ?_))); (case side2 => exact HC0.out); rintro e w' ⟨rfl, ⟨nd, rfl⟩⟩; refine ⟨_, rfl, ?_⟩))
 go_ret2
 exact ⟨_, by first | rfl | (simp [errW_none, errW_some] <;> rfl) | (simp [*, errW_none, errW_some] <;> rfl), by first | exact Kd.R_nil _ _ _ _ _ | exact Kd.N_nil _ _ _ _ _ | exact Kd.V_nil _ _ _ _ _ | exact Kd.Q_nil _ _ _ _ _ | exact Kd.S_nil _ _ _ _ _, bl_ HB⟩}
def num_Sqrt.l0 : Nat → Int → Int → Int → Option (Int)
  | 0, _, _, _ => none
  | k + 1, x0, x3, x4 => if x4 > 0 then (if (Go.bits .or .u64 x3 x4) = 0 then (none) else (if (Go.bits .or .u64 x3 x4) ≤ (IntKind.u64.wrap (Int.tdiv x0 (Go.bits .or .u64 x3 x4))) then (num_Sqrt.l0 k x0 (Go.bits .or .u64 x3 x4) (x4 / 2)) else (num_Sqrt.l0 k x0 x3 (x4 / 2)))) else (some x3)
def num_Sqrt.f (k : Nat) (a0 : Int) : Option (Int) := num_Sqrt.l0 k a0 0 2147483648
theorem num_Sqrt.mono_l : ∀ k, (∀ y0 y1 y2, LeO (num_Sqrt.l0 k y0 y1 y2) (num_Sqrt.l0 (k + 1) y0 y1 y2))
  | 0 => fun _ _ _ r h => by simp [num_Sqrt.l0] at h
  | k + 1 => by
    have ih0 := num_Sqrt.mono_l k
    · intro y0 y1 y2
      unfold num_Sqrt.l0
      with_reducible repeat' first
   | exact ih0 _ _ _
   | exact LeO.refl _
   | exact LeO.none _
   | refine LeO.ite ?_ ?_
   | refine LeO.bind ?_ (fun _ => ?_)
theorem num_Sqrt.mono : ∀ a0 k, LeO (num_Sqrt.f k a0) (num_Sqrt.f (k + 1) a0) := by
  intro a0 k
  have ih0 := num_Sqrt.mono_l k
  unfold num_Sqrt.f
  with_reducible repeat' first
   | exact ih0 _ _ _
   | exact LeO.refl _
   | exact LeO.none _
   | refine LeO.ite ?_ ?_
   | refine LeO.bind ?_ (fun _ => ?_)
set_option maxHeartbeats 8000000 in
set_option maxRecDepth 100000 in
theorem num_Sqrt.calls (k : Nat) (a0 : Int) (r : Int) (w : World) (h : num_Sqrt.f k a0 = some r) :
    Calls Try.prog 96 #[.int .u64 a0] w fun e w' => e = .returned (.int .u64 r) ∧ Drawn0 w w' := by
 have H : (num_Sqrt.l0 k a0 0 2147483648) = some r := h
 clear h
 have H' := Aside0.mk H
 clear H
 go_enter Try.func96, Try.ntmps96
 go_wp2
 go_loopg [3, 4] k (fun kq v3 v4 w' => ∃ (x3_1 : Int) (x4_1 : Int), v3 = .int .u64 x3_1 ∧ v4 = .int .u64 x4_1 ∧ Aside0 (num_Sqrt.l0 kq a0 x3_1 x4_1 = some r) ∧ Aside0 (kq ≤ k) ∧ Drawn0 w w')
 case atStart => exact ⟨(0), (2147483648), rs_, rs_, H', ⟨Nat.le_refl _⟩, by repeat (first | exact Drawn0.refl _ | apply Drawn0.step)⟩
 case round => (
 clear H'
 obtain ⟨x3_1, x4_1, rfl, rfl, HA, HK1, ⟨m1, rfl⟩⟩ := hrel
 cases gk with
 | zero => exact absurd HA.out (by simp [num_Sqrt.l0])
 | succ k1 => (
 have H := HA.out
 clear HA
 simp only [num_Sqrt.l0] at H
 by_cases c2 : x4_1 > 0
 {
 rw [if_pos c2] at H
 have c2b0 : decide (0 < x4_1) = true := decide_eq_true c2
 clear c2
 by_cases c3 : (Go.bits .or .u64 x3_1 x4_1) = 0
 {
 rw [if_pos c3] at H
 exact absurd H (by simp)}
 {
 rw [if_neg c3] at H
 have c3b0 : ((Go.bits .or .u64 x3_1 x4_1) == 0) = false := beq_eq_false_iff_ne.mpr c3
 have c3b1 : ((Go.bits .or .u64 x3_1 x4_1) != 0) = true := bne_iff_ne.mpr c3
 by_cases c4 : (Go.bits .or .u64 x3_1 x4_1) ≤ (IntKind.u64.wrap (Int.tdiv a0 (Go.bits .or .u64 x3_1 x4_1)))
 {
 rw [if_pos c4] at H
 have c4b0 : decide ((Go.bits .or .u64 x3_1 x4_1) ≤ (IntKind.u64.wrap (Int.tdiv a0 (Go.bits .or .u64 x3_1 x4_1)))) = true := decide_eq_true c4
 clear c4
 have H' := Aside0.mk H
 clear H
 go_wp2
 go_roundg k1
 case measure => have := HK1.out; omega
 case rel => exact ⟨(Go.bits .or .u64 x3_1 x4_1), (x4_1 / 2), rs_, rs_, H', ⟨by have := HK1.out; omega⟩, by repeat (first | exact Drawn0.refl _ | apply Drawn0.step)⟩}
 {
 rw [if_neg c4] at H
 have c4b0 : decide ((Go.bits .or .u64 x3_1 x4_1) ≤ (IntKind.u64.wrap (Int.tdiv a0 (Go.bits .or .u64 x3_1 x4_1)))) = false := decide_eq_false c4
 clear c4
 have H' := Aside0.mk H
 clear H
 go_wp2
 go_roundg k1
 case measure => have := HK1.out; omega
 case rel => exact ⟨(x3_1), (x4_1 / 2), rs_, rs_, H', ⟨by have := HK1.out; omega⟩, by repeat (first | exact Drawn0.refl _ | apply Drawn0.step)⟩}}}
 {
 rw [if_neg c2] at H
 have c2b0 : decide (0 < x4_1) = false := decide_eq_false c2
 clear c2
 obtain rfl := Option.some.inj H
 go_wp2
 go_ret
 exact ⟨by first | rfl | (simp; done) | (simp [*]; done), by repeat (first | exact Drawn0.refl _ | apply Drawn0.step)⟩}))
def band_Value.f (k : Nat) (a0 : Int) : Option (Int) := if a0 < 1 then (some 0) else (if a0 > 44 then (some 0) else (if 0 ≤ (wrap64 (a0 - 1)) then ((num_Sqrt.f k (shl .u64 1 (wrap64 (a0 - 1)))).bind fun t199 => (some (wrap64 (t199)))) else (none)))
theorem band_Value.mono : ∀ a0 k, LeO (band_Value.f k a0) (band_Value.f (k + 1) a0) := by
  intro a0 k
  unfold band_Value.f
  with_reducible repeat' first
   | exact num_Sqrt.mono _ _
   | exact LeO.refl _
   | exact LeO.none _
   | refine LeO.ite ?_ ?_
   | refine LeO.bind ?_ (fun _ => ?_)
set_option maxHeartbeats 8000000 in
set_option maxRecDepth 100000 in
theorem band_Value.calls (k : Nat) (a0 : Int) (r : Int) (w : World) (h : band_Value.f k a0 = some r) :
    Calls Try.prog 69 #[.int .i64 a0] w fun e w' => e = .returned (.int .i64 r) ∧ Drawn0 w w' := by
 have H : (if a0 < 1 then (some 0) else (if a0 > 44 then (some 0) else (if 0 ≤ (wrap64 (a0 - 1)) then ((num_Sqrt.f k (shl .u64 1 (wrap64 (a0 - 1)))).bind fun t199 => (some (wrap64 (t199)))) else (none)))) = some r := h
 clear h
 by_cases c2 : a0 < 1
 {
 rw [if_pos c2] at H
 have c2b0 : decide (a0 < 1) = true := decide_eq_true c2
 clear c2
 obtain rfl := Option.some.inj H
 go_enter Try.func69, Try.ntmps69
 go_wp2
 go_ret
 exact ⟨by first | rfl | (simp; done) | (simp [*]; done), by repeat (first | exact Drawn0.refl _ | apply Drawn0.step)⟩}
 {
 rw [if_neg c2] at H
 have c2b0 : decide (a0 < 1) = false := decide_eq_false c2
 clear c2
 by_cases c3 : a0 > 44
 {
 rw [if_pos c3] at H
 have c3b0 : decide (44 < a0) = true := decide_eq_true c3
 clear c3
 obtain rfl := Option.some.inj H
 go_enter Try.func69, Try.ntmps69
 go_wp2
 go_ret
 exact ⟨by first | rfl | (simp; done) | (simp [*]; done), by repeat (first | exact Drawn0.refl _ | apply Drawn0.step)⟩}
 {
 rw [if_neg c3] at H
 have c3b0 : decide (44 < a0) = false := decide_eq_false c3
 clear c3
 obtain ⟨ji4, hji4⟩ : ∃ j_ : Int, (wrap64 (a0 - 1)) = j_ := ⟨_, rfl⟩
 replace H : (if 0 ≤ (ji4) then ((num_Sqrt.f k (shl .u64 1 (ji4))).bind fun t199 => (some (wrap64 (t199)))) else (none)) = some r := by first | (rw [hji4] at H; exact H) | (simp only [hji4] at H ⊢; exact H)
 have hji4w : (IntKind.i64.wrap (a0 - 1)) = ji4 := (i64_w _).trans hji4
 by_cases c5 : 0 ≤ (ji4)
 {
 rw [if_pos c5] at H
 have c5b0 := eq_true c5
 have c5b1 : decide (0 ≤ (ji4)) = true := decide_eq_true c5
 clear c5
 obtain ⟨ji6, hji6⟩ : ∃ j_ : Int, (shl .u64 1 (ji4)) = j_ := ⟨_, rfl⟩
 replace H : ((num_Sqrt.f k (ji6)).bind fun t199 => (some (wrap64 (t199)))) = some r := by first | (rw [hji6] at H; exact H) | (simp only [hji6] at H ⊢; exact H)
 have hji6_ : (IntKind.u64.wrap (1 * 2 ^ min (ji4).toNat 64)) = ji6 := hji6
 have hji6z : (ji4) ≤ 64 → (IntKind.u64.wrap (1 * 2 ^ (ji4).toNat)) = ji6 := shl_small hji6
 have hji6u : (IntKind.u64.wrap (2 ^ min (ji4).toNat 64)) = ji6 := by have h_ := hji6_; rw [Int.one_mul] at h_; exact h_
 have hji6v : (ji4) ≤ 64 → (IntKind.u64.wrap (2 ^ (ji4).toNat)) = ji6 := fun hle_ => by have h_ := hji6z hle_; rw [Int.one_mul] at h_; exact h_
 obtain ⟨t199, A7, H⟩ := ob_ H
 (try dsimp only at H)
 obtain rfl := Option.some.inj H
 go_enter Try.func69, Try.ntmps69
 go_wp2_with (first | ((with_reducible refine gate_callee (f := 96) rfl ?_); refine goesL_ (some 12) rfl rfl Try.func96 kf_ rfl #[.int .u64 ji6] rfl (by (try simp only [List.map_toArray, List.map_cons, List.map_nil]); first | done | (simp only [hji6]; rfl) | rfl | (simp only [List.length_drop, List.length_take]; rfl)) ?_; (with_reducible refine (num_Sqrt.calls k ji6 t199 _ A7.out).mono ?_); rintro e w' ⟨rfl, ⟨nd, rfl⟩⟩; refine ⟨_, rfl, ?_⟩))
 go_ret
 exact ⟨by first | rfl | (simp; done) | (simp only [← hji4, ← hji6] <;> (first | rfl | simp)) | (simp [*]; done), by repeat (first | exact Drawn0.refl _ | apply Drawn0.step)⟩}
 {
 rw [if_neg c5] at H
 exact absurd H (by simp)}}}
def floor_Floor.l0 : Nat → List Int → List Int → Int → Int → Option (List Int × Int)
  | 0, _, _, _, _ => none
  | k + 1, x6, x17, x18, x19 => if x19 < x18 then (if 0 ≤ x19 then (if x19 < (x17.length : Int) then ((band_Value.f k (rd x17 x19)).bind fun t205 => (if x6.length < 17592186044416 then (floor_Floor.l0 k (x6 ++ [mx 1 t205]) x17 x18 (wrap64 (x19 + 1))) else (none))) else (none)) else (none)) else (some (x6, 0))
def floor_Floor.f (k : Nat) (l0 : List Int) : Option (List Int × Int) := (floor_Line.f k l0).bind fun bt200 => (if bt200.2 = 0 then (floor_Floor.l0 k ([] : List Int) bt200.1 (bt200.1.length : Int) 0) else (some (([] : List Int), bt200.2)))
theorem floor_Floor.mono_l : ∀ k, (∀ y0 y1 y2 y3, LeO (floor_Floor.l0 k y0 y1 y2 y3) (floor_Floor.l0 (k + 1) y0 y1 y2 y3))
  | 0 => fun _ _ _ _ r h => by simp [floor_Floor.l0] at h
  | k + 1 => by
    have ih0 := floor_Floor.mono_l k
    · intro y0 y1 y2 y3
      unfold floor_Floor.l0
      with_reducible repeat' first
   | exact ih0 _ _ _ _
   | exact band_Value.mono _ _
   | exact floor_Line.mono _ _
   | exact LeO.refl _
   | exact LeO.none _
   | refine LeO.ite ?_ ?_
   | refine LeO.bind ?_ (fun _ => ?_)
theorem floor_Floor.mono : ∀ a0 k, LeO (floor_Floor.f k a0) (floor_Floor.f (k + 1) a0) := by
  intro a0 k
  have ih0 := floor_Floor.mono_l k
  unfold floor_Floor.f
  with_reducible repeat' first
   | exact ih0 _ _ _ _
   | exact band_Value.mono _ _
   | exact floor_Line.mono _ _
   | exact LeO.refl _
   | exact LeO.none _
   | refine LeO.ite ?_ ?_
   | refine LeO.bind ?_ (fun _ => ?_)
set_option maxHeartbeats 8000000 in
set_option maxRecDepth 100000 in
theorem floor_Floor.calls (k : Nat) (A0 : Option Addr) (c0 : Nat) (l0 : List Int) (r1 : List Int) (r2 : Int) (w : World) (hr0 : Kd.C (Kd.int .i64) w A0 l0.length l0) (hc0 : l0.length ≤ c0) (h : floor_Floor.f k l0 = some (r1, r2)) :
    Calls Try.prog 34 #[.slice A0 l0.length c0] w fun e w' => ∃ v0_ : Value, e = .returned (.tuple #[v0_, .int .i64 r2]) ∧ Kd.R (Kd.int .i64) 2 w' w.heap.size (fun _ => True) v0_ r1 ∧ Below w.heap.size w w' := by
 have HR0 := Aside0.mk hr0
 have HC0 := Aside0.mk hc0
 clear hr0 hc0
 have HB := Aside0.mk (Below.refl w.heap.size w)
 have H : ((floor_Line.f k l0).bind fun bt200 => (if bt200.2 = 0 then (floor_Floor.l0 k ([] : List Int) bt200.1 (bt200.1.length : Int) 0) else (some (([] : List Int), bt200.2)))) = some (r1, r2) := h
 clear h
 obtain ⟨⟨t200, t201⟩, A2, H⟩ := ob_ H
 (try dsimp only at H)
 by_cases c3 : t201 = 0
 {
 rw [if_pos c3] at H
 have c3b0 : (t201 == 0) = true := beq_iff_eq.mpr c3
 have c3b1 : (t201 != 0) = false := bne_eq_false_iff_eq.mpr c3
 clear c3
 have H' := Aside0.mk H
 clear H
 go_enter Try.func34, Try.ntmps34
 go_wp2_with (first | ((with_reducible refine gate_callee (f := 68) rfl ?_); refine gL_ (some 11) Try.func68 #[.slice A0 l0.length c0] ?_; (with_reducible refine (floor_Line.calls k _ _ l0 t200 t201 _ ?side1 ?side2 A2.out).mono ?_); (case side1 => repeat (first | exact HR0.out | (with_reducible refine Kd.C_alloc ?_ _) | (with_reducible refine Kd.C_drewN ?_ _) | (with_reducible refine Kd.C_drew ?_))); (case side2 => exact HC0.out); rintro e w4 ⟨v202, rfl, ho0, hb⟩; refine ⟨_, rfl, ?_⟩; have HO203 := Aside0.mk (Kd.R_lower ho0 (bs_ HB)); replace HB := BS_ HB hb; (try clear hb); (try clear ho0); obtain ⟨Ao5, co5, eo5⟩ := Kd.R_slice HO203.out; subst eo5))
 go_loopg [6, 19] k (fun kq v6 v19 w' => ∃ (x6_1 : List Int) (x19_1 : Int), v19 = .int .i64 x19_1 ∧ Aside0 (floor_Floor.l0 kq x6_1 t200 (t200.length : Int) x19_1 = some (r1, r2)) ∧ Aside0 (kq ≤ k) ∧ Aside0 (Kd.R (Kd.int .i64) 2 w' w.heap.size (fun _ => True) v6 x6_1) ∧ Aside0 (Kd.R (Kd.int .i64) 3 w' w.heap.size (fun _ => True) (.slice Ao5 t200.length co5) t200) ∧ Aside0 (Below w.heap.size w w'))
 case atStart => exact ⟨(([] : List Int)), (0), rs_, H', ⟨Nat.le_refl _⟩, ⟨by first | exact Kd.R_nil _ _ _ _ _ | exact Kd.N_nil _ _ _ _ _ | exact Kd.V_nil _ _ _ _ _ | exact Kd.Q_nil _ _ _ _ _ | exact Kd.S_nil _ _ _ _ _⟩, ⟨kR_ HO203⟩, ⟨bl_ HB⟩⟩
 case round => (
 clear H'
 try clear c3
 try clear c3b0
 try clear c3b1
 obtain ⟨x6_1, x19_1, rfl, HA, HK1, HO_6, HO_17, HB⟩ := hrel
 cases gk with
 | zero => exact absurd HA.out (by simp [floor_Floor.l0])
 | succ k1 => (
 have H := HA.out
 clear HA
 simp only [floor_Floor.l0] at H
 by_cases c6 : x19_1 < (t200.length : Int)
 {
 rw [if_pos c6] at H
 have c6b0 : decide (x19_1 < (t200.length : Int)) = true := decide_eq_true c6
 clear c6
 by_cases c7 : 0 ≤ x19_1
 {
 rw [if_pos c7] at H
 have c7b0 : decide (0 ≤ x19_1) = true := decide_eq_true c7
 clear c7
 by_cases c8 : x19_1 < (t200.length : Int)
 {
 rw [if_pos c8] at H
 have c8b0 : decide (x19_1 < (t200.length : Int)) = true := decide_eq_true c8
 clear c8
 obtain ⟨t205, A9, H⟩ := ob_ H
 (try dsimp only at H)
 obtain ⟨ji10, hji10⟩ : ∃ j_ : Int, (mx 1 t205) = j_ := ⟨_, rfl⟩
 replace H : (if x6_1.length < 17592186044416 then (floor_Floor.l0 k1 (x6_1 ++ [ji10]) t200 (t200.length : Int) (wrap64 (x19_1 + 1))) else (none)) = some (r1, r2) := by first | (rw [hji10] at H; exact H) | (simp only [hji10] at H ⊢; exact H)
 (try rw [hji10] at A9)
 (try (have hji10l : 1 ≤ ji10 := by (rw [← hji10]; unfold mx; (repeat' split) <;> omega)))
 (try (have hji10m : 0 ≤ ji10 := by omega))
 have hji10_ : (if 1 < t205 then t205 else 1) = ji10 := hji10
 by_cases c11 : x6_1.length < 17592186044416
 {
 rw [if_pos c11] at H
 have LMc11 := Aside0.mk c11
 clear c11
 obtain ⟨y206, hy206⟩ : ∃ y_ : List Int, y_ = (x6_1 ++ [ji10]) := ⟨_, rfl⟩
 replace H : (floor_Floor.l0 k1 y206 t200 (t200.length : Int) (wrap64 (x19_1 + 1))) = some (r1, r2) := by first | (rw [hy206]; with_reducible exact H) | (have H2_ := (Option.bind_some _ _).symm.trans H; rw [hy206]; with_reducible exact H2_) | (have H2_ := (Option.bind_some _ _).symm.trans H; with_reducible exact H2_) | with_reducible exact H | (rw [hy206]; exact H) | exact H
 have Ny206 := Aside0.mk hy206
 clear hy206
 have H' := Aside0.mk H
 clear H
 have p204 : 0 ≤ (x19_1 : Int) := of_decide_eq_true am_
 have q204 : x19_1 < (t200.length : Int) := of_decide_eq_true am_
 obtain ⟨ad204, e204, hx204_0⟩ := Kd.at_int (Kd.R_reads' HO_17.out).2.2 x19_1 p204 q204
 cases e204
 replace p204 := eq_true p204
 replace q204 := eq_true q204
 go_wp2_with (first | ((with_reducible refine gate_callee (f := 69) rfl ?_); refine gL_ (some 25) Try.func69 #[.int .i64 (rd t200 x19_1)] ?_; (with_reducible refine (band_Value.calls k1 (rd t200 x19_1) t205 _ A9.out).mono ?_); rintro e w' ⟨rfl, ⟨nd, rfl⟩⟩; refine ⟨_, rfl, ?_⟩) | ((with_reducible refine gate_builtin (b := .append) (xs := #[.tmp 23, .tmp 27]) rfl ?_); at_builtin; refine Kd.R_append (Kd.int .i64) (w0 := w) w.heap.size rfl (.tmp 23) (.tmp 27) 53 2 (.int .i64 0) 8 rfl Try.underlying53 info2 rfl (by decide) (by omega) u6 x6_1 ji10 [.int .i64 ji10] (fun _ => True) (fun _ => False) rfl rfl ?aP (fun _ hk => hk.elim) ?aF ?aO ?aB ?aS ?aL ?_; (case aP => exact rfl); (case aB => exact (bl_ HB)); (case aF => exact (fun _ _ => trivial)); (case aO => exact (kR_ HO_6)); (case aS => exact (bs_ HB)); (case aL => have := LMc11.out; omega); intro v207 w12 ho hb hg hat; rw [← Ny206.out] at ho; replace HO_17 := Aside0.mk (Kd.R_over' (kR_ HO_17) (Kd.R_typed (kR_ HO_6)) (by decide) hg); replace HB := Aside0.mk (hb); have HO208 := Aside0.mk (ho); clear HO_6; clear ho hb hg hat))
 go_roundg k1
 case measure => have := HK1.out; omega
 case rel => exact ⟨(y206), (wrap64 (x19_1 + 1)), rs_, H', ⟨by have := HK1.out; omega⟩, ⟨kR_ HO208⟩, ⟨kR_ HO_17⟩, ⟨bl_ HB⟩⟩}
 {
 rw [if_neg c11] at H
 exact absurd H (by simp)}}
 {
 rw [if_neg c8] at H
 exact absurd H (by simp)}}
 {
 rw [if_neg c7] at H
 exact absurd H (by simp)}}
 {
 rw [if_neg c6] at H
 have c6b0 : decide (x19_1 < (t200.length : Int)) = false := decide_eq_false c6
 clear c6
 simp only [Option.some.injEq, Prod.mk.injEq] at H
 obtain ⟨rfl, rfl⟩ := H
 go_wp2
 go_ret2
 exact ⟨_, by first | rfl | (simp [errW_none, errW_some] <;> rfl) | (simp [*, errW_none, errW_some] <;> rfl), by (with_reducible repeat (first | apply Kd.R_alloc | apply Kd.R_drewN | apply Kd.R_drew)); exact HO_6.out, bl_ HB⟩}))}
 {
 rw [if_neg c3] at H
 have c3b0 : (t201 == 0) = false := beq_eq_false_iff_ne.mpr c3
 have c3b1 : (t201 != 0) = true := bne_iff_ne.mpr c3
 simp only [Option.some.injEq, Prod.mk.injEq] at H
 obtain ⟨rfl, rfl⟩ := H
 go_enter Try.func34, Try.ntmps34
 go_wp2_with (first | ((with_reducible refine gate_callee (f := 68) rfl ?_); refine gL_ (some 11) Try.func68 #[.slice A0 l0.length c0] ?_; (with_reducible refine (floor_Line.calls k _ _ l0 t200 t201 _ ?side1 ?side2 A2.out).mono ?_); (case side1 => repeat (first | exact HR0.out | (with_reducible refine Kd.C_alloc ?_ _) | (with_reducible refine Kd.C_drewN ?_ _) | (with_reducible refine Kd.C_drew ?_))); (case side2 => exact HC0.out); rintro e w13 ⟨v202, rfl, ho0, hb⟩; refine ⟨_, rfl, ?_⟩; have HO203 := Aside0.mk (Kd.R_lower ho0 (bs_ HB)); replace HB := BS_ HB hb; (try clear hb); (try clear ho0)))
 go_ret2
 exact ⟨_, by first | rfl | (simp [errW_none, errW_some] <;> rfl) | (simp [*, errW_none, errW_some] <;> rfl), by first | exact Kd.R_nil _ _ _ _ _ | exact Kd.N_nil _ _ _ _ _ | exact Kd.V_nil _ _ _ _ _ | exact Kd.Q_nil _ _ _ _ _ | exact Kd.S_nil _ _ _ _ _, bl_ HB⟩}
def remap_row.l0 : Nat → List Int → Int → Int → List Int → Int → Int → Option (Bool)
  | 0, _, _, _, _, _, _ => none
  | k + 1, x0, x1, x2, x9, x10, x11 => if x11 < x10 then (if 0 ≤ x11 then (if x11 < (x9.length : Int) then ((num_Clamp.f (rd x9 x11) x1 x2).bind fun t210 => (if (rd x9 x11) = t210 then (remap_row.l0 k x0 x1 x2 x9 x10 (wrap64 (x11 + 1))) else (some false))) else (none)) else (none)) else (some ((x0.length : Int) == 16))
def remap_row.f (k : Nat) (l0 : List Int) (a1 : Int) (a2 : Int) : Option (Bool) := remap_row.l0 k l0 a1 a2 l0 (l0.length : Int) 0
theorem remap_row.mono_l : ∀ k, (∀ y0 y1 y2 y3 y4 y5, LeO (remap_row.l0 k y0 y1 y2 y3 y4 y5) (remap_row.l0 (k + 1) y0 y1 y2 y3 y4 y5))
  | 0 => fun _ _ _ _ _ _ r h => by simp [remap_row.l0] at h
  | k + 1 => by
    have ih0 := remap_row.mono_l k
    · intro y0 y1 y2 y3 y4 y5
      unfold remap_row.l0
      with_reducible repeat' first
   | exact ih0 _ _ _ _ _ _
   | exact LeO.refl _
   | exact LeO.none _
   | refine LeO.ite ?_ ?_
   | refine LeO.bind ?_ (fun _ => ?_)
theorem remap_row.mono : ∀ a0 a1 a2 k, LeO (remap_row.f k a0 a1 a2) (remap_row.f (k + 1) a0 a1 a2) := by
  intro a0 a1 a2 k
  have ih0 := remap_row.mono_l k
  unfold remap_row.f
  with_reducible repeat' first
   | exact ih0 _ _ _ _ _ _
   | exact LeO.refl _
   | exact LeO.none _
   | refine LeO.ite ?_ ?_
   | refine LeO.bind ?_ (fun _ => ?_)
set_option maxHeartbeats 8000000 in
set_option maxRecDepth 100000 in
theorem remap_row.calls (k : Nat) (A0 : Option Addr) (c0 : Nat) (l0 : List Int) (a1 : Int) (a2 : Int) (r : Bool) (w : World) (hr0 : Kd.C (Kd.int .i64) w A0 l0.length l0) (hc0 : l0.length ≤ c0) (h : remap_row.f k l0 a1 a2 = some r) :
    Calls Try.prog 70 #[.slice A0 l0.length c0, .int .i64 a1, .int .i64 a2] w fun e w' => e = .returned (.bool r) ∧ Drawn0 w w' := by
 have HR0 := Aside0.mk hr0
 have HC0 := Aside0.mk hc0
 clear hr0 hc0
 have H : (remap_row.l0 k l0 a1 a2 l0 (l0.length : Int) 0) = some r := h
 clear h
 have H' := Aside0.mk H
 clear H
 go_enter Try.func70, Try.ntmps70
 go_wp2
 go_loopg [11] k (fun kq v11 w' => ∃ (x11_1 : Int), v11 = .int .i64 x11_1 ∧ Aside0 (remap_row.l0 kq l0 a1 a2 l0 (l0.length : Int) x11_1 = some r) ∧ Aside0 (kq ≤ k) ∧ Drawn0 w w')
 case atStart => exact ⟨(0), rs_, H', ⟨Nat.le_refl _⟩, by repeat (first | exact Drawn0.refl _ | apply Drawn0.step)⟩
 case round => (
 clear H'
 obtain ⟨x11_1, rfl, HA, HK1, ⟨m1, rfl⟩⟩ := hrel
 cases gk with
 | zero => exact absurd HA.out (by simp [remap_row.l0])
 | succ k1 => (
 have H := HA.out
 clear HA
 simp only [remap_row.l0] at H
 by_cases c4 : x11_1 < (l0.length : Int)
 {
 rw [if_pos c4] at H
 have c4b0 : decide (x11_1 < (l0.length : Int)) = true := decide_eq_true c4
 clear c4
 by_cases c5 : 0 ≤ x11_1
 {
 rw [if_pos c5] at H
 have c5b0 : decide (0 ≤ x11_1) = true := decide_eq_true c5
 clear c5
 by_cases c6 : x11_1 < (l0.length : Int)
 {
 rw [if_pos c6] at H
 have c6b0 : decide (x11_1 < (l0.length : Int)) = true := decide_eq_true c6
 clear c6
 obtain ⟨t210, A7, H⟩ := ob_ H
 (try dsimp only at H)
 by_cases c8 : (rd l0 x11_1) = t210
 {
 rw [if_pos c8] at H
 have c8b0 : ((rd l0 x11_1) == t210) = true := beq_iff_eq.mpr c8
 have c8b1 : ((rd l0 x11_1) != t210) = false := bne_eq_false_iff_eq.mpr c8
 clear c8
 have H' := Aside0.mk H
 clear H
 have p209 : 0 ≤ (x11_1 : Int) := of_decide_eq_true am_
 have q209 : x11_1 < (l0.length : Int) := of_decide_eq_true am_
 obtain ⟨ad209, e209, hx209_0⟩ := Kd.at_int HR0.out x11_1 p209 q209
 cases e209
 replace p209 := eq_true p209
 replace q209 := eq_true q209
 go_wp2_with (first | ((with_reducible refine gate_callee (f := 73) rfl ?_); refine gL_ (some 19) Try.func73 #[.int .i64 (rd l0 x11_1), .int .i64 a1, .int .i64 a2] ?_; (with_reducible refine (num_Clamp.calls (rd l0 x11_1) a1 a2 t210 _ A7.out).mono ?_); rintro e w' ⟨rfl, ⟨nd, rfl⟩⟩; refine ⟨_, rfl, ?_⟩))
 go_roundg k1
 case measure => have := HK1.out; omega
 case rel => exact ⟨(wrap64 (x11_1 + 1)), rs_, H', ⟨by have := HK1.out; omega⟩, by repeat (first | exact Drawn0.refl _ | apply Drawn0.step)⟩}
 {
 rw [if_neg c8] at H
 have c8b0 : ((rd l0 x11_1) == t210) = false := beq_eq_false_iff_ne.mpr c8
 have c8b1 : ((rd l0 x11_1) != t210) = true := bne_iff_ne.mpr c8
 obtain rfl := Option.some.inj H
 have p209 : 0 ≤ (x11_1 : Int) := of_decide_eq_true am_
 have q209 : x11_1 < (l0.length : Int) := of_decide_eq_true am_
 obtain ⟨ad209, e209, hx209_0⟩ := Kd.at_int HR0.out x11_1 p209 q209
 cases e209
 replace p209 := eq_true p209
 replace q209 := eq_true q209
 go_wp2_with (first | ((with_reducible refine gate_callee (f := 73) rfl ?_); refine gL_ (some 19) Try.func73 #[.int .i64 (rd l0 x11_1), .int .i64 a1, .int .i64 a2] ?_; (with_reducible refine (num_Clamp.calls (rd l0 x11_1) a1 a2 t210 _ A7.out).mono ?_); rintro e w' ⟨rfl, ⟨nd, rfl⟩⟩; refine ⟨_, rfl, ?_⟩))
 go_ret
 exact ⟨by first | rfl | (simp; done) | (simp [*]; done), by repeat (first | exact Drawn0.refl _ | apply Drawn0.step)⟩}}
 {
 rw [if_neg c6] at H
 exact absurd H (by simp)}}
 {
 rw [if_neg c5] at H
 exact absurd H (by simp)}}
 {
 rw [if_neg c4] at H
 have c4b0 : decide (x11_1 < (l0.length : Int)) = false := decide_eq_false c4
 clear c4
 obtain rfl := Option.some.inj H
 go_wp2
 go_ret
 exact ⟨by first | rfl | (simp; done) | (simp [*]; done), by repeat (first | exact Drawn0.refl _ | apply Drawn0.step)⟩}))
def remap_restored.f (a0 : Int) (a1 : Int) : Option (Int) := (num_Clamp.f (wrap64 (a0 * a1)) (-1048576) 1048576).bind fun t211 => (some t211)
set_option maxHeartbeats 8000000 in
set_option maxRecDepth 100000 in
theorem remap_restored.calls (a0 : Int) (a1 : Int) (r : Int) (w : World) (h : remap_restored.f a0 a1 = some r) :
    Calls Try.prog 72 #[.int .i64 a0, .int .i64 a1] w fun e w' => e = .returned (.int .i64 r) ∧ Drawn0 w w' := by
 have H : ((num_Clamp.f (wrap64 (a0 * a1)) (-1048576) 1048576).bind fun t211 => (some t211)) = some r := h
 clear h
 replace H := Option.bind_eq_some_iff.mp H
 obtain ⟨t211, A30, H⟩ := H
 replace H : (some t211) = some r := H
 have A3 := Aside0.mk A30
 clear A30
 obtain rfl := Option.some.inj H
 go_enter Try.func72, Try.ntmps72
 go_wp2_with (first | ((with_reducible refine gate_callee (f := 73) rfl ?_); refine gL_ (some 8) Try.func73 #[.int .i64 (wrap64 (a0 * a1)), .int .i64 (-1048576), .int .i64 1048576] ?_; (with_reducible refine (num_Clamp.calls (wrap64 (a0 * a1)) (-1048576) 1048576 t211 _ A3.out).mono ?_); rintro e w' ⟨rfl, ⟨nd, rfl⟩⟩; refine ⟨_, rfl, ?_⟩))
 go_ret
 exact ⟨by first | rfl | (simp; done) | (simp [*]; done), by repeat (first | exact Drawn0.refl _ | apply Drawn0.step)⟩
def remap_over_int64_by_remap_restored.l0 : Nat → List Int → List Int → List Int → Int → Int → Option (List Int)
  | 0, _, _, _, _, _ => none
  | k + 1, x1, x7, x10, x11, x12 => if x12 < x11 then (if 0 ≤ x12 then (if x12 < (x10.length : Int) then (if x12 < (x1.length : Int) then ((remap_restored.f (rd x10 x12) (rd x1 x12)).bind fun t214 => (if x7.length < 17592186044416 then (remap_over_int64_by_remap_restored.l0 k x1 (x7 ++ [t214]) x10 x11 (wrap64 (x12 + 1))) else (none))) else (none)) else (none)) else (none)) else (some x7)
def remap_over_int64_by_remap_restored.f (k : Nat) (l0 : List Int) (l1 : List Int)  : Option (List Int) := remap_over_int64_by_remap_restored.l0 k l1 ([] : List Int) l0 (l0.length : Int) 0
theorem remap_over_int64_by_remap_restored.mono_l : ∀ k, (∀ y0 y1 y2 y3 y4, LeO (remap_over_int64_by_remap_restored.l0 k y0 y1 y2 y3 y4) (remap_over_int64_by_remap_restored.l0 (k + 1) y0 y1 y2 y3 y4))
  | 0 => fun _ _ _ _ _ r h => by simp [remap_over_int64_by_remap_restored.l0] at h
  | k + 1 => by
    have ih0 := remap_over_int64_by_remap_restored.mono_l k
    · intro y0 y1 y2 y3 y4
      unfold remap_over_int64_by_remap_restored.l0
      with_reducible repeat' first
   | exact ih0 _ _ _ _ _
   | exact LeO.refl _
   | exact LeO.none _
   | refine LeO.ite ?_ ?_
   | refine LeO.bind ?_ (fun _ => ?_)
theorem remap_over_int64_by_remap_restored.mono : ∀ a0 a1 k, LeO (remap_over_int64_by_remap_restored.f k a0 a1) (remap_over_int64_by_remap_restored.f (k + 1) a0 a1) := by
  intro a0 a1 k
  have ih0 := remap_over_int64_by_remap_restored.mono_l k
  unfold remap_over_int64_by_remap_restored.f
  with_reducible repeat' first
   | exact ih0 _ _ _ _ _
   | exact LeO.refl _
   | exact LeO.none _
   | refine LeO.ite ?_ ?_
   | refine LeO.bind ?_ (fun _ => ?_)
set_option maxHeartbeats 8000000 in
set_option maxRecDepth 100000 in
theorem remap_over_int64_by_remap_restored.calls (k : Nat) (A0 : Option Addr) (c0 : Nat) (l0 : List Int) (A1 : Option Addr) (c1 : Nat) (l1 : List Int)  (r : List Int) (w : World) (hr0 : Kd.C (Kd.int .i64) w A0 l0.length l0) (hc0 : l0.length ≤ c0) (hr1 : Kd.C (Kd.int .i64) w A1 l1.length l1) (hc1 : l1.length ≤ c1) (h : remap_over_int64_by_remap_restored.f k l0 l1 = some r) :
    Calls Try.prog 71 #[.slice A0 l0.length c0, .slice A1 l1.length c1, .func (.func 72) #[] #[]] w fun e w' => ∃ v0_ : Value, e = .returned (v0_) ∧ Kd.R (Kd.int .i64) 2 w' w.heap.size (fun _ => True) v0_ r ∧ Below w.heap.size w w' := by
 have HR0 := Aside0.mk hr0
 have HC0 := Aside0.mk hc0
 clear hr0 hc0
 have HR1 := Aside0.mk hr1
 have HC1 := Aside0.mk hc1
 clear hr1 hc1
 have HB := Aside0.mk (Below.refl w.heap.size w)
 have H : (remap_over_int64_by_remap_restored.l0 k l1 ([] : List Int) l0 (l0.length : Int) 0) = some r := h
 clear h
 have H' := Aside0.mk H
 clear H
 go_enter Try.func71, Try.ntmps71
 go_wp2
 go_loopg [7, 12] k (fun kq v7 v12 w' => ∃ (x7_1 : List Int) (x12_1 : Int), v12 = .int .i64 x12_1 ∧ Aside0 (remap_over_int64_by_remap_restored.l0 kq l1 x7_1 l0 (l0.length : Int) x12_1 = some r) ∧ Aside0 (kq ≤ k) ∧ Aside0 (Kd.R (Kd.int .i64) 2 w' w.heap.size (fun _ => True) v7 x7_1) ∧ Aside0 (Below w.heap.size w w'))
 case atStart => exact ⟨(([] : List Int)), (0), rs_, H', ⟨Nat.le_refl _⟩, ⟨by first | exact Kd.R_nil _ _ _ _ _ | exact Kd.N_nil _ _ _ _ _ | exact Kd.V_nil _ _ _ _ _ | exact Kd.Q_nil _ _ _ _ _ | exact Kd.S_nil _ _ _ _ _⟩, ⟨bl_ HB⟩⟩
 case round => (
 clear H'
 obtain ⟨x7_1, x12_1, rfl, HA, HK1, HO_7, HB⟩ := hrel
 cases gk with
 | zero => exact absurd HA.out (by simp [remap_over_int64_by_remap_restored.l0])
 | succ k1 => (
 have H := HA.out
 clear HA
 simp only [remap_over_int64_by_remap_restored.l0] at H
 by_cases c4 : x12_1 < (l0.length : Int)
 {
 rw [if_pos c4] at H
 have c4b0 : decide (x12_1 < (l0.length : Int)) = true := decide_eq_true c4
 clear c4
 by_cases c5 : 0 ≤ x12_1
 {
 rw [if_pos c5] at H
 have c5b0 : decide (0 ≤ x12_1) = true := decide_eq_true c5
 clear c5
 by_cases c6 : x12_1 < (l0.length : Int)
 {
 rw [if_pos c6] at H
 have c6b0 : decide (x12_1 < (l0.length : Int)) = true := decide_eq_true c6
 clear c6
 by_cases c7 : x12_1 < (l1.length : Int)
 {
 rw [if_pos c7] at H
 have c7b0 : decide (x12_1 < (l1.length : Int)) = true := decide_eq_true c7
 clear c7
 obtain ⟨t214, A8, H⟩ := ob_ H
 (try dsimp only at H)
 by_cases c9 : x7_1.length < 17592186044416
 {
 rw [if_pos c9] at H
 have LMc9 := Aside0.mk c9
 clear c9
 obtain ⟨y215, hy215⟩ : ∃ y_ : List Int, y_ = (x7_1 ++ [t214]) := ⟨_, rfl⟩
 replace H : (remap_over_int64_by_remap_restored.l0 k1 l1 y215 l0 (l0.length : Int) (wrap64 (x12_1 + 1))) = some r := by first | (rw [hy215]; with_reducible exact H) | (have H2_ := (Option.bind_some _ _).symm.trans H; rw [hy215]; with_reducible exact H2_) | (have H2_ := (Option.bind_some _ _).symm.trans H; with_reducible exact H2_) | with_reducible exact H | (rw [hy215]; exact H) | exact H
 have Ny215 := Aside0.mk hy215
 clear hy215
 have H' := Aside0.mk H
 clear H
 have p212 : 0 ≤ (x12_1 : Int) := of_decide_eq_true am_
 have q212 : x12_1 < (l0.length : Int) := of_decide_eq_true am_
 obtain ⟨ad212, e212, hx212_0⟩ := Kd.at_int HR0.out x12_1 p212 q212
 cases e212
 replace hx212_0 := (HB.out.cell (World.block_lt_of_cell? w _ hx212_0)).trans hx212_0
 replace p212 := eq_true p212
 replace q212 := eq_true q212
 have p213 : 0 ≤ (x12_1 : Int) := of_decide_eq_true am_
 have q213 : x12_1 < (l1.length : Int) := of_decide_eq_true am_
 obtain ⟨ad213, e213, hx213_0⟩ := Kd.at_int HR1.out x12_1 p213 q213
 cases e213
 replace hx213_0 := (HB.out.cell (World.block_lt_of_cell? w _ hx213_0)).trans hx213_0
 replace p213 := eq_true p213
 replace q213 := eq_true q213
 go_wp2_with (first | (go_at_call 72; (with_reducible refine (remap_restored.calls (rd l0 x12_1) (rd l1 x12_1) t214 _ A8.out).mono ?_); rintro e w' ⟨rfl, ⟨nd, rfl⟩⟩) | ((with_reducible refine gate_builtin (b := .append) (xs := #[.tmp 17, .tmp 25]) rfl ?_); at_builtin; refine Kd.R_append (Kd.int .i64) (w0 := w) w.heap.size rfl (.tmp 17) (.tmp 25) 53 2 (.int .i64 0) 8 rfl Try.underlying53 info2 rfl (by decide) (by omega) u7 x7_1 t214 [.int .i64 t214] (fun _ => True) (fun _ => False) rfl rfl ?aP (fun _ hk => hk.elim) ?aF ?aO ?aB ?aS ?aL ?_; (case aP => exact rfl); (case aB => exact (bl_ HB)); (case aF => exact (fun _ _ => trivial)); (case aO => exact (kR_ HO_7)); (case aS => exact (bs_ HB)); (case aL => have := LMc9.out; omega); intro v216 w10 ho hb hg hat; rw [← Ny215.out] at ho; replace HB := Aside0.mk (hb); have HO217 := Aside0.mk (ho); clear HO_7; clear ho hb hg hat))
 go_roundg k1
 case measure => have := HK1.out; omega
 case rel => exact ⟨(y215), (wrap64 (x12_1 + 1)), rs_, H', ⟨by have := HK1.out; omega⟩, ⟨kR_ HO217⟩, ⟨bl_ HB⟩⟩}
 {
 rw [if_neg c9] at H
 exact absurd H (by simp)}}
 {
 rw [if_neg c7] at H
 exact absurd H (by simp)}}
 {
 rw [if_neg c6] at H
 exact absurd H (by simp)}}
 {
 rw [if_neg c5] at H
 exact absurd H (by simp)}}
 {
 rw [if_neg c4] at H
 have c4b0 : decide (x12_1 < (l0.length : Int)) = false := decide_eq_false c4
 clear c4
 obtain rfl := Option.some.inj H
 go_wp2
 go_ret
 exact ⟨_, by first | rfl | (simp [errW_none, errW_some] <;> rfl) | (simp [*, errW_none, errW_some] <;> rfl), by (with_reducible repeat (first | apply Kd.R_alloc | apply Kd.R_drewN | apply Kd.R_drew)); exact HO_7.out, bl_ HB⟩}))
def remap_Restore.f (k : Nat) (l0 : List Int) (l1 : List Int) : Option (List Int × Int) := (remap_row.f k l0 (-8388608) 8388608).bind fun t218 => (if t218 = true then ((remap_row.f k l1 1 4194304).bind fun t219 => (if t219 = true then ((remap_over_int64_by_remap_restored.f k l0 l1).bind fun t220 => (some (t220, 0))) else (some (([] : List Int), 1)))) else (some (([] : List Int), 1)))
theorem remap_Restore.mono : ∀ a0 a1 k, LeO (remap_Restore.f k a0 a1) (remap_Restore.f (k + 1) a0 a1) := by
  intro a0 a1 k
  unfold remap_Restore.f
  with_reducible repeat' first
   | exact remap_over_int64_by_remap_restored.mono _ _ _
   | exact remap_row.mono _ _ _ _
   | exact LeO.refl _
   | exact LeO.none _
   | refine LeO.ite ?_ ?_
   | refine LeO.bind ?_ (fun _ => ?_)
set_option maxHeartbeats 8000000 in
set_option maxRecDepth 100000 in
theorem remap_Restore.calls (k : Nat) (A0 : Option Addr) (c0 : Nat) (l0 : List Int) (A1 : Option Addr) (c1 : Nat) (l1 : List Int) (r1 : List Int) (r2 : Int) (w : World) (hr0 : Kd.C (Kd.int .i64) w A0 l0.length l0) (hc0 : l0.length ≤ c0) (hr1 : Kd.C (Kd.int .i64) w A1 l1.length l1) (hc1 : l1.length ≤ c1) (h : remap_Restore.f k l0 l1 = some (r1, r2)) :
    Calls Try.prog 35 #[.slice A0 l0.length c0, .slice A1 l1.length c1] w fun e w' => ∃ v0_ : Value, e = .returned (.tuple #[v0_, .int .i64 r2]) ∧ Kd.R (Kd.int .i64) 2 w' w.heap.size (fun _ => True) v0_ r1 ∧ Below w.heap.size w w' := by
 have HR0 := Aside0.mk hr0
 have HC0 := Aside0.mk hc0
 clear hr0 hc0
 have HR1 := Aside0.mk hr1
 have HC1 := Aside0.mk hc1
 clear hr1 hc1
 have HB := Aside0.mk (Below.refl w.heap.size w)
 have H : ((remap_row.f k l0 (-8388608) 8388608).bind fun t218 => (if t218 = true then ((remap_row.f k l1 1 4194304).bind fun t219 => (if t219 = true then ((remap_over_int64_by_remap_restored.f k l0 l1).bind fun t220 => (some (t220, 0))) else (some (([] : List Int), 1)))) else (some (([] : List Int), 1)))) = some (r1, r2) := h
 clear h
 obtain ⟨t218, A3, H⟩ := ob_ H
 (try dsimp only at H)
 by_cases c4 : t218 = true
 {
 subst c4
 rw [if_pos rfl] at H
 obtain ⟨t219, A5, H⟩ := ob_ H
 (try dsimp only at H)
 by_cases c6 : t219 = true
 {
 subst c6
 rw [if_pos rfl] at H
 obtain ⟨t220, A7, H⟩ := ob_ H
 (try dsimp only at H)
 simp only [Option.some.injEq, Prod.mk.injEq] at H
 obtain ⟨rfl, rfl⟩ := H
 go_enter Try.func35, Try.ntmps35
 go_wp2_with (first | ((with_reducible refine gate_callee (f := 70) rfl ?_); refine gL_ (some 7) Try.func70 #[.slice A0 l0.length c0, .int .i64 (-8388608), .int .i64 8388608] ?_; (with_reducible refine (remap_row.calls k _ _ l0 (-8388608) 8388608 true _ ?side1 ?side2 A3.out).mono ?_); (case side1 => repeat (first | exact HR0.out | (with_reducible refine Kd.C_alloc ?_ _) | (with_reducible refine Kd.C_drewN ?_ _) | (with_reducible refine Kd.C_drew ?_))); (case side2 => exact HC0.out); rintro e w' ⟨rfl, ⟨nd, rfl⟩⟩; refine ⟨_, rfl, ?_⟩) | (go_at_call 70; (with_reducible refine (remap_row.calls k _ _ l1 1 4194304 true _ ?side1 ?side2 A5.out).mono ?_); (case side1 => repeat (first | exact HR1.out | (with_reducible refine Kd.C_alloc ?_ _) | (with_reducible refine Kd.C_drewN ?_ _) | (with_reducible refine Kd.C_drew ?_))); (case side2 => exact HC1.out); rintro e w' ⟨rfl, ⟨nd, rfl⟩⟩) | ((with_reducible refine gate_callee (f := 71) rfl ?_); refine gL_ (some 16) Try.func71 #[.slice A0 l0.length c0, .slice A1 l1.length c1, .func (.func 72) #[] #[]] ?_; (with_reducible refine (remap_over_int64_by_remap_restored.calls k _ _ l0 _ _ l1  t220 _ ?side1 ?side2 ?side3 ?side4 A7.out).mono ?_); (case side1 => repeat (first | exact HR0.out | (with_reducible refine Kd.C_alloc ?_ _) | (with_reducible refine Kd.C_drewN ?_ _) | (with_reducible refine Kd.C_drew ?_))); (case side2 => exact HC0.out); (case side3 => repeat (first | exact HR1.out | (with_reducible refine Kd.C_alloc ?_ _) | (with_reducible refine Kd.C_drewN ?_ _) | (with_reducible refine Kd.C_drew ?_))); (case side4 => exact HC1.out); rintro e w8 ⟨v221, rfl, ho0, hb⟩; refine ⟨_, rfl, ?_⟩; have HO222 := Aside0.mk (Kd.R_lower ho0 (bs_ HB)); replace HB := BS_ HB hb; (try clear hb); (try clear ho0)))
 go_ret2
 exact ⟨_, by first | rfl | (simp [errW_none, errW_some] <;> rfl) | (simp [*, errW_none, errW_some] <;> rfl), by (with_reducible repeat (first | apply Kd.R_alloc | apply Kd.R_drewN | apply Kd.R_drew)); exact HO222.out, bl_ HB⟩}
 {
 replace c6 := Bool.eq_false_iff.mpr c6
 subst c6
 rw [if_neg (show ¬ (false = true) by decide)] at H
 simp only [Option.some.injEq, Prod.mk.injEq] at H
 obtain ⟨rfl, rfl⟩ := H
 go_enter Try.func35, Try.ntmps35
 go_wp2_with (first | ((with_reducible refine gate_callee (f := 70) rfl ?_); refine gL_ (some 7) Try.func70 #[.slice A0 l0.length c0, .int .i64 (-8388608), .int .i64 8388608] ?_; (with_reducible refine (remap_row.calls k _ _ l0 (-8388608) 8388608 true _ ?side1 ?side2 A3.out).mono ?_); (case side1 => repeat (first | exact HR0.out | (with_reducible refine Kd.C_alloc ?_ _) | (with_reducible refine Kd.C_drewN ?_ _) | (with_reducible refine Kd.C_drew ?_))); (case side2 => exact HC0.out); rintro e w' ⟨rfl, ⟨nd, rfl⟩⟩; refine ⟨_, rfl, ?_⟩) | (go_at_call 70; (with_reducible refine (remap_row.calls k _ _ l1 1 4194304 false _ ?side1 ?side2 A5.out).mono ?_); (case side1 => repeat (first | exact HR1.out | (with_reducible refine Kd.C_alloc ?_ _) | (with_reducible refine Kd.C_drewN ?_ _) | (with_reducible refine Kd.C_drew ?_))); (case side2 => exact HC1.out); rintro e w' ⟨rfl, ⟨nd, rfl⟩⟩))
 go_ret2
 exact ⟨_, by first | rfl | (simp [errW_none, errW_some] <;> rfl) | (simp [*, errW_none, errW_some] <;> rfl), by first | exact Kd.R_nil _ _ _ _ _ | exact Kd.N_nil _ _ _ _ _ | exact Kd.V_nil _ _ _ _ _ | exact Kd.Q_nil _ _ _ _ _ | exact Kd.S_nil _ _ _ _ _, bl_ HB⟩}}
 {
 replace c4 := Bool.eq_false_iff.mpr c4
 subst c4
 rw [if_neg (show ¬ (false = true) by decide)] at H
 simp only [Option.some.injEq, Prod.mk.injEq] at H
 obtain ⟨rfl, rfl⟩ := H
 go_enter Try.func35, Try.ntmps35
 go_wp2_with (first | ((with_reducible refine gate_callee (f := 70) rfl ?_); refine gL_ (some 7) Try.func70 #[.slice A0 l0.length c0, .int .i64 (-8388608), .int .i64 8388608] ?_; (with_reducible refine (remap_row.calls k _ _ l0 (-8388608) 8388608 false _ ?side1 ?side2 A3.out).mono ?_); (case side1 => repeat (first | exact HR0.out | (with_reducible refine Kd.C_alloc ?_ _) | (with_reducible refine Kd.C_drewN ?_ _) | (with_reducible refine Kd.C_drew ?_))); (case side2 => exact HC0.out); rintro e w' ⟨rfl, ⟨nd, rfl⟩⟩; refine ⟨_, rfl, ?_⟩))
 go_ret2
 exact ⟨_, by first | rfl | (simp [errW_none, errW_some] <;> rfl) | (simp [*, errW_none, errW_some] <;> rfl), by first | exact Kd.R_nil _ _ _ _ _ | exact Kd.N_nil _ _ _ _ _ | exact Kd.V_nil _ _ _ _ _ | exact Kd.Q_nil _ _ _ _ _ | exact Kd.S_nil _ _ _ _ _, bl_ HB⟩}
def vcodec_near.l0 : Nat → List Int → List Int → Int → Int → Option (List Int)
  | 0, _, _, _, _ => none
  | k + 1, x3, x6, x7, x8 => if x8 < x7 then (if 0 ≤ x8 then (if x8 < (x6.length : Int) then ((num_Clamp.f (rd x6 x8) (-8388608) 8388608).bind fun t224 => (if x3.length < 17592186044416 then (vcodec_near.l0 k (x3 ++ [t224]) x6 x7 (wrap64 (x8 + 1))) else (none))) else (none)) else (none)) else (some x3)
def vcodec_near.f (k : Nat) (l0 : List Int) : Option (List Int) := vcodec_near.l0 k ([] : List Int) l0 (l0.length : Int) 0
theorem vcodec_near.mono_l : ∀ k, (∀ y0 y1 y2 y3, LeO (vcodec_near.l0 k y0 y1 y2 y3) (vcodec_near.l0 (k + 1) y0 y1 y2 y3))
  | 0 => fun _ _ _ _ r h => by simp [vcodec_near.l0] at h
  | k + 1 => by
    have ih0 := vcodec_near.mono_l k
    · intro y0 y1 y2 y3
      unfold vcodec_near.l0
      with_reducible repeat' first
   | exact ih0 _ _ _ _
   | exact LeO.refl _
   | exact LeO.none _
   | refine LeO.ite ?_ ?_
   | refine LeO.bind ?_ (fun _ => ?_)
theorem vcodec_near.mono : ∀ a0 k, LeO (vcodec_near.f k a0) (vcodec_near.f (k + 1) a0) := by
  intro a0 k
  have ih0 := vcodec_near.mono_l k
  unfold vcodec_near.f
  with_reducible repeat' first
   | exact ih0 _ _ _ _
   | exact LeO.refl _
   | exact LeO.none _
   | refine LeO.ite ?_ ?_
   | refine LeO.bind ?_ (fun _ => ?_)
set_option maxHeartbeats 8000000 in
set_option maxRecDepth 100000 in
theorem vcodec_near.calls (k : Nat) (A0 : Option Addr) (c0 : Nat) (l0 : List Int) (r : List Int) (w : World) (hr0 : Kd.C (Kd.int .i64) w A0 l0.length l0) (hc0 : l0.length ≤ c0) (h : vcodec_near.f k l0 = some r) :
    Calls Try.prog 36 #[.slice A0 l0.length c0] w fun e w' => ∃ v0_ : Value, e = .returned (v0_) ∧ Kd.R (Kd.int .i64) 2 w' w.heap.size (fun _ => True) v0_ r ∧ Below w.heap.size w w' := by
 have HR0 := Aside0.mk hr0
 have HC0 := Aside0.mk hc0
 clear hr0 hc0
 have HB := Aside0.mk (Below.refl w.heap.size w)
 have H : (vcodec_near.l0 k ([] : List Int) l0 (l0.length : Int) 0) = some r := h
 clear h
 have H' := Aside0.mk H
 clear H
 go_enter Try.func36, Try.ntmps36
 go_wp2
 go_loopg [3, 8] k (fun kq v3 v8 w' => ∃ (x3_1 : List Int) (x8_1 : Int), v8 = .int .i64 x8_1 ∧ Aside0 (vcodec_near.l0 kq x3_1 l0 (l0.length : Int) x8_1 = some r) ∧ Aside0 (kq ≤ k) ∧ Aside0 (Kd.R (Kd.int .i64) 2 w' w.heap.size (fun _ => True) v3 x3_1) ∧ Aside0 (Below w.heap.size w w'))
 case atStart => exact ⟨(([] : List Int)), (0), rs_, H', ⟨Nat.le_refl _⟩, ⟨by first | exact Kd.R_nil _ _ _ _ _ | exact Kd.N_nil _ _ _ _ _ | exact Kd.V_nil _ _ _ _ _ | exact Kd.Q_nil _ _ _ _ _ | exact Kd.S_nil _ _ _ _ _⟩, ⟨bl_ HB⟩⟩
 case round => (
 clear H'
 obtain ⟨x3_1, x8_1, rfl, HA, HK1, HO_3, HB⟩ := hrel
 cases gk with
 | zero => exact absurd HA.out (by simp [vcodec_near.l0])
 | succ k1 => (
 have H := HA.out
 clear HA
 simp only [vcodec_near.l0] at H
 by_cases c2 : x8_1 < (l0.length : Int)
 {
 rw [if_pos c2] at H
 have c2b0 : decide (x8_1 < (l0.length : Int)) = true := decide_eq_true c2
 clear c2
 by_cases c3 : 0 ≤ x8_1
 {
 rw [if_pos c3] at H
 have c3b0 : decide (0 ≤ x8_1) = true := decide_eq_true c3
 clear c3
 by_cases c4 : x8_1 < (l0.length : Int)
 {
 rw [if_pos c4] at H
 have c4b0 : decide (x8_1 < (l0.length : Int)) = true := decide_eq_true c4
 clear c4
 obtain ⟨t224, A5, H⟩ := ob_ H
 (try dsimp only at H)
 by_cases c6 : x3_1.length < 17592186044416
 {
 rw [if_pos c6] at H
 have LMc6 := Aside0.mk c6
 clear c6
 obtain ⟨y225, hy225⟩ : ∃ y_ : List Int, y_ = (x3_1 ++ [t224]) := ⟨_, rfl⟩
 replace H : (vcodec_near.l0 k1 y225 l0 (l0.length : Int) (wrap64 (x8_1 + 1))) = some r := by first | (rw [hy225]; with_reducible exact H) | (have H2_ := (Option.bind_some _ _).symm.trans H; rw [hy225]; with_reducible exact H2_) | (have H2_ := (Option.bind_some _ _).symm.trans H; with_reducible exact H2_) | with_reducible exact H | (rw [hy225]; exact H) | exact H
 have Ny225 := Aside0.mk hy225
 clear hy225
 have H' := Aside0.mk H
 clear H
 have p223 : 0 ≤ (x8_1 : Int) := of_decide_eq_true am_
 have q223 : x8_1 < (l0.length : Int) := of_decide_eq_true am_
 obtain ⟨ad223, e223, hx223_0⟩ := Kd.at_int HR0.out x8_1 p223 q223
 cases e223
 replace hx223_0 := (HB.out.cell (World.block_lt_of_cell? w _ hx223_0)).trans hx223_0
 replace p223 := eq_true p223
 replace q223 := eq_true q223
 go_wp2_with (first | ((with_reducible refine gate_callee (f := 73) rfl ?_); refine gL_ (some 14) Try.func73 #[.int .i64 (rd l0 x8_1), .int .i64 (-8388608), .int .i64 8388608] ?_; (with_reducible refine (num_Clamp.calls (rd l0 x8_1) (-8388608) 8388608 t224 _ A5.out).mono ?_); rintro e w' ⟨rfl, ⟨nd, rfl⟩⟩; refine ⟨_, rfl, ?_⟩) | ((with_reducible refine gate_builtin (b := .append) (xs := #[.tmp 12, .tmp 15]) rfl ?_); at_builtin; refine Kd.R_append (Kd.int .i64) (w0 := w) w.heap.size rfl (.tmp 12) (.tmp 15) 53 2 (.int .i64 0) 8 rfl Try.underlying53 info2 rfl (by decide) (by omega) u3 x3_1 t224 [.int .i64 t224] (fun _ => True) (fun _ => False) rfl rfl ?aP (fun _ hk => hk.elim) ?aF ?aO ?aB ?aS ?aL ?_; (case aP => exact rfl); (case aB => exact (bl_ HB)); (case aF => exact (fun _ _ => trivial)); (case aO => exact (kR_ HO_3)); (case aS => exact (bs_ HB)); (case aL => have := LMc6.out; omega); intro v226 w7 ho hb hg hat; rw [← Ny225.out] at ho; replace HB := Aside0.mk (hb); have HO227 := Aside0.mk (ho); clear HO_3; clear ho hb hg hat))
 go_roundg k1
 case measure => have := HK1.out; omega
 case rel => exact ⟨(y225), (wrap64 (x8_1 + 1)), rs_, H', ⟨by have := HK1.out; omega⟩, ⟨kR_ HO227⟩, ⟨bl_ HB⟩⟩}
 {
 rw [if_neg c6] at H
 exact absurd H (by simp)}}
 {
 rw [if_neg c4] at H
 exact absurd H (by simp)}}
 {
 rw [if_neg c3] at H
 exact absurd H (by simp)}}
 {
 rw [if_neg c2] at H
 have c2b0 : decide (x8_1 < (l0.length : Int)) = false := decide_eq_false c2
 clear c2
 obtain rfl := Option.some.inj H
 go_wp2
 go_ret
 exact ⟨_, by first | rfl | (simp [errW_none, errW_some] <;> rfl) | (simp [*, errW_none, errW_some] <;> rfl), by (with_reducible repeat (first | apply Kd.R_alloc | apply Kd.R_drewN | apply Kd.R_drew)); exact HO_3.out, bl_ HB⟩}))
mutual
def vcodec_Decode.j0 : Nat → List (List Int) → List (List Int) → List (List Int) → Option ((List (List Int)) × Int)
  | 0, _, _, _ => none
  | k + 1, x7, x230000, x230001 => vcodec_Decode.l0 k x7 x230000 (x230000.length : Int) 0 ([] : List (List Int))
def vcodec_Decode.l0 : Nat → List (List Int) → List (List Int) → Int → Int → List (List Int) → Option ((List (List Int)) × Int)
  | 0, _, _, _, _, _ => none
  | k + 1, x7, x45, x46, x47, x252000 => if x47 < x46 then (if 0 ≤ x47 then (if x47 < (x45.length : Int) then (if 16 ≤ 35184372088832 then (if ((rd_L1 x45 x47).length : Int) > 0 then ((floor_Floor.f k (rd_L1 x45 x47)).bind fun bt256 => (if x47 < (x7.length : Int) then ((vcodec_near.f k (rd_L2 x7 x47)).bind fun t261 => ((remap_Restore.f k t261 bt256.1).bind fun bt264 => (if x252000.length < 5864062014805 then (vcodec_Decode.l0 k x7 x45 x46 (wrap64 (x47 + 1)) (x252000 ++ [bt264.1])) else (none)))) else (none))) else (if x252000.length < 5864062014805 then (vcodec_Decode.l0 k x7 x45 x46 (wrap64 (x47 + 1)) (x252000 ++ [(List.replicate 16 0)])) else (none))) else (none)) else (none)) else (none)) else (some (x252000, 0))
end
def vcodec_Decode.f (k : Nat) (a0_0 : Int) (a0_1 : Int) (l0_2 : List Int) (l0_3 : List Int) (l1_0 : List (List Int)) (l1_1 : List (List Int)) : Option ((List (List Int)) × Int) := (vpack_Right.f k a0_0 a0_1 l0_2 l0_3 l1_0 l1_1).bind fun t231 => (if t231 = true then ((some (([] : List (List Int)) : List (List Int))).bind fun y233 => (if y233.length + l1_1.length < 5864062014805 then ((some (y233 ++ l1_1 : List (List Int))).bind fun y236 => ((vcodec_codec_both.f a0_0 a0_1 l0_2 l0_3 l1_0).bind fun t239 => (if t239 = true then (if 0 < (y236.length : Int) then (if 1 < (y236.length : Int) then ((couple_PartAll.f k (rd_L2 y236 0) (rd_L2 y236 1)).bind fun bt242 => (vcodec_Decode.j0 k ((y236.set (0 : Int).toNat bt242.1).set (1 : Int).toNat bt242.2.1) l1_0 l1_1)) else (none)) else (none)) else (vcodec_Decode.j0 k y236 l1_0 l1_1)))) else (none))) else (some (([] : List (List Int)), 1)))
theorem vcodec_Decode.mono_l : ∀ k, (∀ y0 y1 y2, LeO (vcodec_Decode.j0 k y0 y1 y2) (vcodec_Decode.j0 (k + 1) y0 y1 y2)) ∧ (∀ y0 y1 y2 y3 y4, LeO (vcodec_Decode.l0 k y0 y1 y2 y3 y4) (vcodec_Decode.l0 (k + 1) y0 y1 y2 y3 y4))
  | 0 => ⟨fun _ _ _ r h => by simp [vcodec_Decode.j0] at h, fun _ _ _ _ _ r h => by simp [vcodec_Decode.l0] at h⟩
  | k + 1 => by
    obtain ⟨ih0, ih1⟩ := vcodec_Decode.mono_l k
    refine ⟨?_, ?_⟩
    all_goals (intros; first | unfold vcodec_Decode.j0 | unfold vcodec_Decode.l0)
    all_goals with_reducible repeat' first
     | exact ih0 _ _ _
     | exact ih1 _ _ _ _ _
     | exact couple_PartAll.mono _ _ _
     | exact floor_Floor.mono _ _
     | exact remap_Restore.mono _ _ _
     | exact vcodec_near.mono _ _
     | exact vpack_Right.mono _ _ _ _ _ _ _
     | exact LeO.refl _
     | exact LeO.none _
     | refine LeO.ite ?_ ?_
     | refine LeO.bind ?_ (fun _ => ?_)
theorem vcodec_Decode.mono : ∀ a0 a1 a2 a3 a4 a5 k, LeO (vcodec_Decode.f k a0 a1 a2 a3 a4 a5) (vcodec_Decode.f (k + 1) a0 a1 a2 a3 a4 a5) := by
  intro a0 a1 a2 a3 a4 a5 k
  obtain ⟨ih0, ih1⟩ := vcodec_Decode.mono_l k
  unfold vcodec_Decode.f
  with_reducible repeat' first
   | exact ih0 _ _ _
   | exact ih1 _ _ _ _ _
   | exact couple_PartAll.mono _ _ _
   | exact floor_Floor.mono _ _
   | exact remap_Restore.mono _ _ _
   | exact vcodec_near.mono _ _
   | exact vpack_Right.mono _ _ _ _ _ _ _
   | exact LeO.refl _
   | exact LeO.none _
   | refine LeO.ite ?_ ?_
   | refine LeO.bind ?_ (fun _ => ?_)
def vcodec_Decode.T6 : Bool × List (List Nat × List Nat) := (true, [([], []), ([], []), ([], []), ([2], [2]), ([3], [3]), ([], []), ([5], [5]), ([6], [6]), ([4, 7], [4, 7]), ([8], [8]), ([9], [9]), ([9], [9]), ([9], [9]), ([0, 0, 2, 3, 4, 5, 6, 7, 8, 9, 10], [0]), ([13, 10, 8, 0, 2, 3, 4, 5, 6, 7, 8, 9, 10], [10, 13]), ([1, 0, 1, 2, 3, 4, 5, 6, 7, 8, 9, 10, 11, 13, 14], [1]), ([15, 11, 14, 0, 1, 2, 3, 4, 5, 6, 7, 8, 9, 10, 11, 13, 14], [11, 15])])
def vcodec_Decode.B6 : List Nat := [0, 0, 0, 4, 12, 0, 32, 96, 252, 508, 1020, 1020, 1020, 2045, 10237, 28671, 61439]
theorem vcodec_Decode.tab6 : rtab .any (opsOf Try.f14 6) = vcodec_Decode.T6 := by kernel_rfl
theorem vcodec_Decode.bits6 : waitsOk vcodec_Decode.T6.2 vcodec_Decode.B6 = true := by kernel_rfl
set_option maxHeartbeats 8000000 in
set_option maxRecDepth 100000 in
theorem vcodec_Decode.calls (k : Nat) (a0_0 : Int) (a0_1 : Int) (A0_2 : Option Addr) (c0_2 : Nat) (l0_2 : List Int) (A0_3 : Option Addr) (c0_3 : Nat) (l0_3 : List Int) (A1_0 : Option Addr) (c1_0 : Nat) (l1_0 : List (List Int)) (P1_1_ : Nat → Prop) (A1_1 : Option Addr) (c1_1 : Nat) (l1_1 : List (List Int)) (r1 : List (List Int)) (r2 : Int) (w : World) (hr0_2 : Kd.C (Kd.int .i64) w A0_2 l0_2.length l0_2) (hc0_2 : l0_2.length ≤ c0_2) (hr0_3 : Kd.C (Kd.int .i64) w A0_3 l0_3.length l0_3) (hc0_3 : l0_3.length ≤ c0_3) (hr1_0 : Kd.C (Kd.slice 3 (Kd.int .i64)) w A1_0 l1_0.length l1_0) (hc1_0 : l1_0.length ≤ c1_0) (hs1_1 : Kd.V (Kd.slice 2 (Kd.int .i64)) 53 w w.heap.size (fun k_ => P1_1_ k_) (.slice A1_1 l1_1.length c1_1) l1_1) (h : vcodec_Decode.f k a0_0 a0_1 l0_2 l0_3 l1_0 l1_1 = some (r1, r2)) :
    Calls Try.prog 14 #[.agg #[.int .i64 a0_0, .int .i64 a0_1, .slice A0_2 l0_2.length c0_2, .slice A0_3 l0_3.length c0_3], .agg #[.slice A1_0 l1_0.length c1_0, .slice A1_1 l1_1.length c1_1]] w fun e w' => ∃ v0_ : Value, e = .returned (.tuple #[.agg #[v0_], .int .i64 r2]) ∧ Kd.N (Kd.slice 2 (Kd.int .i64)) 53 w' w.heap.size (fun k_ => (P1_1_ k_ ∨ w.heap.size ≤ k_)) v0_ r1 ∧ Below w.heap.size w w' := by
 have hu24 := Try.underlying24
 have hu28 := Try.underlying28
 have hu37 := Try.underlying37
 have hu61 := Try.underlying61
 have HR0_2 := Aside0.mk hr0_2
 have HC0_2 := Aside0.mk hc0_2
 clear hr0_2 hc0_2
 have HR0_3 := Aside0.mk hr0_3
 have HC0_3 := Aside0.mk hc0_3
 clear hr0_3 hc0_3
 have HR1_0 := Aside0.mk hr1_0
 have HC1_0 := Aside0.mk hc1_0
 clear hr1_0 hc1_0
 have HO1_1 := Aside0.mk (show Kd.V (Kd.slice 2 (Kd.int .i64)) 53 w w.heap.size (fun k_ => (P1_1_ k_ ∨ w.heap.size ≤ k_)) (.slice A1_1 l1_1.length c1_1) l1_1 from Kd.V_mono hs1_1 (fun k_ hk => .inl hk))
 have HB := Aside0.mk (Below.refl w.heap.size w)
 have H : ((vpack_Right.f k a0_0 a0_1 l0_2 l0_3 l1_0 l1_1).bind fun t231 => (if t231 = true then ((some (([] : List (List Int)) : List (List Int))).bind fun y233 => (if y233.length + l1_1.length < 5864062014805 then ((some (y233 ++ l1_1 : List (List Int))).bind fun y236 => ((vcodec_codec_both.f a0_0 a0_1 l0_2 l0_3 l1_0).bind fun t239 => (if t239 = true then (if 0 < (y236.length : Int) then (if 1 < (y236.length : Int) then ((couple_PartAll.f k (rd_L2 y236 0) (rd_L2 y236 1)).bind fun bt242 => (vcodec_Decode.j0 k ((y236.set (0 : Int).toNat bt242.1).set (1 : Int).toNat bt242.2.1) l1_0 l1_1)) else (none)) else (none)) else (vcodec_Decode.j0 k y236 l1_0 l1_1)))) else (none))) else (some (([] : List (List Int)), 1)))) = some (r1, r2) := h
 clear h
 obtain ⟨t231, A3, H⟩ := ob_ H
 (try dsimp only at H)
 by_cases c4 : t231 = true
 {
 subst c4
 rw [if_pos rfl] at H
 obtain ⟨y233, hy233⟩ : ∃ y_ : List (List Int), y_ = (([] : List (List Int))) := ⟨_, rfl⟩
 replace H : (if y233.length + l1_1.length < 5864062014805 then ((some (y233 ++ l1_1 : List (List Int))).bind fun y236 => ((vcodec_codec_both.f a0_0 a0_1 l0_2 l0_3 l1_0).bind fun t239 => (if t239 = true then (if 0 < (y236.length : Int) then (if 1 < (y236.length : Int) then ((couple_PartAll.f k (rd_L2 y236 0) (rd_L2 y236 1)).bind fun bt242 => (vcodec_Decode.j0 k ((y236.set (0 : Int).toNat bt242.1).set (1 : Int).toNat bt242.2.1) l1_0 l1_1)) else (none)) else (none)) else (vcodec_Decode.j0 k y236 l1_0 l1_1)))) else (none)) = some (r1, r2) := by first | (rw [hy233]; with_reducible exact H) | (have H2_ := (Option.bind_some _ _).symm.trans H; rw [hy233]; with_reducible exact H2_) | (have H2_ := (Option.bind_some _ _).symm.trans H; with_reducible exact H2_) | with_reducible exact H | (rw [hy233]; exact H) | exact H
 have Ny233 := Aside0.mk hy233
 clear hy233
 by_cases c5 : y233.length + l1_1.length < 5864062014805
 {
 rw [if_pos c5] at H
 have LMc5 := Aside0.mk c5
 clear c5
 obtain ⟨y236, hy236⟩ : ∃ y_ : List (List Int), y_ = (y233 ++ l1_1) := ⟨_, rfl⟩
 replace H : ((vcodec_codec_both.f a0_0 a0_1 l0_2 l0_3 l1_0).bind fun t239 => (if t239 = true then (if 0 < (y236.length : Int) then (if 1 < (y236.length : Int) then ((couple_PartAll.f k (rd_L2 y236 0) (rd_L2 y236 1)).bind fun bt242 => (vcodec_Decode.j0 k ((y236.set (0 : Int).toNat bt242.1).set (1 : Int).toNat bt242.2.1) l1_0 l1_1)) else (none)) else (none)) else (vcodec_Decode.j0 k y236 l1_0 l1_1))) = some (r1, r2) := by first | (rw [hy236]; with_reducible exact H) | (have H2_ := (Option.bind_some _ _).symm.trans H; rw [hy236]; with_reducible exact H2_) | (have H2_ := (Option.bind_some _ _).symm.trans H; with_reducible exact H2_) | with_reducible exact H | (rw [hy236]; exact H) | exact H
 have Ny236 := Aside0.mk hy236
 clear hy236
 obtain ⟨t239, A6, H⟩ := ob_ H
 (try dsimp only at H)
 have HC7 := Aside0.mk H
 clear H
 go_enter Try.func14, Try.ntmps14
 go_upto_if 28 with (first | ((with_reducible refine gate_dst (N := 2) rfl ?_); refine box_ 2 #[.int .i64 a0_0, .int .i64 a0_1, .slice A0_2 l0_2.length c0_2, .slice A0_3 l0_3.length c0_3] 24 ?_; intro gb228 hg w8 hbox hb; replace HO1_1 := Aside0.mk (Kd.V_below (Kd.V_elderB (kV_ HO1_1) gb228 (Nat.le_of_eq hg.symm)) hb); have BK228 := Aside0.mk (hbox); have GW228 := GE_ HB hg; have GE228 := GE_ HB hg; replace HB := BS_ HB hb; clear hb hbox hg) | ((with_reducible refine gate_dst (N := 3) rfl ?_); refine box_ 3 #[.slice A1_0 l1_0.length c1_0, .slice A1_1 l1_1.length c1_1] 28 ?_; intro gb229 hg w9 hbox hb; replace HO1_1 := Aside0.mk (Kd.V_below (Kd.V_elderB (kV_ HO1_1) gb229 (Nat.le_of_eq hg.symm)) hb); have BK229 := Aside0.mk (hbox); have GW229 := GE_ HB hg; have GE229 := GE_ HB hg; replace HB := BS_ HB hb; obtain ⟨NB228_229, NB229_228⟩ := NN_ BK228 hg; replace BK228 := FB_ BK228 hb; clear hb hbox hg) | ((with_reducible refine gate_dst (N := 4) rfl ?_); refine box_ 4 #[.slice none 0 0] 37 ?_; intro gb230 hg w10 hbox hb; replace HO1_1 := Aside0.mk (Kd.V_below (Kd.V_elderB (kV_ HO1_1) gb230 (Nat.le_of_eq hg.symm)) hb); have BK230 := Aside0.mk (hbox); have GW230 := GE_ HB hg; have GE230 := GE_ HB hg; replace HB := BS_ HB hb; obtain ⟨NB228_230, NB230_228⟩ := NN_ BK228 hg; replace BK228 := FB_ BK228 hb; obtain ⟨NB229_230, NB230_229⟩ := NN_ BK229 hg; replace BK229 := FB_ BK229 hb; clear hb hbox hg; have hnb11 := NB228_229.out; have hnc11 := NB229_228.out; have hnb12 := NB228_230.out; have hnc12 := NB230_228.out; obtain ⟨hcz13_0, hcz13_1, hcz13_2, hcz13_3, hfz13_0, hfz13_1, hfz13_2, hfz13_3⟩ := e4_ BK228; have hnb14 := NB229_230.out; have hnc14 := NB230_229.out; obtain ⟨hcz15_0, hcz15_1, hfz15_0, hfz15_1⟩ := e2_ BK229) | ((with_reducible refine gate_callee (f := 21) rfl ?_); refine gL_ (some 16) Try.func21 #[.agg #[.int .i64 a0_0, .int .i64 a0_1, .slice A0_2 l0_2.length c0_2, .slice A0_3 l0_3.length c0_3], .agg #[.slice A1_0 l1_0.length c1_0, .slice A1_1 l1_1.length c1_1]] ?_; (with_reducible refine (vpack_Right.calls k a0_0 a0_1 _ _ l0_2 _ _ l0_3 _ _ l1_0 _ _ l1_1 true _ ?side1 ?side2 ?side3 ?side4 ?side5 ?side6 ?side7 ?side8 A3.out).mono ?_); (case side1 => exact kC_ HR0_2 HB); (case side2 => exact HC0_2.out); (case side3 => exact kC_ HR0_3 HB); (case side4 => exact HC0_3.out); (case side5 => exact kC_ HR1_0 HB); (case side6 => exact HC1_0.out); (case side7 => exact kCt_ (Kd.V_reads' HO1_1.out).2.2); (case side8 => exact (Kd.V_reads' HO1_1.out).2.1); rintro e w16 ⟨rfl, hb⟩; refine ⟨_, rfl, ?_⟩; replace HO1_1 := FV_ HO1_1 hb; replace BK228 := FB_ BK228 hb; replace BK229 := FB_ BK229 hb; replace BK230 := FB_ BK230 hb; replace HB := BS_ HB hb; (try clear hb); (try clear hk); obtain ⟨hcz17_0, hcz17_1, hcz17_2, hcz17_3, hfz17_0, hfz17_1, hfz17_2, hfz17_3⟩ := e4_ BK228) | ((with_reducible refine gate_dst (N := 6) rfl ?_); refine box_ 6 #[.int .i64 0, .int .i64 0, .slice none 0 0, .slice none 0 0] 61 ?_; intro gb232 hg w18 hbox hb; replace HO1_1 := Aside0.mk (Kd.V_below (Kd.V_elderB (kV_ HO1_1) gb232 (Nat.le_of_eq hg.symm)) hb); have BK232 := Aside0.mk (hbox); have GW232 := GE_ HB hg; have GE232 := GE_ HB hg; replace HB := BS_ HB hb; obtain ⟨NB228_232, NB232_228⟩ := NN_ BK228 hg; replace BK228 := FB_ BK228 hb; obtain ⟨NB229_232, NB232_229⟩ := NN_ BK229 hg; replace BK229 := FB_ BK229 hb; obtain ⟨NB230_232, NB232_230⟩ := NN_ BK230 hg; replace BK230 := FB_ BK230 hb; clear hb hbox hg; have hnb19 := NB232_228.out; have hnc19 := NB228_232.out; have hnb20 := NB232_229.out; have hnc20 := NB229_232.out; have hnb21 := NB232_230.out; have hnc21 := NB230_232.out; obtain ⟨hcz22_0, hcz22_1, hcz22_2, hcz22_3, hfz22_0, hfz22_1, hfz22_2, hfz22_3⟩ := e4_ BK232) | ((with_reducible refine gate_dst (N := 21) rfl ?_); refine Kd.N_lit (Kd.slice 2 (Kd.int .i64)) _ 53 ?hg (N' := 21) ?hd (xs := ([] : List (List Int))) (inner := []) (ok := (fun k_ => (P1_1_ k_ ∨ w.heap.size ≤ k_) ∧ k_ ≠ gb228 ∧ k_ ≠ gb229 ∧ k_ ≠ gb230 ∧ k_ ≠ gb232)) (okp := (fun k_ => (P1_1_ k_ ∨ w.heap.size ≤ k_) ∧ k_ ≠ gb228 ∧ k_ ≠ gb229 ∧ k_ ≠ gb230 ∧ k_ ≠ gb232)) ?hr ?hp (fun _ hk => hk) (fr_ (P := (fun k_ => (P1_1_ k_ ∨ w.heap.size ≤ k_) ∧ k_ ≠ gb228 ∧ k_ ≠ gb229 ∧ k_ ≠ gb230 ∧ k_ ≠ gb232)) (fun k_ hk => ⟨(.inr (Nat.le_trans (bs_ HB) hk)), Kd.freshB (g := gb228) (o := .cells #[.int .i64 a0_0, .int .i64 a0_1, .slice A0_2 l0_2.length c0_2, .slice A0_3 l0_3.length c0_3] 24 (0, 0)) (bk_ BK228) k_ hk, Kd.freshB (g := gb229) (o := .cells #[.slice A1_0 l1_0.length c1_0, .slice A1_1 l1_1.length c1_1] 28 (0, 0)) (bk_ BK229) k_ hk, Kd.freshB (g := gb230) (o := .cells #[.slice none 0 0] 37 (0, 0)) (bk_ BK230) k_ hk, Kd.freshB (g := gb232) (o := .cells #[.int .i64 a0_0, .int .i64 a0_1, .slice A0_2 l0_2.length c0_2, .slice A0_3 l0_3.length c0_3] 61 (0, 0)) (bp_ BK232) k_ hk⟩)) (Below.refl _ _) (Nat.le_refl _) (by simp) ?_; (case hd => rfl); (case hg => rfl); (case hr => first | (go_simp; done) | (go_simp; rfl)); (case hp => exact (Reps.none _ _)); intro v234 w23 ho24 hb hg_ hnew_; clear hg_ hnew_; (first | rw [← Ny233.out] at ho24 | (simp only [Int.reduceToNat] at ho24; rw [← Ny233.out] at ho24)); replace HO1_1 := Aside0.mk (Kd.V_elder' (by (with_reducible repeat (first | apply Kd.V_alloc | apply Kd.V_drewN | apply Kd.V_drew)); exact (Kd.V_mono (Kd.V_far (p := ⟨gb232, 3, none⟩) (Kd.V_far (p := ⟨gb232, 2, none⟩) (Kd.V_far (p := ⟨gb232, 1, none⟩) (Kd.V_far (p := ⟨gb232, 0, none⟩) (Kd.V_mono HO1_1.out (fun k_ hk => (⟨hk, hk.2⟩ : _ ∧ k_ ≠ gb232))) (fun _ hk => hk.2) (.int .i64 a0_0)) (fun _ hk => hk.2) (.int .i64 a0_1)) (fun _ hk => hk.2) (.slice A0_2 l0_2.length c0_2)) (fun _ hk => hk.2) (.slice A0_3 l0_3.length c0_3)) (fun _ h_ => h_.1))) (Kd.N_base ho24) hb); have HO235 := Aside0.mk (Kd.N_lower ho24 (bs_ HB)); replace BK228 := FB_ BK228 hb; replace BK229 := FB_ BK229 hb; replace BK230 := FB_ BK230 hb; replace BK232 := Aside0.mk (blk_below (g := gb232) (o := .cells #[.int .i64 a0_0, .int .i64 a0_1, .slice A0_2 l0_2.length c0_2, .slice A0_3 l0_3.length c0_3] 61 (0, 0)) (bp_ BK232) hb); replace HB := BS_ HB hb; clear hb ho24; obtain ⟨hcz25_0, hcz25_1, hfz25_0, hfz25_1⟩ := e2_ BK229) | ((with_reducible refine gate_builtin (b := .append) (xs := #[.tmp 21, .tmp 23]) rfl ?_); at_builtin; refine Kd.N_append_rows (Kd.slice 2 (Kd.int .i64)) (w0 := w) w.heap.size rfl (.tmp 21) (.tmp 23) 26 53 (.slice none 0 0) 24 rfl Try.underlying26 info53 rfl (by decide) (by omega) v234 y233 l1_1 _ _ _ (fun k_ => (P1_1_ k_ ∨ w.heap.size ≤ k_) ∧ k_ ≠ gb228 ∧ k_ ≠ gb229 ∧ k_ ≠ gb230 ∧ k_ ≠ gb232) (fun k_ => ((fun k_ => (P1_1_ k_ ∨ w.heap.size ≤ k_) ∧ k_ ≠ gb228 ∧ k_ ≠ gb229 ∧ k_ ≠ gb230 ∧ k_ ≠ gb232)) k_ ∧ some k_ ≠ (v234 : Value).ownBlock) rfl rfl ?aO ?aR (fun _ hk => hk) ?aF ?aB ?aS ?aL ?_; (case aR => exact (by skip; exact Kd.V_F (Kd.V_mono (ok' := (fun k_ => ((fun k_ => (P1_1_ k_ ∨ w.heap.size ≤ k_) ∧ k_ ≠ gb228 ∧ k_ ≠ gb229 ∧ k_ ≠ gb230 ∧ k_ ≠ gb232)) k_ ∧ some k_ ≠ (v234 : Value).ownBlock)) (HO1_1.out) (fun k_ hk => ⟨⟨hk.1.1.1.1.1, ⟨hk.1.1.1.1.2, ⟨hk.1.1.1.2, ⟨hk.1.1.2, hk.1.2⟩⟩⟩⟩, hk.2⟩)))); (case aB => exact (bl_ HB)); (case aF => exact (fun k_ hk => ⟨(.inr (Nat.le_trans (bs_ HB) hk)), Kd.freshB (g := gb228) (o := .cells #[.int .i64 a0_0, .int .i64 a0_1, .slice A0_2 l0_2.length c0_2, .slice A0_3 l0_3.length c0_3] 24 (0, 0)) (bk_ BK228) k_ hk, Kd.freshB (g := gb229) (o := .cells #[.slice A1_0 l1_0.length c1_0, .slice A1_1 l1_1.length c1_1] 28 (0, 0)) (bk_ BK229) k_ hk, Kd.freshB (g := gb230) (o := .cells #[.slice none 0 0] 37 (0, 0)) (bk_ BK230) k_ hk, Kd.freshB (g := gb232) (o := .cells #[.int .i64 a0_0, .int .i64 a0_1, .slice A0_2 l0_2.length c0_2, .slice A0_3 l0_3.length c0_3] 61 (0, 0)) (bk_ BK232) k_ hk⟩)); (case aO => exact (kN_ HO235)); (case aS => exact (bs_ HB)); (case aL => have := LMc5.out; omega); intro v237 w26 ho hb hg hat; rw [← Ny236.out] at ho; replace HO1_1 := Aside0.mk (Kd.V_afterv (ok := (fun k_ => (P1_1_ k_ ∨ w.heap.size ≤ k_) ∧ k_ ≠ gb228 ∧ k_ ≠ gb229 ∧ k_ ≠ gb230 ∧ k_ ≠ gb232)) (by (with_reducible repeat (first | apply Kd.V_alloc | apply Kd.V_drewN | apply Kd.V_drew)); exact Kd.V_mono HO1_1.out (fun _ hk => ⟨⟨hk.1.1.1.1.1, ⟨hk.1.1.1.1.2, ⟨hk.1.1.1.2, ⟨hk.1.1.2, hk.1.2⟩⟩⟩⟩, hk.2⟩)) hg hat); replace BK228 := (FG_ BK228 hg (Kd.N_ne HO235.out BK228.out (by decide))); replace BK229 := (FG_ BK229 hg (Kd.N_ne HO235.out BK229.out (by decide))); replace BK230 := (FG_ BK230 hg (Kd.N_ne HO235.out BK230.out (by decide))); replace BK232 := (FG_ BK232 hg (Kd.N_ne HO235.out BK232.out (by decide))); replace HB := Aside0.mk (hb); have HO238 := Aside0.mk (ho); clear HO235; clear ho hb hg hat; obtain ⟨hcz27_0, hcz27_1, hcz27_2, hcz27_3, hfz27_0, hfz27_1, hfz27_2, hfz27_3⟩ := e4_ BK232; obtain ⟨hcz28_0, hcz28_1, hfz28_0, hfz28_1⟩ := e2_ BK229) | ((with_reducible refine gate_callee (f := 32) rfl ?_); refine gL_ (some 28) Try.func32 #[.agg #[.int .i64 a0_0, .int .i64 a0_1, .slice A0_2 l0_2.length c0_2, .slice A0_3 l0_3.length c0_3], .slice A1_0 l1_0.length c1_0] ?_; (with_reducible refine (vcodec_codec_both.calls a0_0 a0_1 _ _ l0_2 _ _ l0_3 _ _ l1_0 t239 _ ?side1 ?side2 ?side3 ?side4 ?side5 ?side6 A6.out).mono ?_); (case side1 => exact kC_ HR0_2 HB); (case side2 => exact HC0_2.out); (case side3 => exact kC_ HR0_3 HB); (case side4 => exact HC0_3.out); (case side5 => exact kC_ HR1_0 HB); (case side6 => exact HC1_0.out); rintro e w29 ⟨rfl, hb⟩; refine ⟨_, rfl, ?_⟩; replace HO1_1 := FV_ HO1_1 hb; replace HO238 := FN_ HO238 hb; replace BK228 := FB_ BK228 hb; replace BK229 := FB_ BK229 hb; replace BK230 := FB_ BK230 hb; replace BK232 := FB_ BK232 hb; replace HB := BS_ HB hb; (try clear hb); (try clear hk)))
 (try simp only [Act.put, List.setIfInBounds_toArray, List.set_cons_zero, List.set_cons_succ])
 go_cut [] (fun wc => ∃ (kq : Nat) (x7_6 : List (List Int)), Aside0 (vcodec_Decode.j0 kq x7_6 l1_0 l1_1 = some (r1, r2)) ∧ Aside0 (kq ≤ k) ∧ Aside0 (Kd.N (Kd.slice 2 (Kd.int .i64)) 53 wc w.heap.size (fun k_ => (P1_1_ k_ ∨ w.heap.size ≤ k_) ∧ k_ ≠ gb228 ∧ k_ ≠ gb229 ∧ k_ ≠ gb230 ∧ k_ ≠ gb232) v237 x7_6) ∧ Aside0 (Kd.V (Kd.slice 2 (Kd.int .i64)) 53 wc w.heap.size (fun k_ => (P1_1_ k_ ∨ w.heap.size ≤ k_) ∧ some k_ ≠ (v237 : Value).ownBlock ∧ k_ ≠ gb228 ∧ k_ ≠ gb229 ∧ k_ ≠ gb230 ∧ k_ ≠ gb232) (.slice A1_1 l1_1.length c1_1) l1_1) ∧ Aside0 (wc.heap[gb228]? = some (.cells #[.int .i64 a0_0, .int .i64 a0_1, (.slice A0_2 l0_2.length c0_2), (.slice A0_3 l0_3.length c0_3)] 24 (0, 0))) ∧ Aside0 (wc.heap[gb229]? = some (.cells #[(.slice A1_0 l1_0.length c1_0), (.slice A1_1 l1_1.length c1_1)] 28 (0, 0))) ∧ Aside0 (wc.heap[gb230]? = some (.cells #[(.slice none 0 0)] 37 (0, 0))) ∧ Aside0 (wc.heap[gb232]? = some (.cells #[.int .i64 a0_0, .int .i64 a0_1, (.slice A0_2 l0_2.length c0_2), (.slice A0_3 l0_3.length c0_3)] 61 (0, 0))) ∧ Aside0 (Below w.heap.size w wc))
 case first => (
 have H := HC7.out
 clear HC7
 by_cases c30 : t239 = true
 {
 subst c30
 rw [if_pos rfl] at H
 by_cases c31 : 0 < (y236.length : Int)
 {
 rw [if_pos c31] at H
 have c31b0 : decide (0 < (y236.length : Int)) = true := decide_eq_true c31
 have c31b1 : decide (0 < y236.length) = true := decide_eq_true (by omega)
 clear c31
 (first | rw [c31b0] | (simp only [i64_w, i32_w]; rw [c31b0]) | skip)
 by_cases c32 : 1 < (y236.length : Int)
 {
 rw [if_pos c32] at H
 have c32b0 : decide (1 < (y236.length : Int)) = true := decide_eq_true c32
 have c32b1 : decide (1 < y236.length) = true := decide_eq_true (by omega)
 clear c32
 obtain ⟨⟨t242, t243, t244⟩, A33, H⟩ := ob_ H
 (try dsimp only at H)
 obtain ⟨y249, hy249⟩ : ∃ y_ : List (List Int), y_ = (y236.set (0 : Int).toNat t242) := ⟨_, rfl⟩
 replace H : (vcodec_Decode.j0 k (y249.set (1 : Int).toNat t243) l1_0 l1_1) = some (r1, r2) := by first | (rw [hy249]; with_reducible exact H) | (have H2_ := (Option.bind_some _ _).symm.trans H; rw [hy249]; with_reducible exact H2_) | (have H2_ := (Option.bind_some _ _).symm.trans H; with_reducible exact H2_) | with_reducible exact H | (rw [hy249]; exact H) | exact H
 have Ny249 := Aside0.mk hy249
 clear hy249
 obtain ⟨y250, hy250⟩ : ∃ y_ : List (List Int), y_ = (y249.set (1 : Int).toNat t243) := ⟨_, rfl⟩
 replace H : (vcodec_Decode.j0 k y250 l1_0 l1_1) = some (r1, r2) := by first | (rw [hy250]; with_reducible exact H) | (have H2_ := (Option.bind_some _ _).symm.trans H; rw [hy250]; with_reducible exact H2_) | (have H2_ := (Option.bind_some _ _).symm.trans H; with_reducible exact H2_) | with_reducible exact H | (rw [hy250]; exact H) | exact H
 have Ny250 := Aside0.mk hy250
 clear hy250
 have H' := Aside0.mk H
 clear H
 try go_wp2
 replace HO1_1 := Aside0.mk (Kd.V_drew HO1_1.out)
 replace HO238 := Aside0.mk (Kd.N_drew HO238.out)
 replace BK228 := Aside0.mk (blk_drew BK228.out)
 replace BK229 := Aside0.mk (blk_drew BK229.out)
 replace BK230 := Aside0.mk (blk_drew BK230.out)
 replace BK232 := Aside0.mk (blk_drew BK232.out)
 replace HB := Aside0.mk (below_drew1 HB.out)
 obtain ⟨Ao37, co37, eo37⟩ := Kd.N_slice HO238.out
 (first | subst eo37 | (injection eo37 with f1_ f2_ f3_; have f4_ := f1_.symm; have f5_ := f3_.symm; clear f1_ f2_ f3_; subst f4_; subst f5_))
 have p240 : 0 ≤ (0 : Int) := (by omega)
 have q240 : 0 < (y236.length : Int) := of_decide_eq_true am_
 obtain ⟨ad240, A240_0, c240_0, e240, hx240_0, hl240_0, hi240_0⟩ := at_L2 (Kd.N_reads' HO238.out).2.2 0 p240 q240
 cases e240
 obtain ⟨ce240, hce240, hMe240, hcc240⟩ := Kd.N_get HO238.out [] 0 p240 (by first | exact q240 | exact of_decide_eq_true am_ | (have e_ := (Kd.N_reads' HO238.out).1; omega))
 obtain ⟨ua240_0, uc240_0, rfl, ul240_0, ge240_0⟩ := Kd.FK_slice_open hMe240
 have hv240_0 := hcc240 0 _ rfl
 rw [Nat.add_zero, show ((Kd.slice 2 (Kd.int .i64))).sz = 1 from rfl, Nat.mul_one] at hv240_0
 replace hv240_0 := Option.some.inj (hv240_0.symm.trans hx240_0)
 injection hv240_0 with hva_ hvn_ hvc_
 rw [hva_] at ge240_0
 rw [hvc_] at ul240_0
 have HL240_0 := Aside0.mk (show Kd.V (Kd.int .i64) 2 _ w.heap.size _ _ (rd_L2 y236 0) from Kd.V_mk ul240_0 ge240_0)
 clear hva_ hvn_ hvc_ ge240_0 ul240_0
 clear hcc240 hce240
 have qi240 : (0 < y236.length) = True := eq_true (by omega)
 (try rw [show ((0 : Int)).toNat = 0 from rfl] at hx240_0)
 (try rw [Addr.add_zero'] at hx240_0)
 have HR240_0 := Aside0.mk hi240_0
 have HC240_0 := Aside0.mk hl240_0
 clear hi240_0 hl240_0
 replace p240 := eq_true p240
 replace q240 := eq_true q240
 have p241 : 0 ≤ (1 : Int) := (by omega)
 have q241 : 1 < (y236.length : Int) := of_decide_eq_true am_
 obtain ⟨ad241, A241_0, c241_0, e241, hx241_0, hl241_0, hi241_0⟩ := at_L2 (Kd.N_reads' HO238.out).2.2 1 p241 q241
 obtain rfl : ad240 = ad241 := (by injection e241)
 obtain ⟨ce241, hce241, hMe241, hcc241⟩ := Kd.N_get HO238.out [] 1 p241 (by first | exact q241 | exact of_decide_eq_true am_ | (have e_ := (Kd.N_reads' HO238.out).1; omega))
 obtain ⟨ua241_0, uc241_0, rfl, ul241_0, ge241_0⟩ := Kd.FK_slice_open hMe241
 have hv241_0 := hcc241 0 _ rfl
 rw [Nat.add_zero, show ((Kd.slice 2 (Kd.int .i64))).sz = 1 from rfl, Nat.mul_one] at hv241_0
 replace hv241_0 := Option.some.inj (hv241_0.symm.trans hx241_0)
 injection hv241_0 with hva_ hvn_ hvc_
 rw [hva_] at ge241_0
 rw [hvc_] at ul241_0
 have HL241_0 := Aside0.mk (show Kd.V (Kd.int .i64) 2 _ w.heap.size _ _ (rd_L2 y236 1) from Kd.V_mk ul241_0 ge241_0)
 clear hva_ hvn_ hvc_ ge241_0 ul241_0
 clear hcc241 hce241
 (try simp only [show (1 : Int).toNat = 1 from rfl, Nat.reduceMul, Nat.reduceEqDiff, Go.Addr.add, ↓reduceIte] at hx241_0)
 have qi241 : (1 < y236.length) = True := eq_true (by omega)
 (try rw [show ((1 : Int)).toNat = 1 from rfl] at hx241_0)
 have HR241_0 := Aside0.mk hi241_0
 have HC241_0 := Aside0.mk hl241_0
 clear hi241_0 hl241_0
 replace p241 := eq_true p241
 replace q241 := eq_true q241
 refine start_ (n := 17) (S := fun w' => w'.cell? ad240 = some (.slice A240_0 (rd_L2 y236 0).length c240_0) ∧ w'.cell? ⟨ad240.block, ad240.off + 1, none⟩ = some (.slice A241_0 (rd_L2 y236 1).length c241_0)) (ds := [14, 16]) (B_ 17 0) kf_ rfl rfl ⟨hx240_0, hx241_0⟩ (fun hHeld => ?_); refine with_tabW vcodec_Decode.tab6 vcodec_Decode.bits6 (fun HT_ HW_ => ?_)
 generalize w29.drew = w36 at HO1_1 HO238 BK228 BK229 BK230 BK232 HB HL240_0 HL241_0 HR240_0 HR241_0 hx240_0 hx241_0 hHeld ⊢
 refine pu_ 0 (some 30) (B_ 17 1) HT_ ?_
 refine pu_ 1 (some 31) (B_ 17 3) HT_ ?_
 refine pu_ 2 (some 32) (B_ 17 7) HT_ ?_
 refine pu_ 3 (some 33) (B_ 17 15) HT_ ?_
 refine pu_ 5 (some 35) (B_ 17 47) HT_ ?_
 refine pu_ 6 (some 36) (B_ 17 111) HT_ ?_
 refine take_ (i := 4) (N := some 34) (v := ?_) (a' := ?_) (B_ 17 127) rfl rfl (take_ofW HT_.out HW_.out kf_) (fun _ _ _ h => h) (Or.inl ⟨by rfl, ?_⟩) hHeld ?_ ?_
 rotate_left
 {
 rintro w' ⟨s0, s1⟩
 go_simp
 with_reducible rfl}
 rotate_left
 {
 exact sp_}
 refine take_ (i := 7) (N := some 37) (v := ?_) (a' := ?_) (B_ 17 255) rfl rfl (take_ofW HT_.out HW_.out kf_) (fun _ _ _ h => h) (Or.inl ⟨by rfl, ?_⟩) hHeld ?_ ?_
 rotate_left
 {
 rintro w' ⟨s0, s1⟩
 go_simp
 with_reducible rfl}
 rotate_left
 {
 exact sp_}
 refine one_ (i := 8) (N := some 38) (B_ 17 511) rfl rfl (one_of HT_.out kf_) (by decide) (fun K hK => ?_)
 refine goes_ Try.func33 kf_ rfl #[.slice A240_0 (rd_L2 y236 0).length c240_0, .slice A241_0 (rd_L2 y236 1).length c241_0] (by rfl) rfl rfl ar_ ?_
 with_reducible refine (couple_PartAll.calls k _ _ (rd_L2 y236 0) _ _ (rd_L2 y236 1) t242 t243 t244 _ ?side1 ?side2 ?side3 ?side4 A33.out).mono ?_
 (case side1 => repeat (first | exact (by repeat (first | (with_reducible exact HR240_0.out) | (with_reducible refine Kd.C_alloc ?_ _) | (with_reducible refine Kd.C_drewN ?_ _) | (with_reducible refine Kd.C_drew ?_) | exact HR240_0.out)) | (with_reducible refine Kd.C_alloc ?_ _) | (with_reducible refine Kd.C_drewN ?_ _) | (with_reducible refine Kd.C_drew ?_)))
 (case side2 => exact HC240_0.out)
 (case side3 => repeat (first | exact (by repeat (first | (with_reducible exact HR241_0.out) | (with_reducible refine Kd.C_alloc ?_ _) | (with_reducible refine Kd.C_drewN ?_ _) | (with_reducible refine Kd.C_drew ?_) | exact HR241_0.out)) | (with_reducible refine Kd.C_alloc ?_ _) | (with_reducible refine Kd.C_drewN ?_ _) | (with_reducible refine Kd.C_drew ?_)))
 (case side4 => exact HC241_0.out)
 rintro e w38 ⟨v245, v247, rfl, ho0, ho1, hb⟩
 have HS0_ := (hb.cell (World.block_lt_of_cell? _ _ (hHeld.1))).trans (hHeld.1)
 have HS1_ := (hb.cell (World.block_lt_of_cell? _ _ (hHeld.2))).trans (hHeld.2)
 refine ⟨_, rfl, ?_⟩
 replace HO1_1 := Aside0.mk (Kd.V_mono (Kd.V_told (Kd.V_told (Kd.V_old (kV_ HO1_1) hb) (Kd.R_base ho0)) (Kd.R_base ho1)) (fun _ h_ => h_.1))
 replace HO238 := Aside0.mk (Kd.N_mono (Kd.N_told (Kd.N_told (Kd.N_old (kN_ HO238) hb) (Kd.R_base ho0)) (Kd.R_base ho1)) (fun _ h_ => h_.1))
 replace HL240_0 := Aside0.mk (Kd.V_mono (Kd.V_told (Kd.V_told (Kd.V_old (kV_ HL240_0) hb) (Kd.R_base ho0)) (Kd.R_base ho1)) (fun _ h_ => h_.1))
 replace HL241_0 := Aside0.mk (Kd.V_mono (Kd.V_told (Kd.V_told (Kd.V_old (kV_ HL241_0) hb) (Kd.R_base ho0)) (Kd.R_base ho1)) (fun _ h_ => h_.1))
 have HO246 := Aside0.mk (Kd.R_lower (Kd.R_newM (M := fun k_ => (w.heap.size ≤ k_)) ho0 (bs_ HB) (fun k_ h_ => h_)) (bs_ HB))
 have HO248 := Aside0.mk (Kd.R_lower (Kd.R_newM (M := fun k_ => (w.heap.size ≤ k_)) ho1 (bs_ HB) (fun k_ h_ => h_)) (bs_ HB))
 replace BK228 := FB_ BK228 hb
 replace BK229 := FB_ BK229 hb
 replace BK230 := FB_ BK230 hb
 replace BK232 := FB_ BK232 hb
 replace HR240_0 := Aside0.mk (Kd.C_below (by repeat (first | (with_reducible exact HR240_0.out) | (with_reducible refine Kd.C_alloc ?_ _) | (with_reducible refine Kd.C_drewN ?_ _) | (with_reducible refine Kd.C_drew ?_) | exact HR240_0.out)) hb)
 replace HR241_0 := Aside0.mk (Kd.C_below (by repeat (first | (with_reducible exact HR241_0.out) | (with_reducible refine Kd.C_alloc ?_ _) | (with_reducible refine Kd.C_drewN ?_ _) | (with_reducible refine Kd.C_drew ?_) | exact HR241_0.out)) hb)
 replace HB := BS_ HB hb
 (try clear hb)
 (try clear hk)
 (try clear ho0)
 (try clear ho1)
 have p34 : 0 ≤ (0 : Int) := (by omega)
 have q34 : (0 : Int) < ((y236.length : Int) : Int) := of_decide_eq_true am_
 have qi34 : (0 < y236.length) = True := eq_true (by omega)
 obtain ⟨go34, co34, eo34, gb34, gl34, cl34, HG34⟩ := Kd.N_form HO238.out (by omega)
 (first | cases eo34 | (injection eo34 with ea_ en_ ec_; (first | subst ea_ | (injection ea_ with ea_; subst ea_)); subst ec_; clear en_))
 have GB34 := Aside0.mk gb34
 have GG34 := Aside0.mk HG34
 clear gb34 gl34 HG34
 (first | simp only [add_plain] at hx240_0 | skip)
 (first | simp only [add_plain] at hx241_0 | skip)
 obtain ⟨ce34, hcl34, hM34, hcc34, hfr34⟩ := Kd.N_elem HO238.out [] (0 : Int) p34 q34
 obtain ⟨ua34_0, uc34_0, rfl, ul34_0, ge34_0⟩ := Kd.FK_slice_open hM34
 have hx34_0 := hcc34 0 _ rfl
 have hf34_0 := hfr34 0
 (try simp only [show ((Kd.slice 2 (Kd.int .i64))).sz = 1 from rfl, Nat.mul_one, Nat.add_zero] at hx34_0)
 (try simp only [show ((Kd.slice 2 (Kd.int .i64))).sz = 1 from rfl, Nat.mul_one, Nat.add_zero] at hf34_0)
 clear hcl34 hcc34 hfr34 hM34
 (try rw [show ((0 : Int)).toNat = 0 from rfl] at hx34_0)
 (try simp only [Nat.reduceMul, Nat.zero_mul, Nat.zero_add, Nat.reduceAdd] at hx34_0)
 (try rw [show ((0 : Int)).toNat = 0 from rfl] at hf34_0)
 (try simp only [Nat.reduceMul, Nat.zero_mul, Nat.zero_add, Nat.reduceAdd] at hf34_0)
 replace p34 := eq_true p34
 replace q34 := eq_true q34
 obtain ⟨Ao8245, co8245, eo8245⟩ := Kd.R_slice HO246.out
 subst eo8245
 have HX39 := Aside0.mk (show Kd.N (Kd.slice 2 (Kd.int .i64)) 53 _ w.heap.size (fun k_ => (P1_1_ k_ ∨ w.heap.size ≤ k_) ∧ some k_ ≠ ((.slice Ao8245 t242.length co8245) : Value).ownBlock ∧ some k_ ≠ (v247 : Value).ownBlock ∧ k_ ≠ gb228 ∧ k_ ≠ gb229 ∧ k_ ≠ gb230 ∧ k_ ≠ gb232) (.slice (some ⟨go34, 0, none⟩) y236.length co37) y236 from (Kd.N_mono (HO238.out) (fun k_ hk => ⟨hk.1.1.1, ⟨hk.1.2, ⟨hk.2, ⟨hk.1.1.2.1, ⟨hk.1.1.2.2.1, ⟨hk.1.1.2.2.2.1, hk.1.1.2.2.2.2⟩⟩⟩⟩⟩⟩)))
 replace HX39 := Aside0.mk (show Kd.N (Kd.slice 2 (Kd.int .i64)) 53 _ w.heap.size (fun k_ => (P1_1_ k_ ∨ w.heap.size ≤ k_) ∧ some k_ ≠ (v247 : Value).ownBlock ∧ k_ ≠ gb228 ∧ k_ ≠ gb229 ∧ k_ ≠ gb230 ∧ k_ ≠ gb232) (.slice (some ⟨go34, 0, none⟩) y236.length co37) y236 from Kd.N_mono HX39.out (fun k_ hk => ⟨hk.1, ⟨hk.2.2.1, ⟨hk.2.2.2.1, ⟨hk.2.2.2.2.1, ⟨hk.2.2.2.2.2.1, hk.2.2.2.2.2.2⟩⟩⟩⟩⟩))
 obtain ⟨ce39, hcl39, hM39, hcc39, hfr39⟩ := Kd.N_elem HX39.out [] (0 : Int) (by omega) (by have h_ : (0 : Int) < ((y236.length : Int) : Int) := of_decide_eq_true am_; first | exact h_ | (have e_ := (Kd.N_reads' HO238.out).1; omega) | simpa using h_)
 obtain ⟨ua39_0, uc39_0, rfl, ul39_0, ge39_0⟩ := Kd.FK_slice_open hM39
 have HZ39 := (Kd.N_seg HX39.out (0 : Int) (by omega) (by have h_ : (0 : Int) < ((y236.length : Int) : Int) := of_decide_eq_true am_; first | exact h_ | (have e_ := (Kd.N_reads' HO238.out).1; omega) | simpa using h_) (seg := [(.slice Ao8245 t242.length co8245)]) (j := 0) hcl39 hcc39 (show 1 ≤ 1 from by decide) (x' := t242) (Kd.FK_slice_mk (Kd.R_reads' (Kd.R_mono (ok' := (fun k_ => ((fun k_ => (P1_1_ k_ ∨ w.heap.size ≤ k_) ∧ some k_ ≠ (v247 : Value).ownBlock ∧ k_ ≠ gb228 ∧ k_ ≠ gb229 ∧ k_ ≠ gb230 ∧ k_ ≠ gb232)) k_ ∧ k_ ≠ go34)) (Kd.R_types (Kd.R_types (Kd.R_types (Kd.R_types (Kd.R_apart' (HO246.out) (Kd.N_typed HO238.out) (by decide)) BK228.out (by decide)) BK229.out (by decide)) BK230.out (by decide)) BK232.out (by decide)) (fun k_ hk => ⟨⟨(.inr (hk.1.1.1.1.1.1)), ⟨hk.1.1.1.1.1.2, ⟨hk.1.1.1.2, ⟨hk.1.1.2, ⟨hk.1.2, hk.2⟩⟩⟩⟩⟩, fun e_ => (hk.1.1.1.1.2) (by rw [e_]; rfl)⟩))).2.1 (Kd.R_F (Kd.R_mono (ok' := (fun k_ => ((fun k_ => (P1_1_ k_ ∨ w.heap.size ≤ k_) ∧ some k_ ≠ (v247 : Value).ownBlock ∧ k_ ≠ gb228 ∧ k_ ≠ gb229 ∧ k_ ≠ gb230 ∧ k_ ≠ gb232)) k_ ∧ k_ ≠ go34)) (Kd.R_types (Kd.R_types (Kd.R_types (Kd.R_types (Kd.R_apart' (HO246.out) (Kd.N_typed HO238.out) (by decide)) BK228.out (by decide)) BK229.out (by decide)) BK230.out (by decide)) BK232.out (by decide)) (fun k_ hk => ⟨⟨(.inr (hk.1.1.1.1.1.1)), ⟨hk.1.1.1.1.1.2, ⟨hk.1.1.1.2, ⟨hk.1.1.2, ⟨hk.1.2, hk.2⟩⟩⟩⟩⟩, fun e_ => (hk.1.1.1.1.2) (by rw [e_]; rfl)⟩)))) (fun _ hk => hk))
 have HG39 := HZ39.2
 replace HZ39 := HZ39.1
 have HP39 := HZ39
 clear HZ39
 (try simp only [show ((Kd.slice 2 (Kd.int .i64))).sz = 1 from rfl, Nat.mul_one, Nat.add_zero] at HP39 HG39)
 rw [← Ny249.out] at HP39
 have HQ39 := Aside0.mk HP39
 clear hcl39 hcc39 hfr39 hM39 HP39
 have p35 : 0 ≤ (1 : Int) := (by omega)
 have q35 : (1 : Int) < ((y236.length : Int) : Int) := of_decide_eq_true am_
 have qi35 : (1 < y236.length) = True := eq_true (by omega)
 obtain ⟨ce35, hcl35, hM35, hcc35, hfr35⟩ := Kd.N_elem HQ39.out [] (1 : Int) p35 q35
 obtain ⟨ua35_0, uc35_0, rfl, ul35_0, ge35_0⟩ := Kd.FK_slice_open hM35
 have hx35_0 := hcc35 0 _ rfl
 have hf35_0 := hfr35 0
 (try simp only [show ((Kd.slice 2 (Kd.int .i64))).sz = 1 from rfl, Nat.mul_one, Nat.add_zero] at hx35_0)
 (try simp only [show ((Kd.slice 2 (Kd.int .i64))).sz = 1 from rfl, Nat.mul_one, Nat.add_zero] at hf35_0)
 clear hcl35 hcc35 hfr35 hM35
 (try rw [show ((1 : Int)).toNat = 1 from rfl] at hx35_0)
 (try simp only [Nat.reduceMul, Nat.zero_mul, Nat.zero_add, Nat.reduceAdd] at hx35_0)
 (try rw [show ((1 : Int)).toNat = 1 from rfl] at hf35_0)
 (try simp only [Nat.reduceMul, Nat.zero_mul, Nat.zero_add, Nat.reduceAdd] at hf35_0)
 obtain ⟨ce35b, hcl35b, hM35b, hcc35b, hfr35b⟩ := Kd.N_elem HX39.out [] (1 : Int) p35 q35
 obtain ⟨ua35b_0, uc35b_0, rfl, ul35b_0, ge35b_0⟩ := Kd.FK_slice_open hM35b
 have hx35b_0 := hcc35b 0 _ rfl
 have hf35b_0 := hfr35b 0
 (try simp only [show ((Kd.slice 2 (Kd.int .i64))).sz = 1 from rfl, Nat.mul_one, Nat.add_zero] at hx35b_0)
 (try simp only [show ((Kd.slice 2 (Kd.int .i64))).sz = 1 from rfl, Nat.mul_one, Nat.add_zero] at hf35b_0)
 (try rw [show ((1 : Int)).toNat = 1 from rfl] at hx35b_0)
 (try simp only [Nat.reduceMul, Nat.zero_mul, Nat.zero_add, Nat.reduceAdd] at hx35b_0)
 (try rw [show ((1 : Int)).toNat = 1 from rfl] at hf35b_0)
 (try simp only [Nat.reduceMul, Nat.zero_mul, Nat.zero_add, Nat.reduceAdd] at hf35b_0)
 clear hcl35b hM35b hcc35b hfr35b
 replace p35 := eq_true p35
 replace q35 := eq_true q35
 obtain ⟨Ao8247, co8247, eo8247⟩ := Kd.R_slice HO248.out
 subst eo8247
 have HX40 := Aside0.mk (show Kd.N (Kd.slice 2 (Kd.int .i64)) 53 _ w.heap.size (fun k_ => (P1_1_ k_ ∨ w.heap.size ≤ k_) ∧ some k_ ≠ ((.slice Ao8247 t243.length co8247) : Value).ownBlock ∧ k_ ≠ gb228 ∧ k_ ≠ gb229 ∧ k_ ≠ gb230 ∧ k_ ≠ gb232) (.slice (some ⟨go34, 0, none⟩) y236.length co37) y249 from (Kd.N_mono (HQ39.out) (fun k_ hk => ⟨hk.1, ⟨hk.2.1, ⟨hk.2.2.1, ⟨hk.2.2.2.1, ⟨hk.2.2.2.2.1, hk.2.2.2.2.2⟩⟩⟩⟩⟩)))
 replace HX40 := Aside0.mk (show Kd.N (Kd.slice 2 (Kd.int .i64)) 53 _ w.heap.size (fun k_ => (P1_1_ k_ ∨ w.heap.size ≤ k_) ∧ k_ ≠ gb228 ∧ k_ ≠ gb229 ∧ k_ ≠ gb230 ∧ k_ ≠ gb232) (.slice (some ⟨go34, 0, none⟩) y236.length co37) y249 from Kd.N_mono HX40.out (fun k_ hk => ⟨hk.1, ⟨hk.2.2.1, ⟨hk.2.2.2.1, ⟨hk.2.2.2.2.1, hk.2.2.2.2.2⟩⟩⟩⟩))
 obtain ⟨ce40, hcl40, hM40, hcc40, hfr40⟩ := Kd.N_elem HX40.out [] (1 : Int) (by omega) (by have h_ : (1 : Int) < ((y236.length : Int) : Int) := of_decide_eq_true am_; first | exact h_ | (have e_ := (Kd.N_reads' HO238.out).1; omega) | simpa using h_)
 obtain ⟨ua40_0, uc40_0, rfl, ul40_0, ge40_0⟩ := Kd.FK_slice_open hM40
 have HP40 := (Kd.N_seg HX40.out (1 : Int) (by omega) (by have h_ : (1 : Int) < ((y236.length : Int) : Int) := of_decide_eq_true am_; first | exact h_ | (have e_ := (Kd.N_reads' HO238.out).1; omega) | simpa using h_) (seg := [(.slice Ao8247 t243.length co8247)]) (j := 0) hcl40 hcc40 (show 1 ≤ 1 from by decide) (x' := t243) (Kd.FK_slice_mk (Kd.R_reads' (Kd.R_mono (ok' := (fun k_ => ((fun k_ => (P1_1_ k_ ∨ w.heap.size ≤ k_) ∧ k_ ≠ gb228 ∧ k_ ≠ gb229 ∧ k_ ≠ gb230 ∧ k_ ≠ gb232)) k_ ∧ k_ ≠ go34)) (Kd.R_grown (Kd.R_types (Kd.R_types (Kd.R_types (Kd.R_types (Kd.R_apart' (HO248.out) (Kd.N_typed HO238.out) (by decide)) BK228.out (by decide)) BK229.out (by decide)) BK230.out (by decide)) BK232.out (by decide)) HG39 (fun k_ hk e_ => hk.1.1.1.1.2 (e_.trans rfl))) (fun k_ hk => ⟨⟨(.inr (hk.1.1.1.1.1.1)), ⟨hk.1.1.1.2, ⟨hk.1.1.2, ⟨hk.1.2, hk.2⟩⟩⟩⟩, fun e_ => (hk.1.1.1.1.2) (by rw [e_]; rfl)⟩))).2.1 (Kd.R_F (Kd.R_mono (ok' := (fun k_ => ((fun k_ => (P1_1_ k_ ∨ w.heap.size ≤ k_) ∧ k_ ≠ gb228 ∧ k_ ≠ gb229 ∧ k_ ≠ gb230 ∧ k_ ≠ gb232)) k_ ∧ k_ ≠ go34)) (Kd.R_grown (Kd.R_types (Kd.R_types (Kd.R_types (Kd.R_types (Kd.R_apart' (HO248.out) (Kd.N_typed HO238.out) (by decide)) BK228.out (by decide)) BK229.out (by decide)) BK230.out (by decide)) BK232.out (by decide)) HG39 (fun k_ hk e_ => hk.1.1.1.1.2 (e_.trans rfl))) (fun k_ hk => ⟨⟨(.inr (hk.1.1.1.1.1.1)), ⟨hk.1.1.1.2, ⟨hk.1.1.2, ⟨hk.1.2, hk.2⟩⟩⟩⟩, fun e_ => (hk.1.1.1.1.2) (by rw [e_]; rfl)⟩)))) (fun _ hk => hk)).1
 (try simp only [show ((Kd.slice 2 (Kd.int .i64))).sz = 1 from rfl, Nat.mul_one, Nat.add_zero] at HP40)
 rw [← Ny250.out] at HP40
 have HQ40 := Aside0.mk HP40
 clear hcl40 hcc40 hfr40 hM40 HP40
 refine hK.out _ _ ⟨HS0_, HS1_⟩ (fun hHeld => ?_)
 clear hK K
 refine norm_ (a' := ?_) ?_ ?_
 rotate_left
 {
 show Act.put _ (some 38) _ = _
 exact sp_}
 refine pu_ 9 (some 29) (B_ 17 1023) HT_ ?_
 refine pu_ 10 (some 39) (B_ 17 2047) HT_ ?_
 refine pu_ 11 (some 40) (B_ 17 4095) HT_ ?_
 refine pu_ 12 (some 41) (B_ 17 8191) HT_ ?_
 refine pu_ 13 (some 42) (B_ 17 16383) HT_ ?_
 refine last_ (i := 14) (N := none) (B_ 17 32767) rfl rfl (one_of HT_.out kf_) (by decide) (fun K hK => ?_)
 refine skip_ (w1 := ?_) (by rfl) rfl ?_ ?_
 rotate_left
 {
 go_simp
 rfl}
 refine hK.out _ _ ?_
 clear hK K
 refine pu_ 15 (some 43) (B_ 17 65535) HT_ ?_
 refine last_ (i := 16) (N := none) (B_ 17 131071) rfl rfl (one_of HT_.out kf_) (by decide) (fun K hK => ?_)
 refine skip_ (w1 := ?_) (by rfl) rfl ?_ ?_
 rotate_left
 {
 go_simp
 rfl}
 refine hK.out _ _ ?_
 clear hK K
 refine done_ (done_of HT_.out kf_) ?_
 try go_wp2
 go_meet
 case rel => exact ⟨_, (y250), H', ⟨ol_⟩, ⟨kN_ HQ40⟩, ⟨by (with_reducible repeat (first | apply Kd.V_alloc | apply Kd.V_drewN | apply Kd.V_drew)); exact Kd.V_mono (Kd.V_far (p := ⟨go34, 1, none⟩) (Kd.V_far (p := ⟨go34, 0, none⟩) (Kd.V_mono HO1_1.out (fun k_ hk => (⟨hk, fun e_ => hk.1.1.2 (by rw [e_]; rfl)⟩ : _ ∧ k_ ≠ go34))) (fun _ hk => hk.2) ((.slice Ao8245 t242.length co8245))) (fun _ hk => hk.2) ((.slice Ao8247 t243.length co8247))) (fun _ hk => ⟨hk.1.1.1.1.1, ⟨hk.1.1.1.2, ⟨hk.1.1.1.1.2.1, ⟨hk.1.1.1.1.2.2.1, ⟨hk.1.1.1.1.2.2.2.1, hk.1.1.1.1.2.2.2.2⟩⟩⟩⟩⟩)⟩, ⟨by (with_reducible repeat (first | refine blk_drewN ?_ _ | refine blk_drew ?_ | refine blk_alloc ?_ _)); refine blk_far ?_ (by have h_ := Kd.N_away HX40.out (fun _ hk => hk.2.1); intro e_; exact h_ (by rw [e_]; rfl)) _; (with_reducible repeat (first | refine blk_drewN ?_ _ | refine blk_drew ?_ | refine blk_alloc ?_ _)); refine blk_far ?_ (by have h_ := Kd.N_away HX40.out (fun _ hk => hk.2.1); intro e_; exact h_ (by rw [e_]; rfl)) _; (with_reducible repeat (first | refine blk_drewN ?_ _ | refine blk_drew ?_ | refine blk_alloc ?_ _)); exact BK228.out⟩, ⟨by (with_reducible repeat (first | refine blk_drewN ?_ _ | refine blk_drew ?_ | refine blk_alloc ?_ _)); refine blk_far ?_ (by have h_ := Kd.N_away HX40.out (fun _ hk => hk.2.2.1); intro e_; exact h_ (by rw [e_]; rfl)) _; (with_reducible repeat (first | refine blk_drewN ?_ _ | refine blk_drew ?_ | refine blk_alloc ?_ _)); refine blk_far ?_ (by have h_ := Kd.N_away HX40.out (fun _ hk => hk.2.2.1); intro e_; exact h_ (by rw [e_]; rfl)) _; (with_reducible repeat (first | refine blk_drewN ?_ _ | refine blk_drew ?_ | refine blk_alloc ?_ _)); exact BK229.out⟩, ⟨by (with_reducible repeat (first | refine blk_drewN ?_ _ | refine blk_drew ?_ | refine blk_alloc ?_ _)); refine blk_far ?_ (by have h_ := Kd.N_away HX40.out (fun _ hk => hk.2.2.2.1); intro e_; exact h_ (by rw [e_]; rfl)) _; (with_reducible repeat (first | refine blk_drewN ?_ _ | refine blk_drew ?_ | refine blk_alloc ?_ _)); refine blk_far ?_ (by have h_ := Kd.N_away HX40.out (fun _ hk => hk.2.2.2.1); intro e_; exact h_ (by rw [e_]; rfl)) _; (with_reducible repeat (first | refine blk_drewN ?_ _ | refine blk_drew ?_ | refine blk_alloc ?_ _)); exact BK230.out⟩, ⟨by (with_reducible repeat (first | refine blk_drewN ?_ _ | refine blk_drew ?_ | refine blk_alloc ?_ _)); refine blk_far ?_ (by have h_ := Kd.N_away HX40.out (fun _ hk => hk.2.2.2.2); intro e_; exact h_ (by rw [e_]; rfl)) _; (with_reducible repeat (first | refine blk_drewN ?_ _ | refine blk_drew ?_ | refine blk_alloc ?_ _)); refine blk_far ?_ (by have h_ := Kd.N_away HX40.out (fun _ hk => hk.2.2.2.2); intro e_; exact h_ (by rw [e_]; rfl)) _; (with_reducible repeat (first | refine blk_drewN ?_ _ | refine blk_drew ?_ | refine blk_alloc ?_ _)); exact BK232.out⟩, ⟨by repeat (first | (with_reducible first | exact HB.out | apply below_alloc | apply pw_below_drewN | apply below_drew1 | refine below_set ?_ GB34.out | refine below_set ?_ GB34.out | refine below_set ?_ GE228.out | refine below_set ?_ GE229.out | refine below_set ?_ GE230.out | refine below_set ?_ GE232.out) | exact HB.out)⟩⟩}
 {
 rw [if_neg c32] at H
 exact absurd H (by simp)}}
 {
 rw [if_neg c31] at H
 exact absurd H (by simp)}}
 {
 replace c30 := Bool.eq_false_iff.mpr c30
 subst c30
 rw [if_neg (show ¬ (false = true) by decide)] at H
 have H' := Aside0.mk H
 clear H
 go_wp2
 go_meet
 case rel => exact ⟨_, (y236), H', ⟨ol_⟩, ⟨kN_ HO238⟩, ⟨by (with_reducible repeat (first | apply Kd.V_alloc | apply Kd.V_drewN | apply Kd.V_drew)); exact Kd.V_mono HO1_1.out (fun _ hk => ⟨hk.1.1, ⟨hk.2, ⟨hk.1.2.1, ⟨hk.1.2.2.1, ⟨hk.1.2.2.2.1, hk.1.2.2.2.2⟩⟩⟩⟩⟩)⟩, ⟨bk_ BK228⟩, ⟨bk_ BK229⟩, ⟨bk_ BK230⟩, ⟨bk_ BK232⟩, ⟨bl_ HB⟩⟩})
 case rest => (
 clear HC7
 try clear c4
 try clear c5
 try clear hcz13_0
 try clear hcz13_1
 try clear hcz13_2
 try clear hcz13_3
 try clear hcz15_0
 try clear hcz15_1
 try clear hcz17_0
 try clear hcz17_1
 try clear hcz17_2
 try clear hcz17_3
 try clear hcz22_0
 try clear hcz22_1
 try clear hcz22_2
 try clear hcz22_3
 try clear hcz25_0
 try clear hcz25_1
 try clear hcz27_0
 try clear hcz27_1
 try clear hcz27_2
 try clear hcz27_3
 try clear hcz28_0
 try clear hcz28_1
 try clear hfz13_0
 try clear hfz13_1
 try clear hfz13_2
 try clear hfz13_3
 try clear hfz15_0
 try clear hfz15_1
 try clear hfz17_0
 try clear hfz17_1
 try clear hfz17_2
 try clear hfz17_3
 try clear hfz22_0
 try clear hfz22_1
 try clear hfz22_2
 try clear hfz22_3
 try clear hfz25_0
 try clear hfz25_1
 try clear hfz27_0
 try clear hfz27_1
 try clear hfz27_2
 try clear hfz27_3
 try clear hfz28_0
 try clear hfz28_1
 obtain ⟨kq, x7_6, HA, HJ6, HO_7, HO_230001, BK228, BK229, BK230, BK232, HB⟩ := hcut
 cases kq with
 | zero => exact absurd HA.out (by simp [vcodec_Decode.j0])
 | succ kj6 => (
 have H := HA.out
 clear HA
 simp only [vcodec_Decode.j0] at H
 have H' := Aside0.mk H
 clear H
 go_wp2_with (first | ((with_reducible refine gate_dst (N := 8) rfl ?_); refine box_ 8 #[.slice none 0 0] 37 ?_; intro gb251 hg w41 hbox hb; replace HO_7 := Aside0.mk (Kd.N_below (Kd.N_elderB (kN_ HO_7) gb251 (Nat.le_of_eq hg.symm)) hb); replace HO_230001 := Aside0.mk (Kd.V_below (Kd.V_elderB (kV_ HO_230001) gb251 (Nat.le_of_eq hg.symm)) hb); have BK251 := Aside0.mk (hbox); have GW251 := GE_ HB hg; have GE251 := GE_ HB hg; replace HB := BS_ HB hb; obtain ⟨NB228_251, NB251_228⟩ := NN_ BK228 hg; replace BK228 := FB_ BK228 hb; obtain ⟨NB229_251, NB251_229⟩ := NN_ BK229 hg; replace BK229 := FB_ BK229 hb; obtain ⟨NB230_251, NB251_230⟩ := NN_ BK230 hg; replace BK230 := FB_ BK230 hb; obtain ⟨NB232_251, NB251_232⟩ := NN_ BK232 hg; replace BK232 := FB_ BK232 hb; clear hb hbox hg; have hnb42 := NB229_228.out; have hnc42 := NB228_229.out; have hnb43 := NB229_230.out; have hnc43 := NB230_229.out; have hnb44 := NB229_232.out; have hnc44 := NB232_229.out; have hnb45 := NB229_251.out; have hnc45 := NB251_229.out; obtain ⟨hcz46_0, hcz46_1, hfz46_0, hfz46_1⟩ := e2_ BK229))
 go_loopg [47] kj6 (fun kq v47 w' => ∃ (x47_2 : Int) (x252000_2 : List (List Int)) (u252000 : Value), v47 = .int .i64 x47_2 ∧ Aside0 (vcodec_Decode.l0 kq x7_6 l1_0 (l1_0.length : Int) x47_2 x252000_2 = some (r1, r2)) ∧ Aside0 (kq ≤ kj6) ∧ Aside0 (Kd.N (Kd.slice 2 (Kd.int .i64)) 53 w' w.heap.size (fun k_ => (P1_1_ k_ ∨ w.heap.size ≤ k_) ∧ some k_ ≠ (u252000 : Value).ownBlock ∧ k_ ≠ gb228 ∧ k_ ≠ gb229 ∧ k_ ≠ gb230 ∧ k_ ≠ gb232 ∧ k_ ≠ gb251) v237 x7_6) ∧ Aside0 (Kd.V (Kd.slice 2 (Kd.int .i64)) 53 w' w.heap.size (fun k_ => (P1_1_ k_ ∨ w.heap.size ≤ k_) ∧ some k_ ≠ (v237 : Value).ownBlock ∧ some k_ ≠ (u252000 : Value).ownBlock ∧ k_ ≠ gb228 ∧ k_ ≠ gb229 ∧ k_ ≠ gb230 ∧ k_ ≠ gb232 ∧ k_ ≠ gb251) (.slice A1_1 l1_1.length c1_1) l1_1) ∧ Aside0 (Kd.N (Kd.slice 2 (Kd.int .i64)) 53 w' w.heap.size (fun k_ => (P1_1_ k_ ∨ w.heap.size ≤ k_) ∧ some k_ ≠ (v237 : Value).ownBlock ∧ k_ ≠ gb228 ∧ k_ ≠ gb229 ∧ k_ ≠ gb230 ∧ k_ ≠ gb232 ∧ k_ ≠ gb251) u252000 x252000_2) ∧ Aside0 (w'.heap[gb228]? = some (.cells #[.int .i64 a0_0, .int .i64 a0_1, (.slice A0_2 l0_2.length c0_2), (.slice A0_3 l0_3.length c0_3)] 24 (0, 0))) ∧ Aside0 (w'.heap[gb229]? = some (.cells #[(.slice A1_0 l1_0.length c1_0), (.slice A1_1 l1_1.length c1_1)] 28 (0, 0))) ∧ Aside0 (w'.heap[gb230]? = some (.cells #[(.slice none 0 0)] 37 (0, 0))) ∧ Aside0 (w'.heap[gb232]? = some (.cells #[.int .i64 a0_0, .int .i64 a0_1, (.slice A0_2 l0_2.length c0_2), (.slice A0_3 l0_3.length c0_3)] 61 (0, 0))) ∧ Aside0 (w'.heap[gb251]? = some (.cells #[u252000] 37 (0, 0))) ∧ Aside0 (Below w.heap.size w w'))
 case atStart => exact ⟨(0), (([] : List (List Int))), (.slice none 0 0), rs_, H', ⟨Nat.le_refl _⟩, ⟨by (with_reducible repeat (first | apply Kd.N_alloc | apply Kd.N_drewN | apply Kd.N_drew)); exact Kd.N_mono HO_7.out (fun _ hk => ⟨hk.1.1, ⟨(by simp [Value.ownBlock]), ⟨hk.1.2.1, ⟨hk.1.2.2.1, ⟨hk.1.2.2.2.1, ⟨hk.1.2.2.2.2, hk.2⟩⟩⟩⟩⟩⟩)⟩, ⟨by (with_reducible repeat (first | apply Kd.V_alloc | apply Kd.V_drewN | apply Kd.V_drew)); exact Kd.V_mono HO_230001.out (fun _ hk => ⟨hk.1.1, ⟨hk.1.2.1, ⟨(by simp [Value.ownBlock]), ⟨hk.1.2.2.1, ⟨hk.1.2.2.2.1, ⟨hk.1.2.2.2.2.1, ⟨hk.1.2.2.2.2.2, hk.2⟩⟩⟩⟩⟩⟩⟩)⟩, ⟨kn_⟩, ⟨bk_ BK228⟩, ⟨bk_ BK229⟩, ⟨bk_ BK230⟩, ⟨bk_ BK232⟩, ⟨bk_ BK251⟩, ⟨bl_ HB⟩⟩
 case round => (
 clear H'
 try clear c4
 try clear c5
 try clear hcz13_0
 try clear hcz13_1
 try clear hcz13_2
 try clear hcz13_3
 try clear hcz15_0
 try clear hcz15_1
 try clear hcz17_0
 try clear hcz17_1
 try clear hcz17_2
 try clear hcz17_3
 try clear hcz22_0
 try clear hcz22_1
 try clear hcz22_2
 try clear hcz22_3
 try clear hcz25_0
 try clear hcz25_1
 try clear hcz27_0
 try clear hcz27_1
 try clear hcz27_2
 try clear hcz27_3
 try clear hcz28_0
 try clear hcz28_1
 try clear hcz46_0
 try clear hcz46_1
 try clear hfz13_0
 try clear hfz13_1
 try clear hfz13_2
 try clear hfz13_3
 try clear hfz15_0
 try clear hfz15_1
 try clear hfz17_0
 try clear hfz17_1
 try clear hfz17_2
 try clear hfz17_3
 try clear hfz22_0
 try clear hfz22_1
 try clear hfz22_2
 try clear hfz22_3
 try clear hfz25_0
 try clear hfz25_1
 try clear hfz27_0
 try clear hfz27_1
 try clear hfz27_2
 try clear hfz27_3
 try clear hfz28_0
 try clear hfz28_1
 try clear hfz46_0
 try clear hfz46_1
 obtain ⟨x47_2, x252000_2, u252000, rfl, HA, HK2, HO_7, HO_230001, HO_252000, BK228, BK229, BK230, BK232, BK251, HB⟩ := hrel
 cases gk with
 | zero => exact absurd HA.out (by simp [vcodec_Decode.l0])
 | succ k2 => (
 have H := HA.out
 clear HA
 simp only [vcodec_Decode.l0] at H
 by_cases c47 : x47_2 < (l1_0.length : Int)
 {
 rw [if_pos c47] at H
 have c47b0 : decide (x47_2 < (l1_0.length : Int)) = true := decide_eq_true c47
 clear c47
 by_cases c48 : 0 ≤ x47_2
 {
 rw [if_pos c48] at H
 have c48b0 : decide (0 ≤ x47_2) = true := decide_eq_true c48
 clear c48
 by_cases c49 : x47_2 < (l1_0.length : Int)
 {
 rw [if_pos c49] at H
 have c49b0 : decide (x47_2 < (l1_0.length : Int)) = true := decide_eq_true c49
 clear c49
 by_cases c50 : 16 ≤ 35184372088832
 {
 rw [if_pos c50] at H
 have c50b0 := eq_true c50
 have c50b1 : decide (16 ≤ 35184372088832) = true := decide_eq_true c50
 clear c50
 obtain ⟨y253, hy253⟩ : ∃ y_ : List Int, y_ = (List.replicate 16 0) := ⟨_, rfl⟩
 replace H : (if ((rd_L1 l1_0 x47_2).length : Int) > 0 then ((floor_Floor.f k2 (rd_L1 l1_0 x47_2)).bind fun bt256 => (if x47_2 < (x7_6.length : Int) then ((vcodec_near.f k2 (rd_L2 x7_6 x47_2)).bind fun t261 => ((remap_Restore.f k2 t261 bt256.1).bind fun bt264 => (if x252000_2.length < 5864062014805 then (vcodec_Decode.l0 k2 x7_6 l1_0 (l1_0.length : Int) (wrap64 (x47_2 + 1)) (x252000_2 ++ [bt264.1])) else (none)))) else (none))) else (if x252000_2.length < 5864062014805 then (vcodec_Decode.l0 k2 x7_6 l1_0 (l1_0.length : Int) (wrap64 (x47_2 + 1)) (x252000_2 ++ [y253])) else (none))) = some (r1, r2) := by first | (rw [hy253]; with_reducible exact H) | (have H2_ := (Option.bind_some _ _).symm.trans H; rw [hy253]; with_reducible exact H2_) | (have H2_ := (Option.bind_some _ _).symm.trans H; with_reducible exact H2_) | with_reducible exact H | (rw [hy253]; exact H) | exact H
 have Ny253 := Aside0.mk hy253
 clear hy253
 by_cases c51 : ((rd_L1 l1_0 x47_2).length : Int) > 0
 {
 rw [if_pos c51] at H
 have c51b0 : decide (0 < ((rd_L1 l1_0 x47_2).length : Int)) = true := decide_eq_true c51
 have c51b1 : decide (0 < (rd_L1 l1_0 x47_2).length) = true := decide_eq_true (by omega)
 clear c51
 obtain ⟨⟨t256, t257⟩, A52, H⟩ := ob_ H
 (try dsimp only at H)
 by_cases c53 : x47_2 < (x7_6.length : Int)
 {
 rw [if_pos c53] at H
 have c53b0 : decide (x47_2 < (x7_6.length : Int)) = true := decide_eq_true c53
 clear c53
 obtain ⟨t261, A54, H⟩ := ob_ H
 (try dsimp only at H)
 obtain ⟨⟨t264, t265⟩, A55, H⟩ := ob_ H
 (try dsimp only at H)
 by_cases c56 : x252000_2.length < 5864062014805
 {
 rw [if_pos c56] at H
 have LMc56 := Aside0.mk c56
 clear c56
 obtain ⟨y268, hy268⟩ : ∃ y_ : List (List Int), y_ = (x252000_2 ++ [t264]) := ⟨_, rfl⟩
 replace H : (vcodec_Decode.l0 k2 x7_6 l1_0 (l1_0.length : Int) (wrap64 (x47_2 + 1)) y268) = some (r1, r2) := by first | (rw [hy268]; with_reducible exact H) | (have H2_ := (Option.bind_some _ _).symm.trans H; rw [hy268]; with_reducible exact H2_) | (have H2_ := (Option.bind_some _ _).symm.trans H; with_reducible exact H2_) | with_reducible exact H | (rw [hy268]; exact H) | exact H
 have Ny268 := Aside0.mk hy268
 clear hy268
 have H' := Aside0.mk H
 clear H
 have p252 : 0 ≤ (x47_2 : Int) := of_decide_eq_true am_
 have q252 : x47_2 < (l1_0.length : Int) := of_decide_eq_true am_
 obtain ⟨ad252, A252_0, c252_0, e252, hx252_0, hl252_0, hi252_0⟩ := at_L1 HR1_0.out x47_2 p252 q252
 cases e252
 replace hx252_0 := (HB.out.cell (World.block_lt_of_cell? w _ hx252_0)).trans hx252_0
 have HR252_0 := Aside0.mk hi252_0
 have HC252_0 := Aside0.mk hl252_0
 clear hi252_0 hl252_0
 replace p252 := eq_true p252
 replace q252 := eq_true q252
 go_wp2_with (first | ((with_reducible refine gate_dst (N := 52) rfl ?_); refine Kd.R_make (Kd.int .i64) _ 2 rfl (N := 52) rfl 53 _ _ rfl 16 rfl rfl Try.underlying53 (.int .i64 0) 8 info2 rfl (by decide) (by omega) 0 (ok := fun _ => True) (okp := fun _ => True) rfl (fun _ hk => hk) trivial (by omega) (by omega) (Below.refl _ _) (Nat.le_refl _) ?_; intro v254 w57 ho58 hb hg_ hnew_; clear hg_ hnew_; (first | rw [← Ny253.out] at ho58 | (simp only [Int.reduceToNat] at ho58; rw [← Ny253.out] at ho58)); replace HO_7 := Aside0.mk (Kd.N_elder' (kN_ HO_7) (Kd.R_base ho58) hb); replace HO_230001 := Aside0.mk (Kd.V_elder' (kV_ HO_230001) (Kd.R_base ho58) hb); replace HO_252000 := Aside0.mk (Kd.N_elder' (kN_ HO_252000) (Kd.R_base ho58) hb); have HO255 := Aside0.mk (Kd.R_lower (Kd.R_newM (M := fun k_ => (w.heap.size ≤ k_)) ho58 (bs_ HB) (fun k_ h_ => h_)) (bs_ HB)); replace BK228 := FB_ BK228 hb; replace BK229 := FB_ BK229 hb; replace BK230 := FB_ BK230 hb; replace BK232 := FB_ BK232 hb; replace BK251 := FB_ BK251 hb; replace HB := BS_ HB hb; clear hb ho58) | ((with_reducible refine gate_callee (f := 34) rfl ?_); refine gL_ (some 58) Try.func34 #[.slice A252_0 (rd_L1 l1_0 x47_2).length c252_0] ?_; (with_reducible refine (floor_Floor.calls k2 _ _ (rd_L1 l1_0 x47_2) t256 t257 _ ?side1 ?side2 A52.out).mono ?_); (case side1 => exact kC_ HR252_0 HB); (case side2 => exact HC252_0.out); rintro e w59 ⟨v258, rfl, ho0, hb⟩; refine ⟨_, rfl, ?_⟩; replace HO_7 := Aside0.mk (Kd.N_elder' (kN_ HO_7) (Kd.R_base ho0) hb); replace HO_230001 := Aside0.mk (Kd.V_elder' (kV_ HO_230001) (Kd.R_base ho0) hb); replace HO_252000 := Aside0.mk (Kd.N_elder' (kN_ HO_252000) (Kd.R_base ho0) hb); have HO259 := Aside0.mk (Kd.R_lower (Kd.R_new' (Kd.R_newM (M := fun k_ => (w.heap.size ≤ k_)) ho0 (bs_ HB) (fun k_ h_ => h_)) (Kd.R_lt (kR_ HO255))) (bs_ HB)); replace HO255 := Aside0.mk (Kd.R_elder' (kR_ HO255) (Kd.R_base ho0) hb); replace BK228 := FB_ BK228 hb; replace BK229 := FB_ BK229 hb; replace BK230 := FB_ BK230 hb; replace BK232 := FB_ BK232 hb; replace BK251 := FB_ BK251 hb; replace HB := BS_ HB hb; (try clear hb); (try clear hk); (try clear ho0); obtain ⟨Ao60, co60, eo60⟩ := Kd.N_slice HO_7.out; subst eo60; have p260 : 0 ≤ (x47_2 : Int) := of_decide_eq_true am_; have q260 : x47_2 < (x7_6.length : Int) := of_decide_eq_true am_; obtain ⟨ad260, A260_0, c260_0, e260, hx260_0, hl260_0, hi260_0⟩ := at_L2 (Kd.N_reads' HO_7.out).2.2 x47_2 p260 q260; cases e260; obtain ⟨ce260, hce260, hMe260, hcc260⟩ := Kd.N_get HO_7.out [] x47_2 p260 (by first | exact q260 | exact of_decide_eq_true am_ | (have e_ := (Kd.N_reads' HO_7.out).1; omega)); obtain ⟨ua260_0, uc260_0, rfl, ul260_0, ge260_0⟩ := Kd.FK_slice_open hMe260; have hv260_0 := hcc260 0 _ rfl; rw [Nat.add_zero, show ((Kd.slice 2 (Kd.int .i64))).sz = 1 from rfl, Nat.mul_one] at hv260_0; replace hv260_0 := Option.some.inj (hv260_0.symm.trans hx260_0); injection hv260_0 with hva_ hvn_ hvc_; rw [hva_] at ge260_0; rw [hvc_] at ul260_0; have HL260_0 := Aside0.mk (show Kd.V (Kd.int .i64) 2 _ w.heap.size _ _ (rd_L2 x7_6 x47_2) from Kd.V_mk ul260_0 ge260_0); clear hva_ hvn_ hvc_ ge260_0 ul260_0; clear hcc260 hce260; have HR260_0 := Aside0.mk hi260_0; have HC260_0 := Aside0.mk hl260_0; clear hi260_0 hl260_0; replace p260 := eq_true p260; replace q260 := eq_true q260) | ((with_reducible refine gate_callee (f := 36) rfl ?_); refine gL_ (some 66) Try.func36 #[.slice A260_0 (rd_L2 x7_6 x47_2).length c260_0] ?_; (with_reducible refine (vcodec_near.calls k2 _ _ (rd_L2 x7_6 x47_2) t261 _ ?side1 ?side2 A54.out).mono ?_); (case side1 => repeat (first | exact (by repeat (first | (with_reducible exact HR260_0.out) | (with_reducible refine Kd.C_alloc ?_ _) | (with_reducible refine Kd.C_drewN ?_ _) | (with_reducible refine Kd.C_drew ?_) | exact HR260_0.out)) | (with_reducible refine Kd.C_alloc ?_ _) | (with_reducible refine Kd.C_drewN ?_ _) | (with_reducible refine Kd.C_drew ?_))); (case side2 => exact HC260_0.out); rintro e w61 ⟨v262, rfl, ho0, hb⟩; refine ⟨_, rfl, ?_⟩; replace HO_7 := Aside0.mk (Kd.N_elder' (kN_ HO_7) (Kd.R_base ho0) hb); replace HO_230001 := Aside0.mk (Kd.V_elder' (kV_ HO_230001) (Kd.R_base ho0) hb); replace HO_252000 := Aside0.mk (Kd.N_elder' (kN_ HO_252000) (Kd.R_base ho0) hb); replace HL260_0 := Aside0.mk (Kd.V_elder' (kV_ HL260_0) (Kd.R_base ho0) hb); have HO263 := Aside0.mk (Kd.R_lower (Kd.R_new' (Kd.R_new' (Kd.R_newM (M := fun k_ => (w.heap.size ≤ k_)) ho0 (bs_ HB) (fun k_ h_ => h_)) (Kd.R_lt (kR_ HO255))) (Kd.R_lt (kR_ HO259))) (bs_ HB)); replace HO255 := Aside0.mk (Kd.R_elder' (kR_ HO255) (Kd.R_base ho0) hb); replace HO259 := Aside0.mk (Kd.R_elder' (kR_ HO259) (Kd.R_base ho0) hb); replace BK228 := FB_ BK228 hb; replace BK229 := FB_ BK229 hb; replace BK230 := FB_ BK230 hb; replace BK232 := FB_ BK232 hb; replace BK251 := FB_ BK251 hb; replace HR260_0 := Aside0.mk (Kd.C_below (by repeat (first | (with_reducible exact HR260_0.out) | (with_reducible refine Kd.C_alloc ?_ _) | (with_reducible refine Kd.C_drewN ?_ _) | (with_reducible refine Kd.C_drew ?_) | exact HR260_0.out)) hb); replace HB := BS_ HB hb; (try clear hb); (try clear hk); (try clear ho0); obtain ⟨Ao62, co62, eo62⟩ := Kd.R_slice HO263.out; subst eo62; obtain ⟨Ao63, co63, eo63⟩ := Kd.R_slice HO259.out; subst eo63) | ((with_reducible refine gate_callee (f := 35) rfl ?_); refine gL_ (some 68) Try.func35 #[.slice Ao62 t261.length co62, .slice Ao63 t256.length co63] ?_; (with_reducible refine (remap_Restore.calls k2 _ _ t261 _ _ t256 t264 t265 _ ?side1 ?side2 ?side3 ?side4 A55.out).mono ?_); (case side1 => exact kCt_ (Kd.R_reads' HO263.out).2.2); (case side2 => exact (Kd.R_reads' HO263.out).2.1); (case side3 => exact kCt_ (Kd.R_reads' HO259.out).2.2); (case side4 => exact (Kd.R_reads' HO259.out).2.1); rintro e w64 ⟨v266, rfl, ho0, hb⟩; refine ⟨_, rfl, ?_⟩; replace HO_7 := Aside0.mk (Kd.N_elder' (kN_ HO_7) (Kd.R_base ho0) hb); replace HO_230001 := Aside0.mk (Kd.V_elder' (kV_ HO_230001) (Kd.R_base ho0) hb); replace HO_252000 := Aside0.mk (Kd.N_elder' (kN_ HO_252000) (Kd.R_base ho0) hb); replace HL260_0 := Aside0.mk (Kd.V_elder' (kV_ HL260_0) (Kd.R_base ho0) hb); have HO267 := Aside0.mk (Kd.R_lower (Kd.R_new' (Kd.R_new' (Kd.R_new' (Kd.R_newM (M := fun k_ => (w.heap.size ≤ k_)) ho0 (bs_ HB) (fun k_ h_ => h_)) (Kd.R_lt (kR_ HO255))) (Kd.R_lt (kR_ HO259))) (Kd.R_lt (kR_ HO263))) (bs_ HB)); replace HO255 := Aside0.mk (Kd.R_elder' (kR_ HO255) (Kd.R_base ho0) hb); replace HO259 := Aside0.mk (Kd.R_elder' (kR_ HO259) (Kd.R_base ho0) hb); replace HO263 := Aside0.mk (Kd.R_elder' (kR_ HO263) (Kd.R_base ho0) hb); replace BK228 := FB_ BK228 hb; replace BK229 := FB_ BK229 hb; replace BK230 := FB_ BK230 hb; replace BK232 := FB_ BK232 hb; replace BK251 := FB_ BK251 hb; replace HR260_0 := Aside0.mk (Kd.C_below (by repeat (first | (with_reducible exact HR260_0.out) | (with_reducible refine Kd.C_alloc ?_ _) | (with_reducible refine Kd.C_drewN ?_ _) | (with_reducible refine Kd.C_drew ?_) | exact HR260_0.out)) hb); replace HB := BS_ HB hb; (try clear hb); (try clear hk); (try clear ho0); have hnb65 := NB251_228.out; have hnc65 := NB228_251.out; have hnb66 := NB251_229.out; have hnc66 := NB229_251.out; have hnb67 := NB251_230.out; have hnc67 := NB230_251.out; have hnb68 := NB251_232.out; have hnc68 := NB232_251.out; obtain ⟨hcz69_0, hfz69_0⟩ := e1_ BK251; obtain ⟨Ao71, co71, eo71⟩ := Kd.R_slice HO267.out; subst eo71) | ((with_reducible refine gate_builtin (b := .append) (xs := #[.tmp 72, .tmp 74]) rfl ?_); at_builtin; refine Kd.N_append (Kd.slice 2 (Kd.int .i64)) (w0 := w) w.heap.size rfl (.tmp 72) (.tmp 74) 26 53 (.slice none 0 0) 24 rfl Try.underlying26 info53 rfl (by decide) (by omega) u252000 x252000_2 t264 [.slice Ao71 t264.length co71] (fun k_ => (P1_1_ k_ ∨ w.heap.size ≤ k_) ∧ some k_ ≠ (.slice (some ad260) x7_6.length co60 : Value).ownBlock ∧ some k_ ≠ (v254 : Value).ownBlock ∧ some k_ ≠ (.slice Ao63 t256.length co63 : Value).ownBlock ∧ some k_ ≠ (.slice Ao62 t261.length co62 : Value).ownBlock ∧ k_ ≠ gb228 ∧ k_ ≠ gb229 ∧ k_ ≠ gb230 ∧ k_ ≠ gb232 ∧ k_ ≠ gb251) (fun k_ => ((fun k_ => (P1_1_ k_ ∨ w.heap.size ≤ k_) ∧ some k_ ≠ (.slice (some ad260) x7_6.length co60 : Value).ownBlock ∧ some k_ ≠ (v254 : Value).ownBlock ∧ some k_ ≠ (.slice Ao63 t256.length co63 : Value).ownBlock ∧ some k_ ≠ (.slice Ao62 t261.length co62 : Value).ownBlock ∧ k_ ≠ gb228 ∧ k_ ≠ gb229 ∧ k_ ≠ gb230 ∧ k_ ≠ gb232 ∧ k_ ≠ gb251)) k_ ∧ some k_ ≠ (u252000 : Value).ownBlock) rfl rfl ?aP (fun _ hk => hk) ?aF ?aO ?aB ?aS ?aL ?_; (case aP => exact (Kd.FK_slice_mk (Kd.R_reads' (Kd.R_mono (ok' := (fun k_ => ((fun k_ => (P1_1_ k_ ∨ w.heap.size ≤ k_) ∧ some k_ ≠ (.slice (some ad260) x7_6.length co60 : Value).ownBlock ∧ some k_ ≠ (v254 : Value).ownBlock ∧ some k_ ≠ (.slice Ao63 t256.length co63 : Value).ownBlock ∧ some k_ ≠ (.slice Ao62 t261.length co62 : Value).ownBlock ∧ k_ ≠ gb228 ∧ k_ ≠ gb229 ∧ k_ ≠ gb230 ∧ k_ ≠ gb232 ∧ k_ ≠ gb251)) k_ ∧ some k_ ≠ (u252000 : Value).ownBlock)) (Kd.R_types (Kd.R_types (Kd.R_types (Kd.R_types (Kd.R_types (Kd.R_apart' (Kd.R_apart' (HO267.out) (Kd.N_typed HO_7.out) (by decide)) (Kd.N_typed HO_252000.out) (by decide)) BK228.out (by decide)) BK229.out (by decide)) BK230.out (by decide)) BK232.out (by decide)) BK251.out (by decide)) (fun k_ hk => ⟨⟨(.inr (hk.1.1.1.1.1.1.1.1.1.1.1)), ⟨hk.1.1.1.1.1.1.2, ⟨hk.1.1.1.1.1.1.1.1.1.2, ⟨hk.1.1.1.1.1.1.1.1.2, ⟨hk.1.1.1.1.1.1.1.2, ⟨hk.1.1.1.1.2, ⟨hk.1.1.1.2, ⟨hk.1.1.2, ⟨hk.1.2, hk.2⟩⟩⟩⟩⟩⟩⟩⟩⟩, hk.1.1.1.1.1.2⟩))).2.1 (Kd.R_F (Kd.R_mono (ok' := (fun k_ => ((fun k_ => (P1_1_ k_ ∨ w.heap.size ≤ k_) ∧ some k_ ≠ (.slice (some ad260) x7_6.length co60 : Value).ownBlock ∧ some k_ ≠ (v254 : Value).ownBlock ∧ some k_ ≠ (.slice Ao63 t256.length co63 : Value).ownBlock ∧ some k_ ≠ (.slice Ao62 t261.length co62 : Value).ownBlock ∧ k_ ≠ gb228 ∧ k_ ≠ gb229 ∧ k_ ≠ gb230 ∧ k_ ≠ gb232 ∧ k_ ≠ gb251)) k_ ∧ some k_ ≠ (u252000 : Value).ownBlock)) (Kd.R_types (Kd.R_types (Kd.R_types (Kd.R_types (Kd.R_types (Kd.R_apart' (Kd.R_apart' (HO267.out) (Kd.N_typed HO_7.out) (by decide)) (Kd.N_typed HO_252000.out) (by decide)) BK228.out (by decide)) BK229.out (by decide)) BK230.out (by decide)) BK232.out (by decide)) BK251.out (by decide)) (fun k_ hk => ⟨⟨(.inr (hk.1.1.1.1.1.1.1.1.1.1.1)), ⟨hk.1.1.1.1.1.1.2, ⟨hk.1.1.1.1.1.1.1.1.1.2, ⟨hk.1.1.1.1.1.1.1.1.2, ⟨hk.1.1.1.1.1.1.1.2, ⟨hk.1.1.1.1.2, ⟨hk.1.1.1.2, ⟨hk.1.1.2, ⟨hk.1.2, hk.2⟩⟩⟩⟩⟩⟩⟩⟩⟩, hk.1.1.1.1.1.2⟩))))); (case aB => exact (bl_ HB)); (case aF => exact (fun k_ hk => ⟨(.inr (Nat.le_trans (bs_ HB) hk)), Kd.fresh' (Kd.N_lt (kN_ HO_7)) k_ hk, Kd.fresh' (Kd.R_lt (kR_ HO255)) k_ hk, Kd.fresh' (Kd.R_lt (kR_ HO259)) k_ hk, Kd.fresh' (Kd.R_lt (kR_ HO263)) k_ hk, Kd.freshB (g := gb228) (o := .cells #[.int .i64 a0_0, .int .i64 a0_1, .slice A0_2 l0_2.length c0_2, .slice A0_3 l0_3.length c0_3] 24 (0, 0)) (bk_ BK228) k_ hk, Kd.freshB (g := gb229) (o := .cells #[.slice (some ad252) l1_0.length c1_0, .slice A1_1 l1_1.length c1_1] 28 (0, 0)) (bk_ BK229) k_ hk, Kd.freshB (g := gb230) (o := .cells #[.slice none 0 0] 37 (0, 0)) (bk_ BK230) k_ hk, Kd.freshB (g := gb232) (o := .cells #[.int .i64 a0_0, .int .i64 a0_1, .slice A0_2 l0_2.length c0_2, .slice A0_3 l0_3.length c0_3] 61 (0, 0)) (bk_ BK232) k_ hk, Kd.freshB (g := gb251) (o := .cells #[u252000] 37 (0, 0)) (bk_ BK251) k_ hk⟩)); (case aO => exact (by (with_reducible repeat (first | apply Kd.N_alloc | apply Kd.N_drewN | apply Kd.N_drew)); exact Kd.N_mono HO_252000.out (fun _ hk => ⟨hk.1.1.1.1.1, ⟨hk.1.1.1.1.2.1, ⟨hk.1.1.1.2, ⟨hk.1.1.2, ⟨hk.1.2, ⟨hk.1.1.1.1.2.2.1, ⟨hk.1.1.1.1.2.2.2.1, ⟨hk.1.1.1.1.2.2.2.2.1, ⟨hk.1.1.1.1.2.2.2.2.2.1, hk.1.1.1.1.2.2.2.2.2.2⟩⟩⟩⟩⟩⟩⟩⟩⟩))); (case aS => exact (bs_ HB)); (case aL => have := LMc56.out; omega); intro v269 w70 ho hb hg hat; rw [← Ny268.out] at ho; replace HO_7 := Aside0.mk (Kd.N_afterv (ok := (fun k_ => (P1_1_ k_ ∨ w.heap.size ≤ k_) ∧ some k_ ≠ (v254 : Value).ownBlock ∧ some k_ ≠ (.slice Ao63 t256.length co63 : Value).ownBlock ∧ some k_ ≠ (.slice Ao62 t261.length co62 : Value).ownBlock ∧ some k_ ≠ (.slice Ao71 t264.length co71 : Value).ownBlock ∧ k_ ≠ gb228 ∧ k_ ≠ gb229 ∧ k_ ≠ gb230 ∧ k_ ≠ gb232 ∧ k_ ≠ gb251)) (by (with_reducible repeat (first | apply Kd.N_alloc | apply Kd.N_drewN | apply Kd.N_drew)); exact Kd.N_mono HO_7.out (fun _ hk => ⟨⟨hk.1.1.1.1.1, ⟨hk.1.1.1.2, ⟨hk.1.1.2, ⟨hk.1.2, ⟨hk.2, ⟨hk.1.1.1.1.2.2.1, ⟨hk.1.1.1.1.2.2.2.1, ⟨hk.1.1.1.1.2.2.2.2.1, ⟨hk.1.1.1.1.2.2.2.2.2.1, hk.1.1.1.1.2.2.2.2.2.2⟩⟩⟩⟩⟩⟩⟩⟩⟩, hk.1.1.1.1.2.1⟩)) hg hat); replace HO_230001 := Aside0.mk (Kd.V_afterv (ok := (fun k_ => (P1_1_ k_ ∨ w.heap.size ≤ k_) ∧ some k_ ≠ (.slice (some ad260) x7_6.length co60 : Value).ownBlock ∧ some k_ ≠ (v254 : Value).ownBlock ∧ some k_ ≠ (.slice Ao63 t256.length co63 : Value).ownBlock ∧ some k_ ≠ (.slice Ao62 t261.length co62 : Value).ownBlock ∧ some k_ ≠ (.slice Ao71 t264.length co71 : Value).ownBlock ∧ k_ ≠ gb228 ∧ k_ ≠ gb229 ∧ k_ ≠ gb230 ∧ k_ ≠ gb232 ∧ k_ ≠ gb251)) (by (with_reducible repeat (first | apply Kd.V_alloc | apply Kd.V_drewN | apply Kd.V_drew)); exact Kd.V_mono HO_230001.out (fun _ hk => ⟨⟨hk.1.1.1.1.1, ⟨hk.1.1.1.1.2.1, ⟨hk.1.1.1.2, ⟨hk.1.1.2, ⟨hk.1.2, ⟨hk.2, ⟨hk.1.1.1.1.2.2.2.1, ⟨hk.1.1.1.1.2.2.2.2.1, ⟨hk.1.1.1.1.2.2.2.2.2.1, ⟨hk.1.1.1.1.2.2.2.2.2.2.1, hk.1.1.1.1.2.2.2.2.2.2.2⟩⟩⟩⟩⟩⟩⟩⟩⟩⟩, hk.1.1.1.1.2.2.1⟩)) hg hat); replace BK228 := (FG_ BK228 hg (Kd.N_ne HO_252000.out BK228.out (by decide))); replace BK229 := (FG_ BK229 hg (Kd.N_ne HO_252000.out BK229.out (by decide))); replace BK230 := (FG_ BK230 hg (Kd.N_ne HO_252000.out BK230.out (by decide))); replace BK232 := (FG_ BK232 hg (Kd.N_ne HO_252000.out BK232.out (by decide))); replace BK251 := (FG_ BK251 hg (Kd.N_ne HO_252000.out BK251.out (by decide))); replace HO255 := Aside0.mk (Kd.R_over' (kR_ HO255) (Kd.N_typed (kN_ HO_252000)) (by decide) hg); replace HO259 := Aside0.mk (Kd.R_over' (kR_ HO259) (Kd.N_typed (kN_ HO_252000)) (by decide) hg); replace HL260_0 := Aside0.mk (Kd.V_afterv (ok := (fun k_ => (P1_1_ k_ ∨ w.heap.size ≤ k_) ∧ some k_ ≠ (.slice (some ad260) x7_6.length co60 : Value).ownBlock ∧ some k_ ≠ (v254 : Value).ownBlock ∧ some k_ ≠ (.slice Ao63 t256.length co63 : Value).ownBlock ∧ some k_ ≠ (.slice Ao62 t261.length co62 : Value).ownBlock ∧ some k_ ≠ (.slice Ao71 t264.length co71 : Value).ownBlock ∧ k_ ≠ gb228 ∧ k_ ≠ gb229 ∧ k_ ≠ gb230 ∧ k_ ≠ gb232 ∧ k_ ≠ gb251)) (by (with_reducible repeat (first | apply Kd.V_alloc | apply Kd.V_drewN | apply Kd.V_drew)); exact Kd.V_mono HL260_0.out (fun _ hk => ⟨⟨hk.1.1.1.1.1.1, ⟨hk.1.1.2, ⟨hk.1.1.1.1.2, ⟨hk.1.1.1.2, ⟨hk.1.2, ⟨hk.2, ⟨hk.1.1.1.1.1.2.2.1, ⟨hk.1.1.1.1.1.2.2.2.1, ⟨hk.1.1.1.1.1.2.2.2.2.1, ⟨hk.1.1.1.1.1.2.2.2.2.2.1, hk.1.1.1.1.1.2.2.2.2.2.2⟩⟩⟩⟩⟩⟩⟩⟩⟩⟩, hk.1.1.1.1.1.2.1⟩)) hg hat); replace HO263 := Aside0.mk (Kd.R_over' (kR_ HO263) (Kd.N_typed (kN_ HO_252000)) (by decide) hg); replace HB := Aside0.mk (hb); have HO270 := Aside0.mk (ho); clear HO_252000 HO267; clear ho hb hg hat; obtain ⟨Ao72, co72, eo72⟩ := Kd.N_slice HO270.out; subst eo72; obtain ⟨hcz73_0, hfz73_0⟩ := e1_ BK251))
 go_roundg k2
 case measure => have := HJ6.out; have := HK2.out; omega
 case rel => exact ⟨(wrap64 (x47_2 + 1)), (y268), (.slice Ao72 y268.length co72), rs_, H', ⟨by have := HJ6.out; have := HK2.out; omega⟩, ⟨by (with_reducible repeat (first | apply Kd.N_alloc | apply Kd.N_drewN | apply Kd.N_drew)); exact Kd.N_mono (Kd.N_far (p := ⟨gb251, 0, none⟩) (Kd.N_mono HO_7.out (fun k_ hk => (⟨hk, hk.1.2.2.2.2.2.2.2.2.2⟩ : _ ∧ k_ ≠ gb251))) (fun _ hk => hk.2) (.slice Ao72 y268.length co72)) (fun _ hk => ⟨hk.1.1.1, ⟨hk.1.2, ⟨hk.1.1.2.2.2.2.2.1, ⟨hk.1.1.2.2.2.2.2.2.1, ⟨hk.1.1.2.2.2.2.2.2.2.1, ⟨hk.1.1.2.2.2.2.2.2.2.2.1, hk.1.1.2.2.2.2.2.2.2.2.2⟩⟩⟩⟩⟩⟩)⟩, ⟨by (with_reducible repeat (first | apply Kd.V_alloc | apply Kd.V_drewN | apply Kd.V_drew)); exact Kd.V_mono (Kd.V_far (p := ⟨gb251, 0, none⟩) (Kd.V_mono HO_230001.out (fun k_ hk => (⟨hk, hk.1.2.2.2.2.2.2.2.2.2.2⟩ : _ ∧ k_ ≠ gb251))) (fun _ hk => hk.2) (.slice Ao72 y268.length co72)) (fun _ hk => ⟨hk.1.1.1, ⟨hk.1.1.2.1, ⟨hk.1.2, ⟨hk.1.1.2.2.2.2.2.2.1, ⟨hk.1.1.2.2.2.2.2.2.2.1, ⟨hk.1.1.2.2.2.2.2.2.2.2.1, ⟨hk.1.1.2.2.2.2.2.2.2.2.2.1, hk.1.1.2.2.2.2.2.2.2.2.2.2⟩⟩⟩⟩⟩⟩⟩)⟩, ⟨by (with_reducible repeat (first | apply Kd.N_alloc | apply Kd.N_drewN | apply Kd.N_drew)); exact Kd.N_mono (Kd.N_far (p := ⟨gb251, 0, none⟩) (Kd.N_mono HO270.out (fun k_ hk => (⟨hk, hk.2.2.2.2.2.2.2.2.2⟩ : _ ∧ k_ ≠ gb251))) (fun _ hk => hk.2) (.slice Ao72 y268.length co72)) (fun _ hk => ⟨hk.1.1, ⟨hk.1.2.1, ⟨hk.1.2.2.2.2.2.1, ⟨hk.1.2.2.2.2.2.2.1, ⟨hk.1.2.2.2.2.2.2.2.1, ⟨hk.1.2.2.2.2.2.2.2.2.1, hk.1.2.2.2.2.2.2.2.2.2⟩⟩⟩⟩⟩⟩)⟩, ⟨bk_ BK228⟩, ⟨bk_ BK229⟩, ⟨bk_ BK230⟩, ⟨bk_ BK232⟩, ⟨bp_ BK251⟩, ⟨bl_ HB⟩⟩}
 {
 rw [if_neg c56] at H
 exact absurd H (by simp)}}
 {
 rw [if_neg c53] at H
 exact absurd H (by simp)}}
 {
 rw [if_neg c51] at H
 have c51b0 : decide (0 < ((rd_L1 l1_0 x47_2).length : Int)) = false := decide_eq_false c51
 have c51b1 : decide (0 < (rd_L1 l1_0 x47_2).length) = false := decide_eq_false (by omega)
 clear c51
 by_cases c74 : x252000_2.length < 5864062014805
 {
 rw [if_pos c74] at H
 have LMc74 := Aside0.mk c74
 clear c74
 obtain ⟨y271, hy271⟩ : ∃ y_ : List (List Int), y_ = (x252000_2 ++ [y253]) := ⟨_, rfl⟩
 replace H : (vcodec_Decode.l0 k2 x7_6 l1_0 (l1_0.length : Int) (wrap64 (x47_2 + 1)) y271) = some (r1, r2) := by first | (rw [hy271]; with_reducible exact H) | (have H2_ := (Option.bind_some _ _).symm.trans H; rw [hy271]; with_reducible exact H2_) | (have H2_ := (Option.bind_some _ _).symm.trans H; with_reducible exact H2_) | with_reducible exact H | (rw [hy271]; exact H) | exact H
 have Ny271 := Aside0.mk hy271
 clear hy271
 have H' := Aside0.mk H
 clear H
 have p252 : 0 ≤ (x47_2 : Int) := of_decide_eq_true am_
 have q252 : x47_2 < (l1_0.length : Int) := of_decide_eq_true am_
 obtain ⟨ad252, A252_0, c252_0, e252, hx252_0, hl252_0, hi252_0⟩ := at_L1 HR1_0.out x47_2 p252 q252
 cases e252
 replace hx252_0 := (HB.out.cell (World.block_lt_of_cell? w _ hx252_0)).trans hx252_0
 have HR252_0 := Aside0.mk hi252_0
 have HC252_0 := Aside0.mk hl252_0
 clear hi252_0 hl252_0
 replace p252 := eq_true p252
 replace q252 := eq_true q252
 go_wp2_with (first | ((with_reducible refine gate_dst (N := 52) rfl ?_); refine Kd.R_make (Kd.int .i64) _ 2 rfl (N := 52) rfl 53 _ _ rfl 16 rfl rfl Try.underlying53 (.int .i64 0) 8 info2 rfl (by decide) (by omega) 0 (ok := fun _ => True) (okp := fun _ => True) rfl (fun _ hk => hk) trivial (by omega) (by omega) (Below.refl _ _) (Nat.le_refl _) ?_; intro v254 w75 ho76 hb hg_ hnew_; clear hg_ hnew_; (first | rw [← Ny253.out] at ho76 | (simp only [Int.reduceToNat] at ho76; rw [← Ny253.out] at ho76)); replace HO_7 := Aside0.mk (Kd.N_elder' (kN_ HO_7) (Kd.R_base ho76) hb); replace HO_230001 := Aside0.mk (Kd.V_elder' (kV_ HO_230001) (Kd.R_base ho76) hb); replace HO_252000 := Aside0.mk (Kd.N_elder' (kN_ HO_252000) (Kd.R_base ho76) hb); have HO255 := Aside0.mk (Kd.R_lower (Kd.R_newM (M := fun k_ => (w.heap.size ≤ k_)) ho76 (bs_ HB) (fun k_ h_ => h_)) (bs_ HB)); replace BK228 := FB_ BK228 hb; replace BK229 := FB_ BK229 hb; replace BK230 := FB_ BK230 hb; replace BK232 := FB_ BK232 hb; replace BK251 := FB_ BK251 hb; replace HB := BS_ HB hb; clear hb ho76; have hnb77 := NB251_228.out; have hnc77 := NB228_251.out; have hnb78 := NB251_229.out; have hnc78 := NB229_251.out; have hnb79 := NB251_230.out; have hnc79 := NB230_251.out; have hnb80 := NB251_232.out; have hnc80 := NB232_251.out; obtain ⟨hcz81_0, hfz81_0⟩ := e1_ BK251; obtain ⟨Ao83, co83, eo83⟩ := Kd.R_slice HO255.out; subst eo83) | ((with_reducible refine gate_builtin (b := .append) (xs := #[.tmp 72, .tmp 74]) rfl ?_); at_builtin; refine Kd.N_append (Kd.slice 2 (Kd.int .i64)) (w0 := w) w.heap.size rfl (.tmp 72) (.tmp 74) 26 53 (.slice none 0 0) 24 rfl Try.underlying26 info53 rfl (by decide) (by omega) u252000 x252000_2 y253 [.slice Ao83 y253.length co83] (fun k_ => (P1_1_ k_ ∨ w.heap.size ≤ k_) ∧ some k_ ≠ (v237 : Value).ownBlock ∧ k_ ≠ gb228 ∧ k_ ≠ gb229 ∧ k_ ≠ gb230 ∧ k_ ≠ gb232 ∧ k_ ≠ gb251) (fun k_ => ((fun k_ => (P1_1_ k_ ∨ w.heap.size ≤ k_) ∧ some k_ ≠ (v237 : Value).ownBlock ∧ k_ ≠ gb228 ∧ k_ ≠ gb229 ∧ k_ ≠ gb230 ∧ k_ ≠ gb232 ∧ k_ ≠ gb251)) k_ ∧ some k_ ≠ (u252000 : Value).ownBlock) rfl rfl ?aP (fun _ hk => hk) ?aF ?aO ?aB ?aS ?aL ?_; (case aP => exact (Kd.FK_slice_mk (Kd.R_reads' (Kd.R_mono (ok' := (fun k_ => ((fun k_ => (P1_1_ k_ ∨ w.heap.size ≤ k_) ∧ some k_ ≠ (v237 : Value).ownBlock ∧ k_ ≠ gb228 ∧ k_ ≠ gb229 ∧ k_ ≠ gb230 ∧ k_ ≠ gb232 ∧ k_ ≠ gb251)) k_ ∧ some k_ ≠ (u252000 : Value).ownBlock)) (Kd.R_types (Kd.R_types (Kd.R_types (Kd.R_types (Kd.R_types (Kd.R_apart' (Kd.R_apart' (HO255.out) (Kd.N_typed HO_7.out) (by decide)) (Kd.N_typed HO_252000.out) (by decide)) BK228.out (by decide)) BK229.out (by decide)) BK230.out (by decide)) BK232.out (by decide)) BK251.out (by decide)) (fun k_ hk => ⟨⟨(.inr (hk.1.1.1.1.1.1.1.1)), ⟨hk.1.1.1.1.1.1.2, ⟨hk.1.1.1.1.2, ⟨hk.1.1.1.2, ⟨hk.1.1.2, ⟨hk.1.2, hk.2⟩⟩⟩⟩⟩⟩, hk.1.1.1.1.1.2⟩))).2.1 (Kd.R_F (Kd.R_mono (ok' := (fun k_ => ((fun k_ => (P1_1_ k_ ∨ w.heap.size ≤ k_) ∧ some k_ ≠ (v237 : Value).ownBlock ∧ k_ ≠ gb228 ∧ k_ ≠ gb229 ∧ k_ ≠ gb230 ∧ k_ ≠ gb232 ∧ k_ ≠ gb251)) k_ ∧ some k_ ≠ (u252000 : Value).ownBlock)) (Kd.R_types (Kd.R_types (Kd.R_types (Kd.R_types (Kd.R_types (Kd.R_apart' (Kd.R_apart' (HO255.out) (Kd.N_typed HO_7.out) (by decide)) (Kd.N_typed HO_252000.out) (by decide)) BK228.out (by decide)) BK229.out (by decide)) BK230.out (by decide)) BK232.out (by decide)) BK251.out (by decide)) (fun k_ hk => ⟨⟨(.inr (hk.1.1.1.1.1.1.1.1)), ⟨hk.1.1.1.1.1.1.2, ⟨hk.1.1.1.1.2, ⟨hk.1.1.1.2, ⟨hk.1.1.2, ⟨hk.1.2, hk.2⟩⟩⟩⟩⟩⟩, hk.1.1.1.1.1.2⟩))))); (case aB => exact (bl_ HB)); (case aF => exact (fun k_ hk => ⟨(.inr (Nat.le_trans (bs_ HB) hk)), Kd.fresh' (Kd.N_lt (kN_ HO_7)) k_ hk, Kd.freshB (g := gb228) (o := .cells #[.int .i64 a0_0, .int .i64 a0_1, .slice A0_2 l0_2.length c0_2, .slice A0_3 l0_3.length c0_3] 24 (0, 0)) (bk_ BK228) k_ hk, Kd.freshB (g := gb229) (o := .cells #[.slice (some ad252) l1_0.length c1_0, .slice A1_1 l1_1.length c1_1] 28 (0, 0)) (bk_ BK229) k_ hk, Kd.freshB (g := gb230) (o := .cells #[.slice none 0 0] 37 (0, 0)) (bk_ BK230) k_ hk, Kd.freshB (g := gb232) (o := .cells #[.int .i64 a0_0, .int .i64 a0_1, .slice A0_2 l0_2.length c0_2, .slice A0_3 l0_3.length c0_3] 61 (0, 0)) (bk_ BK232) k_ hk, Kd.freshB (g := gb251) (o := .cells #[u252000] 37 (0, 0)) (bk_ BK251) k_ hk⟩)); (case aO => exact (by (with_reducible repeat (first | apply Kd.N_alloc | apply Kd.N_drewN | apply Kd.N_drew)); exact Kd.N_mono HO_252000.out (fun _ hk => ⟨hk.1.1, ⟨hk.1.2.1, ⟨hk.1.2.2.1, ⟨hk.1.2.2.2.1, ⟨hk.1.2.2.2.2.1, ⟨hk.1.2.2.2.2.2.1, hk.1.2.2.2.2.2.2⟩⟩⟩⟩⟩⟩))); (case aS => exact (bs_ HB)); (case aL => have := LMc74.out; omega); intro v272 w82 ho hb hg hat; rw [← Ny271.out] at ho; replace HO_7 := Aside0.mk (Kd.N_afterv (ok := (fun k_ => (P1_1_ k_ ∨ w.heap.size ≤ k_) ∧ some k_ ≠ (.slice Ao83 y253.length co83 : Value).ownBlock ∧ k_ ≠ gb228 ∧ k_ ≠ gb229 ∧ k_ ≠ gb230 ∧ k_ ≠ gb232 ∧ k_ ≠ gb251)) (by (with_reducible repeat (first | apply Kd.N_alloc | apply Kd.N_drewN | apply Kd.N_drew)); exact Kd.N_mono HO_7.out (fun _ hk => ⟨⟨hk.1.1, ⟨hk.2, ⟨hk.1.2.2.1, ⟨hk.1.2.2.2.1, ⟨hk.1.2.2.2.2.1, ⟨hk.1.2.2.2.2.2.1, hk.1.2.2.2.2.2.2⟩⟩⟩⟩⟩⟩, hk.1.2.1⟩)) hg hat); replace HO_230001 := Aside0.mk (Kd.V_afterv (ok := (fun k_ => (P1_1_ k_ ∨ w.heap.size ≤ k_) ∧ some k_ ≠ (v237 : Value).ownBlock ∧ some k_ ≠ (.slice Ao83 y253.length co83 : Value).ownBlock ∧ k_ ≠ gb228 ∧ k_ ≠ gb229 ∧ k_ ≠ gb230 ∧ k_ ≠ gb232 ∧ k_ ≠ gb251)) (by (with_reducible repeat (first | apply Kd.V_alloc | apply Kd.V_drewN | apply Kd.V_drew)); exact Kd.V_mono HO_230001.out (fun _ hk => ⟨⟨hk.1.1, ⟨hk.1.2.1, ⟨hk.2, ⟨hk.1.2.2.2.1, ⟨hk.1.2.2.2.2.1, ⟨hk.1.2.2.2.2.2.1, ⟨hk.1.2.2.2.2.2.2.1, hk.1.2.2.2.2.2.2.2⟩⟩⟩⟩⟩⟩⟩, hk.1.2.2.1⟩)) hg hat); replace BK228 := (FG_ BK228 hg (Kd.N_ne HO_252000.out BK228.out (by decide))); replace BK229 := (FG_ BK229 hg (Kd.N_ne HO_252000.out BK229.out (by decide))); replace BK230 := (FG_ BK230 hg (Kd.N_ne HO_252000.out BK230.out (by decide))); replace BK232 := (FG_ BK232 hg (Kd.N_ne HO_252000.out BK232.out (by decide))); replace BK251 := (FG_ BK251 hg (Kd.N_ne HO_252000.out BK251.out (by decide))); replace HB := Aside0.mk (hb); have HO273 := Aside0.mk (ho); clear HO_252000 HO255; clear ho hb hg hat; obtain ⟨Ao84, co84, eo84⟩ := Kd.N_slice HO273.out; subst eo84; obtain ⟨hcz85_0, hfz85_0⟩ := e1_ BK251))
 go_roundg k2
 case measure => have := HJ6.out; have := HK2.out; omega
 case rel => exact ⟨(wrap64 (x47_2 + 1)), (y271), (.slice Ao84 y271.length co84), rs_, H', ⟨by have := HJ6.out; have := HK2.out; omega⟩, ⟨by (with_reducible repeat (first | apply Kd.N_alloc | apply Kd.N_drewN | apply Kd.N_drew)); exact Kd.N_mono (Kd.N_far (p := ⟨gb251, 0, none⟩) (Kd.N_mono HO_7.out (fun k_ hk => (⟨hk, hk.1.2.2.2.2.2.2⟩ : _ ∧ k_ ≠ gb251))) (fun _ hk => hk.2) (.slice Ao84 y271.length co84)) (fun _ hk => ⟨hk.1.1.1, ⟨hk.1.2, ⟨hk.1.1.2.2.1, ⟨hk.1.1.2.2.2.1, ⟨hk.1.1.2.2.2.2.1, ⟨hk.1.1.2.2.2.2.2.1, hk.1.1.2.2.2.2.2.2⟩⟩⟩⟩⟩⟩)⟩, ⟨by (with_reducible repeat (first | apply Kd.V_alloc | apply Kd.V_drewN | apply Kd.V_drew)); exact Kd.V_mono (Kd.V_far (p := ⟨gb251, 0, none⟩) (Kd.V_mono HO_230001.out (fun k_ hk => (⟨hk, hk.1.2.2.2.2.2.2.2⟩ : _ ∧ k_ ≠ gb251))) (fun _ hk => hk.2) (.slice Ao84 y271.length co84)) (fun _ hk => ⟨hk.1.1.1, ⟨hk.1.1.2.1, ⟨hk.1.2, ⟨hk.1.1.2.2.2.1, ⟨hk.1.1.2.2.2.2.1, ⟨hk.1.1.2.2.2.2.2.1, ⟨hk.1.1.2.2.2.2.2.2.1, hk.1.1.2.2.2.2.2.2.2⟩⟩⟩⟩⟩⟩⟩)⟩, ⟨by (with_reducible repeat (first | apply Kd.N_alloc | apply Kd.N_drewN | apply Kd.N_drew)); exact Kd.N_mono (Kd.N_far (p := ⟨gb251, 0, none⟩) (Kd.N_mono HO273.out (fun k_ hk => (⟨hk, hk.2.2.2.2.2.2⟩ : _ ∧ k_ ≠ gb251))) (fun _ hk => hk.2) (.slice Ao84 y271.length co84)) (fun _ hk => ⟨hk.1.1, ⟨hk.1.2.1, ⟨hk.1.2.2.1, ⟨hk.1.2.2.2.1, ⟨hk.1.2.2.2.2.1, ⟨hk.1.2.2.2.2.2.1, hk.1.2.2.2.2.2.2⟩⟩⟩⟩⟩⟩)⟩, ⟨bk_ BK228⟩, ⟨bk_ BK229⟩, ⟨bk_ BK230⟩, ⟨bk_ BK232⟩, ⟨bp_ BK251⟩, ⟨bl_ HB⟩⟩}
 {
 rw [if_neg c74] at H
 exact absurd H (by simp)}}}
 {
 rw [if_neg c50] at H
 exact absurd H (by simp)}}
 {
 rw [if_neg c49] at H
 exact absurd H (by simp)}}
 {
 rw [if_neg c48] at H
 exact absurd H (by simp)}}
 {
 rw [if_neg c47] at H
 have c47b0 : decide (x47_2 < (l1_0.length : Int)) = false := decide_eq_false c47
 clear c47
 simp only [Option.some.injEq, Prod.mk.injEq] at H
 obtain ⟨rfl, rfl⟩ := H
 have hnb86 := NB251_228.out
 have hnc86 := NB228_251.out
 have hnb87 := NB251_229.out
 have hnc87 := NB229_251.out
 have hnb88 := NB251_230.out
 have hnc88 := NB230_251.out
 have hnb89 := NB251_232.out
 have hnc89 := NB232_251.out
 obtain ⟨hcz90_0, hfz90_0⟩ := e1_ BK251
 obtain ⟨Ao91, co91, eo91⟩ := Kd.N_slice HO_252000.out
 subst eo91
 have hnb92 := NB230_228.out
 have hnc92 := NB228_230.out
 have hnb93 := NB230_229.out
 have hnc93 := NB229_230.out
 have hnb94 := NB230_232.out
 have hnc94 := NB232_230.out
 obtain ⟨hcz95_0, hfz95_0⟩ := e1_ BK230
 go_wp2
 refine bodyPost_ret (results_ct rfl _ _ gb230 37 #[.slice Ao91 x252000_2.length co91] (0, 0) _ rfl (bp_ BK230) Try.underlying37 rfl kf_) rfl ?_
 exact ⟨_, by first | rfl | (simp [errW_none, errW_some] <;> rfl) | (simp [*, errW_none, errW_some] <;> rfl), by (with_reducible repeat (first | apply Kd.N_alloc | apply Kd.N_drewN | apply Kd.N_drew)); exact Kd.N_mono (Kd.N_far (p := ⟨gb230, 0, none⟩) (Kd.N_mono HO_252000.out (fun k_ hk => (⟨hk, hk.2.2.2.2.1⟩ : _ ∧ k_ ≠ gb230))) (fun _ hk => hk.2) (.slice Ao91 x252000_2.length co91)) (fun _ hk => hk.1.1), bl_ HB⟩}))))}
 {
 rw [if_neg c5] at H
 exact absurd H (by simp)}}
 {
 replace c4 := Bool.eq_false_iff.mpr c4
 subst c4
 rw [if_neg (show ¬ (false = true) by decide)] at H
 simp only [Option.some.injEq, Prod.mk.injEq] at H
 obtain ⟨rfl, rfl⟩ := H
 go_enter Try.func14, Try.ntmps14
 go_wp2_with (first | ((with_reducible refine gate_dst (N := 2) rfl ?_); refine box_ 2 #[.int .i64 a0_0, .int .i64 a0_1, .slice A0_2 l0_2.length c0_2, .slice A0_3 l0_3.length c0_3] 24 ?_; intro gb228 hg w96 hbox hb; replace HO1_1 := Aside0.mk (Kd.V_below (Kd.V_elderB (kV_ HO1_1) gb228 (Nat.le_of_eq hg.symm)) hb); have BK228 := Aside0.mk (hbox); have GW228 := GE_ HB hg; have GE228 := GE_ HB hg; replace HB := BS_ HB hb; clear hb hbox hg) | ((with_reducible refine gate_dst (N := 3) rfl ?_); refine box_ 3 #[.slice A1_0 l1_0.length c1_0, .slice A1_1 l1_1.length c1_1] 28 ?_; intro gb229 hg w97 hbox hb; replace HO1_1 := Aside0.mk (Kd.V_below (Kd.V_elderB (kV_ HO1_1) gb229 (Nat.le_of_eq hg.symm)) hb); have BK229 := Aside0.mk (hbox); have GW229 := GE_ HB hg; have GE229 := GE_ HB hg; replace HB := BS_ HB hb; obtain ⟨NB228_229, NB229_228⟩ := NN_ BK228 hg; replace BK228 := FB_ BK228 hb; clear hb hbox hg) | ((with_reducible refine gate_dst (N := 4) rfl ?_); refine box_ 4 #[.slice none 0 0] 37 ?_; intro gb230 hg w98 hbox hb; replace HO1_1 := Aside0.mk (Kd.V_below (Kd.V_elderB (kV_ HO1_1) gb230 (Nat.le_of_eq hg.symm)) hb); have BK230 := Aside0.mk (hbox); have GW230 := GE_ HB hg; have GE230 := GE_ HB hg; replace HB := BS_ HB hb; obtain ⟨NB228_230, NB230_228⟩ := NN_ BK228 hg; replace BK228 := FB_ BK228 hb; obtain ⟨NB229_230, NB230_229⟩ := NN_ BK229 hg; replace BK229 := FB_ BK229 hb; clear hb hbox hg; have hnb99 := NB228_229.out; have hnc99 := NB229_228.out; have hnb100 := NB228_230.out; have hnc100 := NB230_228.out; obtain ⟨hcz101_0, hcz101_1, hcz101_2, hcz101_3, hfz101_0, hfz101_1, hfz101_2, hfz101_3⟩ := e4_ BK228; have hnb102 := NB229_230.out; have hnc102 := NB230_229.out; obtain ⟨hcz103_0, hcz103_1, hfz103_0, hfz103_1⟩ := e2_ BK229) | ((with_reducible refine gate_callee (f := 21) rfl ?_); refine gL_ (some 16) Try.func21 #[.agg #[.int .i64 a0_0, .int .i64 a0_1, .slice A0_2 l0_2.length c0_2, .slice A0_3 l0_3.length c0_3], .agg #[.slice A1_0 l1_0.length c1_0, .slice A1_1 l1_1.length c1_1]] ?_; (with_reducible refine (vpack_Right.calls k a0_0 a0_1 _ _ l0_2 _ _ l0_3 _ _ l1_0 _ _ l1_1 false _ ?side1 ?side2 ?side3 ?side4 ?side5 ?side6 ?side7 ?side8 A3.out).mono ?_); (case side1 => exact kC_ HR0_2 HB); (case side2 => exact HC0_2.out); (case side3 => exact kC_ HR0_3 HB); (case side4 => exact HC0_3.out); (case side5 => exact kC_ HR1_0 HB); (case side6 => exact HC1_0.out); (case side7 => exact kCt_ (Kd.V_reads' HO1_1.out).2.2); (case side8 => exact (Kd.V_reads' HO1_1.out).2.1); rintro e w104 ⟨rfl, hb⟩; refine ⟨_, rfl, ?_⟩; replace HO1_1 := FV_ HO1_1 hb; replace BK228 := FB_ BK228 hb; replace BK229 := FB_ BK229 hb; replace BK230 := FB_ BK230 hb; replace HB := BS_ HB hb; (try clear hb); obtain ⟨hcz105_0, hfz105_0⟩ := e1_ BK230))
 refine bodyPost_ret (results_ct rfl _ _ gb230 37 #[.slice none 0 0] (0, 0) _ rfl (bp_ BK230) Try.underlying37 rfl kf_) rfl ?_
 exact ⟨_, by first | rfl | (simp [errW_none, errW_some] <;> rfl) | (simp [*, errW_none, errW_some] <;> rfl), by first | exact Kd.S_nil _ _ _ _ _ | exact Kd.N_nil _ _ _ _ _ | exact Kd.V_nil _ _ _ _ _ | exact Kd.Q_nil _ _ _ _ _ | exact Kd.R_nil _ _ _ _ _, bl_ HB⟩}
def pvq_fair.l0 : Nat → List Int → List Int → Int → Int → Option (Bool)
  | 0, _, _, _, _ => none
  | k + 1, x0, x5, x6, x7 => if x7 < x6 then (if 0 ≤ x7 then (if x7 < (x5.length : Int) then ((num_Clamp.f (rd x5 x7) (-1048576) 1048576).bind fun t275 => (if (rd x5 x7) = t275 then (pvq_fair.l0 k x0 x5 x6 (wrap64 (x7 + 1))) else (some false))) else (none)) else (none)) else (if (x0.length : Int) ≥ 1 then (some (decide ((x0.length : Int) ≤ 16))) else (some false))
def pvq_fair.f (k : Nat) (l0 : List Int) : Option (Bool) := pvq_fair.l0 k l0 l0 (l0.length : Int) 0
theorem pvq_fair.mono_l : ∀ k, (∀ y0 y1 y2 y3, LeO (pvq_fair.l0 k y0 y1 y2 y3) (pvq_fair.l0 (k + 1) y0 y1 y2 y3))
  | 0 => fun _ _ _ _ r h => by simp [pvq_fair.l0] at h
  | k + 1 => by
    have ih0 := pvq_fair.mono_l k
    · intro y0 y1 y2 y3
      unfold pvq_fair.l0
      with_reducible repeat' first
   | exact ih0 _ _ _ _
   | exact LeO.refl _
   | exact LeO.none _
   | refine LeO.ite ?_ ?_
   | refine LeO.bind ?_ (fun _ => ?_)
theorem pvq_fair.mono : ∀ a0 k, LeO (pvq_fair.f k a0) (pvq_fair.f (k + 1) a0) := by
  intro a0 k
  have ih0 := pvq_fair.mono_l k
  unfold pvq_fair.f
  with_reducible repeat' first
   | exact ih0 _ _ _ _
   | exact LeO.refl _
   | exact LeO.none _
   | refine LeO.ite ?_ ?_
   | refine LeO.bind ?_ (fun _ => ?_)
set_option maxHeartbeats 8000000 in
set_option maxRecDepth 100000 in
theorem pvq_fair.calls (k : Nat) (A0 : Option Addr) (c0 : Nat) (l0 : List Int) (r : Bool) (w : World) (hr0 : Kd.C (Kd.int .i64) w A0 l0.length l0) (hc0 : l0.length ≤ c0) (h : pvq_fair.f k l0 = some r) :
    Calls Try.prog 102 #[.slice A0 l0.length c0] w fun e w' => e = .returned (.bool r) ∧ Drawn0 w w' := by
 have HR0 := Aside0.mk hr0
 have HC0 := Aside0.mk hc0
 clear hr0 hc0
 have H : (pvq_fair.l0 k l0 l0 (l0.length : Int) 0) = some r := h
 clear h
 have H' := Aside0.mk H
 clear H
 go_enter Try.func102, Try.ntmps102
 go_wp2
 go_loopg [7] k (fun kq v7 w' => ∃ (x7_1 : Int), v7 = .int .i64 x7_1 ∧ Aside0 (pvq_fair.l0 kq l0 l0 (l0.length : Int) x7_1 = some r) ∧ Aside0 (kq ≤ k) ∧ Drawn0 w w')
 case atStart => exact ⟨(0), rs_, H', ⟨Nat.le_refl _⟩, by repeat (first | exact Drawn0.refl _ | apply Drawn0.step)⟩
 case round => (
 clear H'
 obtain ⟨x7_1, rfl, HA, HK1, ⟨m1, rfl⟩⟩ := hrel
 cases gk with
 | zero => exact absurd HA.out (by simp [pvq_fair.l0])
 | succ k1 => (
 have H := HA.out
 clear HA
 simp only [pvq_fair.l0] at H
 by_cases c2 : x7_1 < (l0.length : Int)
 {
 rw [if_pos c2] at H
 have c2b0 : decide (x7_1 < (l0.length : Int)) = true := decide_eq_true c2
 clear c2
 by_cases c3 : 0 ≤ x7_1
 {
 rw [if_pos c3] at H
 have c3b0 : decide (0 ≤ x7_1) = true := decide_eq_true c3
 clear c3
 by_cases c4 : x7_1 < (l0.length : Int)
 {
 rw [if_pos c4] at H
 have c4b0 : decide (x7_1 < (l0.length : Int)) = true := decide_eq_true c4
 clear c4
 obtain ⟨t275, A5, H⟩ := ob_ H
 (try dsimp only at H)
 by_cases c6 : (rd l0 x7_1) = t275
 {
 rw [if_pos c6] at H
 have c6b0 : ((rd l0 x7_1) == t275) = true := beq_iff_eq.mpr c6
 have c6b1 : ((rd l0 x7_1) != t275) = false := bne_eq_false_iff_eq.mpr c6
 clear c6
 have H' := Aside0.mk H
 clear H
 have p274 : 0 ≤ (x7_1 : Int) := of_decide_eq_true am_
 have q274 : x7_1 < (l0.length : Int) := of_decide_eq_true am_
 obtain ⟨ad274, e274, hx274_0⟩ := Kd.at_int HR0.out x7_1 p274 q274
 cases e274
 replace p274 := eq_true p274
 replace q274 := eq_true q274
 go_wp2_with (first | ((with_reducible refine gate_callee (f := 73) rfl ?_); refine gL_ (some 13) Try.func73 #[.int .i64 (rd l0 x7_1), .int .i64 (-1048576), .int .i64 1048576] ?_; (with_reducible refine (num_Clamp.calls (rd l0 x7_1) (-1048576) 1048576 t275 _ A5.out).mono ?_); rintro e w' ⟨rfl, ⟨nd, rfl⟩⟩; refine ⟨_, rfl, ?_⟩))
 go_roundg k1
 case measure => have := HK1.out; omega
 case rel => exact ⟨(wrap64 (x7_1 + 1)), rs_, H', ⟨by have := HK1.out; omega⟩, by repeat (first | exact Drawn0.refl _ | apply Drawn0.step)⟩}
 {
 rw [if_neg c6] at H
 have c6b0 : ((rd l0 x7_1) == t275) = false := beq_eq_false_iff_ne.mpr c6
 have c6b1 : ((rd l0 x7_1) != t275) = true := bne_iff_ne.mpr c6
 obtain rfl := Option.some.inj H
 have p274 : 0 ≤ (x7_1 : Int) := of_decide_eq_true am_
 have q274 : x7_1 < (l0.length : Int) := of_decide_eq_true am_
 obtain ⟨ad274, e274, hx274_0⟩ := Kd.at_int HR0.out x7_1 p274 q274
 cases e274
 replace p274 := eq_true p274
 replace q274 := eq_true q274
 go_wp2_with (first | ((with_reducible refine gate_callee (f := 73) rfl ?_); refine gL_ (some 13) Try.func73 #[.int .i64 (rd l0 x7_1), .int .i64 (-1048576), .int .i64 1048576] ?_; (with_reducible refine (num_Clamp.calls (rd l0 x7_1) (-1048576) 1048576 t275 _ A5.out).mono ?_); rintro e w' ⟨rfl, ⟨nd, rfl⟩⟩; refine ⟨_, rfl, ?_⟩))
 go_ret
 exact ⟨by first | rfl | (simp; done) | (simp [*]; done), by repeat (first | exact Drawn0.refl _ | apply Drawn0.step)⟩}}
 {
 rw [if_neg c4] at H
 exact absurd H (by simp)}}
 {
 rw [if_neg c3] at H
 exact absurd H (by simp)}}
 {
 rw [if_neg c2] at H
 have c2b0 : decide (x7_1 < (l0.length : Int)) = false := decide_eq_false c2
 clear c2
 by_cases c7 : (l0.length : Int) ≥ 1
 {
 rw [if_pos c7] at H
 have c7b0 : decide (1 ≤ (l0.length : Int)) = true := decide_eq_true c7
 have c7b1 : decide (1 ≤ l0.length) = true := decide_eq_true (by omega)
 clear c7
 obtain rfl := Option.some.inj H
 go_wp2
 go_ret
 exact ⟨by first | rfl | (simp; done) | (simp [*]; done), by repeat (first | exact Drawn0.refl _ | apply Drawn0.step)⟩}
 {
 rw [if_neg c7] at H
 have c7b0 : decide (1 ≤ (l0.length : Int)) = false := decide_eq_false c7
 have c7b1 : decide (1 ≤ l0.length) = false := decide_eq_false (by omega)
 clear c7
 obtain rfl := Option.some.inj H
 go_wp2
 go_ret
 exact ⟨by first | rfl | (simp; done) | (simp [*]; done), by repeat (first | exact Drawn0.refl _ | apply Drawn0.step)⟩}}))
def pvq_Square.l0 : Nat → Int → List Int → Int → Int → Option (Int × Int)
  | 0, _, _, _, _ => none
  | k + 1, x4, x10, x11, x12 => if x12 < x11 then (if 0 ≤ x12 then (if x12 < (x10.length : Int) then (pvq_Square.l0 k (IntKind.u64.wrap (x4 + (IntKind.u64.wrap (wrap64 ((rd x10 x12) * (rd x10 x12)))))) x10 x11 (wrap64 (x12 + 1))) else (none)) else (none)) else (some (x4, 0))
def pvq_Square.f (k : Nat) (l0 : List Int) : Option (Int × Int) := (pvq_fair.f k l0).bind fun t276 => (if t276 = true then (pvq_Square.l0 k 0 l0 (l0.length : Int) 0) else (some (0, 1)))
theorem pvq_Square.mono_l : ∀ k, (∀ y0 y1 y2 y3, LeO (pvq_Square.l0 k y0 y1 y2 y3) (pvq_Square.l0 (k + 1) y0 y1 y2 y3))
  | 0 => fun _ _ _ _ r h => by simp [pvq_Square.l0] at h
  | k + 1 => by
    have ih0 := pvq_Square.mono_l k
    · intro y0 y1 y2 y3
      unfold pvq_Square.l0
      with_reducible repeat' first
   | exact ih0 _ _ _ _
   | exact pvq_fair.mono _ _
   | exact LeO.refl _
   | exact LeO.none _
   | refine LeO.ite ?_ ?_
   | refine LeO.bind ?_ (fun _ => ?_)
theorem pvq_Square.mono : ∀ a0 k, LeO (pvq_Square.f k a0) (pvq_Square.f (k + 1) a0) := by
  intro a0 k
  have ih0 := pvq_Square.mono_l k
  unfold pvq_Square.f
  with_reducible repeat' first
   | exact ih0 _ _ _ _
   | exact pvq_fair.mono _ _
   | exact LeO.refl _
   | exact LeO.none _
   | refine LeO.ite ?_ ?_
   | refine LeO.bind ?_ (fun _ => ?_)
set_option maxHeartbeats 8000000 in
set_option maxRecDepth 100000 in
theorem pvq_Square.calls (k : Nat) (A0 : Option Addr) (c0 : Nat) (l0 : List Int) (r1 : Int) (r2 : Int) (w : World) (hr0 : Kd.C (Kd.int .i64) w A0 l0.length l0) (hc0 : l0.length ≤ c0) (h : pvq_Square.f k l0 = some (r1, r2)) :
    Calls Try.prog 80 #[.slice A0 l0.length c0] w fun e w' => e = .returned (.tuple #[.int .u64 r1, .int .i64 r2]) ∧ Drawn0 w w' := by
 have HR0 := Aside0.mk hr0
 have HC0 := Aside0.mk hc0
 clear hr0 hc0
 have H : ((pvq_fair.f k l0).bind fun t276 => (if t276 = true then (pvq_Square.l0 k 0 l0 (l0.length : Int) 0) else (some (0, 1)))) = some (r1, r2) := h
 clear h
 obtain ⟨t276, A2, H⟩ := ob_ H
 (try dsimp only at H)
 by_cases c3 : t276 = true
 {
 subst c3
 rw [if_pos rfl] at H
 have H' := Aside0.mk H
 clear H
 go_enter Try.func80, Try.ntmps80
 go_wp2_with (first | ((with_reducible refine gate_callee (f := 102) rfl ?_); refine gL_ (some 8) Try.func102 #[.slice A0 l0.length c0] ?_; (with_reducible refine (pvq_fair.calls k _ _ l0 true _ ?side1 ?side2 A2.out).mono ?_); (case side1 => repeat (first | exact HR0.out | (with_reducible refine Kd.C_alloc ?_ _) | (with_reducible refine Kd.C_drewN ?_ _) | (with_reducible refine Kd.C_drew ?_))); (case side2 => exact HC0.out); rintro e w' ⟨rfl, ⟨nd, rfl⟩⟩; refine ⟨_, rfl, ?_⟩))
 go_loopg [4, 12] k (fun kq v4 v12 w' => ∃ (x4_1 : Int) (x12_1 : Int), v4 = .int .u64 x4_1 ∧ v12 = .int .i64 x12_1 ∧ Aside0 (pvq_Square.l0 kq x4_1 l0 (l0.length : Int) x12_1 = some (r1, r2)) ∧ Aside0 (kq ≤ k) ∧ Drawn0 w w')
 case atStart => exact ⟨(0), (0), rs_, rs_, H', ⟨Nat.le_refl _⟩, by repeat (first | exact Drawn0.refl _ | apply Drawn0.step)⟩
 case round => (
 clear H'
 try clear c3
 obtain ⟨x4_1, x12_1, rfl, rfl, HA, HK1, ⟨m1, rfl⟩⟩ := hrel
 cases gk with
 | zero => exact absurd HA.out (by simp [pvq_Square.l0])
 | succ k1 => (
 have H := HA.out
 clear HA
 simp only [pvq_Square.l0] at H
 by_cases c4 : x12_1 < (l0.length : Int)
 {
 rw [if_pos c4] at H
 have c4b0 : decide (x12_1 < (l0.length : Int)) = true := decide_eq_true c4
 clear c4
 by_cases c5 : 0 ≤ x12_1
 {
 rw [if_pos c5] at H
 have c5b0 : decide (0 ≤ x12_1) = true := decide_eq_true c5
 clear c5
 by_cases c6 : x12_1 < (l0.length : Int)
 {
 rw [if_pos c6] at H
 have c6b0 : decide (x12_1 < (l0.length : Int)) = true := decide_eq_true c6
 clear c6
 have H' := Aside0.mk H
 clear H
 have p277 : 0 ≤ (x12_1 : Int) := of_decide_eq_true am_
 have q277 : x12_1 < (l0.length : Int) := of_decide_eq_true am_
 obtain ⟨ad277, e277, hx277_0⟩ := Kd.at_int HR0.out x12_1 p277 q277
 cases e277
 replace p277 := eq_true p277
 replace q277 := eq_true q277
 go_wp2
 go_roundg k1
 case measure => have := HK1.out; omega
 case rel => exact ⟨(IntKind.u64.wrap (x4_1 + (IntKind.u64.wrap (wrap64 ((rd l0 x12_1) * (rd l0 x12_1)))))), (wrap64 (x12_1 + 1)), rs_, rs_, H', ⟨by have := HK1.out; omega⟩, by repeat (first | exact Drawn0.refl _ | apply Drawn0.step)⟩}
 {
 rw [if_neg c6] at H
 exact absurd H (by simp)}}
 {
 rw [if_neg c5] at H
 exact absurd H (by simp)}}
 {
 rw [if_neg c4] at H
 have c4b0 : decide (x12_1 < (l0.length : Int)) = false := decide_eq_false c4
 clear c4
 simp only [Option.some.injEq, Prod.mk.injEq] at H
 obtain ⟨rfl, rfl⟩ := H
 go_wp2
 go_ret2
 exact ⟨by first | rfl | (simp; done) | (simp [*]; done), by repeat (first | exact Drawn0.refl _ | apply Drawn0.step)⟩}))}
 {
 replace c3 := Bool.eq_false_iff.mpr c3
 subst c3
 rw [if_neg (show ¬ (false = true) by decide)] at H
 simp only [Option.some.injEq, Prod.mk.injEq] at H
 obtain ⟨rfl, rfl⟩ := H
 go_enter Try.func80, Try.ntmps80
 go_wp2_with (first | ((with_reducible refine gate_callee (f := 102) rfl ?_); refine gL_ (some 8) Try.func102 #[.slice A0 l0.length c0] ?_; (with_reducible refine (pvq_fair.calls k _ _ l0 false _ ?side1 ?side2 A2.out).mono ?_); (case side1 => repeat (first | exact HR0.out | (with_reducible refine Kd.C_alloc ?_ _) | (with_reducible refine Kd.C_drewN ?_ _) | (with_reducible refine Kd.C_drew ?_))); (case side2 => exact HC0.out); rintro e w' ⟨rfl, ⟨nd, rfl⟩⟩; refine ⟨_, rfl, ?_⟩))
 go_ret2
 exact ⟨by first | rfl | (simp; done) | (simp [*]; done), by repeat (first | exact Drawn0.refl _ | apply Drawn0.step)⟩}
def band_there.f (a0 : Int) : Option (Bool) := if a0 ≥ 0 then (some (decide (a0 < 5))) else (some false)
set_option maxHeartbeats 8000000 in
set_option maxRecDepth 100000 in
theorem band_there.calls (a0 : Int) (r : Bool) (w : World) (h : band_there.f a0 = some r) :
    Calls Try.prog 103 #[.int .i64 a0] w fun e w' => e = .returned (.bool r) ∧ Drawn0 w w' := by
 have H : (if a0 ≥ 0 then (some (decide (a0 < 5))) else (some false)) = some r := h
 clear h
 by_cases c2 : a0 ≥ 0
 {
 rw [if_pos c2] at H
 have c2b0 : decide (0 ≤ a0) = true := decide_eq_true c2
 clear c2
 obtain rfl := Option.some.inj H
 go_enter Try.func103, Try.ntmps103
 go_wp2
 go_ret
 exact ⟨by first | rfl | (simp; done) | (simp [*]; done), by repeat (first | exact Drawn0.refl _ | apply Drawn0.step)⟩}
 {
 rw [if_neg c2] at H
 have c2b0 : decide (0 ≤ a0) = false := decide_eq_false c2
 clear c2
 obtain rfl := Option.some.inj H
 go_enter Try.func103, Try.ntmps103
 go_wp2
 go_ret
 exact ⟨by first | rfl | (simp; done) | (simp [*]; done), by repeat (first | exact Drawn0.refl _ | apply Drawn0.step)⟩}
def band_From.f (a0 : Int) : Option (Int) := (band_there.f a0).bind fun t278 => (if t278 = true then (if a0 = 0 then (some 0) else (if 0 ≤ (wrap64 (a0 - 1)) then (some (shl .i64 1 (wrap64 (a0 - 1)))) else (none))) else (some 0))
set_option maxHeartbeats 8000000 in
set_option maxRecDepth 100000 in
theorem band_From.calls (a0 : Int) (r : Int) (w : World) (h : band_From.f a0 = some r) :
    Calls Try.prog 81 #[.int .i64 a0] w fun e w' => e = .returned (.int .i64 r) ∧ Drawn0 w w' := by
 have H : ((band_there.f a0).bind fun t278 => (if t278 = true then (if a0 = 0 then (some 0) else (if 0 ≤ (wrap64 (a0 - 1)) then (some (shl .i64 1 (wrap64 (a0 - 1)))) else (none))) else (some 0))) = some r := h
 clear h
 obtain ⟨t278, A2, H⟩ := ob_ H
 (try dsimp only at H)
 by_cases c3 : t278 = true
 {
 subst c3
 rw [if_pos rfl] at H
 by_cases c4 : a0 = 0
 {
 rw [if_pos c4] at H
 have c4b0 : (a0 == 0) = true := beq_iff_eq.mpr c4
 have c4b1 : (a0 != 0) = false := bne_eq_false_iff_eq.mpr c4
 clear c4
 obtain rfl := Option.some.inj H
 go_enter Try.func81, Try.ntmps81
 go_wp2_with (first | ((with_reducible refine gate_callee (f := 103) rfl ?_); refine gL_ (some 4) Try.func103 #[.int .i64 a0] ?_; (with_reducible refine (band_there.calls a0 true _ A2.out).mono ?_); rintro e w' ⟨rfl, ⟨nd, rfl⟩⟩; refine ⟨_, rfl, ?_⟩))
 go_ret
 exact ⟨by first | rfl | (simp; done) | (simp [*]; done), by repeat (first | exact Drawn0.refl _ | apply Drawn0.step)⟩}
 {
 rw [if_neg c4] at H
 have c4b0 : (a0 == 0) = false := beq_eq_false_iff_ne.mpr c4
 have c4b1 : (a0 != 0) = true := bne_iff_ne.mpr c4
 obtain ⟨ji5, hji5⟩ : ∃ j_ : Int, (wrap64 (a0 - 1)) = j_ := ⟨_, rfl⟩
 replace H : (if 0 ≤ (ji5) then (some (shl .i64 1 (ji5))) else (none)) = some r := by first | (rw [hji5] at H; exact H) | (simp only [hji5] at H ⊢; exact H)
 (try rw [hji5] at A2)
 have hji5w : (IntKind.i64.wrap (a0 - 1)) = ji5 := (i64_w _).trans hji5
 by_cases c6 : 0 ≤ (ji5)
 {
 rw [if_pos c6] at H
 have c6b0 := eq_true c6
 have c6b1 : decide (0 ≤ (ji5)) = true := decide_eq_true c6
 clear c6
 obtain ⟨ji7, hji7⟩ : ∃ j_ : Int, (shl .i64 1 (ji5)) = j_ := ⟨_, rfl⟩
 replace H : (some ji7) = some r := by first | (rw [hji7] at H; exact H) | (simp only [hji7] at H ⊢; exact H)
 (try rw [hji7] at A2)
 have hji7_ : (IntKind.i64.wrap (1 * 2 ^ min (ji5).toNat 64)) = ji7 := hji7
 have hji7z : (ji5) ≤ 64 → (IntKind.i64.wrap (1 * 2 ^ (ji5).toNat)) = ji7 := shl_small hji7
 have hji7u : (IntKind.i64.wrap (2 ^ min (ji5).toNat 64)) = ji7 := by have h_ := hji7_; rw [Int.one_mul] at h_; exact h_
 have hji7v : (ji5) ≤ 64 → (IntKind.i64.wrap (2 ^ (ji5).toNat)) = ji7 := fun hle_ => by have h_ := hji7z hle_; rw [Int.one_mul] at h_; exact h_
 have hji7y : (wrap64 (1 * 2 ^ min (ji5).toNat 64)) = ji7 := (i64_w _).symm.trans hji7_
 have hji7x : (ji5) ≤ 64 → (wrap64 (1 * 2 ^ (ji5).toNat)) = ji7 := fun h_ => (i64_w _).symm.trans (hji7z h_)
 obtain rfl := Option.some.inj H
 go_enter Try.func81, Try.ntmps81
 go_wp2_with (first | ((with_reducible refine gate_callee (f := 103) rfl ?_); refine gL_ (some 4) Try.func103 #[.int .i64 a0] ?_; (with_reducible refine (band_there.calls a0 true _ A2.out).mono ?_); rintro e w' ⟨rfl, ⟨nd, rfl⟩⟩; refine ⟨_, rfl, ?_⟩))
 go_ret
 exact ⟨by first | rfl | (simp; done) | (simp only [← hji5, ← hji7] <;> (first | rfl | simp)) | (simp [*]; done), by repeat (first | exact Drawn0.refl _ | apply Drawn0.step)⟩}
 {
 rw [if_neg c6] at H
 exact absurd H (by simp)}}}
 {
 replace c3 := Bool.eq_false_iff.mpr c3
 subst c3
 rw [if_neg (show ¬ (false = true) by decide)] at H
 obtain rfl := Option.some.inj H
 go_enter Try.func81, Try.ntmps81
 go_wp2_with (first | ((with_reducible refine gate_callee (f := 103) rfl ?_); refine gL_ (some 4) Try.func103 #[.int .i64 a0] ?_; (with_reducible refine (band_there.calls a0 false _ A2.out).mono ?_); rintro e w' ⟨rfl, ⟨nd, rfl⟩⟩; refine ⟨_, rfl, ?_⟩))
 go_ret
 exact ⟨by first | rfl | (simp; done) | (simp [*]; done), by repeat (first | exact Drawn0.refl _ | apply Drawn0.step)⟩}
def band_Width.f (a0 : Int) : Option (Int) := (band_there.f a0).bind fun t279 => (if t279 = true then ((band_From.f a0).bind fun t280 => (some (mx 1 t280))) else (some 0))
set_option maxHeartbeats 8000000 in
set_option maxRecDepth 100000 in
theorem band_Width.calls (a0 : Int) (r : Int) (w : World) (h : band_Width.f a0 = some r) :
    Calls Try.prog 82 #[.int .i64 a0] w fun e w' => e = .returned (.int .i64 r) ∧ Below w.heap.size w w' := by
 have HB := Aside0.mk (Below.refl w.heap.size w)
 have H : ((band_there.f a0).bind fun t279 => (if t279 = true then ((band_From.f a0).bind fun t280 => (some (mx 1 t280))) else (some 0))) = some r := h
 clear h
 obtain ⟨t279, A2, H⟩ := ob_ H
 (try dsimp only at H)
 by_cases c3 : t279 = true
 {
 subst c3
 rw [if_pos rfl] at H
 replace H := Option.bind_eq_some_iff.mp H
 obtain ⟨t280, A40, H⟩ := H
 replace H : (some (mx 1 t280)) = some r := H
 have A4 := Aside0.mk A40
 clear A40
 obtain ⟨ji5, hji5⟩ : ∃ j_ : Int, (mx 1 t280) = j_ := ⟨_, rfl⟩
 replace H : (some ji5) = some r := by first | (rw [hji5] at H; exact H) | (simp only [hji5] at H ⊢; exact H)
 (try rw [hji5] at A2)
 (try rw [hji5] at A4)
 (try (have hji5l : 1 ≤ ji5 := by (rw [← hji5]; unfold mx; (repeat' split) <;> omega)))
 (try (have hji5m : 0 ≤ ji5 := by omega))
 have hji5_ : (if 1 < t280 then t280 else 1) = ji5 := hji5
 obtain rfl := Option.some.inj H
 go_enter Try.func82, Try.ntmps82
 go_wp2_with (first | ((with_reducible refine gate_callee (f := 103) rfl ?_); refine gL_ (some 4) Try.func103 #[.int .i64 a0] ?_; (with_reducible refine (band_there.calls a0 true _ A2.out).mono ?_); rintro e w' ⟨rfl, ⟨nd, rfl⟩⟩; refine ⟨_, rfl, ?_⟩) | ((with_reducible refine gate_callee (f := 81) rfl ?_); refine gL_ (some 7) Try.func81 #[.int .i64 a0] ?_; (with_reducible refine (band_From.calls a0 t280 _ A4.out).mono ?_); rintro e w' ⟨rfl, ⟨nd, rfl⟩⟩; refine ⟨_, rfl, ?_⟩))
 go_ret
 exact ⟨by first | rfl | (simp [errW_none, errW_some] <;> rfl) | (simp only [← hji5]; first | rfl | (simp [errW_none, errW_some] <;> rfl)) | (simp [*, errW_none, errW_some] <;> rfl), bl_ HB⟩}
 {
 replace c3 := Bool.eq_false_iff.mpr c3
 subst c3
 rw [if_neg (show ¬ (false = true) by decide)] at H
 obtain rfl := Option.some.inj H
 go_enter Try.func82, Try.ntmps82
 go_wp2_with (first | ((with_reducible refine gate_callee (f := 103) rfl ?_); refine gL_ (some 4) Try.func103 #[.int .i64 a0] ?_; (with_reducible refine (band_there.calls a0 false _ A2.out).mono ?_); rintro e w' ⟨rfl, ⟨nd, rfl⟩⟩; refine ⟨_, rfl, ?_⟩))
 go_ret
 exact ⟨by first | rfl | (simp [errW_none, errW_some] <;> rfl) | (simp [*, errW_none, errW_some] <;> rfl), bl_ HB⟩}
mutual
def band_Split.j0 : Nat → List Int → Bool → Option ((List (List Int)) × Int)
  | 0, _, _ => none
  | k + 1, x0, x22 => if x22 = true then (some (([] : List (List Int)), 1)) else ((some (([] : List Int) : List Int)).bind fun y283 => (if y283.length + x0.length < 17592186044416 then (band_Split.l0 k (y283 ++ x0) ([] : List (List Int)) 0) else (none)))
def band_Split.l0 : Nat → List Int → List (List Int) → Int → Option ((List (List Int)) × Int)
  | 0, _, _, _ => none
  | k + 1, x6, x7, x26 => if x26 < 5 then ((band_From.f x26).bind fun t289 => ((band_Width.f x26).bind fun t290 => (if 0 ≤ t289 then (if t289 ≤ (wrap64 (t289 + t290)) then (if (wrap64 (t289 + t290)) ≤ (x6.length : Int) then (if x7.length < 5864062014805 then (band_Split.l0 k x6 (x7 ++ [((x6.take ((wrap64 (t289 + t290)) : Int).toNat).drop (t289 : Int).toNat)]) (wrap64 (x26 + 1))) else (none)) else (none)) else (none)) else (none)))) else (some (x7, 0))
end
def band_Split.f (k : Nat) (l0 : List Int) : Option ((List (List Int)) × Int) := (pvq_Square.f k l0).bind fun bt281 => (if bt281.2 = 0 then (band_Split.j0 k l0 ((l0.length : Int) != 16)) else (band_Split.j0 k l0 true))
theorem band_Split.mono_l : ∀ k, (∀ y0 y1, LeO (band_Split.j0 k y0 y1) (band_Split.j0 (k + 1) y0 y1)) ∧ (∀ y0 y1 y2, LeO (band_Split.l0 k y0 y1 y2) (band_Split.l0 (k + 1) y0 y1 y2))
  | 0 => ⟨fun _ _ r h => by simp [band_Split.j0] at h, fun _ _ _ r h => by simp [band_Split.l0] at h⟩
  | k + 1 => by
    obtain ⟨ih0, ih1⟩ := band_Split.mono_l k
    refine ⟨?_, ?_⟩
    all_goals (intros; first | unfold band_Split.j0 | unfold band_Split.l0)
    all_goals with_reducible repeat' first
     | exact ih0 _ _
     | exact ih1 _ _ _
     | exact pvq_Square.mono _ _
     | exact LeO.refl _
     | exact LeO.none _
     | refine LeO.ite ?_ ?_
     | refine LeO.bind ?_ (fun _ => ?_)
theorem band_Split.mono : ∀ a0 k, LeO (band_Split.f k a0) (band_Split.f (k + 1) a0) := by
  intro a0 k
  obtain ⟨ih0, ih1⟩ := band_Split.mono_l k
  unfold band_Split.f
  with_reducible repeat' first
   | exact ih0 _ _
   | exact ih1 _ _ _
   | exact pvq_Square.mono _ _
   | exact LeO.refl _
   | exact LeO.none _
   | refine LeO.ite ?_ ?_
   | refine LeO.bind ?_ (fun _ => ?_)
set_option maxHeartbeats 8000000 in
set_option maxRecDepth 100000 in
theorem band_Split.calls (k : Nat) (A0 : Option Addr) (c0 : Nat) (l0 : List Int) (r1 : List (List Int)) (r2 : Int) (w : World) (hr0 : Kd.C (Kd.int .i64) w A0 l0.length l0) (hc0 : l0.length ≤ c0) (h : band_Split.f k l0 = some (r1, r2)) :
    Calls Try.prog 42 #[.slice A0 l0.length c0] w fun e w' => ∃ v0_ : Value, e = .returned (.tuple #[v0_, .int .i64 r2]) ∧ Kd.N (Kd.slice 2 (Kd.int .i64)) 53 w' w.heap.size (fun k_ => (w.heap.size ≤ k_)) v0_ r1 ∧ Below w.heap.size w w' := by
 have HR0 := Aside0.mk hr0
 have HC0 := Aside0.mk hc0
 clear hr0 hc0
 have HB := Aside0.mk (Below.refl w.heap.size w)
 have H : ((pvq_Square.f k l0).bind fun bt281 => (if bt281.2 = 0 then (band_Split.j0 k l0 ((l0.length : Int) != 16)) else (band_Split.j0 k l0 true))) = some (r1, r2) := h
 clear h
 obtain ⟨⟨t281, t282⟩, A2, H⟩ := ob_ H
 (try dsimp only at H)
 have HC3 := Aside0.mk H
 clear H
 go_enter Try.func42, Try.ntmps42
 go_upto_region 2 with (first | ((with_reducible refine gate_callee (f := 80) rfl ?_); refine gL_ (some 13) Try.func80 #[.slice A0 l0.length c0] ?_; (with_reducible refine (pvq_Square.calls k _ _ l0 t281 t282 _ ?side1 ?side2 A2.out).mono ?_); (case side1 => repeat (first | exact HR0.out | (with_reducible refine Kd.C_alloc ?_ _) | (with_reducible refine Kd.C_drewN ?_ _) | (with_reducible refine Kd.C_drew ?_))); (case side2 => exact HC0.out); rintro e w' ⟨rfl, ⟨nd, rfl⟩⟩; refine ⟨_, rfl, ?_⟩))
 (try simp only [Act.put, List.setIfInBounds_toArray, List.set_cons_zero, List.set_cons_succ])
 go_cut [22] (fun v22 wc => ∃ (kq : Nat) (x22_2 : Bool), v22 = .bool x22_2 ∧ Aside0 (band_Split.j0 kq l0 x22_2 = some (r1, r2)) ∧ Aside0 (kq ≤ k) ∧ Aside0 (Below w.heap.size w wc))
 case first => (
 have H := HC3.out
 clear HC3
 by_cases c4 : t282 = 0
 {
 rw [if_pos c4] at H
 have c4b0 : (t282 == 0) = true := beq_iff_eq.mpr c4
 have c4b1 : (t282 != 0) = false := bne_eq_false_iff_eq.mpr c4
 clear c4
 (first | rw [c4b0] | (simp only [i64_w, i32_w]; rw [c4b0]) | skip)
 have H' := Aside0.mk H
 clear H
 go_wp2
 go_meet
 case rel => exact ⟨_, (((l0.length : Int) != 16)), rs_, H', ⟨ol_⟩, ⟨bl_ HB⟩⟩}
 {
 rw [if_neg c4] at H
 have c4b0 : (t282 == 0) = false := beq_eq_false_iff_ne.mpr c4
 have c4b1 : (t282 != 0) = true := bne_iff_ne.mpr c4
 (first | rw [c4b0] | (simp only [i64_w, i32_w]; rw [c4b0]) | skip)
 have H' := Aside0.mk H
 clear H
 go_wp2
 go_meet
 case rel => exact ⟨_, (true), rs_, H', ⟨ol_⟩, ⟨bl_ HB⟩⟩})
 case rest => (
 clear HC3
 obtain ⟨kq, x22_2, rfl, HA, HJ2, HB⟩ := hcut
 cases kq with
 | zero => exact absurd HA.out (by simp [band_Split.j0])
 | succ kj2 => (
 have H := HA.out
 clear HA
 simp only [band_Split.j0] at H
 by_cases c5 : x22_2 = true
 {
 subst c5
 rw [if_pos rfl] at H
 simp only [Option.some.injEq, Prod.mk.injEq] at H
 obtain ⟨rfl, rfl⟩ := H
 go_wp2
 go_ret2
 exact ⟨_, by first | rfl | (simp [errW_none, errW_some] <;> rfl) | (simp [*, errW_none, errW_some] <;> rfl), by first | exact Kd.S_nil _ _ _ _ _ | exact Kd.N_nil _ _ _ _ _ | exact Kd.V_nil _ _ _ _ _ | exact Kd.Q_nil _ _ _ _ _ | exact Kd.R_nil _ _ _ _ _, bl_ HB⟩}
 {
 replace c5 := Bool.eq_false_iff.mpr c5
 subst c5
 rw [if_neg (show ¬ (false = true) by decide)] at H
 obtain ⟨y283, hy283⟩ : ∃ y_ : List Int, y_ = (([] : List Int)) := ⟨_, rfl⟩
 replace H : (if y283.length + l0.length < 17592186044416 then (band_Split.l0 kj2 (y283 ++ l0) ([] : List (List Int)) 0) else (none)) = some (r1, r2) := by first | (rw [hy283]; with_reducible exact H) | (have H2_ := (Option.bind_some _ _).symm.trans H; rw [hy283]; with_reducible exact H2_) | (have H2_ := (Option.bind_some _ _).symm.trans H; with_reducible exact H2_) | with_reducible exact H | (rw [hy283]; exact H) | exact H
 have Ny283 := Aside0.mk hy283
 clear hy283
 by_cases c6 : y283.length + l0.length < 17592186044416
 {
 rw [if_pos c6] at H
 have LMc6 := Aside0.mk c6
 clear c6
 obtain ⟨y286, hy286⟩ : ∃ y_ : List Int, y_ = (y283 ++ l0) := ⟨_, rfl⟩
 replace H : (band_Split.l0 kj2 y286 ([] : List (List Int)) 0) = some (r1, r2) := by first | (rw [hy286]; with_reducible exact H) | (have H2_ := (Option.bind_some _ _).symm.trans H; rw [hy286]; with_reducible exact H2_) | (have H2_ := (Option.bind_some _ _).symm.trans H; with_reducible exact H2_) | with_reducible exact H | (rw [hy286]; exact H) | exact H
 have Ny286 := Aside0.mk hy286
 clear hy286
 have H' := Aside0.mk H
 clear H
 go_wp2_with (first | ((with_reducible refine gate_dst (N := 23) rfl ?_); (try (refine gate_guard (by rfl) ?_; dsimp only)); refine Kd.R_lit (Kd.int .i64) _ 2 ?hg (N := 23) ?hd (xs := ([] : List Int)) (inner := []) (ok := fun _ => True) (okp := fun _ => True) ?hr ?hp (fun _ hk => hk) trivial (Below.refl _ _) (Nat.le_refl _) (by simp) ?_; (case hd => rfl); (case hg => rfl); (case hr => first | (go_simp; done) | (go_simp; rfl)); (case hp => exact (Reps.none _ _)); intro v284 w7 ho8 hb hg_ hnew_; clear hg_ hnew_; (first | rw [← Ny283.out] at ho8 | (simp only [Int.reduceToNat] at ho8; rw [← Ny283.out] at ho8)); have HO285 := Aside0.mk (Kd.R_lower (Kd.R_newM (M := fun k_ => (w.heap.size ≤ k_)) ho8 (bs_ HB) (fun k_ h_ => h_)) (bs_ HB)); replace HB := BS_ HB hb; clear hb ho8) | ((with_reducible refine gate_builtin (b := .append) (xs := #[.tmp 23, .tmp 24]) rfl ?_); (try (refine gate_guard (by rfl) ?_; dsimp only)); at_builtin; refine Kd.R_append_rows (Kd.int .i64) (w0 := w) w.heap.size rfl (.tmp 23) (.tmp 24) 53 2 (.int .i64 0) 8 rfl Try.underlying53 info2 rfl (by decide) (by omega) v284 y283 l0 _ _ _ (fun k_ => (w.heap.size ≤ k_)) (fun _ => False) rfl rfl ?aO ?aR (fun _ _ h => h) (fun _ h => h.elim) ?aF ?aB ?aS ?aL ?_; (case aR => exact kC_ HR0 HB); (case aB => exact (bl_ HB)); (case aF => exact (fun k_ hk => (Nat.le_trans (bs_ HB) hk))); (case aO => exact (by (with_reducible repeat (first | apply Kd.R_alloc | apply Kd.R_drewN | apply Kd.R_drew)); exact Kd.R_mono HO285.out (fun _ hk => hk.1))); (case aS => exact (bs_ HB)); (case aL => have := LMc6.out; omega); intro v287 w9 ho hb hg hat; rw [← Ny286.out] at ho; replace HB := Aside0.mk (hb); have HO288 := Aside0.mk (ho); clear HO285; clear ho hb hg hat))
 go_loopg [7, 26] kj2 (fun kq v7 v26 w' => ∃ (x7_2 : List (List Int)) (x26_2 : Int), v26 = .int .i64 x26_2 ∧ Aside0 (band_Split.l0 kq y286 x7_2 x26_2 = some (r1, r2)) ∧ Aside0 (kq ≤ kj2) ∧ Aside0 (Kd.R (Kd.int .i64) 2 w' w.heap.size (fun k_ => (w.heap.size ≤ k_)) v287 y286) ∧ Aside0 (Kd.N (Kd.slice 2 (Kd.int .i64)) 53 w' w.heap.size (fun k_ => (w.heap.size ≤ k_)) v7 x7_2) ∧ Aside0 (Below w.heap.size w w'))
 case atStart => exact ⟨(([] : List (List Int))), (0), rs_, H', ⟨Nat.le_refl _⟩, ⟨kR_ HO288⟩, ⟨kn_⟩, ⟨bl_ HB⟩⟩
 case round => (
 clear H'
 try clear c5
 try clear c6
 obtain ⟨x7_2, x26_2, rfl, HA, HK2, HO_6, HO_7, HB⟩ := hrel
 cases gk with
 | zero => exact absurd HA.out (by simp [band_Split.l0])
 | succ k2 => (
 have H := HA.out
 clear HA
 simp only [band_Split.l0] at H
 by_cases c10 : x26_2 < 5
 {
 rw [if_pos c10] at H
 have c10b0 : decide (x26_2 < 5) = true := decide_eq_true c10
 clear c10
 obtain ⟨t289, A11, H⟩ := ob_ H
 (try dsimp only at H)
 obtain ⟨t290, A12, H⟩ := ob_ H
 (try dsimp only at H)
 by_cases c13 : 0 ≤ t289
 {
 rw [if_pos c13] at H
 have c13b0 := eq_true c13
 have c13b1 : decide (0 ≤ t289) = true := decide_eq_true c13
 clear c13
 by_cases c14 : t289 ≤ (wrap64 (t289 + t290))
 {
 rw [if_pos c14] at H
 have c14b0 := eq_true c14
 have c14b1 : decide (t289 ≤ (wrap64 (t289 + t290))) = true := decide_eq_true c14
 by_cases c15 : (wrap64 (t289 + t290)) ≤ (y286.length : Int)
 {
 rw [if_pos c15] at H
 have c15b0 := eq_true c15
 have c15b1 : decide ((wrap64 (t289 + t290)) ≤ (y286.length : Int)) = true := decide_eq_true c15
 obtain ⟨y291, hy291⟩ : ∃ y_ : List Int, y_ = ((y286.take ((wrap64 (t289 + t290)) : Int).toNat).drop (t289 : Int).toNat) := ⟨_, rfl⟩
 replace H : (if x7_2.length < 5864062014805 then (band_Split.l0 k2 y286 (x7_2 ++ [y291]) (wrap64 (x26_2 + 1))) else (none)) = some (r1, r2) := by first | (rw [hy291]; with_reducible exact H) | (have H2_ := (Option.bind_some _ _).symm.trans H; rw [hy291]; with_reducible exact H2_) | (have H2_ := (Option.bind_some _ _).symm.trans H; with_reducible exact H2_) | with_reducible exact H | (rw [hy291]; exact H) | exact H
 have Ny291 := Aside0.mk hy291
 clear hy291
 by_cases c16 : x7_2.length < 5864062014805
 {
 rw [if_pos c16] at H
 have LMc16 := Aside0.mk c16
 clear c16
 obtain ⟨y296, hy296⟩ : ∃ y_ : List (List Int), y_ = (x7_2 ++ [y291]) := ⟨_, rfl⟩
 replace H : (band_Split.l0 k2 y286 y296 (wrap64 (x26_2 + 1))) = some (r1, r2) := by first | (rw [hy296]; with_reducible exact H) | (have H2_ := (Option.bind_some _ _).symm.trans H; rw [hy296]; with_reducible exact H2_) | (have H2_ := (Option.bind_some _ _).symm.trans H; with_reducible exact H2_) | with_reducible exact H | (rw [hy296]; exact H) | exact H
 have Ny296 := Aside0.mk hy296
 clear hy296
 have H' := Aside0.mk H
 clear H
 go_wp2_with (first | ((with_reducible refine gate_callee (f := 81) rfl ?_); refine gL_ (some 30) Try.func81 #[.int .i64 x26_2] ?_; (with_reducible refine (band_From.calls x26_2 t289 _ A11.out).mono ?_); rintro e w' ⟨rfl, ⟨nd, rfl⟩⟩; refine ⟨_, rfl, ?_⟩) | ((with_reducible refine gate_callee (f := 82) rfl ?_); refine gL_ (some 32) Try.func82 #[.int .i64 x26_2] ?_; (with_reducible refine (band_Width.calls x26_2 t290 _ A12.out).mono ?_); rintro e w17 ⟨rfl, hb⟩; refine ⟨_, rfl, ?_⟩; replace HO_6 := FR_ HO_6 hb; replace HO_7 := FN_ HO_7 hb; replace HB := BS_ HB hb; (try clear hb); (try clear hk); obtain ⟨Ao19, co19, eo19⟩ := Kd.R_slice HO_6.out; subst eo19; have q18 : ((wrap64 (t289 + t290)) : Int) ≤ ((y286.length : Int) : Int) := of_decide_eq_true am_; obtain ⟨i018, hi018, _, hsz18, _⟩ := info_parts info2; have hroom18 : y286.length ≤ co19 := (Kd.R_reads' HO_6.out).2.1; have hC18 : Kd.F (Kd.int .i64) _ _ Ao19 y286.length y286 := (Kd.V_at (base := w.heap.size) (Kd.R_V (Kd.R_apart' (HO_6.out) (Kd.N_typed HO_7.out) (by decide)))).2.2; have ql18 : (t289 : Int) ≤ ((wrap64 (t289 + t290)) : Int) := of_decide_eq_true am_; have q018 : (0 : Int) ≤ (t289 : Int) := of_decide_eq_true am_; obtain ⟨c18, hc18⟩ : ∃ c1, c1 = ((wrap64 (t289 + t290)) : Int).toNat - (t289 : Int).toNat := ⟨_, rfl⟩; have hcut18 : ∀ W_ : World, (Instr.slice 53 (.slice Ao19 y286.length co19) (some (.int .i64 t289)) (some (.int .i64 (wrap64 (t289 + t290)))) (some (.int .i64 (wrap64 (t289 + t290))))).run Try.prog W_ = .ok (.slice (if ((wrap64 (t289 + t290)) : Int).toNat = (t289 : Int).toNat then Ao19 else (Ao19 : Option Addr).map (·.add ((t289 : Int).toNat * 1))) (((wrap64 (t289 + t290)) : Int).toNat - (t289 : Int).toNat) c18) W_ := (fun W_ => by have hel_ : Program.elem Try.prog 53 = 2 := (by simp [Program.elem, Try.underlying53]); rw [hc18, run_slice_lhm W_ 53 Ao19 y286.length co19 (by rw [hel_]; exact Try.underlying53) .i64 .i64 .i64 t289 (wrap64 (t289 + t290)) (wrap64 (t289 + t290)) q018 ql18 (Int.le_refl _) (by omega), hel_]; simp [sizeOf, typeInfo, hi018, hsz18, sliced, Result.andThen]); have hr18 := Kd.F_cut (m := (t289 : Int).toNat) (c := ((wrap64 (t289 + t290)) : Int).toNat) (Kd.F_take (m := ((wrap64 (t289 + t290)) : Int).toNat) hC18 (by omega)) (by rw [List.length_take]; omega) (by rw [List.length_take]; omega); obtain ⟨A18, hA18⟩ : ∃ A1, A1 = (if ((wrap64 (t289 + t290)) : Int).toNat = (t289 : Int).toNat then Ao19 else (Ao19 : Option Addr).map (·.add ((t289 : Int).toNat * 1))) := ⟨_, rfl⟩; have hy18 : y291.length = ((wrap64 (t289 + t290)) : Int).toNat - (t289 : Int).toNat := (by rw [Ny291.out, List.length_drop, List.length_take] <;> omega); rw [show ((y286).take ((wrap64 (t289 + t290)) : Int).toNat).drop (t289 : Int).toNat = y291 from Ny291.out.symm] at hr18; replace hr18 : Kd.F (Kd.int .i64) _ _ A18 y291.length y291 := (by rw [hA18]; exact hr18); rw [← hy18, ← hA18] at hcut18; have HO295 := Aside0.mk (show Kd.V (Kd.int .i64) 2 _ w.heap.size _ (.slice A18 y291.length c18) y291 from Kd.V_mk (by rw [hy18, hc18]; exact Nat.le_refl _) hr18); have HC295 := Aside0.mk (show y291.length ≤ c18 from by rw [hy18, hc18]; exact Nat.le_refl _); clear hr18 hC18 hroom18 hi018 hsz18 hc18; have KY18 := Aside0.mk hy18; have KA18 := Aside0.mk hA18; clear hy18 hA18; replace q18 := eq_true q18) | ((with_reducible refine gate_builtin (b := .append) (xs := #[.tmp 33, .tmp 43]) rfl ?_); (try (refine gate_guard (by rfl) ?_; dsimp only)); at_builtin; refine Kd.N_append (Kd.slice 2 (Kd.int .i64)) (w0 := w) w.heap.size rfl (.tmp 33) (.tmp 43) 26 53 (.slice none 0 0) 24 rfl Try.underlying26 info53 rfl (by decide) (by omega) u7 x7_2 y291 [.slice A18 y291.length c18] (fun k_ => (w.heap.size ≤ k_)) (fun k_ => ((fun k_ => (w.heap.size ≤ k_))) k_ ∧ some k_ ≠ (u7 : Value).ownBlock) rfl rfl ?aP (fun _ hk => hk) ?aF ?aO ?aB ?aS ?aL ?_; (case aP => exact (Kd.FK_slice_mk (Kd.V_reads' (Kd.V_mono (ok' := (fun k_ => ((fun k_ => (w.heap.size ≤ k_))) k_ ∧ some k_ ≠ (u7 : Value).ownBlock)) (HO295.out) (fun k_ hk => ⟨hk.1, hk.2⟩))).2.1 (Kd.V_F (Kd.V_mono (ok' := (fun k_ => ((fun k_ => (w.heap.size ≤ k_))) k_ ∧ some k_ ≠ (u7 : Value).ownBlock)) (HO295.out) (fun k_ hk => ⟨hk.1, hk.2⟩))))); (case aB => exact (bl_ HB)); (case aF => exact (fun k_ hk => (Nat.le_trans (bs_ HB) hk))); (case aO => exact (kN_ HO_7)); (case aS => exact (bs_ HB)); (case aL => have := LMc16.out; omega); intro v297 w20 ho hb hg hat; rw [← Ny296.out] at ho; replace HO_6 := Aside0.mk (Kd.R_over' (kR_ HO_6) (Kd.N_typed (kN_ HO_7)) (by decide) hg); replace HO295 := Aside0.mk (Kd.V_afterv (ok := (fun k_ => (w.heap.size ≤ k_))) (kV_ HO295) hg hat); replace HB := Aside0.mk (hb); have HO298 := Aside0.mk (ho); clear HO_7; clear ho hb hg hat))
 go_roundg k2
 case measure => have := HJ2.out; have := HK2.out; omega
 case rel => exact ⟨(y296), (wrap64 (x26_2 + 1)), rs_, H', ⟨by have := HJ2.out; have := HK2.out; omega⟩, ⟨kR_ HO_6⟩, ⟨kN_ HO298⟩, ⟨bl_ HB⟩⟩}
 {
 rw [if_neg c16] at H
 exact absurd H (by simp)}}
 {
 rw [if_neg c15] at H
 exact absurd H (by simp)}}
 {
 rw [if_neg c14] at H
 exact absurd H (by simp)}}
 {
 rw [if_neg c13] at H
 exact absurd H (by simp)}}
 {
 rw [if_neg c10] at H
 have c10b0 : decide (x26_2 < 5) = false := decide_eq_false c10
 clear c10
 simp only [Option.some.injEq, Prod.mk.injEq] at H
 obtain ⟨rfl, rfl⟩ := H
 go_wp2
 go_ret2
 exact ⟨_, by first | rfl | (simp [errW_none, errW_some] <;> rfl) | (simp [*, errW_none, errW_some] <;> rfl), by (with_reducible repeat (first | apply Kd.N_alloc | apply Kd.N_drewN | apply Kd.N_drew)); exact HO_7.out, bl_ HB⟩}))}
 {
 rw [if_neg c6] at H
 exact absurd H (by simp)}}))
end Go.Proofs.Ytdajlfijkbafiaa.P
