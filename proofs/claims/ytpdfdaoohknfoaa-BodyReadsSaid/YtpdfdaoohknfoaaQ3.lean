/- Walks and what they compute, shared by the laws of this chapter. -/
import Derived.WalkMore
import Derived.Test.YtpdfdaoohknfoaaQ1
import Derived.Test.YtpdfdaoohknfoaaQ2
namespace Go.Proofs.Ytpdfdaoohknfoaa.P
open Go.RowKit Go.Proofs.YtpdfdaoohknfoaaW.PrintWords Go.Proofs.YtpdfdaoohknfoaaW.PrintLast Go.Proofs.YtpdfdaoohknfoaaW.PrintMore
attribute [local go_sem] max2_int min2_int max_two min_two max_three min_three max_four min_four   -- for this text's walks alone
set_option linter.unusedVariables false
set_option linter.unusedSimpArgs false

theorem scope_straight48_ {P : Program} {fn : Func} {R : Ending → World → Prop} {c : Code} {a : Act} {w : World} (h : c.wp P (bodyPost P fn R) a w) : (Code.scope c).wp P (bodyPost P fn R) a w := wp_scope_straight (wp_mono h (fun e a w q => by cases e <;> first | exact q | exact (q : False).elim))
mutual
def vpack_Read.j3 : Nat → Int → Int → Int → List Int → List Int → List Int → Int → List (List Int) → Option ((List (List Int)) × (List (List Int)) × Int)
  | 0, _, _, _, _, _, _, _, _ => none
  | k + 1, x8, x556000, x556001, x556002, x556003, x559000, x559001, x560000 => vpack_Read.l2 k x8 0 x556000 x556001 x556002 x556003 x559000 x559001 x560000 ([] : List (List Int))
def vpack_Read.l2 : Nat → Int → Int → Int → Int → List Int → List Int → List Int → Int → List (List Int) → List (List Int) → Option ((List (List Int)) × (List (List Int)) × Int)
  | 0, _, _, _, _, _, _, _, _, _, _ => none
  | k + 1, x8, x16, x556000, x556001, x556002, x556003, x559000, x559001, x560000, x560001 => if x16 < (x560000.length : Int) then (vpack_Read.j5 k x8 x16 (x8 == 0) x556000 x556001 x556002 x556003 x559000 x559001 x560000 x560001) else (vpack_Read.j5 k x8 x16 false x556000 x556001 x556002 x556003 x559000 x559001 x560000 x560001)
def vpack_Read.j5 : Nat → Int → Int → Bool → Int → Int → List Int → List Int → List Int → Int → List (List Int) → List (List Int) → Option ((List (List Int)) × (List (List Int)) × Int)
  | 0, _, _, _, _, _, _, _, _, _, _, _ => none
  | k + 1, x8, x16, x83, x556000, x556001, x556002, x556003, x559000, x559001, x560000, x560001 => if x83 = true then (vpack_Read.l3 k x8 x16 ([] : List Int) x556000 x556001 x556002 x556003 x559000 x559001 x560000 x560001) else (if x8 = 0 then ((bits_Left.f x559000 x559001).bind fun t591 => (if t591 ≥ 8 then (some (([] : List (List Int)), ([] : List (List Int)), 2)) else ((bits_Get.f k x559000 x559001 t591).bind fun bt592 => (if bt592.2.1 = 0 then (some (x560000, x560001, 0)) else (some (([] : List (List Int)), ([] : List (List Int)), 2)))))) else (some (([] : List (List Int)), ([] : List (List Int)), x8)))
def vpack_Read.l3 : Nat → Int → Int → List Int → Int → Int → List Int → List Int → List Int → Int → List (List Int) → List (List Int) → Option ((List (List Int)) × (List (List Int)) × Int)
  | 0, _, _, _, _, _, _, _, _, _, _, _ => none
  | k + 1, x8, x16, x17, x556000, x556001, x556002, x556003, x559000, x559001, x560000, x560001 => if (x17.length : Int) < 16 then (if 0 ≤ x16 then (if x16 < (x560000.length : Int) then (if ((rd_L1 x560000 x16).length : Int) > 0 then (if x8 = 0 then ((vpack_taken.f k x559000 x559001 x556003).bind fun bt575 => (if x17.length < 17592186044416 then (vpack_Read.l3 k bt575.2.2 x16 (x17 ++ [bt575.2.1]) x556000 x556001 x556002 x556003 x559000 bt575.1 x560000 x560001) else (none))) else (if x560001.length < 5864062014805 then (vpack_Read.l2 k x8 (wrap64 (x16 + 1)) x556000 x556001 x556002 x556003 x559000 x559001 x560000 (x560001 ++ [x17])) else (none))) else (if x560001.length < 5864062014805 then (vpack_Read.l2 k x8 (wrap64 (x16 + 1)) x556000 x556001 x556002 x556003 x559000 x559001 x560000 (x560001 ++ [x17])) else (none))) else (none)) else (none)) else (if x560001.length < 5864062014805 then (vpack_Read.l2 k x8 (wrap64 (x16 + 1)) x556000 x556001 x556002 x556003 x559000 x559001 x560000 (x560001 ++ [x17])) else (none))
def vpack_Read.l0 : Nat → Int → Int → Int → Int → Int → List Int → List Int → List Int → Int → List (List Int) → Option ((List (List Int)) × (List (List Int)) × Int)
  | 0, _, _, _, _, _, _, _, _, _, _ => none
  | k + 1, x8, x32, x33, x556000, x556001, x556002, x556003, x559000, x559001, x560000 => if x33 < x32 then ((bits_Get.f k x559000 x559001 1).bind fun bt560 => (if bt560.2.2 = 0 then (vpack_Read.l1 k bt560.2.2 bt560.2.1 ([] : List Int) x32 x33 x556000 x556001 x556002 x556003 x559000 bt560.1 x560000) else (vpack_Read.j3 k bt560.2.2 x556000 x556001 x556002 x556003 x559000 bt560.1 x560000))) else (vpack_Read.j3 k x8 x556000 x556001 x556002 x556003 x559000 x559001 x560000)
def vpack_Read.l1 : Nat → Int → Int → List Int → Int → Int → Int → Int → List Int → List Int → List Int → Int → List (List Int) → Option ((List (List Int)) × (List (List Int)) × Int)
  | 0, _, _, _, _, _, _, _, _, _, _, _, _ => none
  | k + 1, x8, x10, x12, x32, x33, x556000, x556001, x556002, x556003, x559000, x559001, x560000 => if (x12.length : Int) < 6 then (vpack_Read.j2 k x8 x10 x12 x32 x33 (x10 == 1) x556000 x556001 x556002 x556003 x559000 x559001 x560000) else (vpack_Read.j2 k x8 x10 x12 x32 x33 false x556000 x556001 x556002 x556003 x559000 x559001 x560000)
def vpack_Read.j2 : Nat → Int → Int → List Int → Int → Int → Bool → Int → Int → List Int → List Int → List Int → Int → List (List Int) → Option ((List (List Int)) × (List (List Int)) × Int)
  | 0, _, _, _, _, _, _, _, _, _, _, _, _, _ => none
  | k + 1, x8, x10, x12, x32, x33, x51, x556000, x556001, x556002, x556003, x559000, x559001, x560000 => if x51 = true then ((huff_Read.f k x559000 x559001 x556002).bind fun bt564 => (if x12.length < 17592186044416 then (if bt564.2.2 = 0 then (vpack_Read.l1 k bt564.2.2 x10 (x12 ++ [bt564.2.1]) x32 x33 x556000 x556001 x556002 x556003 x559000 bt564.1 x560000) else (vpack_Read.j3 k bt564.2.2 x556000 x556001 x556002 x556003 x559000 bt564.1 x560000)) else (none))) else (if x560000.length < 5864062014805 then (vpack_Read.l0 k x8 x32 (wrap64 (x33 + 1)) x556000 x556001 x556002 x556003 x559000 x559001 (x560000 ++ [x12])) else (none))
end
def vpack_Read.f (k : Nat) (a0_0 : Int) (a0_1 : Int) (l0_2 : List Int) (l0_3 : List Int) (l1 : List Int) : Option ((List (List Int)) × (List (List Int)) × Int) := (vhead_Right.f k a0_0 a0_1 l0_2 l0_3).bind fun t557 => (if t557 = true then (vpack_Read.l0 k 0 a0_0 0 a0_0 a0_1 l0_2 l0_3 l1 0 ([] : List (List Int))) else (some (([] : List (List Int)), ([] : List (List Int)), 1)))
theorem vpack_Read.mono_l : ∀ k, (∀ y0 y1 y2 y3 y4 y5 y6 y7, LeO (vpack_Read.j3 k y0 y1 y2 y3 y4 y5 y6 y7) (vpack_Read.j3 (k + 1) y0 y1 y2 y3 y4 y5 y6 y7)) ∧ (∀ y0 y1 y2 y3 y4 y5 y6 y7 y8 y9, LeO (vpack_Read.l2 k y0 y1 y2 y3 y4 y5 y6 y7 y8 y9) (vpack_Read.l2 (k + 1) y0 y1 y2 y3 y4 y5 y6 y7 y8 y9)) ∧ (∀ y0 y1 y2 y3 y4 y5 y6 y7 y8 y9 y10, LeO (vpack_Read.j5 k y0 y1 y2 y3 y4 y5 y6 y7 y8 y9 y10) (vpack_Read.j5 (k + 1) y0 y1 y2 y3 y4 y5 y6 y7 y8 y9 y10)) ∧ (∀ y0 y1 y2 y3 y4 y5 y6 y7 y8 y9 y10, LeO (vpack_Read.l3 k y0 y1 y2 y3 y4 y5 y6 y7 y8 y9 y10) (vpack_Read.l3 (k + 1) y0 y1 y2 y3 y4 y5 y6 y7 y8 y9 y10)) ∧ (∀ y0 y1 y2 y3 y4 y5 y6 y7 y8 y9, LeO (vpack_Read.l0 k y0 y1 y2 y3 y4 y5 y6 y7 y8 y9) (vpack_Read.l0 (k + 1) y0 y1 y2 y3 y4 y5 y6 y7 y8 y9)) ∧ (∀ y0 y1 y2 y3 y4 y5 y6 y7 y8 y9 y10 y11, LeO (vpack_Read.l1 k y0 y1 y2 y3 y4 y5 y6 y7 y8 y9 y10 y11) (vpack_Read.l1 (k + 1) y0 y1 y2 y3 y4 y5 y6 y7 y8 y9 y10 y11)) ∧ (∀ y0 y1 y2 y3 y4 y5 y6 y7 y8 y9 y10 y11 y12, LeO (vpack_Read.j2 k y0 y1 y2 y3 y4 y5 y6 y7 y8 y9 y10 y11 y12) (vpack_Read.j2 (k + 1) y0 y1 y2 y3 y4 y5 y6 y7 y8 y9 y10 y11 y12))
  | 0 => ⟨fun _ _ _ _ _ _ _ _ r h => by simp [vpack_Read.j3] at h, fun _ _ _ _ _ _ _ _ _ _ r h => by simp [vpack_Read.l2] at h, fun _ _ _ _ _ _ _ _ _ _ _ r h => by simp [vpack_Read.j5] at h, fun _ _ _ _ _ _ _ _ _ _ _ r h => by simp [vpack_Read.l3] at h, fun _ _ _ _ _ _ _ _ _ _ r h => by simp [vpack_Read.l0] at h, fun _ _ _ _ _ _ _ _ _ _ _ _ r h => by simp [vpack_Read.l1] at h, fun _ _ _ _ _ _ _ _ _ _ _ _ _ r h => by simp [vpack_Read.j2] at h⟩
  | k + 1 => by
    obtain ⟨ih0, ih1, ih2, ih3, ih4, ih5, ih6⟩ := vpack_Read.mono_l k
    refine ⟨?_, ?_, ?_, ?_, ?_, ?_, ?_⟩
    all_goals (intros; first | unfold vpack_Read.j3 | unfold vpack_Read.l2 | unfold vpack_Read.j5 | unfold vpack_Read.l3 | unfold vpack_Read.l0 | unfold vpack_Read.l1 | unfold vpack_Read.j2)
    all_goals with_reducible repeat' first
     | exact ih0 _ _ _ _ _ _ _ _
     | exact ih1 _ _ _ _ _ _ _ _ _ _
     | exact ih2 _ _ _ _ _ _ _ _ _ _ _
     | exact ih3 _ _ _ _ _ _ _ _ _ _ _
     | exact ih4 _ _ _ _ _ _ _ _ _ _
     | exact ih5 _ _ _ _ _ _ _ _ _ _ _ _
     | exact ih6 _ _ _ _ _ _ _ _ _ _ _ _ _
     | exact bits_Get.mono _ _ _ _
     | exact huff_Read.mono _ _ _ _
     | exact vhead_Right.mono _ _ _ _ _
     | exact vpack_taken.mono _ _ _ _
     | exact LeO.refl _
     | exact LeO.none _
     | refine LeO.ite ?_ ?_
     | refine LeO.bind ?_ (fun _ => ?_)
theorem vpack_Read.mono : ∀ a0 a1 a2 a3 a4 k, LeO (vpack_Read.f k a0 a1 a2 a3 a4) (vpack_Read.f (k + 1) a0 a1 a2 a3 a4) := by
  intro a0 a1 a2 a3 a4 k
  obtain ⟨ih0, ih1, ih2, ih3, ih4, ih5, ih6⟩ := vpack_Read.mono_l k
  unfold vpack_Read.f
  with_reducible repeat' first
   | exact ih0 _ _ _ _ _ _ _ _
   | exact ih1 _ _ _ _ _ _ _ _ _ _
   | exact ih2 _ _ _ _ _ _ _ _ _ _ _
   | exact ih3 _ _ _ _ _ _ _ _ _ _ _
   | exact ih4 _ _ _ _ _ _ _ _ _ _
   | exact ih5 _ _ _ _ _ _ _ _ _ _ _ _
   | exact ih6 _ _ _ _ _ _ _ _ _ _ _ _ _
   | exact bits_Get.mono _ _ _ _
   | exact huff_Read.mono _ _ _ _
   | exact vhead_Right.mono _ _ _ _ _
   | exact vpack_taken.mono _ _ _ _
   | exact LeO.refl _
   | exact LeO.none _
   | refine LeO.ite ?_ ?_
   | refine LeO.bind ?_ (fun _ => ?_)
def vpack_Read.T14 : Bool × List (List Nat × List Nat) := (true, [([], []), ([], []), ([], []), ([], []), ([3], [3]), ([2, 4], [2, 4]), ([0, 5, 0], [0]), ([1, 6, 0, 1, 6], [1]), ([5, 7, 0, 1, 2, 3, 4, 5, 6, 7], [2, 5])])
def vpack_Read.B14 : List Nat := [0, 0, 0, 0, 8, 28, 61, 127, 255]
theorem vpack_Read.tab14 : rtab .any (opsOf Try.f34 14) = vpack_Read.T14 := by kernel_rfl
theorem vpack_Read.bits14 : waitsOk vpack_Read.T14.2 vpack_Read.B14 = true := by kernel_rfl
def vpack_Read.T24 : Bool × List (List Nat × List Nat) := (true, [([], []), ([], []), ([], []), ([], []), ([3], [3]), ([2, 4], [2, 4]), ([0, 5, 0], [0]), ([1, 6, 0, 1, 6], [1]), ([5, 7, 0, 1, 2, 3, 4, 5, 6, 7], [2, 5])])
def vpack_Read.B24 : List Nat := [0, 0, 0, 0, 8, 28, 61, 127, 255]
theorem vpack_Read.tab24 : rtab .any (opsOf Try.f34 24) = vpack_Read.T24 := by kernel_rfl
theorem vpack_Read.bits24 : waitsOk vpack_Read.T24.2 vpack_Read.B24 = true := by kernel_rfl
set_option maxHeartbeats 8000000 in
set_option maxRecDepth 100000 in
theorem vpack_Read.calls (k : Nat) (a0_0 : Int) (a0_1 : Int) (A0_2 : Option Addr) (c0_2 : Nat) (l0_2 : List Int) (A0_3 : Option Addr) (c0_3 : Nat) (l0_3 : List Int) (A1 : Option Addr) (c1 : Nat) (l1 : List Int) (r1 : List (List Int)) (r2 : List (List Int)) (r3 : Int) (w : World) (hr0_2 : Kd.C (Kd.int .i64) w A0_2 l0_2.length l0_2) (hc0_2 : l0_2.length ≤ c0_2) (hr0_3 : Kd.C (Kd.int .i64) w A0_3 l0_3.length l0_3) (hc0_3 : l0_3.length ≤ c0_3) (hr1 : Kd.C (Kd.int .u8) w A1 l1.length l1) (hc1 : l1.length ≤ c1) (h : vpack_Read.f k a0_0 a0_1 l0_2 l0_3 l1 = some (r1, r2, r3)) :
    Calls Try.prog 34 #[.agg #[.int .i64 a0_0, .int .i64 a0_1, .slice A0_2 l0_2.length c0_2, .slice A0_3 l0_3.length c0_3], .slice A1 l1.length c1] w fun e w' => ∃ v0_ v1_ : Value, e = .returned (.tuple #[.agg #[v0_, v1_], .int .i64 r3]) ∧ Kd.S (Kd.slice 3 (Kd.int .i64)) 22 w' w.heap.size (fun _ => True) v0_ r1 ∧ Kd.S (Kd.slice 2 (Kd.int .i64)) 84 w' w.heap.size (fun _ => True) v1_ r2 ∧ Below w.heap.size w w' := by
 have hu24 := Try.underlying24
 have hu48 := Try.underlying48
 have hu77 := Try.underlying77
 have HR0_2 := Aside0.mk hr0_2
 have HC0_2 := Aside0.mk hc0_2
 clear hr0_2 hc0_2
 have HR0_3 := Aside0.mk hr0_3
 have HC0_3 := Aside0.mk hc0_3
 clear hr0_3 hc0_3
 have HR1 := Aside0.mk hr1
 have HC1 := Aside0.mk hc1
 clear hr1 hc1
 have HB := Aside0.mk (Below.refl w.heap.size w)
 have H : ((vhead_Right.f k a0_0 a0_1 l0_2 l0_3).bind fun t557 => (if t557 = true then (vpack_Read.l0 k 0 a0_0 0 a0_0 a0_1 l0_2 l0_3 l1 0 ([] : List (List Int))) else (some (([] : List (List Int)), ([] : List (List Int)), 1)))) = some (r1, r2, r3) := h
 clear h
 obtain ⟨t557, A3, H⟩ := ob_ H
 (try dsimp only at H)
 by_cases c4 : t557 = true
 {
 subst c4
 rw [if_pos rfl] at H
 have HC5 := Aside0.mk H
 clear H
 go_enter Try.func34, Try.ntmps34
 go_upto_block 0 with (first | (with_reducible refine scope_straight48_ ?_) | (with_reducible refine wp_label ?_) | ((with_reducible refine gate_dst (N := 2) rfl ?_); (try (refine gate_guard (by rfl) ?_; dsimp only)); refine bx_ HB 2 #[.int .i64 a0_0, .int .i64 a0_1, .slice A0_2 l0_2.length c0_2, .slice A0_3 l0_3.length c0_3] 24 ?_; clear HB; intro gb555 hg w6 hb BK555 GE555 HB; have GW555 := GE555; clear hb hg) | ((with_reducible refine gate_dst (N := 4) rfl ?_); (try (refine gate_guard (by rfl) ?_; dsimp only)); refine bx_ HB 4 #[.slice none 0 0, .slice none 0 0] 48 ?_; clear HB; intro gb556 hg w7 hb BK556 GE556 HB; have GW556 := GE556; obtain ⟨NB555_556, NB556_555⟩ := NN_ BK555 hg; replace BK555 := FB_ BK555 hb; clear hb hg; have hnb8 := NB555_556.out; have hnc8 := NB556_555.out; obtain ⟨hcz9_0, hcz9_1, hcz9_2, hcz9_3, hfz9_0, hfz9_1, hfz9_2, hfz9_3⟩ := e4_ BK555) | ((with_reducible refine gate_callee (f := 17) rfl ?_); refine gL_ (some 26) Try.func17 #[.agg #[.int .i64 a0_0, .int .i64 a0_1, .slice A0_2 l0_2.length c0_2, .slice A0_3 l0_3.length c0_3]] ?_; (with_reducible refine (vhead_Right.calls k a0_0 a0_1 _ _ l0_2 _ _ l0_3 true _ ?side1 ?side2 ?side3 ?side4 A3.out).mono ?_); (case side1 => exact kC_ HR0_2 HB); (case side2 => exact HC0_2.out); (case side3 => exact kC_ HR0_3 HB); (case side4 => exact HC0_3.out); rintro e w10 ⟨rfl, hb⟩; refine ⟨_, rfl, ?_⟩; replace BK555 := FB_ BK555 hb; replace BK556 := FB_ BK556 hb; replace HB := BS_ HB hb; (try clear hb)) | ((with_reducible refine gate_dst (N := 6) rfl ?_); (try (refine gate_guard (by rfl) ?_; dsimp only)); refine bx_ HB 6 #[.slice none 0 0, .int .i64 0] 77 ?_; clear HB; intro gb558 hg w11 hb BK558 GE558 HB; have GW558 := GE558; obtain ⟨NB555_558, NB558_555⟩ := NN_ BK555 hg; replace BK555 := FB_ BK555 hb; obtain ⟨NB556_558, NB558_556⟩ := NN_ BK556 hg; replace BK556 := FB_ BK556 hb; clear hb hg; have hnb12 := NB558_555.out; have hnc12 := NB555_558.out; have hnb13 := NB558_556.out; have hnc13 := NB556_558.out; obtain ⟨hcz14_0, hcz14_1, hfz14_0, hfz14_1⟩ := e2_ BK558) | ((with_reducible refine gate_dst (N := 7) rfl ?_); (try (refine gate_guard (by rfl) ?_; dsimp only)); refine bx_ HB 7 #[.slice none 0 0, .slice none 0 0] 48 ?_; clear HB; intro gb559 hg w15 hb BK559 GE559 HB; have GW559 := GE559; obtain ⟨NB555_559, NB559_555⟩ := NN_ BK555 hg; replace BK555 := FB_ BK555 hb; obtain ⟨NB556_559, NB559_556⟩ := NN_ BK556 hg; replace BK556 := FB_ BK556 hb; obtain ⟨NB558_559, NB559_558⟩ := NP_ (.cells #[.slice A1 l1.length c1, .int .i64 0] 77 (0, 0)) BK558 hg; replace BK558 := Aside0.mk (blk_below (g := gb558) (o := .cells #[.slice A1 l1.length c1, .int .i64 0] 77 (0, 0)) (bp_ BK558) hb); clear hb hg; have hnb16 := NB555_559.out; have hnc16 := NB559_555.out; obtain ⟨hcz17_0, hcz17_1, hcz17_2, hcz17_3, hfz17_0, hfz17_1, hfz17_2, hfz17_3⟩ := e4_ BK555))
 (try simp only [Act.put, List.setIfInBounds_toArray, List.set_cons_zero, List.set_cons_succ])
 go_cut [8] (fun v8 wc => ∃ (kq : Nat) (x8_4 : Int) (x559001_4 : Int) (x560000_4 : List (List Int)) (u560000 : Value), v8 = .int .i64 x8_4 ∧ Aside0 (vpack_Read.j3 kq x8_4 a0_0 a0_1 l0_2 l0_3 l1 x559001_4 x560000_4 = some (r1, r2, r3)) ∧ Aside0 (kq ≤ k) ∧ Aside0 (Kd.S (Kd.slice 3 (Kd.int .i64)) 22 wc w.heap.size (fun _ => True) u560000 x560000_4) ∧ Aside0 (wc.heap[gb555]? = some (.cells #[.int .i64 a0_0, .int .i64 a0_1, (.slice A0_2 l0_2.length c0_2), (.slice A0_3 l0_3.length c0_3)] 24 (0, 0))) ∧ Aside0 (wc.heap[gb556]? = some (.cells #[(.slice none 0 0), (.slice none 0 0)] 48 (0, 0))) ∧ Aside0 (wc.heap[gb558]? = some (.cells #[(.slice A1 l1.length c1), .int .i64 x559001_4] 77 (0, 0))) ∧ Aside0 (wc.heap[gb559]? = some (.cells #[u560000, (.slice none 0 0)] 48 (0, 0))) ∧ Aside0 (Below w.heap.size w wc))
 case first => (
 have H := HC5.out
 clear HC5
 have H' := Aside0.mk H
 clear H
 go_wp2
 go_loopg [8, 33] k (fun kq v8 v33 w' => ∃ (x8_1 : Int) (x33_1 : Int) (x559001_1 : Int) (x560000_1 : List (List Int)) (u560000 : Value), v8 = .int .i64 x8_1 ∧ v33 = .int .i64 x33_1 ∧ Aside0 (vpack_Read.l0 kq x8_1 a0_0 x33_1 a0_0 a0_1 l0_2 l0_3 l1 x559001_1 x560000_1 = some (r1, r2, r3)) ∧ Aside0 (kq ≤ k) ∧ Aside0 (Kd.S (Kd.slice 3 (Kd.int .i64)) 22 w' w.heap.size (fun _ => True) u560000 x560000_1) ∧ Aside0 (w'.heap[gb555]? = some (.cells #[.int .i64 a0_0, .int .i64 a0_1, (.slice A0_2 l0_2.length c0_2), (.slice A0_3 l0_3.length c0_3)] 24 (0, 0))) ∧ Aside0 (w'.heap[gb556]? = some (.cells #[(.slice none 0 0), (.slice none 0 0)] 48 (0, 0))) ∧ Aside0 (w'.heap[gb558]? = some (.cells #[(.slice A1 l1.length c1), .int .i64 x559001_1] 77 (0, 0))) ∧ Aside0 (w'.heap[gb559]? = some (.cells #[u560000, (.slice none 0 0)] 48 (0, 0))) ∧ Aside0 (Below w.heap.size w w'))
 case atStart => exact ⟨(0), (0), (0), (([] : List (List Int))), (.slice none 0 0), rs_, rs_, H', ⟨Nat.le_refl _⟩, ⟨kn_⟩, ⟨bk_ BK555⟩, ⟨bk_ BK556⟩, ⟨bk_ BK558⟩, ⟨bk_ BK559⟩, ⟨bl_ HB⟩⟩
 case round => (
 clear H'
 try clear c1
 try clear c4
 try clear hcz14_0
 try clear hcz14_1
 try clear hcz17_0
 try clear hcz17_1
 try clear hcz17_2
 try clear hcz17_3
 try clear hcz9_0
 try clear hcz9_1
 try clear hcz9_2
 try clear hcz9_3
 try clear hfz14_0
 try clear hfz14_1
 try clear hfz17_0
 try clear hfz17_1
 try clear hfz17_2
 try clear hfz17_3
 try clear hfz9_0
 try clear hfz9_1
 try clear hfz9_2
 try clear hfz9_3
 obtain ⟨x8_1, x33_1, x559001_1, x560000_1, u560000, rfl, rfl, HA, HK1, HO_560000, BK555, BK556, BK558, BK559, HB⟩ := hrel
 cases gk with
 | zero => exact absurd HA.out (by simp [vpack_Read.l0])
 | succ k1 => (
 have H := HA.out
 clear HA
 simp only [vpack_Read.l0] at H
 by_cases c18 : x33_1 < a0_0
 {
 rw [if_pos c18] at H
 have c18b0 : decide (x33_1 < a0_0) = true := decide_eq_true c18
 clear c18
 (first | rw [c18b0] | (simp only [i64_w, i32_w]; rw [c18b0]) | skip)
 obtain ⟨⟨t560, t561, t562⟩, A19, H⟩ := ob_ H
 (try dsimp only at H)
 by_cases c20 : t562 = 0
 {
 rw [if_pos c20] at H
 have c20b0 : (t562 == 0) = true := beq_iff_eq.mpr c20
 have c20b1 : (t562 != 0) = false := bne_eq_false_iff_eq.mpr c20
 clear c20
 have H' := Aside0.mk H
 clear H
 have hnb21 := NB558_555.out
 have hnc21 := NB555_558.out
 have hnb22 := NB558_556.out
 have hnc22 := NB556_558.out
 have hnb23 := NB558_559.out
 have hnc23 := NB559_558.out
 obtain ⟨hcz24_0, hcz24_1, hfz24_0, hfz24_1⟩ := e2_ BK558
 go_wp2_with (first | (with_reducible refine scope_straight48_ ?_) | (with_reducible refine wp_label ?_) | ((with_reducible refine gate_callee (f := 55) rfl ?_); refine gL_ (some 37) Try.func55 #[.agg #[.slice A1 l1.length c1, .int .i64 x559001_1], .int .i64 1] ?_; (with_reducible refine (bits_Get.calls k1 _ _ l1 x559001_1 1 t560 t561 t562 _ ?side1 ?side2 A19.out).mono ?_); (case side1 => exact kC_ HR1 HB); (case side2 => exact HC1.out); rintro e w25 ⟨rfl, hb⟩; refine ⟨_, rfl, ?_⟩; replace HO_560000 := FS_ HO_560000 hb; replace BK555 := FB_ BK555 hb; replace BK556 := FB_ BK556 hb; replace BK558 := FB_ BK558 hb; replace BK559 := FB_ BK559 hb; replace HB := BS_ HB hb; (try clear hb)) | ((with_reducible refine gate_dst (N := 9) rfl ?_); (try (refine gate_guard (by rfl) ?_; dsimp only)); refine bx_ HB 9 #[.slice none 0 0, .int .i64 0] 77 ?_; clear HB; intro gb563 hg w26 hb BK563 GE563 HB; have GW563 := GE563; replace HO_560000 := FS_ HO_560000 hb; obtain ⟨NB555_563, NB563_555⟩ := NN_ BK555 hg; replace BK555 := FB_ BK555 hb; obtain ⟨NB556_563, NB563_556⟩ := NN_ BK556 hg; replace BK556 := FB_ BK556 hb; obtain ⟨NB558_563, NB563_558⟩ := NN_ BK558 hg; replace BK558 := FB_ BK558 hb; obtain ⟨NB559_563, NB563_559⟩ := NN_ BK559 hg; replace BK559 := FB_ BK559 hb; clear hb hg; have hnb27 := NB563_555.out; have hnc27 := NB555_563.out; have hnb28 := NB563_556.out; have hnc28 := NB556_563.out; have hnb29 := NB563_558.out; have hnc29 := NB558_563.out; have hnb30 := NB563_559.out; have hnc30 := NB559_563.out; obtain ⟨hcz31_0, hcz31_1, hfz31_0, hfz31_1⟩ := e2_ BK563; obtain ⟨hcz32_0, hcz32_1, hfz32_0, hfz32_1⟩ := e2_ BK558))
 go_loopg [8, 12] k1 (fun kq v8 v12 w' => ∃ (x8_2 : Int) (x12_2 : List Int) (x559001_2 : Int), v8 = .int .i64 x8_2 ∧ Aside0 (vpack_Read.l1 kq x8_2 t561 x12_2 a0_0 x33_1 a0_0 a0_1 l0_2 l0_3 l1 x559001_2 x560000_1 = some (r1, r2, r3)) ∧ Aside0 (kq ≤ k1) ∧ Aside0 (Kd.R (Kd.int .i64) 3 w' w.heap.size (fun _ => True) v12 x12_2) ∧ Aside0 (Kd.S (Kd.slice 3 (Kd.int .i64)) 22 w' w.heap.size (fun k_ => some k_ ≠ (v12 : Value).ownBlock) u560000 x560000_1) ∧ Aside0 (w'.heap[gb555]? = some (.cells #[.int .i64 a0_0, .int .i64 a0_1, (.slice A0_2 l0_2.length c0_2), (.slice A0_3 l0_3.length c0_3)] 24 (0, 0))) ∧ Aside0 (w'.heap[gb556]? = some (.cells #[(.slice none 0 0), (.slice none 0 0)] 48 (0, 0))) ∧ Aside0 (w'.heap[gb558]? = some (.cells #[(.slice A1 l1.length c1), .int .i64 x559001_2] 77 (0, 0))) ∧ Aside0 (w'.heap[gb559]? = some (.cells #[u560000, (.slice none 0 0)] 48 (0, 0))) ∧ Aside0 (w'.heap[gb563]? = some (.cells #[(.slice A1 l1.length c1), .int .i64 t560] 77 (0, 0))) ∧ Aside0 (Below w.heap.size w w'))
 case atStart => exact ⟨(t562), (([] : List Int)), (t560), rs_, H', ⟨Nat.le_refl _⟩, ⟨by first | exact Kd.R_nil _ _ _ _ _ | exact Kd.N_nil _ _ _ _ _ | exact Kd.V_nil _ _ _ _ _ | exact Kd.Q_nil _ _ _ _ _ | exact Kd.S_nil _ _ _ _ _⟩, ⟨by (with_reducible repeat (first | apply Kd.S_alloc | apply Kd.S_drewN | apply Kd.S_drew)); exact Kd.S_mono (Kd.S_far (p := ⟨gb558, 1, none⟩) (Kd.S_far (p := ⟨gb558, 0, none⟩) (Kd.S_far (p := ⟨gb563, 1, none⟩) (Kd.S_far (p := ⟨gb563, 0, none⟩) (Kd.S_types (Kd.S_types HO_560000.out BK563.out (by decide)) BK558.out (by decide)) (fun _ hk => hk.1.2) (.slice A1 l1.length c1)) (fun _ hk => hk.1.2) (.int .i64 t560)) (fun _ hk => hk.2) (.slice A1 l1.length c1)) (fun _ hk => hk.2) (.int .i64 t560)) (fun _ hk => (by simp [Value.ownBlock]))⟩, ⟨bk_ BK555⟩, ⟨bk_ BK556⟩, ⟨bp_ BK558⟩, ⟨bk_ BK559⟩, ⟨bp_ BK563⟩, ⟨bl_ HB⟩⟩
 case round => (
 clear H'
 try clear c1
 try clear c4
 try clear c18
 try clear c18b0
 try clear c20
 try clear c20b0
 try clear c20b1
 try clear hcz14_0
 try clear hcz14_1
 try clear hcz17_0
 try clear hcz17_1
 try clear hcz17_2
 try clear hcz17_3
 try clear hcz24_0
 try clear hcz24_1
 try clear hcz31_0
 try clear hcz31_1
 try clear hcz32_0
 try clear hcz32_1
 try clear hcz9_0
 try clear hcz9_1
 try clear hcz9_2
 try clear hcz9_3
 try clear hfz14_0
 try clear hfz14_1
 try clear hfz17_0
 try clear hfz17_1
 try clear hfz17_2
 try clear hfz17_3
 try clear hfz24_0
 try clear hfz24_1
 try clear hfz31_0
 try clear hfz31_1
 try clear hfz32_0
 try clear hfz32_1
 try clear hfz9_0
 try clear hfz9_1
 try clear hfz9_2
 try clear hfz9_3
 obtain ⟨x8_2, x12_2, x559001_2, rfl, HA, HK2, HO_12, HO_560000, BK555, BK556, BK558, BK559, BK563, HB⟩ := hrel
 cases gk with
 | zero => exact absurd HA.out (by simp [vpack_Read.l1])
 | succ k2 => (
 have H := HA.out
 clear HA
 simp only [vpack_Read.l1] at H
 have HC33 := Aside0.mk H
 clear H
 go_upto_region 12 with (first | (with_reducible refine scope_straight48_ ?_) | (with_reducible refine wp_label ?_))
 go_cut [51] (fun v51 wc => ∃ (kq : Nat) (x51_32 : Bool), v51 = .bool x51_32 ∧ Aside0 (vpack_Read.j2 kq x8_2 t561 x12_2 a0_0 x33_1 x51_32 a0_0 a0_1 l0_2 l0_3 l1 x559001_2 x560000_1 = some (r1, r2, r3)) ∧ Aside0 (kq ≤ k2) ∧ Aside0 (Kd.R (Kd.int .i64) 3 wc w.heap.size (fun _ => True) u12 x12_2) ∧ Aside0 (Kd.S (Kd.slice 3 (Kd.int .i64)) 22 wc w.heap.size (fun k_ => some k_ ≠ (u12 : Value).ownBlock) u560000 x560000_1) ∧ Aside0 (wc.heap[gb555]? = some (.cells #[.int .i64 a0_0, .int .i64 a0_1, (.slice A0_2 l0_2.length c0_2), (.slice A0_3 l0_3.length c0_3)] 24 (0, 0))) ∧ Aside0 (wc.heap[gb556]? = some (.cells #[(.slice none 0 0), (.slice none 0 0)] 48 (0, 0))) ∧ Aside0 (wc.heap[gb558]? = some (.cells #[(.slice A1 l1.length c1), .int .i64 x559001_2] 77 (0, 0))) ∧ Aside0 (wc.heap[gb559]? = some (.cells #[u560000, (.slice none 0 0)] 48 (0, 0))) ∧ Aside0 (wc.heap[gb563]? = some (.cells #[(.slice A1 l1.length c1), .int .i64 t560] 77 (0, 0))) ∧ Aside0 (Below w.heap.size w wc))
 case first => (
 have H := HC33.out
 clear HC33
 by_cases c34 : (x12_2.length : Int) < 6
 {
 rw [if_pos c34] at H
 have c34b0 : decide ((x12_2.length : Int) < 6) = true := decide_eq_true c34
 have c34b1 : decide (x12_2.length < 6) = true := decide_eq_true (by omega)
 clear c34
 (first | rw [c34b0] | (simp only [i64_w, i32_w]; rw [c34b0]) | skip)
 have H' := Aside0.mk H
 clear H
 obtain ⟨Ao35, co35, eo35⟩ := Kd.R_slice HO_12.out
 subst eo35
 go_wp2
 go_meet
 case rel => exact ⟨_, ((t561 == 1)), rs_, H', ⟨by have := HK1.out; have := HK2.out; first | omega | exact Nat.le_refl _⟩, ⟨kR_ HO_12⟩, ⟨kS_ HO_560000⟩, ⟨bk_ BK555⟩, ⟨bk_ BK556⟩, ⟨bk_ BK558⟩, ⟨bk_ BK559⟩, ⟨bk_ BK563⟩, ⟨bl_ HB⟩⟩}
 {
 rw [if_neg c34] at H
 have c34b0 : decide ((x12_2.length : Int) < 6) = false := decide_eq_false c34
 have c34b1 : decide (x12_2.length < 6) = false := decide_eq_false (by omega)
 clear c34
 (first | rw [c34b0] | (simp only [i64_w, i32_w]; rw [c34b0]) | skip)
 have H' := Aside0.mk H
 clear H
 obtain ⟨Ao36, co36, eo36⟩ := Kd.R_slice HO_12.out
 subst eo36
 go_wp2
 go_meet
 case rel => exact ⟨_, (false), rs_, H', ⟨by have := HK1.out; have := HK2.out; first | omega | exact Nat.le_refl _⟩, ⟨kR_ HO_12⟩, ⟨kS_ HO_560000⟩, ⟨bk_ BK555⟩, ⟨bk_ BK556⟩, ⟨bk_ BK558⟩, ⟨bk_ BK559⟩, ⟨bk_ BK563⟩, ⟨bl_ HB⟩⟩})
 case rest => (
 clear HC33
 try clear c1
 try clear c4
 try clear c18
 try clear c18b0
 try clear c20
 try clear c20b0
 try clear c20b1
 try clear hcz14_0
 try clear hcz14_1
 try clear hcz17_0
 try clear hcz17_1
 try clear hcz17_2
 try clear hcz17_3
 try clear hcz24_0
 try clear hcz24_1
 try clear hcz31_0
 try clear hcz31_1
 try clear hcz32_0
 try clear hcz32_1
 try clear hcz9_0
 try clear hcz9_1
 try clear hcz9_2
 try clear hcz9_3
 try clear hfz14_0
 try clear hfz14_1
 try clear hfz17_0
 try clear hfz17_1
 try clear hfz17_2
 try clear hfz17_3
 try clear hfz24_0
 try clear hfz24_1
 try clear hfz31_0
 try clear hfz31_1
 try clear hfz32_0
 try clear hfz32_1
 try clear hfz9_0
 try clear hfz9_1
 try clear hfz9_2
 try clear hfz9_3
 obtain ⟨kq, x51_32, rfl, HA, HJ32, HO_12, HO_560000, BK555, BK556, BK558, BK559, BK563, HB⟩ := hcut
 cases kq with
 | zero => exact absurd HA.out (by simp [vpack_Read.j2])
 | succ kj32 => (
 have H := HA.out
 clear HA
 simp only [vpack_Read.j2] at H
 by_cases c37 : x51_32 = true
 {
 subst c37
 rw [if_pos rfl] at H
 obtain ⟨⟨t564, t565, t566⟩, A38, H⟩ := ob_ H
 (try dsimp only at H)
 by_cases c39 : x12_2.length < 17592186044416
 {
 rw [if_pos c39] at H
 have LMc39 := Aside0.mk c39
 clear c39
 obtain ⟨y568, hy568⟩ : ∃ y_ : List Int, y_ = (x12_2 ++ [t565]) := ⟨_, rfl⟩
 replace H : (if t566 = 0 then (vpack_Read.l1 kj32 t566 t561 y568 a0_0 x33_1 a0_0 a0_1 l0_2 l0_3 l1 t564 x560000_1) else (vpack_Read.j3 kj32 t566 a0_0 a0_1 l0_2 l0_3 l1 t564 x560000_1)) = some (r1, r2, r3) := by first | (rw [hy568]; with_reducible exact H) | (have H2_ := (Option.bind_some _ _).symm.trans H; rw [hy568]; with_reducible exact H2_) | (have H2_ := (Option.bind_some _ _).symm.trans H; with_reducible exact H2_) | with_reducible exact H | (rw [hy568]; exact H) | exact H
 have Ny568 := Aside0.mk hy568
 clear hy568
 by_cases c40 : t566 = 0
 {
 rw [if_pos c40] at H
 have c40b0 : (t566 == 0) = true := beq_iff_eq.mpr c40
 have c40b1 : (t566 != 0) = false := bne_eq_false_iff_eq.mpr c40
 clear c40
 have H' := Aside0.mk H
 clear H
 have hnb41 := NB558_555.out
 have hnc41 := NB555_558.out
 have hnb42 := NB558_556.out
 have hnc42 := NB556_558.out
 have hnb43 := NB558_559.out
 have hnc43 := NB559_558.out
 have hnb44 := NB558_563.out
 have hnc44 := NB563_558.out
 obtain ⟨hcz45_0, hcz45_1, hfz45_0, hfz45_1⟩ := e2_ BK558
 have hnb46 := NB555_556.out
 have hnc46 := NB556_555.out
 have hnb47 := NB555_559.out
 have hnc47 := NB559_555.out
 have hnb48 := NB555_563.out
 have hnc48 := NB563_555.out
 obtain ⟨hcz49_0, hcz49_1, hcz49_2, hcz49_3, hfz49_0, hfz49_1, hfz49_2, hfz49_3⟩ := e4_ BK555
 try go_wp2_with (first | (with_reducible refine scope_straight48_ ?_) | (with_reducible refine wp_label ?_) | ((with_reducible refine gate_callee (f := 56) rfl ?_); refine gL_ (some 56) Try.func56 #[.agg #[.slice A1 l1.length c1, .int .i64 x559001_2], .slice A0_2 l0_2.length c0_2] ?_; (with_reducible refine (huff_Read.calls kj32 _ _ l1 x559001_2 _ _ l0_2 t564 t565 t566 _ ?side1 ?side2 ?side3 ?side4 A38.out).mono ?_); (case side1 => exact kC_ HR1 HB); (case side2 => exact HC1.out); (case side3 => exact kC_ HR0_2 HB); (case side4 => exact HC0_2.out); rintro e w50 ⟨rfl, hb⟩; refine ⟨_, rfl, ?_⟩; replace HO_12 := FR_ HO_12 hb; replace HO_560000 := FS_ HO_560000 hb; replace BK555 := FB_ BK555 hb; replace BK556 := FB_ BK556 hb; replace BK558 := FB_ BK558 hb; replace BK559 := FB_ BK559 hb; replace BK563 := FB_ BK563 hb; replace HB := BS_ HB hb; (try clear hb)) | ((with_reducible refine gate_dst (N := 13) rfl ?_); (try (refine gate_guard (by rfl) ?_; dsimp only)); refine bx_ HB 13 #[.slice none 0 0, .int .i64 0] 77 ?_; clear HB; intro gb567 hg w51 hb BK567 GE567 HB; have GW567 := GE567; replace HO_12 := FR_ HO_12 hb; replace HO_560000 := FS_ HO_560000 hb; obtain ⟨NB555_567, NB567_555⟩ := NN_ BK555 hg; replace BK555 := FB_ BK555 hb; obtain ⟨NB556_567, NB567_556⟩ := NN_ BK556 hg; replace BK556 := FB_ BK556 hb; obtain ⟨NB558_567, NB567_558⟩ := NN_ BK558 hg; replace BK558 := FB_ BK558 hb; obtain ⟨NB559_567, NB567_559⟩ := NN_ BK559 hg; replace BK559 := FB_ BK559 hb; obtain ⟨NB563_567, NB567_563⟩ := NN_ BK563 hg; replace BK563 := FB_ BK563 hb; clear hb hg; have hnb52 := NB567_555.out; have hnc52 := NB555_567.out; have hnb53 := NB567_556.out; have hnc53 := NB556_567.out; have hnb54 := NB567_558.out; have hnc54 := NB558_567.out; have hnb55 := NB567_559.out; have hnc55 := NB559_567.out; have hnb56 := NB567_563.out; have hnc56 := NB563_567.out; obtain ⟨hcz57_0, hcz57_1, hfz57_0, hfz57_1⟩ := e2_ BK567))
 have n0_ : Aside0 (Kd.R (Kd.int .i64) 3 ((w51.setCell ⟨gb567, 0, none⟩ (.slice A1 l1.length c1)).setCell ⟨gb567, 1, none⟩ (.int .i64 t564)) w.heap.size (fun _ => True) u12 x12_2) := ⟨by (with_reducible repeat (first | apply Kd.R_alloc | apply Kd.R_drewN | apply Kd.R_drew)); exact Kd.R_mono (Kd.R_far (p := ⟨gb567, 1, none⟩) (Kd.R_far (p := ⟨gb567, 0, none⟩) (Kd.R_types HO_12.out BK567.out (by decide)) (fun _ hk => hk.2) (.slice A1 l1.length c1)) (fun _ hk => hk.2) (.int .i64 t564)) (fun _ hk => trivial)⟩
 have n1_ : Aside0 (Kd.S (Kd.slice 3 (Kd.int .i64)) 22 ((w51.setCell ⟨gb567, 0, none⟩ (.slice A1 l1.length c1)).setCell ⟨gb567, 1, none⟩ (.int .i64 t564)) w.heap.size (fun k_ => some k_ ≠ (u12 : Value).ownBlock) u560000 x560000_1) := ⟨kSk_ HO_560000 BK567⟩
 have n2_ : Aside0 (((w51.setCell ⟨gb567, 0, none⟩ (.slice A1 l1.length c1)).setCell ⟨gb567, 1, none⟩ (.int .i64 t564)).heap[gb555]? = some (.cells #[.int .i64 a0_0, .int .i64 a0_1, .slice A0_2 l0_2.length c0_2, .slice A0_3 l0_3.length c0_3] 24 (0, 0))) := ⟨bk_ BK555⟩
 have n3_ : Aside0 (((w51.setCell ⟨gb567, 0, none⟩ (.slice A1 l1.length c1)).setCell ⟨gb567, 1, none⟩ (.int .i64 t564)).heap[gb556]? = some (.cells #[.slice none 0 0, .slice none 0 0] 48 (0, 0))) := ⟨bk_ BK556⟩
 have n4_ : Aside0 (((w51.setCell ⟨gb567, 0, none⟩ (.slice A1 l1.length c1)).setCell ⟨gb567, 1, none⟩ (.int .i64 t564)).heap[gb558]? = some (.cells #[.slice A1 l1.length c1, .int .i64 x559001_2] 77 (0, 0))) := ⟨bk_ BK558⟩
 have n5_ : Aside0 (((w51.setCell ⟨gb567, 0, none⟩ (.slice A1 l1.length c1)).setCell ⟨gb567, 1, none⟩ (.int .i64 t564)).heap[gb559]? = some (.cells #[u560000, .slice none 0 0] 48 (0, 0))) := ⟨bk_ BK559⟩
 have n6_ : Aside0 (((w51.setCell ⟨gb567, 0, none⟩ (.slice A1 l1.length c1)).setCell ⟨gb567, 1, none⟩ (.int .i64 t564)).heap[gb563]? = some (.cells #[.slice A1 l1.length c1, .int .i64 t560] 77 (0, 0))) := ⟨bk_ BK563⟩
 have n7_ : Aside0 (((w51.setCell ⟨gb567, 0, none⟩ (.slice A1 l1.length c1)).setCell ⟨gb567, 1, none⟩ (.int .i64 t564)).heap[gb567]? = some (.cells #[.slice A1 l1.length c1, .int .i64 t564] 77 (0, 0))) := ⟨bp_ BK567⟩
 have n8_ : Aside0 (Below w.heap.size w ((w51.setCell ⟨gb567, 0, none⟩ (.slice A1 l1.length c1)).setCell ⟨gb567, 1, none⟩ (.int .i64 t564))) := ⟨bl_ HB⟩
 (try clear HO_12)
 (try clear HO_560000)
 (try clear BK555)
 (try clear BK556)
 (try clear BK558)
 (try clear BK559)
 (try clear BK563)
 (try clear BK567)
 (try clear HB)
 generalize ((w51.setCell ⟨gb567, 0, none⟩ (.slice A1 l1.length c1)).setCell ⟨gb567, 1, none⟩ (.int .i64 t564)) = w58 at n0_ n1_ n2_ n3_ n4_ n5_ n6_ n7_ n8_ ⊢
 have HO_12 := n0_
 have HO_560000 := n1_
 have BK555 := n2_
 have BK556 := n3_
 have BK558 := n4_
 have BK559 := n5_
 have BK563 := n6_
 have BK567 := n7_
 have HB := n8_
 clear n0_ n1_ n2_ n3_ n4_ n5_ n6_ n7_ n8_
 replace HO_12 := Aside0.mk (Kd.R_drew HO_12.out)
 replace HO_560000 := Aside0.mk (Kd.S_drew HO_560000.out)
 replace BK555 := Aside0.mk (blk_drew BK555.out)
 replace BK556 := Aside0.mk (blk_drew BK556.out)
 replace BK558 := Aside0.mk (blk_drew BK558.out)
 replace BK559 := Aside0.mk (blk_drew BK559.out)
 replace BK563 := Aside0.mk (blk_drew BK563.out)
 replace BK567 := Aside0.mk (blk_drew BK567.out)
 replace HB := Aside0.mk (below_drew1 HB.out)
 refine start_ (n := 9) (S := fun w' => w'.cell? ⟨gb567, 0, none⟩ = some (.slice A1 l1.length c1) ∧ w'.cell? ⟨gb567, 1, none⟩ = some (.int .i64 t564)) (ds := []) (B_ 9 0) kf_ rfl rfl ⟨ce_ BK567 0, ce_ BK567 1⟩ (fun hHeld => ?_); refine with_tabW vpack_Read.tab14 vpack_Read.bits14 (fun HT_ HW_ => ?_)
 generalize w58.drew = w59 at HO_12 HO_560000 BK555 BK556 BK558 BK559 BK563 BK567 HB hHeld ⊢
 refine pu_ 1 (some 61) (B_ 9 2) HT_ ?_
 refine pu_ 2 (some 62) (B_ 9 6) HT_ ?_
 refine pu_ 3 (some 63) (B_ 9 14) HT_ ?_
 refine take_ (i := 0) (N := some 60) (v := ?_) (a' := ?_) (B_ 9 15) rfl rfl (take_ofW HT_.out HW_.out kf_) (fun _ _ _ h => h) (Or.inl ⟨by rfl, ?_⟩) hHeld ?_ ?_
 rotate_left
 {
 rintro w' ⟨s0, s1⟩
 go_simp
 with_reducible rfl}
 rotate_left
 {
 exact sp_}
 refine one_ (i := 4) (N := some 64) (B_ 9 31) rfl rfl (one_of HT_.out kf_) (by decide) (fun K hK => ?_)
 refine value_ (w1 := ?_) (v := ?_) (by rfl) rfl ?_ ?_
 rotate_left 2
 {
 go_simp
 constructor
 {
 rfl}
 {
 rfl}}
 refine hK.out _ _ ⟨(blk_cell (blk_alloc BK567.out _) 0).trans rfl, (blk_cell (blk_alloc BK567.out _) 1).trans rfl⟩ (fun hHeld => ?_)
 clear hK K
 refine norm_ (a' := ?_) ?_ ?_
 rotate_left
 {
 show Act.put _ (some 64) _ = _
 exact sp_}
 refine one_ (i := 5) (N := some 65) (B_ 9 63) rfl rfl (one_of HT_.out kf_) (by decide) (fun K hK => ?_)
 refine Kd.R_append_step (Kd.int .i64) (w0 := w) w.heap.size (by rfl) (.tmp 62) (.tmp 64) 22 3 (.int .i64 0) 8 rfl Try.underlying22 info3 rfl (by decide) (by omega) u12 x12_2 t565 [.int .i64 t565] (fun _ => True) (fun _ => False) rfl rfl ?aP (fun _ hk => hk.elim) ?aF ?aO ?aB ?aS ?aL ?_
 (case aP => exact rfl)
 (case aB => exact (bl_ HB))
 (case aF => exact (fun _ _ => trivial))
 (case aO => exact (kR_ HO_12))
 (case aS => exact (bs_ HB))
 (case aL => have := LMc39.out; omega)
 intro v569 w60 ho hb hg hat
 rw [← Ny568.out] at ho
 replace HO_560000 := Aside0.mk (Kd.S_after (ok := (fun _ => True)) (by (with_reducible repeat (first | apply Kd.S_alloc | apply Kd.S_drewN | apply Kd.S_drew)); exact Kd.S_mono HO_560000.out (fun _ hk => ⟨trivial, hk⟩)) hg hat)
 replace BK555 := (FG_ BK555 hg (Kd.R_ne HO_12.out BK555.out (by decide)))
 replace BK556 := (FG_ BK556 hg (Kd.R_ne HO_12.out BK556.out (by decide)))
 replace BK558 := (FG_ BK558 hg (Kd.R_ne HO_12.out BK558.out (by decide)))
 replace BK559 := (FG_ BK559 hg (Kd.R_ne HO_12.out BK559.out (by decide)))
 replace BK563 := (FG_ BK563 hg (Kd.R_ne HO_12.out BK563.out (by decide)))
 replace BK567 := (FG_ BK567 hg (Kd.R_ne HO_12.out BK567.out (by decide)))
 replace HB := Aside0.mk (hb)
 have HO570 := Aside0.mk (ho)
 clear HO_12
 clear ho hb hg hat
 refine hK.out _ _ ⟨ce_ BK567 0, ce_ BK567 1⟩ (fun hHeld => ?_)
 clear hK K
 refine norm_ (a' := ?_) ?_ ?_
 rotate_left
 {
 show Act.put _ (some 65) _ = _
 exact sp_}
 refine one_ (i := 6) (N := none) (B_ 9 127) rfl rfl (one_of HT_.out kf_) (by decide) (fun K hK => ?_)
 have hs61 : w60.cell? ⟨gb558, 0, none⟩ = some (.slice A1 l1.length c1) := ce_ BK558 0
 have hfs61 := blk_frozen BK558.out 0
 have hns61_0 := NB555_558.out
 have hns61_1 := NB556_558.out
 have hns61_3 := NB559_558.out
 have hns61_4 := NB563_558.out
 have hns61_5 := NB567_558.out
 have hms61_0 := NB558_555.out
 have hms61_1 := NB558_556.out
 have hms61_3 := NB558_559.out
 have hms61_4 := NB558_563.out
 have hms61_5 := NB558_567.out
 have hs62 : w60.cell? ⟨gb558, 1, none⟩ = some (.int .i64 x559001_2) := ce_ BK558 1
 have hfs62 := blk_frozen BK558.out 1
 have hns62_0 := NB555_558.out
 have hns62_1 := NB556_558.out
 have hns62_3 := NB559_558.out
 have hns62_4 := NB563_558.out
 have hns62_5 := NB567_558.out
 have hms62_0 := NB558_555.out
 have hms62_1 := NB558_556.out
 have hms62_3 := NB558_559.out
 have hms62_4 := NB558_563.out
 have hms62_5 := NB558_567.out
 refine skip_ (w1 := ?_) (by rfl) rfl ?_ ?_
 rotate_left
 {
 go_simp
 rfl}
 refine hK.out _ _ ⟨((cell_far (p := ⟨gb558, _, none⟩) NB567_558.out _).trans (((cell_far (p := ⟨gb558, _, none⟩) NB567_558.out _).trans (hHeld.1)))), ((cell_far (p := ⟨gb558, _, none⟩) NB567_558.out _).trans (((cell_far (p := ⟨gb558, _, none⟩) NB567_558.out _).trans (hHeld.2))))⟩ (fun hHeld => ?_)
 clear hK K
 refine pu_ 7 (some 8) (B_ 9 255) HT_ ?_
 refine pu_ 8 (some 12) (B_ 9 511) HT_ ?_
 refine done_ (done_of HT_.out kf_) ?_
 try go_wp2
 go_roundg kj32
 case measure => have := HK1.out; have := HK2.out; have := HJ32.out; omega
 case rel => exact ⟨(t566), (y568), (t564), rs_, H', ⟨by have := HK1.out; have := HK2.out; have := HJ32.out; omega⟩, ⟨by (with_reducible repeat (first | apply Kd.R_alloc | apply Kd.R_drewN | apply Kd.R_drew)); exact Kd.R_mono (Kd.R_far (p := ⟨gb558, 1, none⟩) (Kd.R_far (p := ⟨gb558, 0, none⟩) (Kd.R_types HO570.out BK558.out (by decide)) (fun _ hk => hk.2) (.slice A1 l1.length c1)) (fun _ hk => hk.2) (.int .i64 t564)) (fun _ hk => trivial)⟩, ⟨by (with_reducible repeat (first | apply Kd.S_alloc | apply Kd.S_drewN | apply Kd.S_drew)); exact Kd.S_mono (Kd.S_far (p := ⟨gb558, 1, none⟩) (Kd.S_far (p := ⟨gb558, 0, none⟩) (Kd.S_types HO_560000.out BK558.out (by decide)) (fun _ hk => hk.2) (.slice A1 l1.length c1)) (fun _ hk => hk.2) (.int .i64 t564)) (fun _ hk => hk.1.2)⟩, ⟨bk_ BK555⟩, ⟨bk_ BK556⟩, ⟨bp_ BK558⟩, ⟨bk_ BK559⟩, ⟨bk_ BK563⟩, ⟨bl_ HB⟩⟩}
 {
 rw [if_neg c40] at H
 have c40b0 : (t566 == 0) = false := beq_eq_false_iff_ne.mpr c40
 have c40b1 : (t566 != 0) = true := bne_iff_ne.mpr c40
 have H' := Aside0.mk H
 clear H
 have hnb63 := NB558_555.out
 have hnc63 := NB555_558.out
 have hnb64 := NB558_556.out
 have hnc64 := NB556_558.out
 have hnb65 := NB558_559.out
 have hnc65 := NB559_558.out
 have hnb66 := NB558_563.out
 have hnc66 := NB563_558.out
 obtain ⟨hcz67_0, hcz67_1, hfz67_0, hfz67_1⟩ := e2_ BK558
 have hnb68 := NB555_556.out
 have hnc68 := NB556_555.out
 have hnb69 := NB555_559.out
 have hnc69 := NB559_555.out
 have hnb70 := NB555_563.out
 have hnc70 := NB563_555.out
 obtain ⟨hcz71_0, hcz71_1, hcz71_2, hcz71_3, hfz71_0, hfz71_1, hfz71_2, hfz71_3⟩ := e4_ BK555
 try go_wp2_with (first | (with_reducible refine scope_straight48_ ?_) | (with_reducible refine wp_label ?_) | ((with_reducible refine gate_callee (f := 56) rfl ?_); refine gL_ (some 56) Try.func56 #[.agg #[.slice A1 l1.length c1, .int .i64 x559001_2], .slice A0_2 l0_2.length c0_2] ?_; (with_reducible refine (huff_Read.calls kj32 _ _ l1 x559001_2 _ _ l0_2 t564 t565 t566 _ ?side1 ?side2 ?side3 ?side4 A38.out).mono ?_); (case side1 => exact kC_ HR1 HB); (case side2 => exact HC1.out); (case side3 => exact kC_ HR0_2 HB); (case side4 => exact HC0_2.out); rintro e w72 ⟨rfl, hb⟩; refine ⟨_, rfl, ?_⟩; replace HO_12 := FR_ HO_12 hb; replace HO_560000 := FS_ HO_560000 hb; replace BK555 := FB_ BK555 hb; replace BK556 := FB_ BK556 hb; replace BK558 := FB_ BK558 hb; replace BK559 := FB_ BK559 hb; replace BK563 := FB_ BK563 hb; replace HB := BS_ HB hb; (try clear hb)) | ((with_reducible refine gate_dst (N := 13) rfl ?_); (try (refine gate_guard (by rfl) ?_; dsimp only)); refine bx_ HB 13 #[.slice none 0 0, .int .i64 0] 77 ?_; clear HB; intro gb567 hg w73 hb BK567 GE567 HB; have GW567 := GE567; replace HO_12 := FR_ HO_12 hb; replace HO_560000 := FS_ HO_560000 hb; obtain ⟨NB555_567, NB567_555⟩ := NN_ BK555 hg; replace BK555 := FB_ BK555 hb; obtain ⟨NB556_567, NB567_556⟩ := NN_ BK556 hg; replace BK556 := FB_ BK556 hb; obtain ⟨NB558_567, NB567_558⟩ := NN_ BK558 hg; replace BK558 := FB_ BK558 hb; obtain ⟨NB559_567, NB567_559⟩ := NN_ BK559 hg; replace BK559 := FB_ BK559 hb; obtain ⟨NB563_567, NB567_563⟩ := NN_ BK563 hg; replace BK563 := FB_ BK563 hb; clear hb hg; have hnb74 := NB567_555.out; have hnc74 := NB555_567.out; have hnb75 := NB567_556.out; have hnc75 := NB556_567.out; have hnb76 := NB567_558.out; have hnc76 := NB558_567.out; have hnb77 := NB567_559.out; have hnc77 := NB559_567.out; have hnb78 := NB567_563.out; have hnc78 := NB563_567.out; obtain ⟨hcz79_0, hcz79_1, hfz79_0, hfz79_1⟩ := e2_ BK567))
 have n0_ : Aside0 (Kd.R (Kd.int .i64) 3 ((w73.setCell ⟨gb567, 0, none⟩ (.slice A1 l1.length c1)).setCell ⟨gb567, 1, none⟩ (.int .i64 t564)) w.heap.size (fun _ => True) u12 x12_2) := ⟨by (with_reducible repeat (first | apply Kd.R_alloc | apply Kd.R_drewN | apply Kd.R_drew)); exact Kd.R_mono (Kd.R_far (p := ⟨gb567, 1, none⟩) (Kd.R_far (p := ⟨gb567, 0, none⟩) (Kd.R_types HO_12.out BK567.out (by decide)) (fun _ hk => hk.2) (.slice A1 l1.length c1)) (fun _ hk => hk.2) (.int .i64 t564)) (fun _ hk => trivial)⟩
 have n1_ : Aside0 (Kd.S (Kd.slice 3 (Kd.int .i64)) 22 ((w73.setCell ⟨gb567, 0, none⟩ (.slice A1 l1.length c1)).setCell ⟨gb567, 1, none⟩ (.int .i64 t564)) w.heap.size (fun k_ => some k_ ≠ (u12 : Value).ownBlock) u560000 x560000_1) := ⟨kSk_ HO_560000 BK567⟩
 have n2_ : Aside0 (((w73.setCell ⟨gb567, 0, none⟩ (.slice A1 l1.length c1)).setCell ⟨gb567, 1, none⟩ (.int .i64 t564)).heap[gb555]? = some (.cells #[.int .i64 a0_0, .int .i64 a0_1, .slice A0_2 l0_2.length c0_2, .slice A0_3 l0_3.length c0_3] 24 (0, 0))) := ⟨bk_ BK555⟩
 have n3_ : Aside0 (((w73.setCell ⟨gb567, 0, none⟩ (.slice A1 l1.length c1)).setCell ⟨gb567, 1, none⟩ (.int .i64 t564)).heap[gb556]? = some (.cells #[.slice none 0 0, .slice none 0 0] 48 (0, 0))) := ⟨bk_ BK556⟩
 have n4_ : Aside0 (((w73.setCell ⟨gb567, 0, none⟩ (.slice A1 l1.length c1)).setCell ⟨gb567, 1, none⟩ (.int .i64 t564)).heap[gb558]? = some (.cells #[.slice A1 l1.length c1, .int .i64 x559001_2] 77 (0, 0))) := ⟨bk_ BK558⟩
 have n5_ : Aside0 (((w73.setCell ⟨gb567, 0, none⟩ (.slice A1 l1.length c1)).setCell ⟨gb567, 1, none⟩ (.int .i64 t564)).heap[gb559]? = some (.cells #[u560000, .slice none 0 0] 48 (0, 0))) := ⟨bk_ BK559⟩
 have n6_ : Aside0 (((w73.setCell ⟨gb567, 0, none⟩ (.slice A1 l1.length c1)).setCell ⟨gb567, 1, none⟩ (.int .i64 t564)).heap[gb563]? = some (.cells #[.slice A1 l1.length c1, .int .i64 t560] 77 (0, 0))) := ⟨bk_ BK563⟩
 have n7_ : Aside0 (((w73.setCell ⟨gb567, 0, none⟩ (.slice A1 l1.length c1)).setCell ⟨gb567, 1, none⟩ (.int .i64 t564)).heap[gb567]? = some (.cells #[.slice A1 l1.length c1, .int .i64 t564] 77 (0, 0))) := ⟨bp_ BK567⟩
 have n8_ : Aside0 (Below w.heap.size w ((w73.setCell ⟨gb567, 0, none⟩ (.slice A1 l1.length c1)).setCell ⟨gb567, 1, none⟩ (.int .i64 t564))) := ⟨bl_ HB⟩
 (try clear HO_12)
 (try clear HO_560000)
 (try clear BK555)
 (try clear BK556)
 (try clear BK558)
 (try clear BK559)
 (try clear BK563)
 (try clear BK567)
 (try clear HB)
 generalize ((w73.setCell ⟨gb567, 0, none⟩ (.slice A1 l1.length c1)).setCell ⟨gb567, 1, none⟩ (.int .i64 t564)) = w80 at n0_ n1_ n2_ n3_ n4_ n5_ n6_ n7_ n8_ ⊢
 have HO_12 := n0_
 have HO_560000 := n1_
 have BK555 := n2_
 have BK556 := n3_
 have BK558 := n4_
 have BK559 := n5_
 have BK563 := n6_
 have BK567 := n7_
 have HB := n8_
 clear n0_ n1_ n2_ n3_ n4_ n5_ n6_ n7_ n8_
 replace HO_12 := Aside0.mk (Kd.R_drew HO_12.out)
 replace HO_560000 := Aside0.mk (Kd.S_drew HO_560000.out)
 replace BK555 := Aside0.mk (blk_drew BK555.out)
 replace BK556 := Aside0.mk (blk_drew BK556.out)
 replace BK558 := Aside0.mk (blk_drew BK558.out)
 replace BK559 := Aside0.mk (blk_drew BK559.out)
 replace BK563 := Aside0.mk (blk_drew BK563.out)
 replace BK567 := Aside0.mk (blk_drew BK567.out)
 replace HB := Aside0.mk (below_drew1 HB.out)
 refine start_ (n := 9) (S := fun w' => w'.cell? ⟨gb567, 0, none⟩ = some (.slice A1 l1.length c1) ∧ w'.cell? ⟨gb567, 1, none⟩ = some (.int .i64 t564)) (ds := []) (B_ 9 0) kf_ rfl rfl ⟨ce_ BK567 0, ce_ BK567 1⟩ (fun hHeld => ?_); refine with_tabW vpack_Read.tab14 vpack_Read.bits14 (fun HT_ HW_ => ?_)
 generalize w80.drew = w81 at HO_12 HO_560000 BK555 BK556 BK558 BK559 BK563 BK567 HB hHeld ⊢
 refine pu_ 1 (some 61) (B_ 9 2) HT_ ?_
 refine pu_ 2 (some 62) (B_ 9 6) HT_ ?_
 refine pu_ 3 (some 63) (B_ 9 14) HT_ ?_
 refine take_ (i := 0) (N := some 60) (v := ?_) (a' := ?_) (B_ 9 15) rfl rfl (take_ofW HT_.out HW_.out kf_) (fun _ _ _ h => h) (Or.inl ⟨by rfl, ?_⟩) hHeld ?_ ?_
 rotate_left
 {
 rintro w' ⟨s0, s1⟩
 go_simp
 with_reducible rfl}
 rotate_left
 {
 exact sp_}
 refine one_ (i := 4) (N := some 64) (B_ 9 31) rfl rfl (one_of HT_.out kf_) (by decide) (fun K hK => ?_)
 refine value_ (w1 := ?_) (v := ?_) (by rfl) rfl ?_ ?_
 rotate_left 2
 {
 go_simp
 constructor
 {
 rfl}
 {
 rfl}}
 refine hK.out _ _ ⟨(blk_cell (blk_alloc BK567.out _) 0).trans rfl, (blk_cell (blk_alloc BK567.out _) 1).trans rfl⟩ (fun hHeld => ?_)
 clear hK K
 refine norm_ (a' := ?_) ?_ ?_
 rotate_left
 {
 show Act.put _ (some 64) _ = _
 exact sp_}
 refine one_ (i := 5) (N := some 65) (B_ 9 63) rfl rfl (one_of HT_.out kf_) (by decide) (fun K hK => ?_)
 refine Kd.R_append_step (Kd.int .i64) (w0 := w) w.heap.size (by rfl) (.tmp 62) (.tmp 64) 22 3 (.int .i64 0) 8 rfl Try.underlying22 info3 rfl (by decide) (by omega) u12 x12_2 t565 [.int .i64 t565] (fun _ => True) (fun _ => False) rfl rfl ?aP (fun _ hk => hk.elim) ?aF ?aO ?aB ?aS ?aL ?_
 (case aP => exact rfl)
 (case aB => exact (bl_ HB))
 (case aF => exact (fun _ _ => trivial))
 (case aO => exact (kR_ HO_12))
 (case aS => exact (bs_ HB))
 (case aL => have := LMc39.out; omega)
 intro v569 w82 ho hb hg hat
 rw [← Ny568.out] at ho
 replace HO_560000 := Aside0.mk (Kd.S_after (ok := (fun _ => True)) (by (with_reducible repeat (first | apply Kd.S_alloc | apply Kd.S_drewN | apply Kd.S_drew)); exact Kd.S_mono HO_560000.out (fun _ hk => ⟨trivial, hk⟩)) hg hat)
 replace BK555 := (FG_ BK555 hg (Kd.R_ne HO_12.out BK555.out (by decide)))
 replace BK556 := (FG_ BK556 hg (Kd.R_ne HO_12.out BK556.out (by decide)))
 replace BK558 := (FG_ BK558 hg (Kd.R_ne HO_12.out BK558.out (by decide)))
 replace BK559 := (FG_ BK559 hg (Kd.R_ne HO_12.out BK559.out (by decide)))
 replace BK563 := (FG_ BK563 hg (Kd.R_ne HO_12.out BK563.out (by decide)))
 replace BK567 := (FG_ BK567 hg (Kd.R_ne HO_12.out BK567.out (by decide)))
 replace HB := Aside0.mk (hb)
 have HO570 := Aside0.mk (ho)
 clear HO_12
 clear ho hb hg hat
 refine hK.out _ _ ⟨ce_ BK567 0, ce_ BK567 1⟩ (fun hHeld => ?_)
 clear hK K
 refine norm_ (a' := ?_) ?_ ?_
 rotate_left
 {
 show Act.put _ (some 65) _ = _
 exact sp_}
 refine one_ (i := 6) (N := none) (B_ 9 127) rfl rfl (one_of HT_.out kf_) (by decide) (fun K hK => ?_)
 have hs83 : w82.cell? ⟨gb558, 0, none⟩ = some (.slice A1 l1.length c1) := ce_ BK558 0
 have hfs83 := blk_frozen BK558.out 0
 have hns83_0 := NB555_558.out
 have hns83_1 := NB556_558.out
 have hns83_3 := NB559_558.out
 have hns83_4 := NB563_558.out
 have hns83_5 := NB567_558.out
 have hms83_0 := NB558_555.out
 have hms83_1 := NB558_556.out
 have hms83_3 := NB558_559.out
 have hms83_4 := NB558_563.out
 have hms83_5 := NB558_567.out
 have hs84 : w82.cell? ⟨gb558, 1, none⟩ = some (.int .i64 x559001_2) := ce_ BK558 1
 have hfs84 := blk_frozen BK558.out 1
 have hns84_0 := NB555_558.out
 have hns84_1 := NB556_558.out
 have hns84_3 := NB559_558.out
 have hns84_4 := NB563_558.out
 have hns84_5 := NB567_558.out
 have hms84_0 := NB558_555.out
 have hms84_1 := NB558_556.out
 have hms84_3 := NB558_559.out
 have hms84_4 := NB558_563.out
 have hms84_5 := NB558_567.out
 refine skip_ (w1 := ?_) (by rfl) rfl ?_ ?_
 rotate_left
 {
 go_simp
 rfl}
 refine hK.out _ _ ⟨((cell_far (p := ⟨gb558, _, none⟩) NB567_558.out _).trans (((cell_far (p := ⟨gb558, _, none⟩) NB567_558.out _).trans (hHeld.1)))), ((cell_far (p := ⟨gb558, _, none⟩) NB567_558.out _).trans (((cell_far (p := ⟨gb558, _, none⟩) NB567_558.out _).trans (hHeld.2))))⟩ (fun hHeld => ?_)
 clear hK K
 refine pu_ 7 (some 8) (B_ 9 255) HT_ ?_
 refine pu_ 8 (some 12) (B_ 9 511) HT_ ?_
 refine done_ (done_of HT_.out kf_) ?_
 try go_wp2
 go_meet
 case rel => exact ⟨_, (t566), (t564), (x560000_1), (u560000), rs_, H', ⟨by have := HK1.out; have := HK2.out; have := HJ32.out; first | omega | exact Nat.le_refl _⟩, ⟨by (with_reducible repeat (first | apply Kd.S_alloc | apply Kd.S_drewN | apply Kd.S_drew)); exact Kd.S_mono (Kd.S_far (p := ⟨gb558, 1, none⟩) (Kd.S_far (p := ⟨gb558, 0, none⟩) (Kd.S_types HO_560000.out BK558.out (by decide)) (fun _ hk => hk.2) (.slice A1 l1.length c1)) (fun _ hk => hk.2) (.int .i64 t564)) (fun _ hk => trivial)⟩, ⟨bk_ BK555⟩, ⟨bk_ BK556⟩, ⟨bp_ BK558⟩, ⟨bk_ BK559⟩, ⟨bl_ HB⟩⟩}}
 {
 rw [if_neg c39] at H
 exact absurd H (by simp)}}
 {
 replace c37 := Bool.eq_false_iff.mpr c37
 subst c37
 rw [if_neg (show ¬ (false = true) by decide)] at H
 by_cases c85 : x560000_1.length < 5864062014805
 {
 rw [if_pos c85] at H
 have LMc85 := Aside0.mk c85
 clear c85
 obtain ⟨y571, hy571⟩ : ∃ y_ : List (List Int), y_ = (x560000_1 ++ [x12_2]) := ⟨_, rfl⟩
 replace H : (vpack_Read.l0 kj32 x8_2 a0_0 (wrap64 (x33_1 + 1)) a0_0 a0_1 l0_2 l0_3 l1 x559001_2 y571) = some (r1, r2, r3) := by first | (rw [hy571]; with_reducible exact H) | (have H2_ := (Option.bind_some _ _).symm.trans H; rw [hy571]; with_reducible exact H2_) | (have H2_ := (Option.bind_some _ _).symm.trans H; with_reducible exact H2_) | with_reducible exact H | (rw [hy571]; exact H) | exact H
 have Ny571 := Aside0.mk hy571
 clear hy571
 have H' := Aside0.mk H
 clear H
 have hnb86 := NB559_555.out
 have hnc86 := NB555_559.out
 have hnb87 := NB559_556.out
 have hnc87 := NB556_559.out
 have hnb88 := NB559_558.out
 have hnc88 := NB558_559.out
 have hnb89 := NB559_563.out
 have hnc89 := NB563_559.out
 obtain ⟨hcz90_0, hcz90_1, hfz90_0, hfz90_1⟩ := e2_ BK559
 obtain ⟨Ao92, co92, eo92⟩ := Kd.R_slice HO_12.out
 subst eo92
 go_wp2_with (first | (with_reducible refine scope_straight48_ ?_) | (with_reducible refine wp_label ?_) | ((with_reducible refine gate_builtin (b := .append) (xs := #[.tmp 69, .tmp 71]) rfl ?_); (try (refine gate_guard (by rfl) ?_; dsimp only)); at_builtin; refine Kd.S_append (Kd.slice 3 (Kd.int .i64)) (w0 := w) w.heap.size rfl (.tmp 69) (.tmp 71) 45 22 (.slice none 0 0) 24 rfl Try.underlying45 info22 rfl (by decide) (by omega) u560000 x560000_1 x12_2 [.slice Ao92 x12_2.length co92] (fun _ => True) (fun k_ => some k_ = (.slice Ao92 x12_2.length co92 : Value).ownBlock) rfl rfl ?aP (fun k_ hk_ => ((Kd.R_mono (ok' := fun k_ => ((fun _ => True)) k_ ∧ some k_ ≠ (u560000 : Value).ownBlock) (Kd.R_apart' (HO_12.out) (Kd.S_typed HO_560000.out) (by decide)) (fun k_ hk => ⟨trivial, hk.2⟩))).1 k_ hk_.symm) ?aF ?aO ?aB ?aS ?aL ?_; (case aP => exact Kd.M_row (Kd.R_mono (Kd.R_tight rfl (Kd.R_mono (ok' := fun k_ => ((fun _ => True)) k_ ∧ some k_ ≠ (u560000 : Value).ownBlock) (Kd.R_apart' (HO_12.out) (Kd.S_typed HO_560000.out) (by decide)) (fun k_ hk => ⟨trivial, hk.2⟩))) (fun _ h_ => h_))); (case aB => exact (bl_ HB)); (case aF => exact (fun _ _ => trivial)); (case aO => exact (by (with_reducible repeat (first | apply Kd.S_alloc | apply Kd.S_drewN | apply Kd.S_drew)); exact Kd.S_mono HO_560000.out (fun k_ hk => ⟨trivial, fun e_ => hk e_⟩))); (case aS => exact (bs_ HB)); (case aL => have := LMc85.out; omega); intro v572 w91 ho hb hg hat; rw [← Ny571.out] at ho; replace BK555 := (FG_ BK555 hg (Kd.S_ne HO_560000.out BK555.out (by decide))); replace BK556 := (FG_ BK556 hg (Kd.S_ne HO_560000.out BK556.out (by decide))); replace BK558 := (FG_ BK558 hg (Kd.S_ne HO_560000.out BK558.out (by decide))); replace BK559 := (FG_ BK559 hg (Kd.S_ne HO_560000.out BK559.out (by decide))); replace BK563 := (FG_ BK563 hg (Kd.S_ne HO_560000.out BK563.out (by decide))); replace HB := Aside0.mk (hb); have HO573 := Aside0.mk (ho); clear HO_560000 HO_12; clear ho hb hg hat; obtain ⟨Ao93, co93, eo93⟩ := Kd.S_slice HO573.out; subst eo93; obtain ⟨hcz94_0, hcz94_1, hfz94_0, hfz94_1⟩ := e2_ BK559))
 go_roundg kj32
 case measure => have := HK1.out; have := HK2.out; have := HJ32.out; omega
 case rel => exact ⟨(x8_2), (wrap64 (x33_1 + 1)), (x559001_2), (y571), (.slice Ao93 y571.length co93), rs_, rs_, H', ⟨by have := HK1.out; have := HK2.out; have := HJ32.out; omega⟩, ⟨by (with_reducible repeat (first | apply Kd.S_alloc | apply Kd.S_drewN | apply Kd.S_drew)); exact Kd.S_mono (Kd.S_far (p := ⟨gb559, 0, none⟩) (Kd.S_types HO573.out BK559.out (by decide)) (fun _ hk => hk.2) (.slice Ao93 y571.length co93)) (fun _ hk => trivial)⟩, ⟨bk_ BK555⟩, ⟨bk_ BK556⟩, ⟨bk_ BK558⟩, ⟨bp_ BK559⟩, ⟨bl_ HB⟩⟩}
 {
 rw [if_neg c85] at H
 exact absurd H (by simp)}}))))}
 {
 rw [if_neg c20] at H
 have c20b0 : (t562 == 0) = false := beq_eq_false_iff_ne.mpr c20
 have c20b1 : (t562 != 0) = true := bne_iff_ne.mpr c20
 have H' := Aside0.mk H
 clear H
 have hnb95 := NB558_555.out
 have hnc95 := NB555_558.out
 have hnb96 := NB558_556.out
 have hnc96 := NB556_558.out
 have hnb97 := NB558_559.out
 have hnc97 := NB559_558.out
 obtain ⟨hcz98_0, hcz98_1, hfz98_0, hfz98_1⟩ := e2_ BK558
 go_wp2_with (first | (with_reducible refine scope_straight48_ ?_) | (with_reducible refine wp_label ?_) | ((with_reducible refine gate_callee (f := 55) rfl ?_); refine gL_ (some 37) Try.func55 #[.agg #[.slice A1 l1.length c1, .int .i64 x559001_1], .int .i64 1] ?_; (with_reducible refine (bits_Get.calls k1 _ _ l1 x559001_1 1 t560 t561 t562 _ ?side1 ?side2 A19.out).mono ?_); (case side1 => exact kC_ HR1 HB); (case side2 => exact HC1.out); rintro e w99 ⟨rfl, hb⟩; refine ⟨_, rfl, ?_⟩; replace HO_560000 := FS_ HO_560000 hb; replace BK555 := FB_ BK555 hb; replace BK556 := FB_ BK556 hb; replace BK558 := FB_ BK558 hb; replace BK559 := FB_ BK559 hb; replace HB := BS_ HB hb; (try clear hb)) | ((with_reducible refine gate_dst (N := 9) rfl ?_); (try (refine gate_guard (by rfl) ?_; dsimp only)); refine bx_ HB 9 #[.slice none 0 0, .int .i64 0] 77 ?_; clear HB; intro gb563 hg w100 hb BK563 GE563 HB; have GW563 := GE563; replace HO_560000 := FS_ HO_560000 hb; obtain ⟨NB555_563, NB563_555⟩ := NN_ BK555 hg; replace BK555 := FB_ BK555 hb; obtain ⟨NB556_563, NB563_556⟩ := NN_ BK556 hg; replace BK556 := FB_ BK556 hb; obtain ⟨NB558_563, NB563_558⟩ := NN_ BK558 hg; replace BK558 := FB_ BK558 hb; obtain ⟨NB559_563, NB563_559⟩ := NN_ BK559 hg; replace BK559 := FB_ BK559 hb; clear hb hg; have hnb101 := NB563_555.out; have hnc101 := NB555_563.out; have hnb102 := NB563_556.out; have hnc102 := NB556_563.out; have hnb103 := NB563_558.out; have hnc103 := NB558_563.out; have hnb104 := NB563_559.out; have hnc104 := NB559_563.out; obtain ⟨hcz105_0, hcz105_1, hfz105_0, hfz105_1⟩ := e2_ BK563; obtain ⟨hcz106_0, hcz106_1, hfz106_0, hfz106_1⟩ := e2_ BK558))
 go_meet
 case rel => exact ⟨_, (t562), (t560), (x560000_1), (u560000), rs_, H', ⟨by have := HK1.out; first | omega | exact Nat.le_refl _⟩, ⟨by (with_reducible repeat (first | apply Kd.S_alloc | apply Kd.S_drewN | apply Kd.S_drew)); exact Kd.S_mono (Kd.S_far (p := ⟨gb558, 1, none⟩) (Kd.S_far (p := ⟨gb558, 0, none⟩) (Kd.S_far (p := ⟨gb563, 1, none⟩) (Kd.S_far (p := ⟨gb563, 0, none⟩) (Kd.S_types (Kd.S_types HO_560000.out BK563.out (by decide)) BK558.out (by decide)) (fun _ hk => hk.1.2) (.slice A1 l1.length c1)) (fun _ hk => hk.1.2) (.int .i64 t560)) (fun _ hk => hk.2) (.slice A1 l1.length c1)) (fun _ hk => hk.2) (.int .i64 t560)) (fun _ hk => trivial)⟩, ⟨bk_ BK555⟩, ⟨bk_ BK556⟩, ⟨bp_ BK558⟩, ⟨bk_ BK559⟩, ⟨bl_ HB⟩⟩}}
 {
 rw [if_neg c18] at H
 have c18b0 : decide (x33_1 < a0_0) = false := decide_eq_false c18
 clear c18
 (first | rw [c18b0] | (simp only [i64_w, i32_w]; rw [c18b0]) | skip)
 have H' := Aside0.mk H
 clear H
 go_wp2
 go_meet
 case rel => exact ⟨_, (x8_1), (x559001_1), (x560000_1), (u560000), rs_, H', ⟨by have := HK1.out; first | omega | exact Nat.le_refl _⟩, ⟨kS_ HO_560000⟩, ⟨bk_ BK555⟩, ⟨bk_ BK556⟩, ⟨bk_ BK558⟩, ⟨bk_ BK559⟩, ⟨bl_ HB⟩⟩})))
 case rest => (
 clear HC5
 try clear c1
 try clear c4
 try clear hcz14_0
 try clear hcz14_1
 try clear hcz17_0
 try clear hcz17_1
 try clear hcz17_2
 try clear hcz17_3
 try clear hcz9_0
 try clear hcz9_1
 try clear hcz9_2
 try clear hcz9_3
 try clear hfz14_0
 try clear hfz14_1
 try clear hfz17_0
 try clear hfz17_1
 try clear hfz17_2
 try clear hfz17_3
 try clear hfz9_0
 try clear hfz9_1
 try clear hfz9_2
 try clear hfz9_3
 obtain ⟨kq, x8_4, x559001_4, x560000_4, u560000, rfl, HA, HJ4, HO_560000, BK555, BK556, BK558, BK559, HB⟩ := hcut
 cases kq with
 | zero => exact absurd HA.out (by simp [vpack_Read.j3])
 | succ kj4 => (
 have H := HA.out
 clear HA
 simp only [vpack_Read.j3] at H
 have H' := Aside0.mk H
 clear H
 go_wp2
 go_loopg [8, 16] kj4 (fun kq v8 v16 w' => ∃ (x8_2 : Int) (x16_2 : Int) (x559001_2 : Int) (x560001_2 : List (List Int)) (u560001 : Value), v8 = .int .i64 x8_2 ∧ v16 = .int .i64 x16_2 ∧ Aside0 (vpack_Read.l2 kq x8_2 x16_2 a0_0 a0_1 l0_2 l0_3 l1 x559001_2 x560000_4 x560001_2 = some (r1, r2, r3)) ∧ Aside0 (kq ≤ kj4) ∧ Aside0 (Kd.S (Kd.slice 3 (Kd.int .i64)) 22 w' w.heap.size (fun _ => True) u560000 x560000_4) ∧ Aside0 (Kd.S (Kd.slice 2 (Kd.int .i64)) 84 w' w.heap.size (fun _ => True) u560001 x560001_2) ∧ Aside0 (w'.heap[gb555]? = some (.cells #[.int .i64 a0_0, .int .i64 a0_1, (.slice A0_2 l0_2.length c0_2), (.slice A0_3 l0_3.length c0_3)] 24 (0, 0))) ∧ Aside0 (w'.heap[gb556]? = some (.cells #[(.slice none 0 0), (.slice none 0 0)] 48 (0, 0))) ∧ Aside0 (w'.heap[gb558]? = some (.cells #[(.slice A1 l1.length c1), .int .i64 x559001_2] 77 (0, 0))) ∧ Aside0 (w'.heap[gb559]? = some (.cells #[u560000, u560001] 48 (0, 0))) ∧ Aside0 (Below w.heap.size w w'))
 case atStart => exact ⟨(x8_4), (0), (x559001_4), (([] : List (List Int))), (.slice none 0 0), rs_, rs_, H', ⟨Nat.le_refl _⟩, ⟨kS_ HO_560000⟩, ⟨kn_⟩, ⟨bk_ BK555⟩, ⟨bk_ BK556⟩, ⟨bk_ BK558⟩, ⟨bk_ BK559⟩, ⟨bl_ HB⟩⟩
 case round => (
 clear H'
 try clear c1
 try clear c4
 try clear hcz14_0
 try clear hcz14_1
 try clear hcz17_0
 try clear hcz17_1
 try clear hcz17_2
 try clear hcz17_3
 try clear hcz9_0
 try clear hcz9_1
 try clear hcz9_2
 try clear hcz9_3
 try clear hfz14_0
 try clear hfz14_1
 try clear hfz17_0
 try clear hfz17_1
 try clear hfz17_2
 try clear hfz17_3
 try clear hfz9_0
 try clear hfz9_1
 try clear hfz9_2
 try clear hfz9_3
 obtain ⟨x8_2, x16_2, x559001_2, x560001_2, u560001, rfl, rfl, HA, HK2, HO_560000, HO_560001, BK555, BK556, BK558, BK559, HB⟩ := hrel
 cases gk with
 | zero => exact absurd HA.out (by simp [vpack_Read.l2])
 | succ k2 => (
 have H := HA.out
 clear HA
 simp only [vpack_Read.l2] at H
 have HC107 := Aside0.mk H
 clear H
 go_upto_region 19 with (first | (with_reducible refine scope_straight48_ ?_) | (with_reducible refine wp_label ?_))
 go_cut [83] (fun v83 wc => ∃ (kq : Nat) (x83_106 : Bool), v83 = .bool x83_106 ∧ Aside0 (vpack_Read.j5 kq x8_2 x16_2 x83_106 a0_0 a0_1 l0_2 l0_3 l1 x559001_2 x560000_4 x560001_2 = some (r1, r2, r3)) ∧ Aside0 (kq ≤ k2) ∧ Aside0 (Kd.S (Kd.slice 3 (Kd.int .i64)) 22 wc w.heap.size (fun _ => True) u560000 x560000_4) ∧ Aside0 (Kd.S (Kd.slice 2 (Kd.int .i64)) 84 wc w.heap.size (fun _ => True) u560001 x560001_2) ∧ Aside0 (wc.heap[gb555]? = some (.cells #[.int .i64 a0_0, .int .i64 a0_1, (.slice A0_2 l0_2.length c0_2), (.slice A0_3 l0_3.length c0_3)] 24 (0, 0))) ∧ Aside0 (wc.heap[gb556]? = some (.cells #[(.slice none 0 0), (.slice none 0 0)] 48 (0, 0))) ∧ Aside0 (wc.heap[gb558]? = some (.cells #[(.slice A1 l1.length c1), .int .i64 x559001_2] 77 (0, 0))) ∧ Aside0 (wc.heap[gb559]? = some (.cells #[u560000, u560001] 48 (0, 0))) ∧ Aside0 (Below w.heap.size w wc))
 case first => (
 have H := HC107.out
 clear HC107
 by_cases c108 : x16_2 < (x560000_4.length : Int)
 {
 rw [if_pos c108] at H
 have c108b0 : decide (x16_2 < (x560000_4.length : Int)) = true := decide_eq_true c108
 clear c108
 (first | rw [c108b0] | (simp only [i64_w, i32_w]; rw [c108b0]) | skip)
 have H' := Aside0.mk H
 clear H
 have hnb109 := NB559_555.out
 have hnc109 := NB555_559.out
 have hnb110 := NB559_556.out
 have hnc110 := NB556_559.out
 have hnb111 := NB559_558.out
 have hnc111 := NB558_559.out
 obtain ⟨hcz112_0, hcz112_1, hfz112_0, hfz112_1⟩ := e2_ BK559
 obtain ⟨Ao113, co113, eo113⟩ := Kd.S_slice HO_560000.out
 subst eo113
 go_wp2
 go_meet
 case rel => exact ⟨_, ((x8_2 == 0)), rs_, H', ⟨by have := HJ4.out; have := HK2.out; first | omega | exact Nat.le_refl _⟩, ⟨kS_ HO_560000⟩, ⟨kS_ HO_560001⟩, ⟨bk_ BK555⟩, ⟨bk_ BK556⟩, ⟨bk_ BK558⟩, ⟨bk_ BK559⟩, ⟨bl_ HB⟩⟩}
 {
 rw [if_neg c108] at H
 have c108b0 : decide (x16_2 < (x560000_4.length : Int)) = false := decide_eq_false c108
 clear c108
 (first | rw [c108b0] | (simp only [i64_w, i32_w]; rw [c108b0]) | skip)
 have H' := Aside0.mk H
 clear H
 have hnb114 := NB559_555.out
 have hnc114 := NB555_559.out
 have hnb115 := NB559_556.out
 have hnc115 := NB556_559.out
 have hnb116 := NB559_558.out
 have hnc116 := NB558_559.out
 obtain ⟨hcz117_0, hcz117_1, hfz117_0, hfz117_1⟩ := e2_ BK559
 obtain ⟨Ao118, co118, eo118⟩ := Kd.S_slice HO_560000.out
 subst eo118
 go_wp2
 go_meet
 case rel => exact ⟨_, (false), rs_, H', ⟨by have := HJ4.out; have := HK2.out; first | omega | exact Nat.le_refl _⟩, ⟨kS_ HO_560000⟩, ⟨kS_ HO_560001⟩, ⟨bk_ BK555⟩, ⟨bk_ BK556⟩, ⟨bk_ BK558⟩, ⟨bk_ BK559⟩, ⟨bl_ HB⟩⟩})
 case rest => (
 clear HC107
 try clear c1
 try clear c4
 try clear hcz14_0
 try clear hcz14_1
 try clear hcz17_0
 try clear hcz17_1
 try clear hcz17_2
 try clear hcz17_3
 try clear hcz9_0
 try clear hcz9_1
 try clear hcz9_2
 try clear hcz9_3
 try clear hfz14_0
 try clear hfz14_1
 try clear hfz17_0
 try clear hfz17_1
 try clear hfz17_2
 try clear hfz17_3
 try clear hfz9_0
 try clear hfz9_1
 try clear hfz9_2
 try clear hfz9_3
 obtain ⟨kq, x83_106, rfl, HA, HJ106, HO_560000, HO_560001, BK555, BK556, BK558, BK559, HB⟩ := hcut
 cases kq with
 | zero => exact absurd HA.out (by simp [vpack_Read.j5])
 | succ kj106 => (
 have H := HA.out
 clear HA
 simp only [vpack_Read.j5] at H
 by_cases c119 : x83_106 = true
 {
 subst c119
 rw [if_pos rfl] at H
 have H' := Aside0.mk H
 clear H
 go_wp2
 go_loopg [8, 17] kj106 (fun kq v8 v17 w' => ∃ (x8_4 : Int) (x17_4 : List Int) (x559001_4 : Int), v8 = .int .i64 x8_4 ∧ Aside0 (vpack_Read.l3 kq x8_4 x16_2 x17_4 a0_0 a0_1 l0_2 l0_3 l1 x559001_4 x560000_4 x560001_2 = some (r1, r2, r3)) ∧ Aside0 (kq ≤ kj106) ∧ Aside0 (Kd.R (Kd.int .i64) 2 w' w.heap.size (fun _ => True) v17 x17_4) ∧ Aside0 (Kd.S (Kd.slice 3 (Kd.int .i64)) 22 w' w.heap.size (fun _ => True) u560000 x560000_4) ∧ Aside0 (Kd.S (Kd.slice 2 (Kd.int .i64)) 84 w' w.heap.size (fun k_ => some k_ ≠ (v17 : Value).ownBlock) u560001 x560001_2) ∧ Aside0 (w'.heap[gb555]? = some (.cells #[.int .i64 a0_0, .int .i64 a0_1, (.slice A0_2 l0_2.length c0_2), (.slice A0_3 l0_3.length c0_3)] 24 (0, 0))) ∧ Aside0 (w'.heap[gb556]? = some (.cells #[(.slice none 0 0), (.slice none 0 0)] 48 (0, 0))) ∧ Aside0 (w'.heap[gb558]? = some (.cells #[(.slice A1 l1.length c1), .int .i64 x559001_4] 77 (0, 0))) ∧ Aside0 (w'.heap[gb559]? = some (.cells #[u560000, u560001] 48 (0, 0))) ∧ Aside0 (Below w.heap.size w w'))
 case atStart => exact ⟨(x8_2), (([] : List Int)), (x559001_2), rs_, H', ⟨Nat.le_refl _⟩, ⟨by first | exact Kd.R_nil _ _ _ _ _ | exact Kd.N_nil _ _ _ _ _ | exact Kd.V_nil _ _ _ _ _ | exact Kd.Q_nil _ _ _ _ _ | exact Kd.S_nil _ _ _ _ _⟩, ⟨kS_ HO_560000⟩, ⟨by (with_reducible repeat (first | apply Kd.S_alloc | apply Kd.S_drewN | apply Kd.S_drew)); exact Kd.S_mono HO_560001.out (fun _ hk => (by simp [Value.ownBlock]))⟩, ⟨bk_ BK555⟩, ⟨bk_ BK556⟩, ⟨bk_ BK558⟩, ⟨bk_ BK559⟩, ⟨bl_ HB⟩⟩
 case round => (
 clear H'
 try clear c1
 try clear c4
 try clear c119
 try clear hcz14_0
 try clear hcz14_1
 try clear hcz17_0
 try clear hcz17_1
 try clear hcz17_2
 try clear hcz17_3
 try clear hcz9_0
 try clear hcz9_1
 try clear hcz9_2
 try clear hcz9_3
 try clear hfz14_0
 try clear hfz14_1
 try clear hfz17_0
 try clear hfz17_1
 try clear hfz17_2
 try clear hfz17_3
 try clear hfz9_0
 try clear hfz9_1
 try clear hfz9_2
 try clear hfz9_3
 obtain ⟨x8_4, x17_4, x559001_4, rfl, HA, HK4, HO_17, HO_560000, HO_560001, BK555, BK556, BK558, BK559, HB⟩ := hrel
 cases gk with
 | zero => exact absurd HA.out (by simp [vpack_Read.l3])
 | succ k4 => (
 have H := HA.out
 clear HA
 simp only [vpack_Read.l3] at H
 by_cases c120 : (x17_4.length : Int) < 16
 {
 rw [if_pos c120] at H
 have c120b0 : decide ((x17_4.length : Int) < 16) = true := decide_eq_true c120
 have c120b1 : decide (x17_4.length < 16) = true := decide_eq_true (by omega)
 clear c120
 by_cases c121 : 0 ≤ x16_2
 {
 rw [if_pos c121] at H
 have c121b0 : decide (0 ≤ x16_2) = true := decide_eq_true c121
 clear c121
 by_cases c122 : x16_2 < (x560000_4.length : Int)
 {
 rw [if_pos c122] at H
 have c122b0 : decide (x16_2 < (x560000_4.length : Int)) = true := decide_eq_true c122
 clear c122
 by_cases c123 : ((rd_L1 x560000_4 x16_2).length : Int) > 0
 {
 rw [if_pos c123] at H
 have c123b0 : decide (0 < ((rd_L1 x560000_4 x16_2).length : Int)) = true := decide_eq_true c123
 have c123b1 : decide (0 < (rd_L1 x560000_4 x16_2).length) = true := decide_eq_true (by omega)
 clear c123
 by_cases c124 : x8_4 = 0
 {
 rw [if_pos c124] at H
 have c124b0 : (x8_4 == 0) = true := beq_iff_eq.mpr c124
 have c124b1 : (x8_4 != 0) = false := bne_eq_false_iff_eq.mpr c124
 clear c124
 obtain ⟨⟨t575, t576, t577⟩, A125, H⟩ := ob_ H
 (try dsimp only at H)
 by_cases c126 : x17_4.length < 17592186044416
 {
 rw [if_pos c126] at H
 have LMc126 := Aside0.mk c126
 clear c126
 obtain ⟨y579, hy579⟩ : ∃ y_ : List Int, y_ = (x17_4 ++ [t576]) := ⟨_, rfl⟩
 replace H : (vpack_Read.l3 k4 t577 x16_2 y579 a0_0 a0_1 l0_2 l0_3 l1 t575 x560000_4 x560001_2) = some (r1, r2, r3) := by first | (rw [hy579]; with_reducible exact H) | (have H2_ := (Option.bind_some _ _).symm.trans H; rw [hy579]; with_reducible exact H2_) | (have H2_ := (Option.bind_some _ _).symm.trans H; with_reducible exact H2_) | with_reducible exact H | (rw [hy579]; exact H) | exact H
 have Ny579 := Aside0.mk hy579
 clear hy579
 have H' := Aside0.mk H
 clear H
 obtain ⟨Ao127, co127, eo127⟩ := Kd.R_slice HO_17.out
 subst eo127
 have hnb128 := NB559_555.out
 have hnc128 := NB555_559.out
 have hnb129 := NB559_556.out
 have hnc129 := NB556_559.out
 have hnb130 := NB559_558.out
 have hnc130 := NB558_559.out
 obtain ⟨hcz131_0, hcz131_1, hfz131_0, hfz131_1⟩ := e2_ BK559
 obtain ⟨Ao132, co132, eo132⟩ := Kd.S_slice HO_560000.out
 subst eo132
 have p574 : 0 ≤ (x16_2 : Int) := of_decide_eq_true am_
 have q574 : x16_2 < (x560000_4.length : Int) := of_decide_eq_true am_
 obtain ⟨ad574, A574_0, c574_0, e574, hx574_0, hl574_0, hi574_0⟩ := at_L1 (Kd.S_reads' HO_560000.out).2.2 x16_2 p574 q574
 cases e574
 obtain ⟨ce574, hce574, hMe574, hcc574⟩ := Kd.S_get HO_560000.out [] x16_2 p574 (by first | exact q574 | exact of_decide_eq_true am_ | (have e_ := (Kd.S_reads' HO_560000.out).1; omega))
 obtain ⟨ve574_0, rfl, ge574_0⟩ := hMe574
 have hv574_0 := hcc574 0 _ rfl
 rw [Nat.add_zero, show ((Kd.slice 3 (Kd.int .i64))).sz = 1 from rfl, Nat.mul_one] at hv574_0
 replace hv574_0 := Option.some.inj (hv574_0.symm.trans hx574_0)
 rw [hv574_0] at ge574_0
 have HL574_0 := Aside0.mk (show Kd.R (Kd.int .i64) 3 _ _ _ _ (rd_L1 x560000_4 x16_2) from ge574_0)
 clear hv574_0 ge574_0
 clear hcc574 hce574
 have HR574_0 := Aside0.mk hi574_0
 have HC574_0 := Aside0.mk hl574_0
 clear hi574_0 hl574_0
 replace p574 := eq_true p574
 replace q574 := eq_true q574
 have hnb133 := NB558_555.out
 have hnc133 := NB555_558.out
 have hnb134 := NB558_556.out
 have hnc134 := NB556_558.out
 obtain ⟨hcz135_0, hcz135_1, hfz135_0, hfz135_1⟩ := e2_ BK558
 have hnb136 := NB555_556.out
 have hnc136 := NB556_555.out
 obtain ⟨hcz137_0, hcz137_1, hcz137_2, hcz137_3, hfz137_0, hfz137_1, hfz137_2, hfz137_3⟩ := e4_ BK555
 try go_wp2_with (first | (with_reducible refine scope_straight48_ ?_) | (with_reducible refine wp_label ?_) | ((with_reducible refine gate_callee (f := 57) rfl ?_); refine gL_ (some 106) Try.func57 #[.agg #[.slice A1 l1.length c1, .int .i64 x559001_4], .slice A0_3 l0_3.length c0_3] ?_; (with_reducible refine (vpack_taken.calls k4 _ _ l1 x559001_4 _ _ l0_3 t575 t576 t577 _ ?side1 ?side2 ?side3 ?side4 A125.out).mono ?_); (case side1 => exact kC_ HR1 HB); (case side2 => exact HC1.out); (case side3 => exact kC_ HR0_3 HB); (case side4 => exact HC0_3.out); rintro e w138 ⟨rfl, hb⟩; refine ⟨_, rfl, ?_⟩; replace HO_17 := FR_ HO_17 hb; replace HO_560000 := FS_ HO_560000 hb; replace HO_560001 := FS_ HO_560001 hb; replace HL574_0 := FR_ HL574_0 hb; replace BK555 := FB_ BK555 hb; replace BK556 := FB_ BK556 hb; replace BK558 := FB_ BK558 hb; replace BK559 := FB_ BK559 hb; replace HR574_0 := Aside0.mk (Kd.C_below (by repeat (first | (with_reducible exact HR574_0.out) | (with_reducible refine Kd.C_alloc ?_ _) | (with_reducible refine Kd.C_drewN ?_ _) | (with_reducible refine Kd.C_drew ?_) | exact HR574_0.out)) hb); replace HB := BS_ HB hb; (try clear hb)) | ((with_reducible refine gate_dst (N := 18) rfl ?_); (try (refine gate_guard (by rfl) ?_; dsimp only)); refine box_ 18 #[.slice none 0 0, .int .i64 0] 77 ?_; intro gb578 hg w139 hbox hb; replace HO_17 := FR_ HO_17 hb; replace HO_560000 := FS_ HO_560000 hb; replace HO_560001 := FS_ HO_560001 hb; replace HL574_0 := FR_ HL574_0 hb; replace HR574_0 := Aside0.mk (Kd.C_below (by repeat (first | (with_reducible exact HR574_0.out) | (with_reducible refine Kd.C_alloc ?_ _) | (with_reducible refine Kd.C_drewN ?_ _) | (with_reducible refine Kd.C_drew ?_) | exact HR574_0.out)) hb); have BK578 := Aside0.mk (hbox); have GW578 := GE_ HB hg; have GE578 := GE_ HB hg; replace HB := BS_ HB hb; obtain ⟨NB555_578, NB578_555⟩ := NN_ BK555 hg; replace BK555 := FB_ BK555 hb; obtain ⟨NB556_578, NB578_556⟩ := NN_ BK556 hg; replace BK556 := FB_ BK556 hb; obtain ⟨NB558_578, NB578_558⟩ := NN_ BK558 hg; replace BK558 := FB_ BK558 hb; obtain ⟨NB559_578, NB578_559⟩ := NN_ BK559 hg; replace BK559 := FB_ BK559 hb; clear hb hbox hg; have hnb140 := NB578_555.out; have hnc140 := NB555_578.out; have hnb141 := NB578_556.out; have hnc141 := NB556_578.out; have hnb142 := NB578_558.out; have hnc142 := NB558_578.out; have hnb143 := NB578_559.out; have hnc143 := NB559_578.out; obtain ⟨hcz144_0, hcz144_1, hfz144_0, hfz144_1⟩ := e2_ BK578))
 have n0_ : Aside0 (Kd.R (Kd.int .i64) 2 ((w139.setCell ⟨gb578, 0, none⟩ (.slice A1 l1.length c1)).setCell ⟨gb578, 1, none⟩ (.int .i64 t575)) w.heap.size (fun _ => True) (.slice Ao127 x17_4.length co127) x17_4) := ⟨by (with_reducible repeat (first | apply Kd.R_alloc | apply Kd.R_drewN | apply Kd.R_drew)); exact Kd.R_mono (Kd.R_far (p := ⟨gb578, 1, none⟩) (Kd.R_far (p := ⟨gb578, 0, none⟩) (Kd.R_types HO_17.out BK578.out (by decide)) (fun _ hk => hk.2) (.slice A1 l1.length c1)) (fun _ hk => hk.2) (.int .i64 t575)) (fun _ hk => trivial)⟩
 have n1_ : Aside0 (Kd.S (Kd.slice 3 (Kd.int .i64)) 22 ((w139.setCell ⟨gb578, 0, none⟩ (.slice A1 l1.length c1)).setCell ⟨gb578, 1, none⟩ (.int .i64 t575)) w.heap.size (fun _ => True) (.slice (some ad574) x560000_4.length co132) x560000_4) := ⟨by (with_reducible repeat (first | apply Kd.S_alloc | apply Kd.S_drewN | apply Kd.S_drew)); exact Kd.S_mono (Kd.S_far (p := ⟨gb578, 1, none⟩) (Kd.S_far (p := ⟨gb578, 0, none⟩) (Kd.S_types HO_560000.out BK578.out (by decide)) (fun _ hk => hk.2) (.slice A1 l1.length c1)) (fun _ hk => hk.2) (.int .i64 t575)) (fun _ hk => trivial)⟩
 have n2_ : Aside0 (Kd.S (Kd.slice 2 (Kd.int .i64)) 84 ((w139.setCell ⟨gb578, 0, none⟩ (.slice A1 l1.length c1)).setCell ⟨gb578, 1, none⟩ (.int .i64 t575)) w.heap.size (fun k_ => some k_ ≠ (.slice Ao127 x17_4.length co127 : Value).ownBlock) u560001 x560001_2) := ⟨kSk_ HO_560001 BK578⟩
 have n3_ : Aside0 (Kd.R (Kd.int .i64) 3 ((w139.setCell ⟨gb578, 0, none⟩ (.slice A1 l1.length c1)).setCell ⟨gb578, 1, none⟩ (.int .i64 t575)) w.heap.size (fun k_ => some k_ ≠ (.slice (some ad574) x560000_4.length co132 : Value).ownBlock) (.slice A574_0 (rd_L1 x560000_4 x16_2).length c574_0) (rd_L1 x560000_4 x16_2)) := ⟨by (with_reducible repeat (first | apply Kd.R_alloc | apply Kd.R_drewN | apply Kd.R_drew)); exact Kd.R_mono (Kd.R_far (p := ⟨gb578, 1, none⟩) (Kd.R_far (p := ⟨gb578, 0, none⟩) (Kd.R_types HL574_0.out BK578.out (by decide)) (fun _ hk => hk.2) (.slice A1 l1.length c1)) (fun _ hk => hk.2) (.int .i64 t575)) (fun _ hk => hk.1.2)⟩
 have n4_ : Aside0 (((w139.setCell ⟨gb578, 0, none⟩ (.slice A1 l1.length c1)).setCell ⟨gb578, 1, none⟩ (.int .i64 t575)).heap[gb555]? = some (.cells #[.int .i64 a0_0, .int .i64 a0_1, .slice A0_2 l0_2.length c0_2, .slice A0_3 l0_3.length c0_3] 24 (0, 0))) := ⟨bk_ BK555⟩
 have n5_ : Aside0 (((w139.setCell ⟨gb578, 0, none⟩ (.slice A1 l1.length c1)).setCell ⟨gb578, 1, none⟩ (.int .i64 t575)).heap[gb556]? = some (.cells #[.slice none 0 0, .slice none 0 0] 48 (0, 0))) := ⟨bk_ BK556⟩
 have n6_ : Aside0 (((w139.setCell ⟨gb578, 0, none⟩ (.slice A1 l1.length c1)).setCell ⟨gb578, 1, none⟩ (.int .i64 t575)).heap[gb558]? = some (.cells #[.slice A1 l1.length c1, .int .i64 x559001_4] 77 (0, 0))) := ⟨bk_ BK558⟩
 have n7_ : Aside0 (((w139.setCell ⟨gb578, 0, none⟩ (.slice A1 l1.length c1)).setCell ⟨gb578, 1, none⟩ (.int .i64 t575)).heap[gb559]? = some (.cells #[.slice (some ad574) x560000_4.length co132, u560001] 48 (0, 0))) := ⟨bk_ BK559⟩
 have n8_ : Aside0 (((w139.setCell ⟨gb578, 0, none⟩ (.slice A1 l1.length c1)).setCell ⟨gb578, 1, none⟩ (.int .i64 t575)).heap[gb578]? = some (.cells #[.slice A1 l1.length c1, .int .i64 t575] 77 (0, 0))) := ⟨bp_ BK578⟩
 have n9_ : Aside0 (Below w.heap.size w ((w139.setCell ⟨gb578, 0, none⟩ (.slice A1 l1.length c1)).setCell ⟨gb578, 1, none⟩ (.int .i64 t575))) := ⟨bl_ HB⟩
 (try clear HO_17)
 (try clear HO_560000)
 (try clear HO_560001)
 (try clear HL574_0)
 (try clear BK555)
 (try clear BK556)
 (try clear BK558)
 (try clear BK559)
 (try clear BK578)
 (try clear HB)
 generalize ((w139.setCell ⟨gb578, 0, none⟩ (.slice A1 l1.length c1)).setCell ⟨gb578, 1, none⟩ (.int .i64 t575)) = w145 at n0_ n1_ n2_ n3_ n4_ n5_ n6_ n7_ n8_ n9_ ⊢
 have HO_17 := n0_
 have HO_560000 := n1_
 have HO_560001 := n2_
 have HL574_0 := n3_
 have BK555 := n4_
 have BK556 := n5_
 have BK558 := n6_
 have BK559 := n7_
 have BK578 := n8_
 have HB := n9_
 clear n0_ n1_ n2_ n3_ n4_ n5_ n6_ n7_ n8_ n9_
 replace HO_17 := Aside0.mk (Kd.R_drew HO_17.out)
 replace HO_560000 := Aside0.mk (Kd.S_drew HO_560000.out)
 replace HO_560001 := Aside0.mk (Kd.S_drew HO_560001.out)
 replace HL574_0 := Aside0.mk (Kd.R_drew HL574_0.out)
 replace BK555 := Aside0.mk (blk_drew BK555.out)
 replace BK556 := Aside0.mk (blk_drew BK556.out)
 replace BK558 := Aside0.mk (blk_drew BK558.out)
 replace BK559 := Aside0.mk (blk_drew BK559.out)
 replace BK578 := Aside0.mk (blk_drew BK578.out)
 replace HB := Aside0.mk (below_drew1 HB.out)
 refine start_ (n := 9) (S := fun w' => w'.cell? ⟨gb578, 0, none⟩ = some (.slice A1 l1.length c1) ∧ w'.cell? ⟨gb578, 1, none⟩ = some (.int .i64 t575)) (ds := []) (B_ 9 0) kf_ rfl rfl ⟨ce_ BK578 0, ce_ BK578 1⟩ (fun hHeld => ?_); refine with_tabW vpack_Read.tab24 vpack_Read.bits24 (fun HT_ HW_ => ?_)
 generalize w145.drew = w146 at HO_17 HO_560000 HO_560001 HL574_0 BK555 BK556 BK558 BK559 BK578 HB hHeld ⊢
 refine pu_ 1 (some 111) (B_ 9 2) HT_ ?_
 refine pu_ 2 (some 112) (B_ 9 6) HT_ ?_
 refine pu_ 3 (some 113) (B_ 9 14) HT_ ?_
 refine take_ (i := 0) (N := some 110) (v := ?_) (a' := ?_) (B_ 9 15) rfl rfl (take_ofW HT_.out HW_.out kf_) (fun _ _ _ h => h) (Or.inl ⟨by rfl, ?_⟩) hHeld ?_ ?_
 rotate_left
 {
 rintro w' ⟨s0, s1⟩
 go_simp
 with_reducible rfl}
 rotate_left
 {
 exact sp_}
 refine one_ (i := 4) (N := some 114) (B_ 9 31) rfl rfl (one_of HT_.out kf_) (by decide) (fun K hK => ?_)
 refine value_ (w1 := ?_) (v := ?_) (by rfl) rfl ?_ ?_
 rotate_left 2
 {
 go_simp
 constructor
 {
 rfl}
 {
 rfl}}
 refine hK.out _ _ ⟨(blk_cell (blk_alloc BK578.out _) 0).trans rfl, (blk_cell (blk_alloc BK578.out _) 1).trans rfl⟩ (fun hHeld => ?_)
 clear hK K
 refine norm_ (a' := ?_) ?_ ?_
 rotate_left
 {
 show Act.put _ (some 114) _ = _
 exact sp_}
 refine one_ (i := 5) (N := some 115) (B_ 9 63) rfl rfl (one_of HT_.out kf_) (by decide) (fun K hK => ?_)
 refine Kd.R_append_step (Kd.int .i64) (w0 := w) w.heap.size (by rfl) (.tmp 112) (.tmp 114) 84 2 (.int .i64 0) 8 rfl Try.underlying84 info2 rfl (by decide) (by omega) (.slice Ao127 x17_4.length co127) x17_4 t576 [.int .i64 t576] (fun _ => True) (fun _ => False) rfl rfl ?aP (fun _ hk => hk.elim) ?aF ?aO ?aB ?aS ?aL ?_
 (case aP => exact rfl)
 (case aB => exact (bl_ HB))
 (case aF => exact (fun _ _ => trivial))
 (case aO => exact (kR_ HO_17))
 (case aS => exact (bs_ HB))
 (case aL => have := LMc126.out; omega)
 intro v580 w147 ho hb hg hat
 rw [← Ny579.out] at ho
 replace HO_560000 := Aside0.mk (Kd.S_over' (kS_ HO_560000) (Kd.R_typed (kR_ HO_17)) (by decide) hg)
 replace HO_560001 := Aside0.mk (Kd.S_after (ok := (fun _ => True)) (by (with_reducible repeat (first | apply Kd.S_alloc | apply Kd.S_drewN | apply Kd.S_drew)); exact Kd.S_mono HO_560001.out (fun _ hk => ⟨trivial, hk⟩)) hg hat)
 replace BK555 := (FG_ BK555 hg (Kd.R_ne HO_17.out BK555.out (by decide)))
 replace BK556 := (FG_ BK556 hg (Kd.R_ne HO_17.out BK556.out (by decide)))
 replace BK558 := (FG_ BK558 hg (Kd.R_ne HO_17.out BK558.out (by decide)))
 replace BK559 := (FG_ BK559 hg (Kd.R_ne HO_17.out BK559.out (by decide)))
 replace HL574_0 := Aside0.mk (Kd.R_over' (kR_ HL574_0) (Kd.R_typed (kR_ HO_17)) (by decide) hg)
 replace BK578 := (FG_ BK578 hg (Kd.R_ne HO_17.out BK578.out (by decide)))
 replace HB := Aside0.mk (hb)
 have HO581 := Aside0.mk (ho)
 clear HO_17
 clear ho hb hg hat
 refine hK.out _ _ ⟨ce_ BK578 0, ce_ BK578 1⟩ (fun hHeld => ?_)
 clear hK K
 refine norm_ (a' := ?_) ?_ ?_
 rotate_left
 {
 show Act.put _ (some 115) _ = _
 exact sp_}
 refine one_ (i := 6) (N := none) (B_ 9 127) rfl rfl (one_of HT_.out kf_) (by decide) (fun K hK => ?_)
 have hs148 : w147.cell? ⟨gb558, 0, none⟩ = some (.slice A1 l1.length c1) := ce_ BK558 0
 have hfs148 := blk_frozen BK558.out 0
 have hns148_0 := NB555_558.out
 have hns148_1 := NB556_558.out
 have hns148_3 := NB559_558.out
 have hns148_4 := NB578_558.out
 have hms148_0 := NB558_555.out
 have hms148_1 := NB558_556.out
 have hms148_3 := NB558_559.out
 have hms148_4 := NB558_578.out
 have hs149 : w147.cell? ⟨gb558, 1, none⟩ = some (.int .i64 x559001_4) := ce_ BK558 1
 have hfs149 := blk_frozen BK558.out 1
 have hns149_0 := NB555_558.out
 have hns149_1 := NB556_558.out
 have hns149_3 := NB559_558.out
 have hns149_4 := NB578_558.out
 have hms149_0 := NB558_555.out
 have hms149_1 := NB558_556.out
 have hms149_3 := NB558_559.out
 have hms149_4 := NB558_578.out
 refine skip_ (w1 := ?_) (by rfl) rfl ?_ ?_
 rotate_left
 {
 go_simp
 rfl}
 refine hK.out _ _ ⟨((cell_far (p := ⟨gb558, _, none⟩) NB578_558.out _).trans (((cell_far (p := ⟨gb558, _, none⟩) NB578_558.out _).trans (hHeld.1)))), ((cell_far (p := ⟨gb558, _, none⟩) NB578_558.out _).trans (((cell_far (p := ⟨gb558, _, none⟩) NB578_558.out _).trans (hHeld.2))))⟩ (fun hHeld => ?_)
 clear hK K
 refine pu_ 7 (some 8) (B_ 9 255) HT_ ?_
 refine pu_ 8 (some 17) (B_ 9 511) HT_ ?_
 refine done_ (done_of HT_.out kf_) ?_
 try go_wp2
 go_roundg k4
 case measure => have := HJ4.out; have := HK2.out; have := HJ106.out; have := HK4.out; omega
 case rel => exact ⟨(t577), (y579), (t575), rs_, H', ⟨by have := HJ4.out; have := HK2.out; have := HJ106.out; have := HK4.out; omega⟩, ⟨by (with_reducible repeat (first | apply Kd.R_alloc | apply Kd.R_drewN | apply Kd.R_drew)); exact Kd.R_mono (Kd.R_far (p := ⟨gb558, 1, none⟩) (Kd.R_far (p := ⟨gb558, 0, none⟩) (Kd.R_types HO581.out BK558.out (by decide)) (fun _ hk => hk.2) (.slice A1 l1.length c1)) (fun _ hk => hk.2) (.int .i64 t575)) (fun _ hk => trivial)⟩, ⟨by (with_reducible repeat (first | apply Kd.S_alloc | apply Kd.S_drewN | apply Kd.S_drew)); exact Kd.S_mono (Kd.S_far (p := ⟨gb558, 1, none⟩) (Kd.S_far (p := ⟨gb558, 0, none⟩) (Kd.S_types HO_560000.out BK558.out (by decide)) (fun _ hk => hk.2) (.slice A1 l1.length c1)) (fun _ hk => hk.2) (.int .i64 t575)) (fun _ hk => trivial)⟩, ⟨by (with_reducible repeat (first | apply Kd.S_alloc | apply Kd.S_drewN | apply Kd.S_drew)); exact Kd.S_mono (Kd.S_far (p := ⟨gb558, 1, none⟩) (Kd.S_far (p := ⟨gb558, 0, none⟩) (Kd.S_types HO_560001.out BK558.out (by decide)) (fun _ hk => hk.2) (.slice A1 l1.length c1)) (fun _ hk => hk.2) (.int .i64 t575)) (fun _ hk => hk.1.2)⟩, ⟨bk_ BK555⟩, ⟨bk_ BK556⟩, ⟨bp_ BK558⟩, ⟨bk_ BK559⟩, ⟨bl_ HB⟩⟩}
 {
 rw [if_neg c126] at H
 exact absurd H (by simp)}}
 {
 rw [if_neg c124] at H
 have c124b0 : (x8_4 == 0) = false := beq_eq_false_iff_ne.mpr c124
 have c124b1 : (x8_4 != 0) = true := bne_iff_ne.mpr c124
 by_cases c150 : x560001_2.length < 5864062014805
 {
 rw [if_pos c150] at H
 have LMc150 := Aside0.mk c150
 clear c150
 obtain ⟨y582, hy582⟩ : ∃ y_ : List (List Int), y_ = (x560001_2 ++ [x17_4]) := ⟨_, rfl⟩
 replace H : (vpack_Read.l2 k4 x8_4 (wrap64 (x16_2 + 1)) a0_0 a0_1 l0_2 l0_3 l1 x559001_4 x560000_4 y582) = some (r1, r2, r3) := by first | (rw [hy582]; with_reducible exact H) | (have H2_ := (Option.bind_some _ _).symm.trans H; rw [hy582]; with_reducible exact H2_) | (have H2_ := (Option.bind_some _ _).symm.trans H; with_reducible exact H2_) | with_reducible exact H | (rw [hy582]; exact H) | exact H
 have Ny582 := Aside0.mk hy582
 clear hy582
 have H' := Aside0.mk H
 clear H
 obtain ⟨Ao151, co151, eo151⟩ := Kd.R_slice HO_17.out
 subst eo151
 have hnb152 := NB559_555.out
 have hnc152 := NB555_559.out
 have hnb153 := NB559_556.out
 have hnc153 := NB556_559.out
 have hnb154 := NB559_558.out
 have hnc154 := NB558_559.out
 obtain ⟨hcz155_0, hcz155_1, hfz155_0, hfz155_1⟩ := e2_ BK559
 obtain ⟨Ao156, co156, eo156⟩ := Kd.S_slice HO_560000.out
 subst eo156
 have p574 : 0 ≤ (x16_2 : Int) := of_decide_eq_true am_
 have q574 : x16_2 < (x560000_4.length : Int) := of_decide_eq_true am_
 obtain ⟨ad574, A574_0, c574_0, e574, hx574_0, hl574_0, hi574_0⟩ := at_L1 (Kd.S_reads' HO_560000.out).2.2 x16_2 p574 q574
 cases e574
 obtain ⟨ce574, hce574, hMe574, hcc574⟩ := Kd.S_get HO_560000.out [] x16_2 p574 (by first | exact q574 | exact of_decide_eq_true am_ | (have e_ := (Kd.S_reads' HO_560000.out).1; omega))
 obtain ⟨ve574_0, rfl, ge574_0⟩ := hMe574
 have hv574_0 := hcc574 0 _ rfl
 rw [Nat.add_zero, show ((Kd.slice 3 (Kd.int .i64))).sz = 1 from rfl, Nat.mul_one] at hv574_0
 replace hv574_0 := Option.some.inj (hv574_0.symm.trans hx574_0)
 rw [hv574_0] at ge574_0
 have HL574_0 := Aside0.mk (show Kd.R (Kd.int .i64) 3 _ _ _ _ (rd_L1 x560000_4 x16_2) from ge574_0)
 clear hv574_0 ge574_0
 clear hcc574 hce574
 have HR574_0 := Aside0.mk hi574_0
 have HC574_0 := Aside0.mk hl574_0
 clear hi574_0 hl574_0
 replace p574 := eq_true p574
 replace q574 := eq_true q574
 go_wp2_with (first | (with_reducible refine scope_straight48_ ?_) | (with_reducible refine wp_label ?_) | ((with_reducible refine gate_builtin (b := .append) (xs := #[.tmp 117, .tmp 119]) rfl ?_); (try (refine gate_guard (by rfl) ?_; dsimp only)); at_builtin; refine Kd.S_append (Kd.slice 2 (Kd.int .i64)) (w0 := w) w.heap.size rfl (.tmp 117) (.tmp 119) 46 84 (.slice none 0 0) 24 rfl Try.underlying46 info84 rfl (by decide) (by omega) u560001 x560001_2 x17_4 [.slice Ao151 x17_4.length co151] (fun _ => True) (fun k_ => some k_ = (.slice Ao151 x17_4.length co151 : Value).ownBlock) rfl rfl ?aP (fun k_ hk_ => ((Kd.R_mono (ok' := fun k_ => ((fun _ => True)) k_ ∧ some k_ ≠ (u560001 : Value).ownBlock) (Kd.R_apart' (HO_17.out) (Kd.S_typed HO_560001.out) (by decide)) (fun k_ hk => ⟨trivial, hk.2⟩))).1 k_ hk_.symm) ?aF ?aO ?aB ?aS ?aL ?_; (case aP => exact Kd.M_row (Kd.R_mono (Kd.R_tight rfl (Kd.R_mono (ok' := fun k_ => ((fun _ => True)) k_ ∧ some k_ ≠ (u560001 : Value).ownBlock) (Kd.R_apart' (HO_17.out) (Kd.S_typed HO_560001.out) (by decide)) (fun k_ hk => ⟨trivial, hk.2⟩))) (fun _ h_ => h_))); (case aB => exact (bl_ HB)); (case aF => exact (fun _ _ => trivial)); (case aO => exact (by (with_reducible repeat (first | apply Kd.S_alloc | apply Kd.S_drewN | apply Kd.S_drew)); exact Kd.S_mono HO_560001.out (fun k_ hk => ⟨trivial, fun e_ => hk e_⟩))); (case aS => exact (bs_ HB)); (case aL => have := LMc150.out; omega); intro v583 w157 ho hb hg hat; rw [← Ny582.out] at ho; replace HO_560000 := Aside0.mk (Kd.S_over' (kS_ HO_560000) (Kd.S_typed (kS_ HO_560001)) (by decide) hg); replace BK555 := (FG_ BK555 hg (Kd.S_ne HO_560001.out BK555.out (by decide))); replace BK556 := (FG_ BK556 hg (Kd.S_ne HO_560001.out BK556.out (by decide))); replace BK558 := (FG_ BK558 hg (Kd.S_ne HO_560001.out BK558.out (by decide))); replace BK559 := (FG_ BK559 hg (Kd.S_ne HO_560001.out BK559.out (by decide))); replace HL574_0 := Aside0.mk (Kd.R_over' (kR_ HL574_0) (Kd.S_typed (kS_ HO_560001)) (by decide) hg); replace HB := Aside0.mk (hb); have HO584 := Aside0.mk (ho); clear HO_560001 HO_17; clear ho hb hg hat; obtain ⟨Ao158, co158, eo158⟩ := Kd.S_slice HO584.out; subst eo158; obtain ⟨hcz159_0, hcz159_1, hfz159_0, hfz159_1⟩ := e2_ BK559))
 go_roundg k4
 case measure => have := HJ4.out; have := HK2.out; have := HJ106.out; have := HK4.out; omega
 case rel => exact ⟨(x8_4), (wrap64 (x16_2 + 1)), (x559001_4), (y582), (.slice Ao158 y582.length co158), rs_, rs_, H', ⟨by have := HJ4.out; have := HK2.out; have := HJ106.out; have := HK4.out; omega⟩, ⟨by (with_reducible repeat (first | apply Kd.S_alloc | apply Kd.S_drewN | apply Kd.S_drew)); exact Kd.S_mono (Kd.S_far (p := ⟨gb559, 1, none⟩) (Kd.S_types HO_560000.out BK559.out (by decide)) (fun _ hk => hk.2) (.slice Ao158 y582.length co158)) (fun _ hk => trivial)⟩, ⟨by (with_reducible repeat (first | apply Kd.S_alloc | apply Kd.S_drewN | apply Kd.S_drew)); exact Kd.S_mono (Kd.S_far (p := ⟨gb559, 1, none⟩) (Kd.S_types HO584.out BK559.out (by decide)) (fun _ hk => hk.2) (.slice Ao158 y582.length co158)) (fun _ hk => trivial)⟩, ⟨bk_ BK555⟩, ⟨bk_ BK556⟩, ⟨bk_ BK558⟩, ⟨bp_ BK559⟩, ⟨bl_ HB⟩⟩}
 {
 rw [if_neg c150] at H
 exact absurd H (by simp)}}}
 {
 rw [if_neg c123] at H
 have c123b0 : decide (0 < ((rd_L1 x560000_4 x16_2).length : Int)) = false := decide_eq_false c123
 have c123b1 : decide (0 < (rd_L1 x560000_4 x16_2).length) = false := decide_eq_false (by omega)
 clear c123
 by_cases c160 : x560001_2.length < 5864062014805
 {
 rw [if_pos c160] at H
 have LMc160 := Aside0.mk c160
 clear c160
 obtain ⟨y585, hy585⟩ : ∃ y_ : List (List Int), y_ = (x560001_2 ++ [x17_4]) := ⟨_, rfl⟩
 replace H : (vpack_Read.l2 k4 x8_4 (wrap64 (x16_2 + 1)) a0_0 a0_1 l0_2 l0_3 l1 x559001_4 x560000_4 y585) = some (r1, r2, r3) := by first | (rw [hy585]; with_reducible exact H) | (have H2_ := (Option.bind_some _ _).symm.trans H; rw [hy585]; with_reducible exact H2_) | (have H2_ := (Option.bind_some _ _).symm.trans H; with_reducible exact H2_) | with_reducible exact H | (rw [hy585]; exact H) | exact H
 have Ny585 := Aside0.mk hy585
 clear hy585
 have H' := Aside0.mk H
 clear H
 obtain ⟨Ao161, co161, eo161⟩ := Kd.R_slice HO_17.out
 subst eo161
 have hnb162 := NB559_555.out
 have hnc162 := NB555_559.out
 have hnb163 := NB559_556.out
 have hnc163 := NB556_559.out
 have hnb164 := NB559_558.out
 have hnc164 := NB558_559.out
 obtain ⟨hcz165_0, hcz165_1, hfz165_0, hfz165_1⟩ := e2_ BK559
 obtain ⟨Ao166, co166, eo166⟩ := Kd.S_slice HO_560000.out
 subst eo166
 have p574 : 0 ≤ (x16_2 : Int) := of_decide_eq_true am_
 have q574 : x16_2 < (x560000_4.length : Int) := of_decide_eq_true am_
 obtain ⟨ad574, A574_0, c574_0, e574, hx574_0, hl574_0, hi574_0⟩ := at_L1 (Kd.S_reads' HO_560000.out).2.2 x16_2 p574 q574
 cases e574
 obtain ⟨ce574, hce574, hMe574, hcc574⟩ := Kd.S_get HO_560000.out [] x16_2 p574 (by first | exact q574 | exact of_decide_eq_true am_ | (have e_ := (Kd.S_reads' HO_560000.out).1; omega))
 obtain ⟨ve574_0, rfl, ge574_0⟩ := hMe574
 have hv574_0 := hcc574 0 _ rfl
 rw [Nat.add_zero, show ((Kd.slice 3 (Kd.int .i64))).sz = 1 from rfl, Nat.mul_one] at hv574_0
 replace hv574_0 := Option.some.inj (hv574_0.symm.trans hx574_0)
 rw [hv574_0] at ge574_0
 have HL574_0 := Aside0.mk (show Kd.R (Kd.int .i64) 3 _ _ _ _ (rd_L1 x560000_4 x16_2) from ge574_0)
 clear hv574_0 ge574_0
 clear hcc574 hce574
 have HR574_0 := Aside0.mk hi574_0
 have HC574_0 := Aside0.mk hl574_0
 clear hi574_0 hl574_0
 replace p574 := eq_true p574
 replace q574 := eq_true q574
 go_wp2_with (first | (with_reducible refine scope_straight48_ ?_) | (with_reducible refine wp_label ?_) | ((with_reducible refine gate_builtin (b := .append) (xs := #[.tmp 117, .tmp 119]) rfl ?_); (try (refine gate_guard (by rfl) ?_; dsimp only)); at_builtin; refine Kd.S_append (Kd.slice 2 (Kd.int .i64)) (w0 := w) w.heap.size rfl (.tmp 117) (.tmp 119) 46 84 (.slice none 0 0) 24 rfl Try.underlying46 info84 rfl (by decide) (by omega) u560001 x560001_2 x17_4 [.slice Ao161 x17_4.length co161] (fun _ => True) (fun k_ => some k_ = (.slice Ao161 x17_4.length co161 : Value).ownBlock) rfl rfl ?aP (fun k_ hk_ => ((Kd.R_mono (ok' := fun k_ => ((fun _ => True)) k_ ∧ some k_ ≠ (u560001 : Value).ownBlock) (Kd.R_apart' (HO_17.out) (Kd.S_typed HO_560001.out) (by decide)) (fun k_ hk => ⟨trivial, hk.2⟩))).1 k_ hk_.symm) ?aF ?aO ?aB ?aS ?aL ?_; (case aP => exact Kd.M_row (Kd.R_mono (Kd.R_tight rfl (Kd.R_mono (ok' := fun k_ => ((fun _ => True)) k_ ∧ some k_ ≠ (u560001 : Value).ownBlock) (Kd.R_apart' (HO_17.out) (Kd.S_typed HO_560001.out) (by decide)) (fun k_ hk => ⟨trivial, hk.2⟩))) (fun _ h_ => h_))); (case aB => exact (bl_ HB)); (case aF => exact (fun _ _ => trivial)); (case aO => exact (by (with_reducible repeat (first | apply Kd.S_alloc | apply Kd.S_drewN | apply Kd.S_drew)); exact Kd.S_mono HO_560001.out (fun k_ hk => ⟨trivial, fun e_ => hk e_⟩))); (case aS => exact (bs_ HB)); (case aL => have := LMc160.out; omega); intro v586 w167 ho hb hg hat; rw [← Ny585.out] at ho; replace HO_560000 := Aside0.mk (Kd.S_over' (kS_ HO_560000) (Kd.S_typed (kS_ HO_560001)) (by decide) hg); replace BK555 := (FG_ BK555 hg (Kd.S_ne HO_560001.out BK555.out (by decide))); replace BK556 := (FG_ BK556 hg (Kd.S_ne HO_560001.out BK556.out (by decide))); replace BK558 := (FG_ BK558 hg (Kd.S_ne HO_560001.out BK558.out (by decide))); replace BK559 := (FG_ BK559 hg (Kd.S_ne HO_560001.out BK559.out (by decide))); replace HL574_0 := Aside0.mk (Kd.R_over' (kR_ HL574_0) (Kd.S_typed (kS_ HO_560001)) (by decide) hg); replace HB := Aside0.mk (hb); have HO587 := Aside0.mk (ho); clear HO_560001 HO_17; clear ho hb hg hat; obtain ⟨Ao168, co168, eo168⟩ := Kd.S_slice HO587.out; subst eo168; obtain ⟨hcz169_0, hcz169_1, hfz169_0, hfz169_1⟩ := e2_ BK559))
 go_roundg k4
 case measure => have := HJ4.out; have := HK2.out; have := HJ106.out; have := HK4.out; omega
 case rel => exact ⟨(x8_4), (wrap64 (x16_2 + 1)), (x559001_4), (y585), (.slice Ao168 y585.length co168), rs_, rs_, H', ⟨by have := HJ4.out; have := HK2.out; have := HJ106.out; have := HK4.out; omega⟩, ⟨by (with_reducible repeat (first | apply Kd.S_alloc | apply Kd.S_drewN | apply Kd.S_drew)); exact Kd.S_mono (Kd.S_far (p := ⟨gb559, 1, none⟩) (Kd.S_types HO_560000.out BK559.out (by decide)) (fun _ hk => hk.2) (.slice Ao168 y585.length co168)) (fun _ hk => trivial)⟩, ⟨by (with_reducible repeat (first | apply Kd.S_alloc | apply Kd.S_drewN | apply Kd.S_drew)); exact Kd.S_mono (Kd.S_far (p := ⟨gb559, 1, none⟩) (Kd.S_types HO587.out BK559.out (by decide)) (fun _ hk => hk.2) (.slice Ao168 y585.length co168)) (fun _ hk => trivial)⟩, ⟨bk_ BK555⟩, ⟨bk_ BK556⟩, ⟨bk_ BK558⟩, ⟨bp_ BK559⟩, ⟨bl_ HB⟩⟩}
 {
 rw [if_neg c160] at H
 exact absurd H (by simp)}}}
 {
 rw [if_neg c122] at H
 exact absurd H (by simp)}}
 {
 rw [if_neg c121] at H
 exact absurd H (by simp)}}
 {
 rw [if_neg c120] at H
 have c120b0 : decide ((x17_4.length : Int) < 16) = false := decide_eq_false c120
 have c120b1 : decide (x17_4.length < 16) = false := decide_eq_false (by omega)
 clear c120
 by_cases c170 : x560001_2.length < 5864062014805
 {
 rw [if_pos c170] at H
 have LMc170 := Aside0.mk c170
 clear c170
 obtain ⟨y588, hy588⟩ : ∃ y_ : List (List Int), y_ = (x560001_2 ++ [x17_4]) := ⟨_, rfl⟩
 replace H : (vpack_Read.l2 k4 x8_4 (wrap64 (x16_2 + 1)) a0_0 a0_1 l0_2 l0_3 l1 x559001_4 x560000_4 y588) = some (r1, r2, r3) := by first | (rw [hy588]; with_reducible exact H) | (have H2_ := (Option.bind_some _ _).symm.trans H; rw [hy588]; with_reducible exact H2_) | (have H2_ := (Option.bind_some _ _).symm.trans H; with_reducible exact H2_) | with_reducible exact H | (rw [hy588]; exact H) | exact H
 have Ny588 := Aside0.mk hy588
 clear hy588
 have H' := Aside0.mk H
 clear H
 obtain ⟨Ao171, co171, eo171⟩ := Kd.R_slice HO_17.out
 subst eo171
 have hnb172 := NB559_555.out
 have hnc172 := NB555_559.out
 have hnb173 := NB559_556.out
 have hnc173 := NB556_559.out
 have hnb174 := NB559_558.out
 have hnc174 := NB558_559.out
 obtain ⟨hcz175_0, hcz175_1, hfz175_0, hfz175_1⟩ := e2_ BK559
 go_wp2_with (first | (with_reducible refine scope_straight48_ ?_) | (with_reducible refine wp_label ?_) | ((with_reducible refine gate_builtin (b := .append) (xs := #[.tmp 117, .tmp 119]) rfl ?_); (try (refine gate_guard (by rfl) ?_; dsimp only)); at_builtin; refine Kd.S_append (Kd.slice 2 (Kd.int .i64)) (w0 := w) w.heap.size rfl (.tmp 117) (.tmp 119) 46 84 (.slice none 0 0) 24 rfl Try.underlying46 info84 rfl (by decide) (by omega) u560001 x560001_2 x17_4 [.slice Ao171 x17_4.length co171] (fun _ => True) (fun k_ => some k_ = (.slice Ao171 x17_4.length co171 : Value).ownBlock) rfl rfl ?aP (fun k_ hk_ => ((Kd.R_mono (ok' := fun k_ => ((fun _ => True)) k_ ∧ some k_ ≠ (u560001 : Value).ownBlock) (Kd.R_apart' (HO_17.out) (Kd.S_typed HO_560001.out) (by decide)) (fun k_ hk => ⟨trivial, hk.2⟩))).1 k_ hk_.symm) ?aF ?aO ?aB ?aS ?aL ?_; (case aP => exact Kd.M_row (Kd.R_mono (Kd.R_tight rfl (Kd.R_mono (ok' := fun k_ => ((fun _ => True)) k_ ∧ some k_ ≠ (u560001 : Value).ownBlock) (Kd.R_apart' (HO_17.out) (Kd.S_typed HO_560001.out) (by decide)) (fun k_ hk => ⟨trivial, hk.2⟩))) (fun _ h_ => h_))); (case aB => exact (bl_ HB)); (case aF => exact (fun _ _ => trivial)); (case aO => exact (by (with_reducible repeat (first | apply Kd.S_alloc | apply Kd.S_drewN | apply Kd.S_drew)); exact Kd.S_mono HO_560001.out (fun k_ hk => ⟨trivial, fun e_ => hk e_⟩))); (case aS => exact (bs_ HB)); (case aL => have := LMc170.out; omega); intro v589 w176 ho hb hg hat; rw [← Ny588.out] at ho; replace HO_560000 := Aside0.mk (Kd.S_over' (kS_ HO_560000) (Kd.S_typed (kS_ HO_560001)) (by decide) hg); replace BK555 := (FG_ BK555 hg (Kd.S_ne HO_560001.out BK555.out (by decide))); replace BK556 := (FG_ BK556 hg (Kd.S_ne HO_560001.out BK556.out (by decide))); replace BK558 := (FG_ BK558 hg (Kd.S_ne HO_560001.out BK558.out (by decide))); replace BK559 := (FG_ BK559 hg (Kd.S_ne HO_560001.out BK559.out (by decide))); replace HB := Aside0.mk (hb); have HO590 := Aside0.mk (ho); clear HO_560001 HO_17; clear ho hb hg hat; obtain ⟨Ao177, co177, eo177⟩ := Kd.S_slice HO590.out; subst eo177; obtain ⟨hcz178_0, hcz178_1, hfz178_0, hfz178_1⟩ := e2_ BK559))
 go_roundg k4
 case measure => have := HJ4.out; have := HK2.out; have := HJ106.out; have := HK4.out; omega
 case rel => exact ⟨(x8_4), (wrap64 (x16_2 + 1)), (x559001_4), (y588), (.slice Ao177 y588.length co177), rs_, rs_, H', ⟨by have := HJ4.out; have := HK2.out; have := HJ106.out; have := HK4.out; omega⟩, ⟨by (with_reducible repeat (first | apply Kd.S_alloc | apply Kd.S_drewN | apply Kd.S_drew)); exact Kd.S_mono (Kd.S_far (p := ⟨gb559, 1, none⟩) (Kd.S_types HO_560000.out BK559.out (by decide)) (fun _ hk => hk.2) (.slice Ao177 y588.length co177)) (fun _ hk => trivial)⟩, ⟨by (with_reducible repeat (first | apply Kd.S_alloc | apply Kd.S_drewN | apply Kd.S_drew)); exact Kd.S_mono (Kd.S_far (p := ⟨gb559, 1, none⟩) (Kd.S_types HO590.out BK559.out (by decide)) (fun _ hk => hk.2) (.slice Ao177 y588.length co177)) (fun _ hk => trivial)⟩, ⟨bk_ BK555⟩, ⟨bk_ BK556⟩, ⟨bk_ BK558⟩, ⟨bp_ BK559⟩, ⟨bl_ HB⟩⟩}
 {
 rw [if_neg c170] at H
 exact absurd H (by simp)}}))}
 {
 replace c119 := Bool.eq_false_iff.mpr c119
 subst c119
 rw [if_neg (show ¬ (false = true) by decide)] at H
 by_cases c179 : x8_2 = 0
 {
 rw [if_pos c179] at H
 have c179b0 : (x8_2 == 0) = true := beq_iff_eq.mpr c179
 have c179b1 : (x8_2 != 0) = false := bne_eq_false_iff_eq.mpr c179
 clear c179
 obtain ⟨t591, A180, H⟩ := ob_ H
 (try dsimp only at H)
 by_cases c181 : t591 ≥ 8
 {
 rw [if_pos c181] at H
 have c181b0 : decide (8 ≤ t591) = true := decide_eq_true c181
 clear c181
 simp only [Option.some.injEq, Prod.mk.injEq] at H
 obtain ⟨rfl, rfl, rfl⟩ := H
 have hnb182 := NB558_555.out
 have hnc182 := NB555_558.out
 have hnb183 := NB558_556.out
 have hnc183 := NB556_558.out
 have hnb184 := NB558_559.out
 have hnc184 := NB559_558.out
 obtain ⟨hcz185_0, hcz185_1, hfz185_0, hfz185_1⟩ := e2_ BK558
 go_wp2_with (first | (with_reducible refine scope_straight48_ ?_) | (with_reducible refine wp_label ?_) | ((with_reducible refine gate_callee (f := 46) rfl ?_); refine gL_ (some 127) Try.func46 #[.agg #[.slice A1 l1.length c1, .int .i64 x559001_2]] ?_; (with_reducible refine (bits_Left.calls _ _ l1 x559001_2 t591 _ ?side1 ?side2 A180.out).mono ?_); (case side1 => exact kC_ HR1 HB); (case side2 => exact HC1.out); rintro e w186 ⟨rfl, hb⟩; refine ⟨_, rfl, ?_⟩; replace HO_560000 := FS_ HO_560000 hb; replace HO_560001 := FS_ HO_560001 hb; replace BK555 := FB_ BK555 hb; replace BK556 := FB_ BK556 hb; replace BK558 := FB_ BK558 hb; replace BK559 := FB_ BK559 hb; replace HB := BS_ HB hb; (try clear hb); have hnb187 := NB556_555.out; have hnc187 := NB555_556.out; have hnb188 := NB556_559.out; have hnc188 := NB559_556.out; obtain ⟨hcz189_0, hcz189_1, hfz189_0, hfz189_1⟩ := e2_ BK556))
 refine bodyPost_ret (results_ct rfl _ _ gb556 48 #[.slice none 0 0, .slice none 0 0] (0, 0) _ rfl (bp_ BK556) Try.underlying48 rfl kf_) rfl ?_
 exact ⟨_, _, by first | rfl | (simp [errW_none, errW_some] <;> rfl) | (simp [*, errW_none, errW_some] <;> rfl), by first | exact Kd.S_nil _ _ _ _ _ | exact Kd.N_nil _ _ _ _ _ | exact Kd.V_nil _ _ _ _ _ | exact Kd.Q_nil _ _ _ _ _ | exact Kd.R_nil _ _ _ _ _, by first | exact Kd.S_nil _ _ _ _ _ | exact Kd.N_nil _ _ _ _ _ | exact Kd.V_nil _ _ _ _ _ | exact Kd.Q_nil _ _ _ _ _ | exact Kd.R_nil _ _ _ _ _, bl_ HB⟩}
 {
 rw [if_neg c181] at H
 have c181b0 : decide (8 ≤ t591) = false := decide_eq_false c181
 clear c181
 obtain ⟨⟨t592, t593, t594⟩, A190, H⟩ := ob_ H
 (try dsimp only at H)
 by_cases c191 : t593 = 0
 {
 rw [if_pos c191] at H
 have c191b0 : (t593 == 0) = true := beq_iff_eq.mpr c191
 have c191b1 : (t593 != 0) = false := bne_eq_false_iff_eq.mpr c191
 clear c191
 simp only [Option.some.injEq, Prod.mk.injEq] at H
 obtain ⟨rfl, rfl, rfl⟩ := H
 have hnb192 := NB558_555.out
 have hnc192 := NB555_558.out
 have hnb193 := NB558_556.out
 have hnc193 := NB556_558.out
 have hnb194 := NB558_559.out
 have hnc194 := NB559_558.out
 obtain ⟨hcz195_0, hcz195_1, hfz195_0, hfz195_1⟩ := e2_ BK558
 go_wp2_with (first | (with_reducible refine scope_straight48_ ?_) | (with_reducible refine wp_label ?_) | ((with_reducible refine gate_callee (f := 46) rfl ?_); refine gL_ (some 127) Try.func46 #[.agg #[.slice A1 l1.length c1, .int .i64 x559001_2]] ?_; (with_reducible refine (bits_Left.calls _ _ l1 x559001_2 t591 _ ?side1 ?side2 A180.out).mono ?_); (case side1 => exact kC_ HR1 HB); (case side2 => exact HC1.out); rintro e w196 ⟨rfl, hb⟩; refine ⟨_, rfl, ?_⟩; replace HO_560000 := FS_ HO_560000 hb; replace HO_560001 := FS_ HO_560001 hb; replace BK555 := FB_ BK555 hb; replace BK556 := FB_ BK556 hb; replace BK558 := FB_ BK558 hb; replace BK559 := FB_ BK559 hb; replace HB := BS_ HB hb; (try clear hb); obtain ⟨hcz197_0, hcz197_1, hfz197_0, hfz197_1⟩ := e2_ BK558) | ((with_reducible refine gate_callee (f := 55) rfl ?_); refine gL_ (some 134) Try.func55 #[.agg #[.slice A1 l1.length c1, .int .i64 x559001_2], .int .i64 t591] ?_; (with_reducible refine (bits_Get.calls kj106 _ _ l1 x559001_2 t591 t592 t593 t594 _ ?side1 ?side2 A190.out).mono ?_); (case side1 => exact kC_ HR1 HB); (case side2 => exact HC1.out); rintro e w198 ⟨rfl, hb⟩; refine ⟨_, rfl, ?_⟩; replace HO_560000 := FS_ HO_560000 hb; replace HO_560001 := FS_ HO_560001 hb; replace BK555 := FB_ BK555 hb; replace BK556 := FB_ BK556 hb; replace BK558 := FB_ BK558 hb; replace BK559 := FB_ BK559 hb; replace HB := BS_ HB hb; (try clear hb)) | ((with_reducible refine gate_dst (N := 22) rfl ?_); (try (refine gate_guard (by rfl) ?_; dsimp only)); refine bx_ HB 22 #[.slice none 0 0, .int .i64 0] 77 ?_; clear HB; intro gb595 hg w199 hb BK595 GE595 HB; have GW595 := GE595; replace HO_560000 := FS_ HO_560000 hb; replace HO_560001 := FS_ HO_560001 hb; obtain ⟨NB555_595, NB595_555⟩ := NN_ BK555 hg; replace BK555 := FB_ BK555 hb; obtain ⟨NB556_595, NB595_556⟩ := NN_ BK556 hg; replace BK556 := FB_ BK556 hb; obtain ⟨NB558_595, NB595_558⟩ := NN_ BK558 hg; replace BK558 := FB_ BK558 hb; obtain ⟨NB559_595, NB595_559⟩ := NN_ BK559 hg; replace BK559 := FB_ BK559 hb; clear hb hg; have hnb200 := NB595_555.out; have hnc200 := NB555_595.out; have hnb201 := NB595_556.out; have hnc201 := NB556_595.out; have hnb202 := NB595_558.out; have hnc202 := NB558_595.out; have hnb203 := NB595_559.out; have hnc203 := NB559_595.out; obtain ⟨hcz204_0, hcz204_1, hfz204_0, hfz204_1⟩ := e2_ BK595; have hnb205 := NB559_555.out; have hnc205 := NB555_559.out; have hnb206 := NB559_556.out; have hnc206 := NB556_559.out; obtain ⟨hcz207_0, hcz207_1, hfz207_0, hfz207_1⟩ := e2_ BK559; obtain ⟨Ao208, co208, eo208⟩ := Kd.S_slice HO_560000.out; subst eo208; have hnb209 := NB556_555.out; have hnc209 := NB555_556.out; obtain ⟨hcz210_0, hcz210_1, hfz210_0, hfz210_1⟩ := e2_ BK556; obtain ⟨Ao211, co211, eo211⟩ := Kd.S_slice HO_560001.out; subst eo211))
 refine bodyPost_ret (results_ct rfl _ _ gb556 48 #[.slice Ao208 x560000_4.length co208, .slice Ao211 x560001_2.length co211] (0, 0) _ rfl (bp_ BK556) Try.underlying48 rfl kf_) rfl ?_
 exact ⟨_, _, by first | rfl | (simp [errW_none, errW_some] <;> rfl) | (simp [*, errW_none, errW_some] <;> rfl), by (with_reducible repeat (first | apply Kd.S_alloc | apply Kd.S_drewN | apply Kd.S_drew)); exact Kd.S_mono (Kd.S_far (p := ⟨gb556, 1, none⟩) (Kd.S_far (p := ⟨gb556, 0, none⟩) (Kd.S_far (p := ⟨gb595, 1, none⟩) (Kd.S_far (p := ⟨gb595, 0, none⟩) (Kd.S_types (Kd.S_types HO_560000.out BK595.out (by decide)) BK556.out (by decide)) (fun _ hk => hk.1.2) (.slice A1 l1.length c1)) (fun _ hk => hk.1.2) (.int .i64 t592)) (fun _ hk => hk.2) (.slice Ao208 x560000_4.length co208)) (fun _ hk => hk.2) (.slice Ao211 x560001_2.length co211)) (fun _ hk => trivial), by (with_reducible repeat (first | apply Kd.S_alloc | apply Kd.S_drewN | apply Kd.S_drew)); exact Kd.S_mono (Kd.S_far (p := ⟨gb556, 1, none⟩) (Kd.S_far (p := ⟨gb556, 0, none⟩) (Kd.S_far (p := ⟨gb595, 1, none⟩) (Kd.S_far (p := ⟨gb595, 0, none⟩) (Kd.S_types (Kd.S_types HO_560001.out BK595.out (by decide)) BK556.out (by decide)) (fun _ hk => hk.1.2) (.slice A1 l1.length c1)) (fun _ hk => hk.1.2) (.int .i64 t592)) (fun _ hk => hk.2) (.slice Ao208 x560000_4.length co208)) (fun _ hk => hk.2) (.slice Ao211 x560001_2.length co211)) (fun _ hk => trivial), bl_ HB⟩}
 {
 rw [if_neg c191] at H
 have c191b0 : (t593 == 0) = false := beq_eq_false_iff_ne.mpr c191
 have c191b1 : (t593 != 0) = true := bne_iff_ne.mpr c191
 simp only [Option.some.injEq, Prod.mk.injEq] at H
 obtain ⟨rfl, rfl, rfl⟩ := H
 have hnb212 := NB558_555.out
 have hnc212 := NB555_558.out
 have hnb213 := NB558_556.out
 have hnc213 := NB556_558.out
 have hnb214 := NB558_559.out
 have hnc214 := NB559_558.out
 obtain ⟨hcz215_0, hcz215_1, hfz215_0, hfz215_1⟩ := e2_ BK558
 go_wp2_with (first | (with_reducible refine scope_straight48_ ?_) | (with_reducible refine wp_label ?_) | ((with_reducible refine gate_callee (f := 46) rfl ?_); refine gL_ (some 127) Try.func46 #[.agg #[.slice A1 l1.length c1, .int .i64 x559001_2]] ?_; (with_reducible refine (bits_Left.calls _ _ l1 x559001_2 t591 _ ?side1 ?side2 A180.out).mono ?_); (case side1 => exact kC_ HR1 HB); (case side2 => exact HC1.out); rintro e w216 ⟨rfl, hb⟩; refine ⟨_, rfl, ?_⟩; replace HO_560000 := FS_ HO_560000 hb; replace HO_560001 := FS_ HO_560001 hb; replace BK555 := FB_ BK555 hb; replace BK556 := FB_ BK556 hb; replace BK558 := FB_ BK558 hb; replace BK559 := FB_ BK559 hb; replace HB := BS_ HB hb; (try clear hb); obtain ⟨hcz217_0, hcz217_1, hfz217_0, hfz217_1⟩ := e2_ BK558) | ((with_reducible refine gate_callee (f := 55) rfl ?_); refine gL_ (some 134) Try.func55 #[.agg #[.slice A1 l1.length c1, .int .i64 x559001_2], .int .i64 t591] ?_; (with_reducible refine (bits_Get.calls kj106 _ _ l1 x559001_2 t591 t592 t593 t594 _ ?side1 ?side2 A190.out).mono ?_); (case side1 => exact kC_ HR1 HB); (case side2 => exact HC1.out); rintro e w218 ⟨rfl, hb⟩; refine ⟨_, rfl, ?_⟩; replace HO_560000 := FS_ HO_560000 hb; replace HO_560001 := FS_ HO_560001 hb; replace BK555 := FB_ BK555 hb; replace BK556 := FB_ BK556 hb; replace BK558 := FB_ BK558 hb; replace BK559 := FB_ BK559 hb; replace HB := BS_ HB hb; (try clear hb)) | ((with_reducible refine gate_dst (N := 22) rfl ?_); (try (refine gate_guard (by rfl) ?_; dsimp only)); refine bx_ HB 22 #[.slice none 0 0, .int .i64 0] 77 ?_; clear HB; intro gb595 hg w219 hb BK595 GE595 HB; have GW595 := GE595; replace HO_560000 := FS_ HO_560000 hb; replace HO_560001 := FS_ HO_560001 hb; obtain ⟨NB555_595, NB595_555⟩ := NN_ BK555 hg; replace BK555 := FB_ BK555 hb; obtain ⟨NB556_595, NB595_556⟩ := NN_ BK556 hg; replace BK556 := FB_ BK556 hb; obtain ⟨NB558_595, NB595_558⟩ := NN_ BK558 hg; replace BK558 := FB_ BK558 hb; obtain ⟨NB559_595, NB595_559⟩ := NN_ BK559 hg; replace BK559 := FB_ BK559 hb; clear hb hg; have hnb220 := NB595_555.out; have hnc220 := NB555_595.out; have hnb221 := NB595_556.out; have hnc221 := NB556_595.out; have hnb222 := NB595_558.out; have hnc222 := NB558_595.out; have hnb223 := NB595_559.out; have hnc223 := NB559_595.out; obtain ⟨hcz224_0, hcz224_1, hfz224_0, hfz224_1⟩ := e2_ BK595; have hnb225 := NB556_555.out; have hnc225 := NB555_556.out; have hnb226 := NB556_559.out; have hnc226 := NB559_556.out; obtain ⟨hcz227_0, hcz227_1, hfz227_0, hfz227_1⟩ := e2_ BK556))
 refine bodyPost_ret (results_ct rfl _ _ gb556 48 #[.slice none 0 0, .slice none 0 0] (0, 0) _ rfl (bp_ BK556) Try.underlying48 rfl kf_) rfl ?_
 exact ⟨_, _, by first | rfl | (simp [errW_none, errW_some] <;> rfl) | (simp [*, errW_none, errW_some] <;> rfl), by first | exact Kd.S_nil _ _ _ _ _ | exact Kd.N_nil _ _ _ _ _ | exact Kd.V_nil _ _ _ _ _ | exact Kd.Q_nil _ _ _ _ _ | exact Kd.R_nil _ _ _ _ _, by first | exact Kd.S_nil _ _ _ _ _ | exact Kd.N_nil _ _ _ _ _ | exact Kd.V_nil _ _ _ _ _ | exact Kd.Q_nil _ _ _ _ _ | exact Kd.R_nil _ _ _ _ _, bl_ HB⟩}}}
 {
 rw [if_neg c179] at H
 have c179b0 : (x8_2 == 0) = false := beq_eq_false_iff_ne.mpr c179
 have c179b1 : (x8_2 != 0) = true := bne_iff_ne.mpr c179
 simp only [Option.some.injEq, Prod.mk.injEq] at H
 obtain ⟨rfl, rfl, rfl⟩ := H
 have hnb228 := NB556_555.out
 have hnc228 := NB555_556.out
 have hnb229 := NB556_558.out
 have hnc229 := NB558_556.out
 have hnb230 := NB556_559.out
 have hnc230 := NB559_556.out
 obtain ⟨hcz231_0, hcz231_1, hfz231_0, hfz231_1⟩ := e2_ BK556
 go_wp2
 refine bodyPost_ret (results_ct rfl _ _ gb556 48 #[.slice none 0 0, .slice none 0 0] (0, 0) _ rfl (bp_ BK556) Try.underlying48 rfl kf_) rfl ?_
 exact ⟨_, _, by first | rfl | (simp [errW_none, errW_some] <;> rfl) | (simp [*, errW_none, errW_some] <;> rfl), by first | exact Kd.S_nil _ _ _ _ _ | exact Kd.N_nil _ _ _ _ _ | exact Kd.V_nil _ _ _ _ _ | exact Kd.Q_nil _ _ _ _ _ | exact Kd.R_nil _ _ _ _ _, by first | exact Kd.S_nil _ _ _ _ _ | exact Kd.N_nil _ _ _ _ _ | exact Kd.V_nil _ _ _ _ _ | exact Kd.Q_nil _ _ _ _ _ | exact Kd.R_nil _ _ _ _ _, bl_ HB⟩}}))))))}
 {
 replace c4 := Bool.eq_false_iff.mpr c4
 subst c4
 rw [if_neg (show ¬ (false = true) by decide)] at H
 simp only [Option.some.injEq, Prod.mk.injEq] at H
 obtain ⟨rfl, rfl, rfl⟩ := H
 go_enter Try.func34, Try.ntmps34
 go_wp2_with (first | (with_reducible refine scope_straight48_ ?_) | (with_reducible refine wp_label ?_) | ((with_reducible refine gate_dst (N := 2) rfl ?_); (try (refine gate_guard (by rfl) ?_; dsimp only)); refine bx_ HB 2 #[.int .i64 a0_0, .int .i64 a0_1, .slice A0_2 l0_2.length c0_2, .slice A0_3 l0_3.length c0_3] 24 ?_; clear HB; intro gb555 hg w232 hb BK555 GE555 HB; have GW555 := GE555; clear hb hg) | ((with_reducible refine gate_dst (N := 4) rfl ?_); (try (refine gate_guard (by rfl) ?_; dsimp only)); refine bx_ HB 4 #[.slice none 0 0, .slice none 0 0] 48 ?_; clear HB; intro gb556 hg w233 hb BK556 GE556 HB; have GW556 := GE556; obtain ⟨NB555_556, NB556_555⟩ := NN_ BK555 hg; replace BK555 := FB_ BK555 hb; clear hb hg; have hnb234 := NB555_556.out; have hnc234 := NB556_555.out; obtain ⟨hcz235_0, hcz235_1, hcz235_2, hcz235_3, hfz235_0, hfz235_1, hfz235_2, hfz235_3⟩ := e4_ BK555) | ((with_reducible refine gate_callee (f := 17) rfl ?_); refine gL_ (some 26) Try.func17 #[.agg #[.int .i64 a0_0, .int .i64 a0_1, .slice A0_2 l0_2.length c0_2, .slice A0_3 l0_3.length c0_3]] ?_; (with_reducible refine (vhead_Right.calls k a0_0 a0_1 _ _ l0_2 _ _ l0_3 false _ ?side1 ?side2 ?side3 ?side4 A3.out).mono ?_); (case side1 => exact kC_ HR0_2 HB); (case side2 => exact HC0_2.out); (case side3 => exact kC_ HR0_3 HB); (case side4 => exact HC0_3.out); rintro e w236 ⟨rfl, hb⟩; refine ⟨_, rfl, ?_⟩; replace BK555 := FB_ BK555 hb; replace BK556 := FB_ BK556 hb; replace HB := BS_ HB hb; (try clear hb); obtain ⟨hcz237_0, hcz237_1, hfz237_0, hfz237_1⟩ := e2_ BK556))
 refine bodyPost_ret (results_ct rfl _ _ gb556 48 #[.slice none 0 0, .slice none 0 0] (0, 0) _ rfl (bp_ BK556) Try.underlying48 rfl kf_) rfl ?_
 exact ⟨_, _, by first | rfl | (simp [errW_none, errW_some] <;> rfl) | (simp [*, errW_none, errW_some] <;> rfl), by first | exact Kd.S_nil _ _ _ _ _ | exact Kd.N_nil _ _ _ _ _ | exact Kd.V_nil _ _ _ _ _ | exact Kd.Q_nil _ _ _ _ _ | exact Kd.R_nil _ _ _ _ _, by first | exact Kd.S_nil _ _ _ _ _ | exact Kd.N_nil _ _ _ _ _ | exact Kd.V_nil _ _ _ _ _ | exact Kd.Q_nil _ _ _ _ _ | exact Kd.R_nil _ _ _ _ _, bl_ HB⟩}
end Go.Proofs.Ytpdfdaoohknfoaa.P
namespace Go.Proofs.Ytpdfdaoohknfoaa.P
open Go.RowKit Go.Proofs.YtpdfdaoohknfoaaW.PrintWords Go.Proofs.YtpdfdaoohknfoaaW.PrintLast Go.Proofs.YtpdfdaoohknfoaaW.PrintMore
attribute [local go_sem] max2_int min2_int max_two min_two max_three min_three max_four min_four   -- for this text's walks alone
set_option linter.unusedVariables false
set_option linter.unusedSimpArgs false

def psalterylaw17_knows.f (k : Nat)  : Option (Bool) := (vhead_Plain.f k 1 0).bind fun bt596 => ((vpack_Write.f k bt596.1 bt596.2.1 bt596.2.2.1 bt596.2.2.2 (([[]] : List (List Int))) (([[]] : List (List Int)))).bind fun bt611 => (if 16 ≤ 35184372088832 then ((vpack_Write.f k bt596.1 bt596.2.1 bt596.2.2.1 bt596.2.2.2 (([(([0, 0, 0, 0, 0, 0] : List Int))] : List (List Int))) (([(List.replicate 16 0)] : List (List Int)))).bind fun bt627 => ((vpack_Read.f k bt596.1 bt596.2.1 bt596.2.2.1 bt596.2.2.2 bt627.1).bind fun bt631 => (if (strOfNums bt611.1).toList = ([0] : List UInt8) then (if bt611.2 = 0 then (if (bt627.1.length : Int) = 12 then (if bt627.2 = 0 then (if (bt631.1.length : Int) = 1 then (if 0 < (bt631.1.length : Int) then (if ((rd_L1 bt631.1 0).length : Int) = 6 then (if (bt631.2.1.length : Int) = 1 then (if 0 < (bt631.2.1.length : Int) then (if ((rd_L5 bt631.2.1 0).length : Int) = 16 then (if bt631.2.2 = 0 then ((vpack_Right.f k bt596.1 bt596.2.1 bt596.2.2.1 bt596.2.2.2 bt631.1 bt631.2.1).bind fun t641 => (some t641)) else (some false)) else (some false)) else (none)) else (some false)) else (some false)) else (none)) else (some false)) else (some false)) else (some false)) else (some false)) else (some false)))) else (none)))
theorem psalterylaw17_knows.mono : ∀ k, LeO (psalterylaw17_knows.f k ) (psalterylaw17_knows.f (k + 1) ) := by
  intro  k
  unfold psalterylaw17_knows.f
  with_reducible repeat' first
   | exact vhead_Plain.mono _ _ _
   | exact vpack_Read.mono _ _ _ _ _ _
   | exact vpack_Right.mono _ _ _ _ _ _ _
   | exact vpack_Write.mono _ _ _ _ _ _ _
   | exact LeO.refl _
   | exact LeO.none _
   | refine LeO.ite ?_ ?_
   | refine LeO.bind ?_ (fun _ => ?_)
def psalterylaw17_knows.T3 : Bool × List (List Nat × List Nat) := (true, [([], []), ([], []), ([1], [1]), ([], []), ([3], [3]), ([2, 4], [2, 4]), ([0, 5], [0, 5]), ([6], [6]), ([7], [7]), ([7], [7]), ([8, 6, 0, 1, 2, 3, 4, 5, 6, 7, 8], [8]), ([9, 10, 0, 1, 2, 3, 4, 5, 6, 7, 8, 9, 10], [9])])
def psalterylaw17_knows.B3 : List Nat := [0, 0, 2, 0, 8, 30, 63, 127, 255, 255, 511, 2047]
theorem psalterylaw17_knows.tab3 : rtab .any (opsOf Try.f28 3) = psalterylaw17_knows.T3 := by kernel_rfl
theorem psalterylaw17_knows.bits3 : waitsOk psalterylaw17_knows.T3.2 psalterylaw17_knows.B3 = true := by kernel_rfl
set_option maxHeartbeats 8000000 in
set_option maxRecDepth 100000 in
theorem psalterylaw17_knows.callsT (k : Nat)  (r : Bool) (w : World) (h : psalterylaw17_knows.f k  = some r) (hT : r = true) :
    Calls Try.prog 28 #[] w fun e w' => e = .returned (.bool r) ∧ Below w.heap.size w w' := by
 have hu24 := Try.underlying24
 have hu48 := Try.underlying48
 have HB := Aside0.mk (Below.refl w.heap.size w)
 have H : ((vhead_Plain.f k 1 0).bind fun bt596 => ((vpack_Write.f k bt596.1 bt596.2.1 bt596.2.2.1 bt596.2.2.2 (([[]] : List (List Int))) (([[]] : List (List Int)))).bind fun bt611 => (if 16 ≤ 35184372088832 then ((vpack_Write.f k bt596.1 bt596.2.1 bt596.2.2.1 bt596.2.2.2 (([(([0, 0, 0, 0, 0, 0] : List Int))] : List (List Int))) (([(List.replicate 16 0)] : List (List Int)))).bind fun bt627 => ((vpack_Read.f k bt596.1 bt596.2.1 bt596.2.2.1 bt596.2.2.2 bt627.1).bind fun bt631 => (if (strOfNums bt611.1).toList = ([0] : List UInt8) then (if bt611.2 = 0 then (if (bt627.1.length : Int) = 12 then (if bt627.2 = 0 then (if (bt631.1.length : Int) = 1 then (if 0 < (bt631.1.length : Int) then (if ((rd_L1 bt631.1 0).length : Int) = 6 then (if (bt631.2.1.length : Int) = 1 then (if 0 < (bt631.2.1.length : Int) then (if ((rd_L5 bt631.2.1 0).length : Int) = 16 then (if bt631.2.2 = 0 then ((vpack_Right.f k bt596.1 bt596.2.1 bt596.2.2.1 bt596.2.2.2 bt631.1 bt631.2.1).bind fun t641 => (some t641)) else (some false)) else (some false)) else (none)) else (some false)) else (some false)) else (none)) else (some false)) else (some false)) else (some false)) else (some false)) else (some false)))) else (none)))) = some r := h
 clear h
 have HT := Aside0.mk hT
 clear hT
 obtain ⟨⟨t596, t597, t598, t601⟩, A1, H⟩ := ob_ H
 (try dsimp only at H)
 obtain ⟨y605, hy605⟩ : ∃ y_ : List (List Int), y_ = (([[]] : List (List Int))) := ⟨_, rfl⟩
 replace H : ((vpack_Write.f k t596 t597 t598 t601 y605 (([[]] : List (List Int)))).bind fun bt611 => (if 16 ≤ 35184372088832 then ((vpack_Write.f k t596 t597 t598 t601 (([(([0, 0, 0, 0, 0, 0] : List Int))] : List (List Int))) (([(List.replicate 16 0)] : List (List Int)))).bind fun bt627 => ((vpack_Read.f k t596 t597 t598 t601 bt627.1).bind fun bt631 => (if (strOfNums bt611.1).toList = ([0] : List UInt8) then (if bt611.2 = 0 then (if (bt627.1.length : Int) = 12 then (if bt627.2 = 0 then (if (bt631.1.length : Int) = 1 then (if 0 < (bt631.1.length : Int) then (if ((rd_L1 bt631.1 0).length : Int) = 6 then (if (bt631.2.1.length : Int) = 1 then (if 0 < (bt631.2.1.length : Int) then (if ((rd_L5 bt631.2.1 0).length : Int) = 16 then (if bt631.2.2 = 0 then ((vpack_Right.f k t596 t597 t598 t601 bt631.1 bt631.2.1).bind fun t641 => (some t641)) else (some false)) else (some false)) else (none)) else (some false)) else (some false)) else (none)) else (some false)) else (some false)) else (some false)) else (some false)) else (some false)))) else (none))) = some r := by first | (rw [hy605]; with_reducible exact H) | (have H2_ := (Option.bind_some _ _).symm.trans H; rw [hy605]; with_reducible exact H2_) | (have H2_ := (Option.bind_some _ _).symm.trans H; with_reducible exact H2_) | with_reducible exact H | (rw [hy605]; exact H) | exact H
 have Ny605 := Aside0.mk hy605
 clear hy605
 obtain ⟨y608, hy608⟩ : ∃ y_ : List (List Int), y_ = (([[]] : List (List Int))) := ⟨_, rfl⟩
 replace H : ((vpack_Write.f k t596 t597 t598 t601 y605 y608).bind fun bt611 => (if 16 ≤ 35184372088832 then ((vpack_Write.f k t596 t597 t598 t601 (([(([0, 0, 0, 0, 0, 0] : List Int))] : List (List Int))) (([(List.replicate 16 0)] : List (List Int)))).bind fun bt627 => ((vpack_Read.f k t596 t597 t598 t601 bt627.1).bind fun bt631 => (if (strOfNums bt611.1).toList = ([0] : List UInt8) then (if bt611.2 = 0 then (if (bt627.1.length : Int) = 12 then (if bt627.2 = 0 then (if (bt631.1.length : Int) = 1 then (if 0 < (bt631.1.length : Int) then (if ((rd_L1 bt631.1 0).length : Int) = 6 then (if (bt631.2.1.length : Int) = 1 then (if 0 < (bt631.2.1.length : Int) then (if ((rd_L5 bt631.2.1 0).length : Int) = 16 then (if bt631.2.2 = 0 then ((vpack_Right.f k t596 t597 t598 t601 bt631.1 bt631.2.1).bind fun t641 => (some t641)) else (some false)) else (some false)) else (none)) else (some false)) else (some false)) else (none)) else (some false)) else (some false)) else (some false)) else (some false)) else (some false)))) else (none))) = some r := by first | (rw [hy608]; with_reducible exact H) | (have H2_ := (Option.bind_some _ _).symm.trans H; rw [hy608]; with_reducible exact H2_) | (have H2_ := (Option.bind_some _ _).symm.trans H; with_reducible exact H2_) | with_reducible exact H | (rw [hy608]; exact H) | exact H
 have Ny608 := Aside0.mk hy608
 clear hy608
 obtain ⟨⟨t611, t614⟩, A2, H⟩ := ob_ H
 (try dsimp only at H)
 obtain ⟨y615, hy615⟩ : ∃ y_ : List Int, y_ = (([0, 0, 0, 0, 0, 0] : List Int)) := ⟨_, rfl⟩
 replace H : (if 16 ≤ 35184372088832 then ((vpack_Write.f k t596 t597 t598 t601 (([y615] : List (List Int))) (([(List.replicate 16 0)] : List (List Int)))).bind fun bt627 => ((vpack_Read.f k t596 t597 t598 t601 bt627.1).bind fun bt631 => (if (strOfNums t611).toList = ([0] : List UInt8) then (if t614 = 0 then (if (bt627.1.length : Int) = 12 then (if bt627.2 = 0 then (if (bt631.1.length : Int) = 1 then (if 0 < (bt631.1.length : Int) then (if ((rd_L1 bt631.1 0).length : Int) = 6 then (if (bt631.2.1.length : Int) = 1 then (if 0 < (bt631.2.1.length : Int) then (if ((rd_L5 bt631.2.1 0).length : Int) = 16 then (if bt631.2.2 = 0 then ((vpack_Right.f k t596 t597 t598 t601 bt631.1 bt631.2.1).bind fun t641 => (some t641)) else (some false)) else (some false)) else (none)) else (some false)) else (some false)) else (none)) else (some false)) else (some false)) else (some false)) else (some false)) else (some false)))) else (none)) = some r := by first | (rw [hy615]; with_reducible exact H) | (have H2_ := (Option.bind_some _ _).symm.trans H; rw [hy615]; with_reducible exact H2_) | (have H2_ := (Option.bind_some _ _).symm.trans H; with_reducible exact H2_) | with_reducible exact H | (rw [hy615]; exact H) | exact H
 have Ny615 := Aside0.mk hy615
 clear hy615
 obtain ⟨y618, hy618⟩ : ∃ y_ : List (List Int), y_ = (([y615] : List (List Int))) := ⟨_, rfl⟩
 replace H : (if 16 ≤ 35184372088832 then ((vpack_Write.f k t596 t597 t598 t601 y618 (([(List.replicate 16 0)] : List (List Int)))).bind fun bt627 => ((vpack_Read.f k t596 t597 t598 t601 bt627.1).bind fun bt631 => (if (strOfNums t611).toList = ([0] : List UInt8) then (if t614 = 0 then (if (bt627.1.length : Int) = 12 then (if bt627.2 = 0 then (if (bt631.1.length : Int) = 1 then (if 0 < (bt631.1.length : Int) then (if ((rd_L1 bt631.1 0).length : Int) = 6 then (if (bt631.2.1.length : Int) = 1 then (if 0 < (bt631.2.1.length : Int) then (if ((rd_L5 bt631.2.1 0).length : Int) = 16 then (if bt631.2.2 = 0 then ((vpack_Right.f k t596 t597 t598 t601 bt631.1 bt631.2.1).bind fun t641 => (some t641)) else (some false)) else (some false)) else (none)) else (some false)) else (some false)) else (none)) else (some false)) else (some false)) else (some false)) else (some false)) else (some false)))) else (none)) = some r := by first | (rw [hy618]; with_reducible exact H) | (have H2_ := (Option.bind_some _ _).symm.trans H; rw [hy618]; with_reducible exact H2_) | (have H2_ := (Option.bind_some _ _).symm.trans H; with_reducible exact H2_) | with_reducible exact H | (rw [hy618]; exact H) | exact H
 have Ny618 := Aside0.mk hy618
 clear hy618
 by_cases c3 : 16 ≤ 35184372088832
 {
 rw [if_pos c3] at H
 have c3b0 := eq_true c3
 have c3b1 : decide (16 ≤ 35184372088832) = true := decide_eq_true c3
 clear c3
 obtain ⟨y621, hy621⟩ : ∃ y_ : List Int, y_ = (List.replicate 16 0) := ⟨_, rfl⟩
 replace H : ((vpack_Write.f k t596 t597 t598 t601 y618 (([y621] : List (List Int)))).bind fun bt627 => ((vpack_Read.f k t596 t597 t598 t601 bt627.1).bind fun bt631 => (if (strOfNums t611).toList = ([0] : List UInt8) then (if t614 = 0 then (if (bt627.1.length : Int) = 12 then (if bt627.2 = 0 then (if (bt631.1.length : Int) = 1 then (if 0 < (bt631.1.length : Int) then (if ((rd_L1 bt631.1 0).length : Int) = 6 then (if (bt631.2.1.length : Int) = 1 then (if 0 < (bt631.2.1.length : Int) then (if ((rd_L5 bt631.2.1 0).length : Int) = 16 then (if bt631.2.2 = 0 then ((vpack_Right.f k t596 t597 t598 t601 bt631.1 bt631.2.1).bind fun t641 => (some t641)) else (some false)) else (some false)) else (none)) else (some false)) else (some false)) else (none)) else (some false)) else (some false)) else (some false)) else (some false)) else (some false)))) = some r := by first | (rw [hy621]; with_reducible exact H) | (have H2_ := (Option.bind_some _ _).symm.trans H; rw [hy621]; with_reducible exact H2_) | (have H2_ := (Option.bind_some _ _).symm.trans H; with_reducible exact H2_) | with_reducible exact H | (rw [hy621]; exact H) | exact H
 have Ny621 := Aside0.mk hy621
 clear hy621
 obtain ⟨y624, hy624⟩ : ∃ y_ : List (List Int), y_ = (([y621] : List (List Int))) := ⟨_, rfl⟩
 replace H : ((vpack_Write.f k t596 t597 t598 t601 y618 y624).bind fun bt627 => ((vpack_Read.f k t596 t597 t598 t601 bt627.1).bind fun bt631 => (if (strOfNums t611).toList = ([0] : List UInt8) then (if t614 = 0 then (if (bt627.1.length : Int) = 12 then (if bt627.2 = 0 then (if (bt631.1.length : Int) = 1 then (if 0 < (bt631.1.length : Int) then (if ((rd_L1 bt631.1 0).length : Int) = 6 then (if (bt631.2.1.length : Int) = 1 then (if 0 < (bt631.2.1.length : Int) then (if ((rd_L5 bt631.2.1 0).length : Int) = 16 then (if bt631.2.2 = 0 then ((vpack_Right.f k t596 t597 t598 t601 bt631.1 bt631.2.1).bind fun t641 => (some t641)) else (some false)) else (some false)) else (none)) else (some false)) else (some false)) else (none)) else (some false)) else (some false)) else (some false)) else (some false)) else (some false)))) = some r := by first | (rw [hy624]; with_reducible exact H) | (have H2_ := (Option.bind_some _ _).symm.trans H; rw [hy624]; with_reducible exact H2_) | (have H2_ := (Option.bind_some _ _).symm.trans H; with_reducible exact H2_) | with_reducible exact H | (rw [hy624]; exact H) | exact H
 have Ny624 := Aside0.mk hy624
 clear hy624
 obtain ⟨⟨t627, t630⟩, A4, H⟩ := ob_ H
 (try dsimp only at H)
 obtain ⟨⟨t631, t634, t637⟩, A5, H⟩ := ob_ H
 (try dsimp only at H)
 by_cases c6 : (strOfNums t611).toList = ([0] : List UInt8)
 {
 rw [if_pos c6] at H
 have c6b0 : ((strOfNums t611).toList == ([0] : List UInt8)) = true := beq_iff_eq.mpr c6
 have c6b1 : ((strOfNums t611).toList != ([0] : List UInt8)) = false := bne_eq_false_iff_eq.mpr c6
 clear c6
 by_cases c7 : t614 = 0
 {
 rw [if_pos c7] at H
 have c7b0 : (t614 == 0) = true := beq_iff_eq.mpr c7
 have c7b1 : (t614 != 0) = false := bne_eq_false_iff_eq.mpr c7
 clear c7
 by_cases c8 : (t627.length : Int) = 12
 {
 rw [if_pos c8] at H
 have c8b0 : ((t627.length : Int) == 12) = true := beq_iff_eq.mpr c8
 have c8b1 : ((t627.length : Int) != 12) = false := bne_eq_false_iff_eq.mpr c8
 clear c8
 by_cases c9 : t630 = 0
 {
 rw [if_pos c9] at H
 have c9b0 : (t630 == 0) = true := beq_iff_eq.mpr c9
 have c9b1 : (t630 != 0) = false := bne_eq_false_iff_eq.mpr c9
 clear c9
 by_cases c10 : (t631.length : Int) = 1
 {
 rw [if_pos c10] at H
 have c10b0 : ((t631.length : Int) == 1) = true := beq_iff_eq.mpr c10
 have c10b1 : ((t631.length : Int) != 1) = false := bne_eq_false_iff_eq.mpr c10
 clear c10
 by_cases c11 : 0 < (t631.length : Int)
 {
 rw [if_pos c11] at H
 have c11b0 : decide (0 < (t631.length : Int)) = true := decide_eq_true c11
 have c11b1 : decide (0 < t631.length) = true := decide_eq_true (by omega)
 clear c11
 by_cases c12 : ((rd_L1 t631 0).length : Int) = 6
 {
 rw [if_pos c12] at H
 have c12b0 : (((rd_L1 t631 0).length : Int) == 6) = true := beq_iff_eq.mpr c12
 have c12b1 : (((rd_L1 t631 0).length : Int) != 6) = false := bne_eq_false_iff_eq.mpr c12
 clear c12
 by_cases c13 : (t634.length : Int) = 1
 {
 rw [if_pos c13] at H
 have c13b0 : ((t634.length : Int) == 1) = true := beq_iff_eq.mpr c13
 have c13b1 : ((t634.length : Int) != 1) = false := bne_eq_false_iff_eq.mpr c13
 clear c13
 by_cases c14 : 0 < (t634.length : Int)
 {
 rw [if_pos c14] at H
 have c14b0 : decide (0 < (t634.length : Int)) = true := decide_eq_true c14
 have c14b1 : decide (0 < t634.length) = true := decide_eq_true (by omega)
 clear c14
 by_cases c15 : ((rd_L5 t634 0).length : Int) = 16
 {
 rw [if_pos c15] at H
 have c15b0 : (((rd_L5 t634 0).length : Int) == 16) = true := beq_iff_eq.mpr c15
 have c15b1 : (((rd_L5 t634 0).length : Int) != 16) = false := bne_eq_false_iff_eq.mpr c15
 clear c15
 by_cases c16 : t637 = 0
 {
 rw [if_pos c16] at H
 have c16b0 : (t637 == 0) = true := beq_iff_eq.mpr c16
 have c16b1 : (t637 != 0) = false := bne_eq_false_iff_eq.mpr c16
 clear c16
 replace H := Option.bind_eq_some_iff.mp H
 obtain ⟨t641, A170, H⟩ := H
 replace H : (some t641) = some r := H
 have A17 := Aside0.mk A170
 clear A170
 obtain rfl := Option.some.inj H
 go_enter Try.func28, Try.ntmps28
 try go_wp2_with (first | ((with_reducible refine gate_callee (f := 21) rfl ?_); refine gL_ (some 8) Try.func21 #[.int .i64 1, .int .i64 0] ?_; (with_reducible refine (vhead_Plain.calls k 1 0 t596 t597 t598 t601 _ A1.out).mono ?_); rintro e w18 ⟨v599, v602, rfl, ho0, ho1, hb⟩; refine ⟨_, rfl, ?_⟩; have HO600 := Aside0.mk (Kd.R_lower ho0 (bs_ HB)); have HO603 := Aside0.mk (Kd.R_lower ho1 (bs_ HB)); replace HB := BS_ HB hb; (try clear hb); (try clear hk); (try clear ho0); (try clear ho1)) | ((with_reducible refine gate_dst (N := 1) rfl ?_); (try (refine gate_guard (by rfl) ?_; dsimp only)); refine bx_ HB 1 #[.int .i64 0, .int .i64 0, .slice none 0 0, .slice none 0 0] 24 ?_; clear HB; intro gb604 hg w19 hb BK604 GE604 HB; have GW604 := GE604; replace HO600 := FR_ HO600 hb; replace HO603 := FR_ HO603 hb; clear hb hg; obtain ⟨hcz20_0, hcz20_1, hcz20_2, hcz20_3, hfz20_0, hfz20_1, hfz20_2, hfz20_3⟩ := e4_ BK604; obtain ⟨Ao21, co21, eo21⟩ := Kd.R_slice HO600.out; subst eo21; obtain ⟨Ao22, co22, eo22⟩ := Kd.R_slice HO603.out; subst eo22) | ((with_reducible refine gate_dst (N := 11) rfl ?_); (try (refine gate_guard (by rfl) ?_; dsimp only)); refine Kd.N_lit (Kd.slice 3 (Kd.int .i64)) _ 22 ?hg (N' := 11) ?hd (xs := ([[]] : List (List Int))) (inner := [.slice none 0 0]) (ok := (fun k_ => some k_ ≠ (.slice Ao21 t598.length co21 : Value).ownBlock ∧ some k_ ≠ (.slice Ao22 t601.length co22 : Value).ownBlock ∧ k_ ≠ gb604)) (okp := (fun k_ => some k_ ≠ (.slice Ao21 t598.length co21 : Value).ownBlock ∧ some k_ ≠ (.slice Ao22 t601.length co22 : Value).ownBlock ∧ k_ ≠ gb604)) ?hr ?hp (fun _ hk => hk) (fr_ (P := (fun k_ => some k_ ≠ (.slice Ao21 t598.length co21 : Value).ownBlock ∧ some k_ ≠ (.slice Ao22 t601.length co22 : Value).ownBlock ∧ k_ ≠ gb604)) (fun k_ hk => ⟨Kd.fresh' (Kd.R_lt (kRk_ HO600 BK604)) k_ hk, Kd.fresh' (Kd.R_lt (kRk_ HO603 BK604)) k_ hk, Kd.freshB (g := gb604) (o := .cells #[.int .i64 t596, .int .i64 t597, .slice Ao21 t598.length co21, .slice Ao22 t601.length co22] 24 (0, 0)) (bp_ BK604) k_ hk⟩)) (Below.refl _ _) (Nat.le_refl _) (by simp) ?_; (case hd => rfl); (case hg => rfl); (case hr => first | (go_simp; done) | (go_simp; rfl)); (case hp => exact (Reps.one (show Kd.FK (Kd.slice 3 (Kd.int .i64)) _ _ [] [.slice none 0 0] from (Kd.FK_slice_mk (Nat.le_refl _) (Kd.F_nil _ _ _))) (Reps.none _ _))); intro v606 w23 ho24 hb hg_ hnew_; clear hg_ hnew_; (first | rw [← Ny605.out] at ho24 | (simp only [Int.reduceToNat] at ho24; rw [← Ny605.out] at ho24)); replace HO600 := Aside0.mk (Kd.R_below (kRk_ HO600 BK604) hb); replace HO603 := Aside0.mk (Kd.R_below (kRk_ HO603 BK604) hb); have HO607 := Aside0.mk (Kd.N_lower ho24 (bs_ HB)); replace BK604 := Aside0.mk (blk_below (g := gb604) (o := .cells #[.int .i64 t596, .int .i64 t597, .slice Ao21 t598.length co21, .slice Ao22 t601.length co22] 24 (0, 0)) (bp_ BK604) hb); replace HB := BS_ HB hb; clear hb ho24) | ((with_reducible refine gate_dst (N := 12) rfl ?_); (try (refine gate_guard (by rfl) ?_; dsimp only)); refine Kd.N_lit (Kd.slice 2 (Kd.int .i64)) _ 84 ?hg (N' := 12) ?hd (xs := ([[]] : List (List Int))) (inner := [.slice none 0 0]) (ok := (fun k_ => some k_ ≠ (.slice Ao21 t598.length co21 : Value).ownBlock ∧ some k_ ≠ (.slice Ao22 t601.length co22 : Value).ownBlock ∧ some k_ ≠ (v606 : Value).ownBlock ∧ k_ ≠ gb604)) (okp := (fun k_ => some k_ ≠ (.slice Ao21 t598.length co21 : Value).ownBlock ∧ some k_ ≠ (.slice Ao22 t601.length co22 : Value).ownBlock ∧ some k_ ≠ (v606 : Value).ownBlock ∧ k_ ≠ gb604)) ?hr ?hp (fun _ hk => hk) (fr_ (P := (fun k_ => some k_ ≠ (.slice Ao21 t598.length co21 : Value).ownBlock ∧ some k_ ≠ (.slice Ao22 t601.length co22 : Value).ownBlock ∧ some k_ ≠ (v606 : Value).ownBlock ∧ k_ ≠ gb604)) (fun k_ hk => ⟨Kd.fresh' (Kd.R_lt (kR_ HO600)) k_ hk, Kd.fresh' (Kd.R_lt (kR_ HO603)) k_ hk, Kd.fresh' (Kd.N_lt (kN_ HO607)) k_ hk, Kd.freshB (g := gb604) (o := .cells #[.int .i64 t596, .int .i64 t597, .slice Ao21 t598.length co21, .slice Ao22 t601.length co22] 24 (0, 0)) (bk_ BK604) k_ hk⟩)) (Below.refl _ _) (Nat.le_refl _) (by simp) ?_; (case hd => rfl); (case hg => rfl); (case hr => first | (go_simp; done) | (go_simp; rfl)); (case hp => exact (Reps.one (show Kd.FK (Kd.slice 2 (Kd.int .i64)) _ _ [] [.slice none 0 0] from (Kd.FK_slice_mk (Nat.le_refl _) (Kd.F_nil _ _ _))) (Reps.none _ _))); intro v609 w25 ho26 hb hg_ hnew_; clear hg_ hnew_; (first | rw [← Ny608.out] at ho26 | (simp only [Int.reduceToNat] at ho26; rw [← Ny608.out] at ho26)); replace HO600 := FR_ HO600 hb; replace HO603 := FR_ HO603 hb; replace HO607 := Aside0.mk (Kd.N_elder' (kN_ HO607) (Kd.N_base ho26) hb); have HO610 := Aside0.mk (Kd.N_lower ho26 (bs_ HB)); replace BK604 := FB_ BK604 hb; replace HB := BS_ HB hb; clear hb ho26; obtain ⟨Ao27, co27, eo27⟩ := Kd.N_slice HO610.out; subst eo27; obtain ⟨Ao28, co28, eo28⟩ := Kd.N_slice HO607.out; subst eo28) | ((with_reducible refine gate_callee (f := 32) rfl ?_); refine gL_ (some 14) Try.func32 #[.agg #[.int .i64 t596, .int .i64 t597, .slice Ao21 t598.length co21, .slice Ao22 t601.length co22], .agg #[.slice Ao28 y605.length co28, .slice Ao27 y608.length co27]] ?_; (with_reducible refine (vpack_Write.calls k t596 t597 _ _ t598 _ _ t601 _ _ y605 _ _ y608 t611 t614 _ ?side1 ?side2 ?side3 ?side4 ?side5 ?side6 ?side7 ?side8 A2.out).mono ?_); (case side1 => exact kCt_ (Kd.R_reads' HO600.out).2.2); (case side2 => exact (Kd.R_reads' HO600.out).2.1); (case side3 => exact kCt_ (Kd.R_reads' HO603.out).2.2); (case side4 => exact (Kd.R_reads' HO603.out).2.1); (case side5 => repeat (first | exact (Kd.N_reads' HO607.out).2.2 | (with_reducible refine Kd.C_alloc ?_ _) | (with_reducible refine Kd.C_drewN ?_ _) | (with_reducible refine Kd.C_drew ?_))); (case side6 => exact (Kd.N_reads' HO607.out).2.1); (case side7 => repeat (first | exact (Kd.N_reads' HO610.out).2.2 | (with_reducible refine Kd.C_alloc ?_ _) | (with_reducible refine Kd.C_drewN ?_ _) | (with_reducible refine Kd.C_drew ?_))); (case side8 => exact (Kd.N_reads' HO610.out).2.1); rintro e w29 ⟨v612, rfl, ho0, hb⟩; refine ⟨_, rfl, ?_⟩; have HO613 := Aside0.mk (Kd.V_lower (Kd.V_mono (ok' := fun k_ => some k_ ≠ (.slice Ao21 t598.length co21 : Value).ownBlock ∧ some k_ ≠ (.slice Ao22 t601.length co22 : Value).ownBlock ∧ some k_ ≠ (.slice Ao28 y605.length co28 : Value).ownBlock ∧ some k_ ≠ (.slice Ao27 y608.length co27 : Value).ownBlock ∧ k_ ≠ gb604) ho0 (fun k_ hk_ => ⟨(Kd.fresh' (Kd.R_lt (kR_ HO600)) k_ hk_), (Kd.fresh' (Kd.R_lt (kR_ HO603)) k_ hk_), (Kd.fresh' (Kd.N_lt (kN_ HO607)) k_ hk_), (Kd.fresh' (Kd.N_lt (kN_ HO610)) k_ hk_), (Kd.freshB (g := gb604) (o := .cells #[.int .i64 t596, .int .i64 t597, .slice Ao21 t598.length co21, .slice Ao22 t601.length co22] 24 (0, 0)) (bk_ BK604) k_ hk_)⟩)) (bs_ HB)); replace HO600 := FR_ HO600 hb; replace HO603 := FR_ HO603 hb; replace HO607 := FN_ HO607 hb; replace HO610 := FN_ HO610 hb; replace BK604 := FB_ BK604 hb; replace HB := BS_ HB hb; (try clear hb); (try clear hk); (try clear ho0)))
 replace HO600 := Aside0.mk (Kd.R_drew HO600.out)
 replace HO603 := Aside0.mk (Kd.R_drew HO603.out)
 replace HO607 := Aside0.mk (Kd.N_drew HO607.out)
 replace HO610 := Aside0.mk (Kd.N_drew HO610.out)
 replace HO613 := Aside0.mk (Kd.V_drew HO613.out)
 replace BK604 := Aside0.mk (blk_drew BK604.out)
 replace HB := Aside0.mk (below_drew1 HB.out)
 refine start_ (n := 12) (S := fun w' => w'.cell? ⟨gb604, 0, none⟩ = some (.int .i64 t596) ∧ w'.cell? ⟨gb604, 1, none⟩ = some (.int .i64 t597) ∧ w'.cell? ⟨gb604, 2, none⟩ = some (.slice Ao21 t598.length co21) ∧ w'.cell? ⟨gb604, 3, none⟩ = some (.slice Ao22 t601.length co22)) (ds := []) (B_ 12 0) kf_ rfl rfl ⟨ce_ BK604 0, ce_ BK604 1, ce_ BK604 2, ce_ BK604 3⟩ (fun hHeld => ?_); refine with_tabW psalterylaw17_knows.tab3 psalterylaw17_knows.bits3 (fun HT_ HW_ => ?_)
 generalize w29.drew = w30 at HO600 HO603 HO607 HO610 HO613 BK604 HB hHeld ⊢
 refine take_ (i := 0) (N := some 18) (v := ?_) (a' := ?_) (B_ 12 1) rfl rfl (take_ofW HT_.out HW_.out kf_) (fun _ _ _ h => h) (Or.inl ⟨by rfl, ?_⟩) hHeld ?_ ?_
 rotate_left
 {
 rintro w' ⟨s0, s1, s2, s3⟩
 go_simp
 with_reducible rfl}
 rotate_left
 {
 exact sp_}
 refine join_ (σ := Value × Value × Value × Value) 7 (B_ 12 31) (fun s_ => [(19, s_.1), (20, s_.2.1), (21, s_.2.2.1), (22, s_.2.2.2)]) (fun s_ w' => (w'.cell? ⟨gb604, 0, none⟩ = some (.int .i64 t596) ∧ w'.cell? ⟨gb604, 1, none⟩ = some (.int .i64 t597) ∧ w'.cell? ⟨gb604, 2, none⟩ = some (.slice Ao21 t598.length co21) ∧ w'.cell? ⟨gb604, 3, none⟩ = some (.slice Ao22 t601.length co22)) ∧ (Kd.R (Kd.int .i64) 3 w' w.heap.size (fun k_ => some k_ ≠ (.slice Ao22 t601.length co22 : Value).ownBlock) (.slice Ao21 t598.length co21) t598) ∧ (Kd.R (Kd.int .i64) 3 w' w.heap.size (fun k_ => some k_ ≠ (.slice Ao21 t598.length co21 : Value).ownBlock) (.slice Ao22 t601.length co22) t601) ∧ (Kd.N (Kd.slice 3 (Kd.int .i64)) 22 w' w.heap.size (fun k_ => some k_ ≠ (.slice Ao21 t598.length co21 : Value).ownBlock ∧ some k_ ≠ (.slice Ao22 t601.length co22 : Value).ownBlock ∧ some k_ ≠ (.slice Ao27 y608.length co27 : Value).ownBlock ∧ some k_ ≠ (s_.2.1 : Value).ownBlock ∧ some k_ ≠ (s_.2.2.2 : Value).ownBlock ∧ k_ ≠ gb604) (.slice Ao28 y605.length co28) y605) ∧ (Kd.N (Kd.slice 2 (Kd.int .i64)) 84 w' w.heap.size (fun k_ => some k_ ≠ (.slice Ao21 t598.length co21 : Value).ownBlock ∧ some k_ ≠ (.slice Ao22 t601.length co22 : Value).ownBlock ∧ some k_ ≠ (.slice Ao28 y605.length co28 : Value).ownBlock ∧ some k_ ≠ (s_.2.1 : Value).ownBlock ∧ some k_ ≠ (s_.2.2.2 : Value).ownBlock ∧ k_ ≠ gb604) (.slice Ao27 y608.length co27) y608) ∧ (Kd.V (Kd.int .u8) 5 w' w.heap.size (fun k_ => some k_ ≠ (.slice Ao21 t598.length co21 : Value).ownBlock ∧ some k_ ≠ (.slice Ao22 t601.length co22 : Value).ownBlock ∧ some k_ ≠ (.slice Ao28 y605.length co28 : Value).ownBlock ∧ some k_ ≠ (.slice Ao27 y608.length co27 : Value).ownBlock ∧ some k_ ≠ (s_.2.1 : Value).ownBlock ∧ some k_ ≠ (s_.2.2.2 : Value).ownBlock ∧ k_ ≠ gb604) v612 t611) ∧ (Kd.N (Kd.slice 3 (Kd.int .i64)) 22 w' w.heap.size (fun k_ => some k_ ≠ (.slice Ao21 t598.length co21 : Value).ownBlock ∧ some k_ ≠ (.slice Ao22 t601.length co22 : Value).ownBlock ∧ some k_ ≠ (.slice Ao28 y605.length co28 : Value).ownBlock ∧ some k_ ≠ (.slice Ao27 y608.length co27 : Value).ownBlock ∧ some k_ ≠ (s_.2.2.2 : Value).ownBlock ∧ k_ ≠ gb604) s_.2.1 y618) ∧ (Kd.N (Kd.slice 2 (Kd.int .i64)) 84 w' w.heap.size (fun k_ => some k_ ≠ (.slice Ao21 t598.length co21 : Value).ownBlock ∧ some k_ ≠ (.slice Ao22 t601.length co22 : Value).ownBlock ∧ some k_ ≠ (.slice Ao28 y605.length co28 : Value).ownBlock ∧ some k_ ≠ (.slice Ao27 y608.length co27 : Value).ownBlock ∧ some k_ ≠ (s_.2.1 : Value).ownBlock ∧ k_ ≠ gb604) s_.2.2.2 y624) ∧ (w'.heap[gb604]? = some (.cells #[.int .i64 t596, .int .i64 t597, .slice Ao21 t598.length co21, .slice Ao22 t601.length co22] 24 (0, 0))) ∧ (Below w.heap.size w w')) ?_ ?_
 rotate_left
 {
 intro hJ1_2_3_4
 refine join_ (σ := Value × Value × Value) 8 (B_ 12 15) (fun s_ => [(19, s_.1), (20, s_.2.1), (21, s_.2.2)]) (fun s_ w' => (w'.cell? ⟨gb604, 0, none⟩ = some (.int .i64 t596) ∧ w'.cell? ⟨gb604, 1, none⟩ = some (.int .i64 t597) ∧ w'.cell? ⟨gb604, 2, none⟩ = some (.slice Ao21 t598.length co21) ∧ w'.cell? ⟨gb604, 3, none⟩ = some (.slice Ao22 t601.length co22)) ∧ (Kd.R (Kd.int .i64) 3 w' w.heap.size (fun k_ => some k_ ≠ (.slice Ao22 t601.length co22 : Value).ownBlock) (.slice Ao21 t598.length co21) t598) ∧ (Kd.R (Kd.int .i64) 3 w' w.heap.size (fun k_ => some k_ ≠ (.slice Ao21 t598.length co21 : Value).ownBlock) (.slice Ao22 t601.length co22) t601) ∧ (Kd.N (Kd.slice 3 (Kd.int .i64)) 22 w' w.heap.size (fun k_ => some k_ ≠ (.slice Ao21 t598.length co21 : Value).ownBlock ∧ some k_ ≠ (.slice Ao22 t601.length co22 : Value).ownBlock ∧ some k_ ≠ (.slice Ao27 y608.length co27 : Value).ownBlock ∧ some k_ ≠ (s_.2.1 : Value).ownBlock ∧ some k_ ≠ (s_.2.2 : Value).ownBlock ∧ k_ ≠ gb604) (.slice Ao28 y605.length co28) y605) ∧ (Kd.N (Kd.slice 2 (Kd.int .i64)) 84 w' w.heap.size (fun k_ => some k_ ≠ (.slice Ao21 t598.length co21 : Value).ownBlock ∧ some k_ ≠ (.slice Ao22 t601.length co22 : Value).ownBlock ∧ some k_ ≠ (.slice Ao28 y605.length co28 : Value).ownBlock ∧ some k_ ≠ (s_.2.1 : Value).ownBlock ∧ some k_ ≠ (s_.2.2 : Value).ownBlock ∧ k_ ≠ gb604) (.slice Ao27 y608.length co27) y608) ∧ (Kd.V (Kd.int .u8) 5 w' w.heap.size (fun k_ => some k_ ≠ (.slice Ao21 t598.length co21 : Value).ownBlock ∧ some k_ ≠ (.slice Ao22 t601.length co22 : Value).ownBlock ∧ some k_ ≠ (.slice Ao28 y605.length co28 : Value).ownBlock ∧ some k_ ≠ (.slice Ao27 y608.length co27 : Value).ownBlock ∧ some k_ ≠ (s_.2.1 : Value).ownBlock ∧ some k_ ≠ (s_.2.2 : Value).ownBlock ∧ k_ ≠ gb604) v612 t611) ∧ (Kd.N (Kd.slice 3 (Kd.int .i64)) 22 w' w.heap.size (fun k_ => some k_ ≠ (.slice Ao21 t598.length co21 : Value).ownBlock ∧ some k_ ≠ (.slice Ao22 t601.length co22 : Value).ownBlock ∧ some k_ ≠ (.slice Ao28 y605.length co28 : Value).ownBlock ∧ some k_ ≠ (.slice Ao27 y608.length co27 : Value).ownBlock ∧ some k_ ≠ (s_.2.2 : Value).ownBlock ∧ k_ ≠ gb604) s_.2.1 y618) ∧ (Kd.R (Kd.int .i64) 2 w' w.heap.size (fun _ => True) s_.2.2 y621) ∧ (w'.heap[gb604]? = some (.cells #[.int .i64 t596, .int .i64 t597, .slice Ao21 t598.length co21, .slice Ao22 t601.length co22] 24 (0, 0))) ∧ (Below w.heap.size w w')) ?_ ?_
 rotate_left
 {
 intro hJ1_2_3
 refine join_ (σ := Value × Value × Value) 8 (B_ 12 27) (fun s_ => [(19, s_.1), (21, s_.2.1), (22, s_.2.2)]) (fun s_ w' => (w'.cell? ⟨gb604, 0, none⟩ = some (.int .i64 t596) ∧ w'.cell? ⟨gb604, 1, none⟩ = some (.int .i64 t597) ∧ w'.cell? ⟨gb604, 2, none⟩ = some (.slice Ao21 t598.length co21) ∧ w'.cell? ⟨gb604, 3, none⟩ = some (.slice Ao22 t601.length co22)) ∧ (Kd.R (Kd.int .i64) 3 w' w.heap.size (fun k_ => some k_ ≠ (.slice Ao22 t601.length co22 : Value).ownBlock ∧ some k_ ≠ (s_.1 : Value).ownBlock) (.slice Ao21 t598.length co21) t598) ∧ (Kd.R (Kd.int .i64) 3 w' w.heap.size (fun k_ => some k_ ≠ (.slice Ao21 t598.length co21 : Value).ownBlock ∧ some k_ ≠ (s_.1 : Value).ownBlock) (.slice Ao22 t601.length co22) t601) ∧ (Kd.N (Kd.slice 3 (Kd.int .i64)) 22 w' w.heap.size (fun k_ => some k_ ≠ (.slice Ao21 t598.length co21 : Value).ownBlock ∧ some k_ ≠ (.slice Ao22 t601.length co22 : Value).ownBlock ∧ some k_ ≠ (.slice Ao27 y608.length co27 : Value).ownBlock ∧ some k_ ≠ (s_.1 : Value).ownBlock ∧ some k_ ≠ (s_.2.2 : Value).ownBlock ∧ k_ ≠ gb604) (.slice Ao28 y605.length co28) y605) ∧ (Kd.N (Kd.slice 2 (Kd.int .i64)) 84 w' w.heap.size (fun k_ => some k_ ≠ (.slice Ao21 t598.length co21 : Value).ownBlock ∧ some k_ ≠ (.slice Ao22 t601.length co22 : Value).ownBlock ∧ some k_ ≠ (.slice Ao28 y605.length co28 : Value).ownBlock ∧ some k_ ≠ (s_.1 : Value).ownBlock ∧ some k_ ≠ (s_.2.2 : Value).ownBlock ∧ k_ ≠ gb604) (.slice Ao27 y608.length co27) y608) ∧ (Kd.V (Kd.int .u8) 5 w' w.heap.size (fun k_ => some k_ ≠ (.slice Ao21 t598.length co21 : Value).ownBlock ∧ some k_ ≠ (.slice Ao22 t601.length co22 : Value).ownBlock ∧ some k_ ≠ (.slice Ao28 y605.length co28 : Value).ownBlock ∧ some k_ ≠ (.slice Ao27 y608.length co27 : Value).ownBlock ∧ some k_ ≠ (s_.1 : Value).ownBlock ∧ some k_ ≠ (s_.2.2 : Value).ownBlock ∧ k_ ≠ gb604) v612 t611) ∧ (Kd.R (Kd.int .i64) 3 w' w.heap.size (fun k_ => some k_ ≠ (.slice Ao21 t598.length co21 : Value).ownBlock ∧ some k_ ≠ (.slice Ao22 t601.length co22 : Value).ownBlock) s_.1 y615) ∧ (Kd.N (Kd.slice 2 (Kd.int .i64)) 84 w' w.heap.size (fun k_ => some k_ ≠ (.slice Ao21 t598.length co21 : Value).ownBlock ∧ some k_ ≠ (.slice Ao22 t601.length co22 : Value).ownBlock ∧ some k_ ≠ (.slice Ao28 y605.length co28 : Value).ownBlock ∧ some k_ ≠ (.slice Ao27 y608.length co27 : Value).ownBlock ∧ some k_ ≠ (s_.1 : Value).ownBlock ∧ k_ ≠ gb604) s_.2.2 y624) ∧ (w'.heap[gb604]? = some (.cells #[.int .i64 t596, .int .i64 t597, .slice Ao21 t598.length co21, .slice Ao22 t601.length co22] 24 (0, 0))) ∧ (Below w.heap.size w w')) ?_ ?_
 rotate_left
 {
 intro hJ1_3_4
 refine join_ (σ := Value × Value) 9 (B_ 12 7) (fun s_ => [(19, s_.1), (20, s_.2)]) (fun s_ w' => (w'.cell? ⟨gb604, 0, none⟩ = some (.int .i64 t596) ∧ w'.cell? ⟨gb604, 1, none⟩ = some (.int .i64 t597) ∧ w'.cell? ⟨gb604, 2, none⟩ = some (.slice Ao21 t598.length co21) ∧ w'.cell? ⟨gb604, 3, none⟩ = some (.slice Ao22 t601.length co22)) ∧ (Kd.R (Kd.int .i64) 3 w' w.heap.size (fun k_ => some k_ ≠ (.slice Ao22 t601.length co22 : Value).ownBlock) (.slice Ao21 t598.length co21) t598) ∧ (Kd.R (Kd.int .i64) 3 w' w.heap.size (fun k_ => some k_ ≠ (.slice Ao21 t598.length co21 : Value).ownBlock) (.slice Ao22 t601.length co22) t601) ∧ (Kd.N (Kd.slice 3 (Kd.int .i64)) 22 w' w.heap.size (fun k_ => some k_ ≠ (.slice Ao21 t598.length co21 : Value).ownBlock ∧ some k_ ≠ (.slice Ao22 t601.length co22 : Value).ownBlock ∧ some k_ ≠ (.slice Ao27 y608.length co27 : Value).ownBlock ∧ some k_ ≠ (s_.2 : Value).ownBlock ∧ k_ ≠ gb604) (.slice Ao28 y605.length co28) y605) ∧ (Kd.N (Kd.slice 2 (Kd.int .i64)) 84 w' w.heap.size (fun k_ => some k_ ≠ (.slice Ao21 t598.length co21 : Value).ownBlock ∧ some k_ ≠ (.slice Ao22 t601.length co22 : Value).ownBlock ∧ some k_ ≠ (.slice Ao28 y605.length co28 : Value).ownBlock ∧ some k_ ≠ (s_.2 : Value).ownBlock ∧ k_ ≠ gb604) (.slice Ao27 y608.length co27) y608) ∧ (Kd.V (Kd.int .u8) 5 w' w.heap.size (fun k_ => some k_ ≠ (.slice Ao21 t598.length co21 : Value).ownBlock ∧ some k_ ≠ (.slice Ao22 t601.length co22 : Value).ownBlock ∧ some k_ ≠ (.slice Ao28 y605.length co28 : Value).ownBlock ∧ some k_ ≠ (.slice Ao27 y608.length co27 : Value).ownBlock ∧ some k_ ≠ (s_.2 : Value).ownBlock ∧ k_ ≠ gb604) v612 t611) ∧ (Kd.N (Kd.slice 3 (Kd.int .i64)) 22 w' w.heap.size (fun k_ => some k_ ≠ (.slice Ao21 t598.length co21 : Value).ownBlock ∧ some k_ ≠ (.slice Ao22 t601.length co22 : Value).ownBlock ∧ some k_ ≠ (.slice Ao28 y605.length co28 : Value).ownBlock ∧ some k_ ≠ (.slice Ao27 y608.length co27 : Value).ownBlock ∧ k_ ≠ gb604) s_.2 y618) ∧ (w'.heap[gb604]? = some (.cells #[.int .i64 t596, .int .i64 t597, .slice Ao21 t598.length co21, .slice Ao22 t601.length co22] 24 (0, 0))) ∧ (Below w.heap.size w w')) ?_ ?_
 rotate_left
 {
 intro hJ1_2
 refine join_ (σ := Value × Value) 9 (B_ 12 11) (fun s_ => [(19, s_.1), (21, s_.2)]) (fun s_ w' => (w'.cell? ⟨gb604, 0, none⟩ = some (.int .i64 t596) ∧ w'.cell? ⟨gb604, 1, none⟩ = some (.int .i64 t597) ∧ w'.cell? ⟨gb604, 2, none⟩ = some (.slice Ao21 t598.length co21) ∧ w'.cell? ⟨gb604, 3, none⟩ = some (.slice Ao22 t601.length co22)) ∧ (Kd.R (Kd.int .i64) 3 w' w.heap.size (fun k_ => some k_ ≠ (.slice Ao22 t601.length co22 : Value).ownBlock ∧ some k_ ≠ (s_.1 : Value).ownBlock) (.slice Ao21 t598.length co21) t598) ∧ (Kd.R (Kd.int .i64) 3 w' w.heap.size (fun k_ => some k_ ≠ (.slice Ao21 t598.length co21 : Value).ownBlock ∧ some k_ ≠ (s_.1 : Value).ownBlock) (.slice Ao22 t601.length co22) t601) ∧ (Kd.N (Kd.slice 3 (Kd.int .i64)) 22 w' w.heap.size (fun k_ => some k_ ≠ (.slice Ao21 t598.length co21 : Value).ownBlock ∧ some k_ ≠ (.slice Ao22 t601.length co22 : Value).ownBlock ∧ some k_ ≠ (.slice Ao27 y608.length co27 : Value).ownBlock ∧ some k_ ≠ (s_.1 : Value).ownBlock ∧ some k_ ≠ (s_.2 : Value).ownBlock ∧ k_ ≠ gb604) (.slice Ao28 y605.length co28) y605) ∧ (Kd.N (Kd.slice 2 (Kd.int .i64)) 84 w' w.heap.size (fun k_ => some k_ ≠ (.slice Ao21 t598.length co21 : Value).ownBlock ∧ some k_ ≠ (.slice Ao22 t601.length co22 : Value).ownBlock ∧ some k_ ≠ (.slice Ao28 y605.length co28 : Value).ownBlock ∧ some k_ ≠ (s_.1 : Value).ownBlock ∧ some k_ ≠ (s_.2 : Value).ownBlock ∧ k_ ≠ gb604) (.slice Ao27 y608.length co27) y608) ∧ (Kd.V (Kd.int .u8) 5 w' w.heap.size (fun k_ => some k_ ≠ (.slice Ao21 t598.length co21 : Value).ownBlock ∧ some k_ ≠ (.slice Ao22 t601.length co22 : Value).ownBlock ∧ some k_ ≠ (.slice Ao28 y605.length co28 : Value).ownBlock ∧ some k_ ≠ (.slice Ao27 y608.length co27 : Value).ownBlock ∧ some k_ ≠ (s_.1 : Value).ownBlock ∧ some k_ ≠ (s_.2 : Value).ownBlock ∧ k_ ≠ gb604) v612 t611) ∧ (Kd.R (Kd.int .i64) 3 w' w.heap.size (fun k_ => some k_ ≠ (.slice Ao21 t598.length co21 : Value).ownBlock ∧ some k_ ≠ (.slice Ao22 t601.length co22 : Value).ownBlock) s_.1 y615) ∧ (Kd.R (Kd.int .i64) 2 w' w.heap.size (fun _ => True) s_.2 y621) ∧ (w'.heap[gb604]? = some (.cells #[.int .i64 t596, .int .i64 t597, .slice Ao21 t598.length co21, .slice Ao22 t601.length co22] 24 (0, 0))) ∧ (Below w.heap.size w w')) ?_ ?_
 rotate_left
 {
 intro hJ1_3
 refine join_ (σ := Value × Value) 9 (B_ 12 25) (fun s_ => [(21, s_.1), (22, s_.2)]) (fun s_ w' => (w'.cell? ⟨gb604, 0, none⟩ = some (.int .i64 t596) ∧ w'.cell? ⟨gb604, 1, none⟩ = some (.int .i64 t597) ∧ w'.cell? ⟨gb604, 2, none⟩ = some (.slice Ao21 t598.length co21) ∧ w'.cell? ⟨gb604, 3, none⟩ = some (.slice Ao22 t601.length co22)) ∧ (Kd.R (Kd.int .i64) 3 w' w.heap.size (fun k_ => some k_ ≠ (.slice Ao22 t601.length co22 : Value).ownBlock) (.slice Ao21 t598.length co21) t598) ∧ (Kd.R (Kd.int .i64) 3 w' w.heap.size (fun k_ => some k_ ≠ (.slice Ao21 t598.length co21 : Value).ownBlock) (.slice Ao22 t601.length co22) t601) ∧ (Kd.N (Kd.slice 3 (Kd.int .i64)) 22 w' w.heap.size (fun k_ => some k_ ≠ (.slice Ao21 t598.length co21 : Value).ownBlock ∧ some k_ ≠ (.slice Ao22 t601.length co22 : Value).ownBlock ∧ some k_ ≠ (.slice Ao27 y608.length co27 : Value).ownBlock ∧ some k_ ≠ (s_.2 : Value).ownBlock ∧ k_ ≠ gb604) (.slice Ao28 y605.length co28) y605) ∧ (Kd.N (Kd.slice 2 (Kd.int .i64)) 84 w' w.heap.size (fun k_ => some k_ ≠ (.slice Ao21 t598.length co21 : Value).ownBlock ∧ some k_ ≠ (.slice Ao22 t601.length co22 : Value).ownBlock ∧ some k_ ≠ (.slice Ao28 y605.length co28 : Value).ownBlock ∧ some k_ ≠ (s_.2 : Value).ownBlock ∧ k_ ≠ gb604) (.slice Ao27 y608.length co27) y608) ∧ (Kd.V (Kd.int .u8) 5 w' w.heap.size (fun k_ => some k_ ≠ (.slice Ao21 t598.length co21 : Value).ownBlock ∧ some k_ ≠ (.slice Ao22 t601.length co22 : Value).ownBlock ∧ some k_ ≠ (.slice Ao28 y605.length co28 : Value).ownBlock ∧ some k_ ≠ (.slice Ao27 y608.length co27 : Value).ownBlock ∧ some k_ ≠ (s_.2 : Value).ownBlock ∧ k_ ≠ gb604) v612 t611) ∧ (Kd.N (Kd.slice 2 (Kd.int .i64)) 84 w' w.heap.size (fun k_ => some k_ ≠ (.slice Ao21 t598.length co21 : Value).ownBlock ∧ some k_ ≠ (.slice Ao22 t601.length co22 : Value).ownBlock ∧ some k_ ≠ (.slice Ao28 y605.length co28 : Value).ownBlock ∧ some k_ ≠ (.slice Ao27 y608.length co27 : Value).ownBlock ∧ k_ ≠ gb604) s_.2 y624) ∧ (w'.heap[gb604]? = some (.cells #[.int .i64 t596, .int .i64 t597, .slice Ao21 t598.length co21, .slice Ao22 t601.length co22] 24 (0, 0))) ∧ (Below w.heap.size w w')) ?_ ?_
 rotate_left
 {
 intro hJ3_4
 refine join_ (σ := Value) 10 (B_ 12 3) (fun s_ => [(19, s_)]) (fun s_ w' => (w'.cell? ⟨gb604, 0, none⟩ = some (.int .i64 t596) ∧ w'.cell? ⟨gb604, 1, none⟩ = some (.int .i64 t597) ∧ w'.cell? ⟨gb604, 2, none⟩ = some (.slice Ao21 t598.length co21) ∧ w'.cell? ⟨gb604, 3, none⟩ = some (.slice Ao22 t601.length co22)) ∧ (Kd.R (Kd.int .i64) 3 w' w.heap.size (fun k_ => some k_ ≠ (.slice Ao22 t601.length co22 : Value).ownBlock ∧ some k_ ≠ (s_ : Value).ownBlock) (.slice Ao21 t598.length co21) t598) ∧ (Kd.R (Kd.int .i64) 3 w' w.heap.size (fun k_ => some k_ ≠ (.slice Ao21 t598.length co21 : Value).ownBlock ∧ some k_ ≠ (s_ : Value).ownBlock) (.slice Ao22 t601.length co22) t601) ∧ (Kd.N (Kd.slice 3 (Kd.int .i64)) 22 w' w.heap.size (fun k_ => some k_ ≠ (.slice Ao21 t598.length co21 : Value).ownBlock ∧ some k_ ≠ (.slice Ao22 t601.length co22 : Value).ownBlock ∧ some k_ ≠ (.slice Ao27 y608.length co27 : Value).ownBlock ∧ some k_ ≠ (s_ : Value).ownBlock ∧ k_ ≠ gb604) (.slice Ao28 y605.length co28) y605) ∧ (Kd.N (Kd.slice 2 (Kd.int .i64)) 84 w' w.heap.size (fun k_ => some k_ ≠ (.slice Ao21 t598.length co21 : Value).ownBlock ∧ some k_ ≠ (.slice Ao22 t601.length co22 : Value).ownBlock ∧ some k_ ≠ (.slice Ao28 y605.length co28 : Value).ownBlock ∧ some k_ ≠ (s_ : Value).ownBlock ∧ k_ ≠ gb604) (.slice Ao27 y608.length co27) y608) ∧ (Kd.V (Kd.int .u8) 5 w' w.heap.size (fun k_ => some k_ ≠ (.slice Ao21 t598.length co21 : Value).ownBlock ∧ some k_ ≠ (.slice Ao22 t601.length co22 : Value).ownBlock ∧ some k_ ≠ (.slice Ao28 y605.length co28 : Value).ownBlock ∧ some k_ ≠ (.slice Ao27 y608.length co27 : Value).ownBlock ∧ some k_ ≠ (s_ : Value).ownBlock ∧ k_ ≠ gb604) v612 t611) ∧ (Kd.R (Kd.int .i64) 3 w' w.heap.size (fun k_ => some k_ ≠ (.slice Ao21 t598.length co21 : Value).ownBlock ∧ some k_ ≠ (.slice Ao22 t601.length co22 : Value).ownBlock) s_ y615) ∧ (w'.heap[gb604]? = some (.cells #[.int .i64 t596, .int .i64 t597, .slice Ao21 t598.length co21, .slice Ao22 t601.length co22] 24 (0, 0))) ∧ (Below w.heap.size w w')) ?_ ?_
 rotate_left
 {
 intro hJ1
 refine join_ (σ := Value) 10 (B_ 12 9) (fun s_ => [(21, s_)]) (fun s_ w' => (w'.cell? ⟨gb604, 0, none⟩ = some (.int .i64 t596) ∧ w'.cell? ⟨gb604, 1, none⟩ = some (.int .i64 t597) ∧ w'.cell? ⟨gb604, 2, none⟩ = some (.slice Ao21 t598.length co21) ∧ w'.cell? ⟨gb604, 3, none⟩ = some (.slice Ao22 t601.length co22)) ∧ (Kd.R (Kd.int .i64) 3 w' w.heap.size (fun k_ => some k_ ≠ (.slice Ao22 t601.length co22 : Value).ownBlock) (.slice Ao21 t598.length co21) t598) ∧ (Kd.R (Kd.int .i64) 3 w' w.heap.size (fun k_ => some k_ ≠ (.slice Ao21 t598.length co21 : Value).ownBlock) (.slice Ao22 t601.length co22) t601) ∧ (Kd.N (Kd.slice 3 (Kd.int .i64)) 22 w' w.heap.size (fun k_ => some k_ ≠ (.slice Ao21 t598.length co21 : Value).ownBlock ∧ some k_ ≠ (.slice Ao22 t601.length co22 : Value).ownBlock ∧ some k_ ≠ (.slice Ao27 y608.length co27 : Value).ownBlock ∧ some k_ ≠ (s_ : Value).ownBlock ∧ k_ ≠ gb604) (.slice Ao28 y605.length co28) y605) ∧ (Kd.N (Kd.slice 2 (Kd.int .i64)) 84 w' w.heap.size (fun k_ => some k_ ≠ (.slice Ao21 t598.length co21 : Value).ownBlock ∧ some k_ ≠ (.slice Ao22 t601.length co22 : Value).ownBlock ∧ some k_ ≠ (.slice Ao28 y605.length co28 : Value).ownBlock ∧ some k_ ≠ (s_ : Value).ownBlock ∧ k_ ≠ gb604) (.slice Ao27 y608.length co27) y608) ∧ (Kd.V (Kd.int .u8) 5 w' w.heap.size (fun k_ => some k_ ≠ (.slice Ao21 t598.length co21 : Value).ownBlock ∧ some k_ ≠ (.slice Ao22 t601.length co22 : Value).ownBlock ∧ some k_ ≠ (.slice Ao28 y605.length co28 : Value).ownBlock ∧ some k_ ≠ (.slice Ao27 y608.length co27 : Value).ownBlock ∧ some k_ ≠ (s_ : Value).ownBlock ∧ k_ ≠ gb604) v612 t611) ∧ (Kd.R (Kd.int .i64) 2 w' w.heap.size (fun _ => True) s_ y621) ∧ (w'.heap[gb604]? = some (.cells #[.int .i64 t596, .int .i64 t597, .slice Ao21 t598.length co21, .slice Ao22 t601.length co22] 24 (0, 0))) ∧ (Below w.heap.size w w')) ?_ ?_
 rotate_left
 {
 intro hJ3
 refine two_ (i := 1) (j := 3) (Ni := some 19) (Nj := some 21) (B_ 12 3) (B_ 12 9) rfl rfl rfl rfl (two_of HT_.out kf_) (by decide) (by decide) (fun K hK => ?_) (fun K hK => ?_)
 {
 skip
 refine Kd.R_lit_step (Kd.int .i64) _ 3 ?hg (N := 19) ?hd (xs := ([0, 0, 0, 0, 0, 0] : List Int)) (inner := [.int .i64 0, .int .i64 0, .int .i64 0, .int .i64 0, .int .i64 0, .int .i64 0]) (ok := fun _ => True) (okp := fun _ => True) ?hr ?hp (fun _ hk => hk) trivial (Below.refl _ _) (Nat.le_refl _) (by simp) ?_; (case hd => rfl); (case hg => rfl); (case hr => first | (go_simp; done) | (go_simp; rfl)); (case hp => exact (Reps.one (show Kd.M (Kd.int .i64) _ _ _ 0 [.int .i64 0] from rfl) (Reps.one (show Kd.M (Kd.int .i64) _ _ _ 0 [.int .i64 0] from rfl) (Reps.one (show Kd.M (Kd.int .i64) _ _ _ 0 [.int .i64 0] from rfl) (Reps.one (show Kd.M (Kd.int .i64) _ _ _ 0 [.int .i64 0] from rfl) (Reps.one (show Kd.M (Kd.int .i64) _ _ _ 0 [.int .i64 0] from rfl) (Reps.one (show Kd.M (Kd.int .i64) _ _ _ 0 [.int .i64 0] from rfl) (Reps.none _ _))))))))
 intro v616 w31 ho32 hb hg_ hnew_
 clear hg_ hnew_
 (first | rw [← Ny615.out] at ho32 | (simp only [Int.reduceToNat] at ho32; rw [← Ny615.out] at ho32))
 replace HO607 := Aside0.mk (Kd.N_elder' (kN_ HO607) (Kd.R_base ho32) hb)
 replace HO610 := Aside0.mk (Kd.N_elder' (kN_ HO610) (Kd.R_base ho32) hb)
 replace HO613 := Aside0.mk (Kd.V_elder' (kV_ HO613) (Kd.R_base ho32) hb)
 have HO617 := Aside0.mk (Kd.R_lower (Kd.R_new' (Kd.R_new' ho32 (Kd.R_lt (kR_ HO600))) (Kd.R_lt (kR_ HO603))) (bs_ HB))
 replace HO600 := Aside0.mk (Kd.R_elder' (kR_ HO600) (Kd.R_base ho32) hb)
 replace HO603 := Aside0.mk (Kd.R_elder' (kR_ HO603) (Kd.R_base ho32) hb)
 replace BK604 := FB_ BK604 hb
 replace HB := BS_ HB hb
 clear hb ho32
 refine hK.out _ _ ⟨ce_ BK604 0, ce_ BK604 1, ce_ BK604 2, ce_ BK604 3⟩ (fun hHeld => ?_)
 clear hK K
 refine norm_ (a' := ?_) ?_ ?_
 rotate_left
 {
 show Act.put _ (some 19) _ = _
 exact sp_}
 exact norm_ (by first | (simp only [putAll, Act.put, List.setIfInBounds_toArray, List.set_cons_zero, List.set_cons_succ]; done) | (simp only [putAll, Act.put, List.setIfInBounds_toArray, List.set_cons_zero, List.set_cons_succ]; rfl)) (hJ1 (v616) _ ⟨hHeld, (kR_ HO600), (kR_ HO603), (by (with_reducible repeat (first | apply Kd.N_alloc | apply Kd.N_drewN | apply Kd.N_drew)); exact Kd.N_mono HO607.out (fun _ hk => ⟨hk.1.1.1, ⟨hk.1.1.2.1, ⟨hk.1.2, ⟨hk.2, hk.1.1.2.2⟩⟩⟩⟩)), (by (with_reducible repeat (first | apply Kd.N_alloc | apply Kd.N_drewN | apply Kd.N_drew)); exact Kd.N_mono HO610.out (fun _ hk => ⟨hk.1.1, ⟨hk.1.2.1, ⟨hk.1.2.2.1, ⟨hk.2, hk.1.2.2.2⟩⟩⟩⟩)), (by (with_reducible repeat (first | apply Kd.V_alloc | apply Kd.V_drewN | apply Kd.V_drew)); exact Kd.V_mono HO613.out (fun _ hk => ⟨hk.1.1, ⟨hk.1.2.1, ⟨hk.1.2.2.1, ⟨hk.1.2.2.2.1, ⟨hk.2, hk.1.2.2.2.2⟩⟩⟩⟩⟩)), (by (with_reducible repeat (first | apply Kd.R_alloc | apply Kd.R_drewN | apply Kd.R_drew)); exact Kd.R_mono HO617.out (fun _ hk => ⟨hk.1.2, hk.2⟩)), (bk_ BK604), (bl_ HB)⟩)}
 {
 skip
 refine Kd.R_make_step (Kd.int .i64) _ 2 (by rfl) (N := 21) rfl 84 _ _ rfl 16 rfl rfl Try.underlying84 (.int .i64 0) 8 info2 rfl (by decide) (by omega) 0 (ok := fun _ => True) (okp := fun _ => True) rfl (fun _ hk => hk) trivial (by omega) (by omega) (Below.refl _ _) (Nat.le_refl _) ?_
 intro v622 w31 ho32 hb hg_ hnew_
 clear hg_ hnew_
 (first | rw [← Ny621.out] at ho32 | (simp only [Int.reduceToNat] at ho32; rw [← Ny621.out] at ho32))
 replace HO600 := FR_ HO600 hb
 replace HO603 := FR_ HO603 hb
 replace HO607 := Aside0.mk (Kd.N_elder' (kN_ HO607) (Kd.R_base ho32) hb)
 replace HO610 := Aside0.mk (Kd.N_elder' (kN_ HO610) (Kd.R_base ho32) hb)
 replace HO613 := Aside0.mk (Kd.V_elder' (kV_ HO613) (Kd.R_base ho32) hb)
 have HO623 := Aside0.mk (Kd.R_lower ho32 (bs_ HB))
 replace BK604 := FB_ BK604 hb
 replace HB := BS_ HB hb
 clear hb ho32
 refine hK.out _ _ ⟨ce_ BK604 0, ce_ BK604 1, ce_ BK604 2, ce_ BK604 3⟩ (fun hHeld => ?_)
 clear hK K
 refine norm_ (a' := ?_) ?_ ?_
 rotate_left
 {
 show Act.put _ (some 21) _ = _
 exact sp_}
 exact norm_ (by first | (simp only [putAll, Act.put, List.setIfInBounds_toArray, List.set_cons_zero, List.set_cons_succ]; done) | (simp only [putAll, Act.put, List.setIfInBounds_toArray, List.set_cons_zero, List.set_cons_succ]; rfl)) (hJ3 (v622) _ ⟨hHeld, (kR_ HO600), (kR_ HO603), (by (with_reducible repeat (first | apply Kd.N_alloc | apply Kd.N_drewN | apply Kd.N_drew)); exact Kd.N_mono HO607.out (fun _ hk => ⟨hk.1.1.1, ⟨hk.1.1.2.1, ⟨hk.1.2, ⟨hk.2, hk.1.1.2.2⟩⟩⟩⟩)), (by (with_reducible repeat (first | apply Kd.N_alloc | apply Kd.N_drewN | apply Kd.N_drew)); exact Kd.N_mono HO610.out (fun _ hk => ⟨hk.1.1, ⟨hk.1.2.1, ⟨hk.1.2.2.1, ⟨hk.2, hk.1.2.2.2⟩⟩⟩⟩)), (by (with_reducible repeat (first | apply Kd.V_alloc | apply Kd.V_drewN | apply Kd.V_drew)); exact Kd.V_mono HO613.out (fun _ hk => ⟨hk.1.1, ⟨hk.1.2.1, ⟨hk.1.2.2.1, ⟨hk.1.2.2.2.1, ⟨hk.2, hk.1.2.2.2.2⟩⟩⟩⟩⟩)), (kR_ HO623), (bk_ BK604), (bl_ HB)⟩)}}
 {
 skip
 rintro v622 w33 ⟨hS_, h0_, h1_, h2_, h3_, h4_, h5_, h6_, h7_⟩
 have n0_ : Aside0 (Kd.R (Kd.int .i64) 3 w33 w.heap.size (fun k_ => some k_ ≠ (.slice Ao22 t601.length co22 : Value).ownBlock) (.slice Ao21 t598.length co21) t598) := ⟨h0_⟩
 have n1_ : Aside0 (Kd.R (Kd.int .i64) 3 w33 w.heap.size (fun k_ => some k_ ≠ (.slice Ao21 t598.length co21 : Value).ownBlock) (.slice Ao22 t601.length co22) t601) := ⟨h1_⟩
 have n2_ : Aside0 (Kd.N (Kd.slice 3 (Kd.int .i64)) 22 w33 w.heap.size (fun k_ => some k_ ≠ (.slice Ao21 t598.length co21 : Value).ownBlock ∧ some k_ ≠ (.slice Ao22 t601.length co22 : Value).ownBlock ∧ some k_ ≠ (.slice Ao27 y608.length co27 : Value).ownBlock ∧ some k_ ≠ (v622 : Value).ownBlock ∧ k_ ≠ gb604) (.slice Ao28 y605.length co28) y605) := ⟨h2_⟩
 have n3_ : Aside0 (Kd.N (Kd.slice 2 (Kd.int .i64)) 84 w33 w.heap.size (fun k_ => some k_ ≠ (.slice Ao21 t598.length co21 : Value).ownBlock ∧ some k_ ≠ (.slice Ao22 t601.length co22 : Value).ownBlock ∧ some k_ ≠ (.slice Ao28 y605.length co28 : Value).ownBlock ∧ some k_ ≠ (v622 : Value).ownBlock ∧ k_ ≠ gb604) (.slice Ao27 y608.length co27) y608) := ⟨h3_⟩
 have n4_ : Aside0 (Kd.V (Kd.int .u8) 5 w33 w.heap.size (fun k_ => some k_ ≠ (.slice Ao21 t598.length co21 : Value).ownBlock ∧ some k_ ≠ (.slice Ao22 t601.length co22 : Value).ownBlock ∧ some k_ ≠ (.slice Ao28 y605.length co28 : Value).ownBlock ∧ some k_ ≠ (.slice Ao27 y608.length co27 : Value).ownBlock ∧ some k_ ≠ (v622 : Value).ownBlock ∧ k_ ≠ gb604) v612 t611) := ⟨h4_⟩
 have n5_ : Aside0 (Kd.R (Kd.int .i64) 2 w33 w.heap.size (fun _ => True) v622 y621) := ⟨h5_⟩
 have n6_ : Aside0 (w33.heap[gb604]? = some (.cells #[.int .i64 t596, .int .i64 t597, .slice Ao21 t598.length co21, .slice Ao22 t601.length co22] 24 (0, 0))) := ⟨h6_⟩
 have n7_ : Aside0 (Below w.heap.size w w33) := ⟨h7_⟩
 clear HO600
 clear HO603
 clear HO607
 clear HO610
 clear HO613
 clear BK604
 clear HB
 clear h0_ h1_ h2_ h3_ h4_ h5_ h6_ h7_
 have HO600 := n0_
 have HO603 := n1_
 have HO607 := n2_
 have HO610 := n3_
 have HO613 := n4_
 have HO623 := n5_
 have BK604 := n6_
 have HB := n7_
 clear n0_ n1_ n2_ n3_ n4_ n5_ n6_ n7_
 have hHeld : w33.cell? ⟨gb604, 0, none⟩ = some (.int .i64 t596) ∧ w33.cell? ⟨gb604, 1, none⟩ = some (.int .i64 t597) ∧ w33.cell? ⟨gb604, 2, none⟩ = some (.slice Ao21 t598.length co21) ∧ w33.cell? ⟨gb604, 3, none⟩ = some (.slice Ao22 t601.length co22) := hS_
 refine norm_ (a' := ?_) ?_ ?_
 rotate_left
 {
 simp only [putAll, Act.put, List.setIfInBounds_toArray, List.set_cons_zero, List.set_cons_succ]
 rfl}
 refine two_ (i := 1) (j := 4) (Ni := some 19) (Nj := some 22) (B_ 12 11) (B_ 12 25) rfl rfl rfl rfl (two_of HT_.out kf_) (by decide) (by decide) (fun K hK => ?_) (fun K hK => ?_)
 {
 skip
 refine Kd.R_lit_step (Kd.int .i64) _ 3 ?hg (N := 19) ?hd (xs := ([0, 0, 0, 0, 0, 0] : List Int)) (inner := [.int .i64 0, .int .i64 0, .int .i64 0, .int .i64 0, .int .i64 0, .int .i64 0]) (ok := fun _ => True) (okp := fun _ => True) ?hr ?hp (fun _ hk => hk) trivial (Below.refl _ _) (Nat.le_refl _) (by simp) ?_; (case hd => rfl); (case hg => rfl); (case hr => first | (go_simp; done) | (go_simp; rfl)); (case hp => exact (Reps.one (show Kd.M (Kd.int .i64) _ _ _ 0 [.int .i64 0] from rfl) (Reps.one (show Kd.M (Kd.int .i64) _ _ _ 0 [.int .i64 0] from rfl) (Reps.one (show Kd.M (Kd.int .i64) _ _ _ 0 [.int .i64 0] from rfl) (Reps.one (show Kd.M (Kd.int .i64) _ _ _ 0 [.int .i64 0] from rfl) (Reps.one (show Kd.M (Kd.int .i64) _ _ _ 0 [.int .i64 0] from rfl) (Reps.one (show Kd.M (Kd.int .i64) _ _ _ 0 [.int .i64 0] from rfl) (Reps.none _ _))))))))
 intro v616 w34 ho35 hb hg_ hnew_
 clear hg_ hnew_
 (first | rw [← Ny615.out] at ho35 | (simp only [Int.reduceToNat] at ho35; rw [← Ny615.out] at ho35))
 replace HO607 := Aside0.mk (Kd.N_elder' (kN_ HO607) (Kd.R_base ho35) hb)
 replace HO610 := Aside0.mk (Kd.N_elder' (kN_ HO610) (Kd.R_base ho35) hb)
 replace HO613 := Aside0.mk (Kd.V_elder' (kV_ HO613) (Kd.R_base ho35) hb)
 replace HO623 := FR_ HO623 hb
 have HO617 := Aside0.mk (Kd.R_lower (Kd.R_new' (Kd.R_new' ho35 (Kd.R_lt (kR_ HO600))) (Kd.R_lt (kR_ HO603))) (bs_ HB))
 replace HO600 := Aside0.mk (Kd.R_elder' (kR_ HO600) (Kd.R_base ho35) hb)
 replace HO603 := Aside0.mk (Kd.R_elder' (kR_ HO603) (Kd.R_base ho35) hb)
 replace BK604 := FB_ BK604 hb
 replace HB := BS_ HB hb
 clear hb ho35
 refine hK.out _ _ ⟨ce_ BK604 0, ce_ BK604 1, ce_ BK604 2, ce_ BK604 3⟩ (fun hHeld => ?_)
 clear hK K
 refine norm_ (a' := ?_) ?_ ?_
 rotate_left
 {
 show Act.put _ (some 19) _ = _
 exact sp_}
 exact norm_ (by first | (simp only [putAll, Act.put, List.setIfInBounds_toArray, List.set_cons_zero, List.set_cons_succ]; done) | (simp only [putAll, Act.put, List.setIfInBounds_toArray, List.set_cons_zero, List.set_cons_succ]; rfl)) (hJ1_3 (v616, v622) _ ⟨hHeld, (kR_ HO600), (kR_ HO603), (by (with_reducible repeat (first | apply Kd.N_alloc | apply Kd.N_drewN | apply Kd.N_drew)); exact Kd.N_mono HO607.out (fun _ hk => ⟨hk.1.1, ⟨hk.1.2.1, ⟨hk.1.2.2.1, ⟨hk.2, ⟨hk.1.2.2.2.1, hk.1.2.2.2.2⟩⟩⟩⟩⟩)), (by (with_reducible repeat (first | apply Kd.N_alloc | apply Kd.N_drewN | apply Kd.N_drew)); exact Kd.N_mono HO610.out (fun _ hk => ⟨hk.1.1, ⟨hk.1.2.1, ⟨hk.1.2.2.1, ⟨hk.2, ⟨hk.1.2.2.2.1, hk.1.2.2.2.2⟩⟩⟩⟩⟩)), (by (with_reducible repeat (first | apply Kd.V_alloc | apply Kd.V_drewN | apply Kd.V_drew)); exact Kd.V_mono HO613.out (fun _ hk => ⟨hk.1.1, ⟨hk.1.2.1, ⟨hk.1.2.2.1, ⟨hk.1.2.2.2.1, ⟨hk.2, ⟨hk.1.2.2.2.2.1, hk.1.2.2.2.2.2⟩⟩⟩⟩⟩⟩)), (by (with_reducible repeat (first | apply Kd.R_alloc | apply Kd.R_drewN | apply Kd.R_drew)); exact Kd.R_mono HO617.out (fun _ hk => ⟨hk.1.2, hk.2⟩)), (kR_ HO623), (bk_ BK604), (bl_ HB)⟩)}
 {
 skip
 obtain ⟨Ao34, co34, eo34⟩ := Kd.R_slice HO623.out
 (first | subst eo34 | (injection eo34 with f1_ f2_ f3_; have f4_ := f1_.symm; have f5_ := f3_.symm; clear f1_ f2_ f3_; subst f4_; subst f5_))
 refine Kd.N_lit_step (Kd.slice 2 (Kd.int .i64)) _ 84 ?hg (N' := 22) ?hd (xs := ([y621] : List (List Int))) (inner := [.slice Ao34 y621.length co34]) (ok := (fun k_ => some k_ ≠ (.slice Ao21 t598.length co21 : Value).ownBlock ∧ some k_ ≠ (.slice Ao22 t601.length co22 : Value).ownBlock ∧ some k_ ≠ (.slice Ao28 y605.length co28 : Value).ownBlock ∧ some k_ ≠ (.slice Ao27 y608.length co27 : Value).ownBlock ∧ k_ ≠ gb604)) (okp := (fun k_ => some k_ ≠ (.slice Ao21 t598.length co21 : Value).ownBlock ∧ some k_ ≠ (.slice Ao22 t601.length co22 : Value).ownBlock ∧ some k_ ≠ (.slice Ao28 y605.length co28 : Value).ownBlock ∧ some k_ ≠ (.slice Ao27 y608.length co27 : Value).ownBlock ∧ k_ ≠ gb604)) ?hr ?hp (fun _ hk => hk) (fr_ (P := (fun k_ => some k_ ≠ (.slice Ao21 t598.length co21 : Value).ownBlock ∧ some k_ ≠ (.slice Ao22 t601.length co22 : Value).ownBlock ∧ some k_ ≠ (.slice Ao28 y605.length co28 : Value).ownBlock ∧ some k_ ≠ (.slice Ao27 y608.length co27 : Value).ownBlock ∧ k_ ≠ gb604)) (fun k_ hk => ⟨Kd.fresh' (Kd.R_lt (kR_ HO600)) k_ hk, Kd.fresh' (Kd.R_lt (kR_ HO603)) k_ hk, Kd.fresh' (Kd.N_lt (kN_ HO607)) k_ hk, Kd.fresh' (Kd.N_lt (kN_ HO610)) k_ hk, Kd.freshB (g := gb604) (o := .cells #[.int .i64 t596, .int .i64 t597, .slice Ao21 t598.length co21, .slice Ao22 t601.length co22] 24 (0, 0)) (bk_ BK604) k_ hk⟩)) (Below.refl _ _) (Nat.le_refl _) (by simp) ?_; (case hd => rfl); (case hg => rfl); (case hr => first | (go_simp; done) | (go_simp; rfl)); (case hp => exact (Reps.one (show Kd.FK (Kd.slice 2 (Kd.int .i64)) _ _ y621 [.slice Ao34 y621.length co34] from (Kd.FK_slice_mk (Kd.R_reads' (Kd.R_mono (ok' := (fun k_ => some k_ ≠ (.slice Ao21 t598.length co21 : Value).ownBlock ∧ some k_ ≠ (.slice Ao22 t601.length co22 : Value).ownBlock ∧ some k_ ≠ (.slice Ao28 y605.length co28 : Value).ownBlock ∧ some k_ ≠ (.slice Ao27 y608.length co27 : Value).ownBlock ∧ k_ ≠ gb604)) (Kd.R_types (Kd.R_apart' (Kd.R_apart' (Kd.R_apart' (Kd.R_apart' (HO623.out) (Kd.R_typed HO600.out) (by decide)) (Kd.R_typed HO603.out) (by decide)) (Kd.N_typed HO607.out) (by decide)) (Kd.N_typed HO610.out) (by decide)) BK604.out (by decide)) (fun k_ hk => ⟨hk.1.1.1.1.2, ⟨hk.1.1.1.2, ⟨hk.1.1.2, ⟨hk.1.2, hk.2⟩⟩⟩⟩))).2.1 (Kd.R_F (Kd.R_mono (ok' := (fun k_ => some k_ ≠ (.slice Ao21 t598.length co21 : Value).ownBlock ∧ some k_ ≠ (.slice Ao22 t601.length co22 : Value).ownBlock ∧ some k_ ≠ (.slice Ao28 y605.length co28 : Value).ownBlock ∧ some k_ ≠ (.slice Ao27 y608.length co27 : Value).ownBlock ∧ k_ ≠ gb604)) (Kd.R_types (Kd.R_apart' (Kd.R_apart' (Kd.R_apart' (Kd.R_apart' (HO623.out) (Kd.R_typed HO600.out) (by decide)) (Kd.R_typed HO603.out) (by decide)) (Kd.N_typed HO607.out) (by decide)) (Kd.N_typed HO610.out) (by decide)) BK604.out (by decide)) (fun k_ hk => ⟨hk.1.1.1.1.2, ⟨hk.1.1.1.2, ⟨hk.1.1.2, ⟨hk.1.2, hk.2⟩⟩⟩⟩))))) (Reps.none _ _)))
 intro v625 w35 ho36 hb hg_ hnew_
 clear hg_ hnew_
 (first | rw [← Ny624.out] at ho36 | (simp only [Int.reduceToNat] at ho36; rw [← Ny624.out] at ho36))
 replace HO600 := FR_ HO600 hb
 replace HO603 := FR_ HO603 hb
 replace HO607 := Aside0.mk (Kd.N_elder' (kN_ HO607) (Kd.N_base ho36) hb)
 replace HO610 := Aside0.mk (Kd.N_elder' (kN_ HO610) (Kd.N_base ho36) hb)
 replace HO613 := Aside0.mk (Kd.V_elder' (kV_ HO613) (Kd.N_base ho36) hb)
 have HO626 := Aside0.mk (Kd.N_lower ho36 (bs_ HB))
 replace BK604 := FB_ BK604 hb
 replace HB := BS_ HB hb
 clear HO623
 clear hb ho36
 refine hK.out _ _ ⟨ce_ BK604 0, ce_ BK604 1, ce_ BK604 2, ce_ BK604 3⟩ (fun hHeld => ?_)
 clear hK K
 refine norm_ (a' := ?_) ?_ ?_
 rotate_left
 {
 show Act.put _ (some 22) _ = _
 exact sp_}
 exact norm_ (by first | (simp only [putAll, Act.put, List.setIfInBounds_toArray, List.set_cons_zero, List.set_cons_succ]; done) | (simp only [putAll, Act.put, List.setIfInBounds_toArray, List.set_cons_zero, List.set_cons_succ]; rfl)) (hJ3_4 (.slice Ao34 y621.length co34, v625) _ ⟨hHeld, (kR_ HO600), (kR_ HO603), (by (with_reducible repeat (first | apply Kd.N_alloc | apply Kd.N_drewN | apply Kd.N_drew)); exact Kd.N_mono HO607.out (fun _ hk => ⟨hk.1.1, ⟨hk.1.2.1, ⟨hk.1.2.2.1, ⟨hk.2, hk.1.2.2.2.2⟩⟩⟩⟩)), (by (with_reducible repeat (first | apply Kd.N_alloc | apply Kd.N_drewN | apply Kd.N_drew)); exact Kd.N_mono HO610.out (fun _ hk => ⟨hk.1.1, ⟨hk.1.2.1, ⟨hk.1.2.2.1, ⟨hk.2, hk.1.2.2.2.2⟩⟩⟩⟩)), (by (with_reducible repeat (first | apply Kd.V_alloc | apply Kd.V_drewN | apply Kd.V_drew)); exact Kd.V_mono HO613.out (fun _ hk => ⟨hk.1.1, ⟨hk.1.2.1, ⟨hk.1.2.2.1, ⟨hk.1.2.2.2.1, ⟨hk.2, hk.1.2.2.2.2.2⟩⟩⟩⟩⟩)), (kN_ HO626), (bk_ BK604), (bl_ HB)⟩)}}}
 {
 skip
 rintro v616 w33 ⟨hS_, h0_, h1_, h2_, h3_, h4_, h5_, h6_, h7_⟩
 have n0_ : Aside0 (Kd.R (Kd.int .i64) 3 w33 w.heap.size (fun k_ => some k_ ≠ (.slice Ao22 t601.length co22 : Value).ownBlock ∧ some k_ ≠ (v616 : Value).ownBlock) (.slice Ao21 t598.length co21) t598) := ⟨h0_⟩
 have n1_ : Aside0 (Kd.R (Kd.int .i64) 3 w33 w.heap.size (fun k_ => some k_ ≠ (.slice Ao21 t598.length co21 : Value).ownBlock ∧ some k_ ≠ (v616 : Value).ownBlock) (.slice Ao22 t601.length co22) t601) := ⟨h1_⟩
 have n2_ : Aside0 (Kd.N (Kd.slice 3 (Kd.int .i64)) 22 w33 w.heap.size (fun k_ => some k_ ≠ (.slice Ao21 t598.length co21 : Value).ownBlock ∧ some k_ ≠ (.slice Ao22 t601.length co22 : Value).ownBlock ∧ some k_ ≠ (.slice Ao27 y608.length co27 : Value).ownBlock ∧ some k_ ≠ (v616 : Value).ownBlock ∧ k_ ≠ gb604) (.slice Ao28 y605.length co28) y605) := ⟨h2_⟩
 have n3_ : Aside0 (Kd.N (Kd.slice 2 (Kd.int .i64)) 84 w33 w.heap.size (fun k_ => some k_ ≠ (.slice Ao21 t598.length co21 : Value).ownBlock ∧ some k_ ≠ (.slice Ao22 t601.length co22 : Value).ownBlock ∧ some k_ ≠ (.slice Ao28 y605.length co28 : Value).ownBlock ∧ some k_ ≠ (v616 : Value).ownBlock ∧ k_ ≠ gb604) (.slice Ao27 y608.length co27) y608) := ⟨h3_⟩
 have n4_ : Aside0 (Kd.V (Kd.int .u8) 5 w33 w.heap.size (fun k_ => some k_ ≠ (.slice Ao21 t598.length co21 : Value).ownBlock ∧ some k_ ≠ (.slice Ao22 t601.length co22 : Value).ownBlock ∧ some k_ ≠ (.slice Ao28 y605.length co28 : Value).ownBlock ∧ some k_ ≠ (.slice Ao27 y608.length co27 : Value).ownBlock ∧ some k_ ≠ (v616 : Value).ownBlock ∧ k_ ≠ gb604) v612 t611) := ⟨h4_⟩
 have n5_ : Aside0 (Kd.R (Kd.int .i64) 3 w33 w.heap.size (fun k_ => some k_ ≠ (.slice Ao21 t598.length co21 : Value).ownBlock ∧ some k_ ≠ (.slice Ao22 t601.length co22 : Value).ownBlock) v616 y615) := ⟨h5_⟩
 have n6_ : Aside0 (w33.heap[gb604]? = some (.cells #[.int .i64 t596, .int .i64 t597, .slice Ao21 t598.length co21, .slice Ao22 t601.length co22] 24 (0, 0))) := ⟨h6_⟩
 have n7_ : Aside0 (Below w.heap.size w w33) := ⟨h7_⟩
 clear HO600
 clear HO603
 clear HO607
 clear HO610
 clear HO613
 clear BK604
 clear HB
 clear h0_ h1_ h2_ h3_ h4_ h5_ h6_ h7_
 have HO600 := n0_
 have HO603 := n1_
 have HO607 := n2_
 have HO610 := n3_
 have HO613 := n4_
 have HO617 := n5_
 have BK604 := n6_
 have HB := n7_
 clear n0_ n1_ n2_ n3_ n4_ n5_ n6_ n7_
 have hHeld : w33.cell? ⟨gb604, 0, none⟩ = some (.int .i64 t596) ∧ w33.cell? ⟨gb604, 1, none⟩ = some (.int .i64 t597) ∧ w33.cell? ⟨gb604, 2, none⟩ = some (.slice Ao21 t598.length co21) ∧ w33.cell? ⟨gb604, 3, none⟩ = some (.slice Ao22 t601.length co22) := hS_
 refine norm_ (a' := ?_) ?_ ?_
 rotate_left
 {
 simp only [putAll, Act.put, List.setIfInBounds_toArray, List.set_cons_zero, List.set_cons_succ]
 rfl}
 refine two_ (i := 2) (j := 3) (Ni := some 20) (Nj := some 21) (B_ 12 7) (B_ 12 11) rfl rfl rfl rfl (two_of HT_.out kf_) (by decide) (by decide) (fun K hK => ?_) (fun K hK => ?_)
 {
 skip
 obtain ⟨Ao34, co34, eo34⟩ := Kd.R_slice HO617.out
 (first | subst eo34 | (injection eo34 with f1_ f2_ f3_; have f4_ := f1_.symm; have f5_ := f3_.symm; clear f1_ f2_ f3_; subst f4_; subst f5_))
 refine Kd.N_lit_step (Kd.slice 3 (Kd.int .i64)) _ 22 ?hg (N' := 20) ?hd (xs := ([y615] : List (List Int))) (inner := [.slice Ao34 y615.length co34]) (ok := (fun k_ => some k_ ≠ (.slice Ao21 t598.length co21 : Value).ownBlock ∧ some k_ ≠ (.slice Ao22 t601.length co22 : Value).ownBlock ∧ some k_ ≠ (.slice Ao28 y605.length co28 : Value).ownBlock ∧ some k_ ≠ (.slice Ao27 y608.length co27 : Value).ownBlock ∧ k_ ≠ gb604)) (okp := (fun k_ => some k_ ≠ (.slice Ao21 t598.length co21 : Value).ownBlock ∧ some k_ ≠ (.slice Ao22 t601.length co22 : Value).ownBlock ∧ some k_ ≠ (.slice Ao28 y605.length co28 : Value).ownBlock ∧ some k_ ≠ (.slice Ao27 y608.length co27 : Value).ownBlock ∧ k_ ≠ gb604)) ?hr ?hp (fun _ hk => hk) (fr_ (P := (fun k_ => some k_ ≠ (.slice Ao21 t598.length co21 : Value).ownBlock ∧ some k_ ≠ (.slice Ao22 t601.length co22 : Value).ownBlock ∧ some k_ ≠ (.slice Ao28 y605.length co28 : Value).ownBlock ∧ some k_ ≠ (.slice Ao27 y608.length co27 : Value).ownBlock ∧ k_ ≠ gb604)) (fun k_ hk => ⟨Kd.fresh' (Kd.R_lt (kR_ HO600)) k_ hk, Kd.fresh' (Kd.R_lt (kR_ HO603)) k_ hk, Kd.fresh' (Kd.N_lt (kN_ HO607)) k_ hk, Kd.fresh' (Kd.N_lt (kN_ HO610)) k_ hk, Kd.freshB (g := gb604) (o := .cells #[.int .i64 t596, .int .i64 t597, .slice Ao21 t598.length co21, .slice Ao22 t601.length co22] 24 (0, 0)) (bk_ BK604) k_ hk⟩)) (Below.refl _ _) (Nat.le_refl _) (by simp) ?_; (case hd => rfl); (case hg => rfl); (case hr => first | (go_simp; done) | (go_simp; rfl)); (case hp => exact (Reps.one (show Kd.FK (Kd.slice 3 (Kd.int .i64)) _ _ y615 [.slice Ao34 y615.length co34] from (Kd.FK_slice_mk (Kd.R_reads' (Kd.R_mono (ok' := (fun k_ => some k_ ≠ (.slice Ao21 t598.length co21 : Value).ownBlock ∧ some k_ ≠ (.slice Ao22 t601.length co22 : Value).ownBlock ∧ some k_ ≠ (.slice Ao28 y605.length co28 : Value).ownBlock ∧ some k_ ≠ (.slice Ao27 y608.length co27 : Value).ownBlock ∧ k_ ≠ gb604)) (Kd.R_types (Kd.R_apart' (Kd.R_apart' (HO617.out) (Kd.N_typed HO607.out) (by decide)) (Kd.N_typed HO610.out) (by decide)) BK604.out (by decide)) (fun k_ hk => ⟨hk.1.1.1.1, ⟨hk.1.1.1.2, ⟨hk.1.1.2, ⟨hk.1.2, hk.2⟩⟩⟩⟩))).2.1 (Kd.R_F (Kd.R_mono (ok' := (fun k_ => some k_ ≠ (.slice Ao21 t598.length co21 : Value).ownBlock ∧ some k_ ≠ (.slice Ao22 t601.length co22 : Value).ownBlock ∧ some k_ ≠ (.slice Ao28 y605.length co28 : Value).ownBlock ∧ some k_ ≠ (.slice Ao27 y608.length co27 : Value).ownBlock ∧ k_ ≠ gb604)) (Kd.R_types (Kd.R_apart' (Kd.R_apart' (HO617.out) (Kd.N_typed HO607.out) (by decide)) (Kd.N_typed HO610.out) (by decide)) BK604.out (by decide)) (fun k_ hk => ⟨hk.1.1.1.1, ⟨hk.1.1.1.2, ⟨hk.1.1.2, ⟨hk.1.2, hk.2⟩⟩⟩⟩))))) (Reps.none _ _)))
 intro v619 w35 ho36 hb hg_ hnew_
 clear hg_ hnew_
 (first | rw [← Ny618.out] at ho36 | (simp only [Int.reduceToNat] at ho36; rw [← Ny618.out] at ho36))
 replace HO600 := FR_ HO600 hb
 replace HO603 := FR_ HO603 hb
 replace HO607 := Aside0.mk (Kd.N_elder' (kN_ HO607) (Kd.N_base ho36) hb)
 replace HO610 := Aside0.mk (Kd.N_elder' (kN_ HO610) (Kd.N_base ho36) hb)
 replace HO613 := Aside0.mk (Kd.V_elder' (kV_ HO613) (Kd.N_base ho36) hb)
 have HO620 := Aside0.mk (Kd.N_lower ho36 (bs_ HB))
 replace BK604 := FB_ BK604 hb
 replace HB := BS_ HB hb
 clear HO617
 clear hb ho36
 refine hK.out _ _ ⟨ce_ BK604 0, ce_ BK604 1, ce_ BK604 2, ce_ BK604 3⟩ (fun hHeld => ?_)
 clear hK K
 refine norm_ (a' := ?_) ?_ ?_
 rotate_left
 {
 show Act.put _ (some 20) _ = _
 exact sp_}
 exact norm_ (by first | (simp only [putAll, Act.put, List.setIfInBounds_toArray, List.set_cons_zero, List.set_cons_succ]; done) | (simp only [putAll, Act.put, List.setIfInBounds_toArray, List.set_cons_zero, List.set_cons_succ]; rfl)) (hJ1_2 (.slice Ao34 y615.length co34, v619) _ ⟨hHeld, (by (with_reducible repeat (first | apply Kd.R_alloc | apply Kd.R_drewN | apply Kd.R_drew)); exact Kd.R_mono HO600.out (fun _ hk => hk.1)), (by (with_reducible repeat (first | apply Kd.R_alloc | apply Kd.R_drewN | apply Kd.R_drew)); exact Kd.R_mono HO603.out (fun _ hk => hk.1)), (by (with_reducible repeat (first | apply Kd.N_alloc | apply Kd.N_drewN | apply Kd.N_drew)); exact Kd.N_mono HO607.out (fun _ hk => ⟨hk.1.1, ⟨hk.1.2.1, ⟨hk.1.2.2.1, ⟨hk.2, hk.1.2.2.2.2⟩⟩⟩⟩)), (by (with_reducible repeat (first | apply Kd.N_alloc | apply Kd.N_drewN | apply Kd.N_drew)); exact Kd.N_mono HO610.out (fun _ hk => ⟨hk.1.1, ⟨hk.1.2.1, ⟨hk.1.2.2.1, ⟨hk.2, hk.1.2.2.2.2⟩⟩⟩⟩)), (by (with_reducible repeat (first | apply Kd.V_alloc | apply Kd.V_drewN | apply Kd.V_drew)); exact Kd.V_mono HO613.out (fun _ hk => ⟨hk.1.1, ⟨hk.1.2.1, ⟨hk.1.2.2.1, ⟨hk.1.2.2.2.1, ⟨hk.2, hk.1.2.2.2.2.2⟩⟩⟩⟩⟩)), (kN_ HO620), (bk_ BK604), (bl_ HB)⟩)}
 {
 skip
 refine Kd.R_make_step (Kd.int .i64) _ 2 (by rfl) (N := 21) rfl 84 _ _ rfl 16 rfl rfl Try.underlying84 (.int .i64 0) 8 info2 rfl (by decide) (by omega) 0 (ok := fun _ => True) (okp := fun _ => True) rfl (fun _ hk => hk) trivial (by omega) (by omega) (Below.refl _ _) (Nat.le_refl _) ?_
 intro v622 w34 ho35 hb hg_ hnew_
 clear hg_ hnew_
 (first | rw [← Ny621.out] at ho35 | (simp only [Int.reduceToNat] at ho35; rw [← Ny621.out] at ho35))
 replace HO600 := FR_ HO600 hb
 replace HO603 := FR_ HO603 hb
 replace HO607 := Aside0.mk (Kd.N_elder' (kN_ HO607) (Kd.R_base ho35) hb)
 replace HO610 := Aside0.mk (Kd.N_elder' (kN_ HO610) (Kd.R_base ho35) hb)
 replace HO613 := Aside0.mk (Kd.V_elder' (kV_ HO613) (Kd.R_base ho35) hb)
 replace HO617 := FR_ HO617 hb
 have HO623 := Aside0.mk (Kd.R_lower ho35 (bs_ HB))
 replace BK604 := FB_ BK604 hb
 replace HB := BS_ HB hb
 clear hb ho35
 refine hK.out _ _ ⟨ce_ BK604 0, ce_ BK604 1, ce_ BK604 2, ce_ BK604 3⟩ (fun hHeld => ?_)
 clear hK K
 refine norm_ (a' := ?_) ?_ ?_
 rotate_left
 {
 show Act.put _ (some 21) _ = _
 exact sp_}
 exact norm_ (by first | (simp only [putAll, Act.put, List.setIfInBounds_toArray, List.set_cons_zero, List.set_cons_succ]; done) | (simp only [putAll, Act.put, List.setIfInBounds_toArray, List.set_cons_zero, List.set_cons_succ]; rfl)) (hJ1_3 (v616, v622) _ ⟨hHeld, (kR_ HO600), (kR_ HO603), (by (with_reducible repeat (first | apply Kd.N_alloc | apply Kd.N_drewN | apply Kd.N_drew)); exact Kd.N_mono HO607.out (fun _ hk => ⟨hk.1.1, ⟨hk.1.2.1, ⟨hk.1.2.2.1, ⟨hk.1.2.2.2.1, ⟨hk.2, hk.1.2.2.2.2⟩⟩⟩⟩⟩)), (by (with_reducible repeat (first | apply Kd.N_alloc | apply Kd.N_drewN | apply Kd.N_drew)); exact Kd.N_mono HO610.out (fun _ hk => ⟨hk.1.1, ⟨hk.1.2.1, ⟨hk.1.2.2.1, ⟨hk.1.2.2.2.1, ⟨hk.2, hk.1.2.2.2.2⟩⟩⟩⟩⟩)), (by (with_reducible repeat (first | apply Kd.V_alloc | apply Kd.V_drewN | apply Kd.V_drew)); exact Kd.V_mono HO613.out (fun _ hk => ⟨hk.1.1, ⟨hk.1.2.1, ⟨hk.1.2.2.1, ⟨hk.1.2.2.2.1, ⟨hk.1.2.2.2.2.1, ⟨hk.2, hk.1.2.2.2.2.2⟩⟩⟩⟩⟩⟩)), (kR_ HO617), (kR_ HO623), (bk_ BK604), (bl_ HB)⟩)}}}
 {
 skip
 clear HO600 HO603 HO607 HO610 HO613 BK604 HB
 rintro ⟨v622, v625⟩ w36 ⟨hS_, h0_, h1_, h2_, h3_, h4_, h5_, h6_, h7_⟩
 (try dsimp only at h0_ h1_ h2_ h3_ h4_ h5_ h6_ h7_)
 have HO600 := Aside0.mk h0_
 have HO603 := Aside0.mk h1_
 have HO607 := Aside0.mk h2_
 have HO610 := Aside0.mk h3_
 have HO613 := Aside0.mk h4_
 have HO626 := Aside0.mk h5_
 have BK604 := Aside0.mk h6_
 have HB := Aside0.mk h7_
 clear h0_ h1_ h2_ h3_ h4_ h5_ h6_ h7_
 have hHeld : w36.cell? ⟨gb604, 0, none⟩ = some (.int .i64 t596) ∧ w36.cell? ⟨gb604, 1, none⟩ = some (.int .i64 t597) ∧ w36.cell? ⟨gb604, 2, none⟩ = some (.slice Ao21 t598.length co21) ∧ w36.cell? ⟨gb604, 3, none⟩ = some (.slice Ao22 t601.length co22) := hS_
 refine norm_ (a' := ?_) ?_ ?_
 rotate_left
 {
 simp only [putAll, Act.put, List.setIfInBounds_toArray, List.set_cons_zero, List.set_cons_succ]
 rfl}
 refine one_ (i := 1) (N := some 19) (B_ 12 27) rfl rfl (one_of HT_.out kf_) (by decide) (fun K hK => ?_)
 refine Kd.R_lit_step (Kd.int .i64) _ 3 ?hg (N := 19) ?hd (xs := ([0, 0, 0, 0, 0, 0] : List Int)) (inner := [.int .i64 0, .int .i64 0, .int .i64 0, .int .i64 0, .int .i64 0, .int .i64 0]) (ok := fun _ => True) (okp := fun _ => True) ?hr ?hp (fun _ hk => hk) trivial (Below.refl _ _) (Nat.le_refl _) (by simp) ?_; (case hd => rfl); (case hg => rfl); (case hr => first | (go_simp; done) | (go_simp; rfl)); (case hp => exact (Reps.one (show Kd.M (Kd.int .i64) _ _ _ 0 [.int .i64 0] from rfl) (Reps.one (show Kd.M (Kd.int .i64) _ _ _ 0 [.int .i64 0] from rfl) (Reps.one (show Kd.M (Kd.int .i64) _ _ _ 0 [.int .i64 0] from rfl) (Reps.one (show Kd.M (Kd.int .i64) _ _ _ 0 [.int .i64 0] from rfl) (Reps.one (show Kd.M (Kd.int .i64) _ _ _ 0 [.int .i64 0] from rfl) (Reps.one (show Kd.M (Kd.int .i64) _ _ _ 0 [.int .i64 0] from rfl) (Reps.none _ _))))))))
 intro v616 w37 ho38 hb hg_ hnew_
 clear hg_ hnew_
 (first | rw [← Ny615.out] at ho38 | (simp only [Int.reduceToNat] at ho38; rw [← Ny615.out] at ho38))
 replace HO607 := Aside0.mk (Kd.N_elder' (kN_ HO607) (Kd.R_base ho38) hb)
 replace HO610 := Aside0.mk (Kd.N_elder' (kN_ HO610) (Kd.R_base ho38) hb)
 replace HO613 := Aside0.mk (Kd.V_elder' (kV_ HO613) (Kd.R_base ho38) hb)
 replace HO626 := Aside0.mk (Kd.N_elder' (kN_ HO626) (Kd.R_base ho38) hb)
 have HO617 := Aside0.mk (Kd.R_lower (Kd.R_new' (Kd.R_new' ho38 (Kd.R_lt (kR_ HO600))) (Kd.R_lt (kR_ HO603))) (bs_ HB))
 replace HO600 := Aside0.mk (Kd.R_elder' (kR_ HO600) (Kd.R_base ho38) hb)
 replace HO603 := Aside0.mk (Kd.R_elder' (kR_ HO603) (Kd.R_base ho38) hb)
 replace BK604 := FB_ BK604 hb
 replace HB := BS_ HB hb
 clear hb ho38
 refine hK.out _ _ ⟨ce_ BK604 0, ce_ BK604 1, ce_ BK604 2, ce_ BK604 3⟩ (fun hHeld => ?_)
 clear hK K
 refine norm_ (a' := ?_) ?_ ?_
 rotate_left
 {
 show Act.put _ (some 19) _ = _
 exact sp_}
 exact norm_ (by first | (simp only [putAll, Act.put, List.setIfInBounds_toArray, List.set_cons_zero, List.set_cons_succ]; done) | (simp only [putAll, Act.put, List.setIfInBounds_toArray, List.set_cons_zero, List.set_cons_succ]; rfl)) (hJ1_3_4 (v616, v622, v625) _ ⟨hHeld, (kR_ HO600), (kR_ HO603), (by (with_reducible repeat (first | apply Kd.N_alloc | apply Kd.N_drewN | apply Kd.N_drew)); exact Kd.N_mono HO607.out (fun _ hk => ⟨hk.1.1, ⟨hk.1.2.1, ⟨hk.1.2.2.1, ⟨hk.2, ⟨hk.1.2.2.2.1, hk.1.2.2.2.2⟩⟩⟩⟩⟩)), (by (with_reducible repeat (first | apply Kd.N_alloc | apply Kd.N_drewN | apply Kd.N_drew)); exact Kd.N_mono HO610.out (fun _ hk => ⟨hk.1.1, ⟨hk.1.2.1, ⟨hk.1.2.2.1, ⟨hk.2, ⟨hk.1.2.2.2.1, hk.1.2.2.2.2⟩⟩⟩⟩⟩)), (by (with_reducible repeat (first | apply Kd.V_alloc | apply Kd.V_drewN | apply Kd.V_drew)); exact Kd.V_mono HO613.out (fun _ hk => ⟨hk.1.1, ⟨hk.1.2.1, ⟨hk.1.2.2.1, ⟨hk.1.2.2.2.1, ⟨hk.2, ⟨hk.1.2.2.2.2.1, hk.1.2.2.2.2.2⟩⟩⟩⟩⟩⟩)), (by (with_reducible repeat (first | apply Kd.R_alloc | apply Kd.R_drewN | apply Kd.R_drew)); exact Kd.R_mono HO617.out (fun _ hk => ⟨hk.1.2, hk.2⟩)), (by (with_reducible repeat (first | apply Kd.N_alloc | apply Kd.N_drewN | apply Kd.N_drew)); exact Kd.N_mono HO626.out (fun _ hk => ⟨hk.1.1, ⟨hk.1.2.1, ⟨hk.1.2.2.1, ⟨hk.1.2.2.2.1, ⟨hk.2, hk.1.2.2.2.2⟩⟩⟩⟩⟩)), (bk_ BK604), (bl_ HB)⟩)}}
 {
 skip
 clear HO600 HO603 HO607 HO610 HO613 BK604 HB
 rintro ⟨v616, v622⟩ w35 ⟨hS_, h0_, h1_, h2_, h3_, h4_, h5_, h6_, h7_, h8_⟩
 (try dsimp only at h0_ h1_ h2_ h3_ h4_ h5_ h6_ h7_ h8_)
 have HO600 := Aside0.mk h0_
 have HO603 := Aside0.mk h1_
 have HO607 := Aside0.mk h2_
 have HO610 := Aside0.mk h3_
 have HO613 := Aside0.mk h4_
 have HO617 := Aside0.mk h5_
 have HO623 := Aside0.mk h6_
 have BK604 := Aside0.mk h7_
 have HB := Aside0.mk h8_
 clear h0_ h1_ h2_ h3_ h4_ h5_ h6_ h7_ h8_
 have hHeld : w35.cell? ⟨gb604, 0, none⟩ = some (.int .i64 t596) ∧ w35.cell? ⟨gb604, 1, none⟩ = some (.int .i64 t597) ∧ w35.cell? ⟨gb604, 2, none⟩ = some (.slice Ao21 t598.length co21) ∧ w35.cell? ⟨gb604, 3, none⟩ = some (.slice Ao22 t601.length co22) := hS_
 refine norm_ (a' := ?_) ?_ ?_
 rotate_left
 {
 simp only [putAll, Act.put, List.setIfInBounds_toArray, List.set_cons_zero, List.set_cons_succ]
 rfl}
 refine two_ (i := 2) (j := 4) (Ni := some 20) (Nj := some 22) (B_ 12 15) (B_ 12 27) rfl rfl rfl rfl (two_of HT_.out kf_) (by decide) (by decide) (fun K hK => ?_) (fun K hK => ?_)
 {
 skip
 obtain ⟨Ao36, co36, eo36⟩ := Kd.R_slice HO617.out
 (first | subst eo36 | (injection eo36 with f1_ f2_ f3_; have f4_ := f1_.symm; have f5_ := f3_.symm; clear f1_ f2_ f3_; subst f4_; subst f5_))
 refine Kd.N_lit_step (Kd.slice 3 (Kd.int .i64)) _ 22 ?hg (N' := 20) ?hd (xs := ([y615] : List (List Int))) (inner := [.slice Ao36 y615.length co36]) (ok := (fun k_ => some k_ ≠ (.slice Ao21 t598.length co21 : Value).ownBlock ∧ some k_ ≠ (.slice Ao22 t601.length co22 : Value).ownBlock ∧ some k_ ≠ (.slice Ao28 y605.length co28 : Value).ownBlock ∧ some k_ ≠ (.slice Ao27 y608.length co27 : Value).ownBlock ∧ some k_ ≠ (v622 : Value).ownBlock ∧ k_ ≠ gb604)) (okp := (fun k_ => some k_ ≠ (.slice Ao21 t598.length co21 : Value).ownBlock ∧ some k_ ≠ (.slice Ao22 t601.length co22 : Value).ownBlock ∧ some k_ ≠ (.slice Ao28 y605.length co28 : Value).ownBlock ∧ some k_ ≠ (.slice Ao27 y608.length co27 : Value).ownBlock ∧ some k_ ≠ (v622 : Value).ownBlock ∧ k_ ≠ gb604)) ?hr ?hp (fun _ hk => hk) (fr_ (P := (fun k_ => some k_ ≠ (.slice Ao21 t598.length co21 : Value).ownBlock ∧ some k_ ≠ (.slice Ao22 t601.length co22 : Value).ownBlock ∧ some k_ ≠ (.slice Ao28 y605.length co28 : Value).ownBlock ∧ some k_ ≠ (.slice Ao27 y608.length co27 : Value).ownBlock ∧ some k_ ≠ (v622 : Value).ownBlock ∧ k_ ≠ gb604)) (fun k_ hk => ⟨Kd.fresh' (Kd.R_lt (kR_ HO600)) k_ hk, Kd.fresh' (Kd.R_lt (kR_ HO603)) k_ hk, Kd.fresh' (Kd.N_lt (kN_ HO607)) k_ hk, Kd.fresh' (Kd.N_lt (kN_ HO610)) k_ hk, Kd.fresh' (Kd.R_lt (kR_ HO623)) k_ hk, Kd.freshB (g := gb604) (o := .cells #[.int .i64 t596, .int .i64 t597, .slice Ao21 t598.length co21, .slice Ao22 t601.length co22] 24 (0, 0)) (bk_ BK604) k_ hk⟩)) (Below.refl _ _) (Nat.le_refl _) (by simp) ?_; (case hd => rfl); (case hg => rfl); (case hr => first | (go_simp; done) | (go_simp; rfl)); (case hp => exact (Reps.one (show Kd.FK (Kd.slice 3 (Kd.int .i64)) _ _ y615 [.slice Ao36 y615.length co36] from (Kd.FK_slice_mk (Kd.R_reads' (Kd.R_mono (ok' := (fun k_ => some k_ ≠ (.slice Ao21 t598.length co21 : Value).ownBlock ∧ some k_ ≠ (.slice Ao22 t601.length co22 : Value).ownBlock ∧ some k_ ≠ (.slice Ao28 y605.length co28 : Value).ownBlock ∧ some k_ ≠ (.slice Ao27 y608.length co27 : Value).ownBlock ∧ some k_ ≠ (v622 : Value).ownBlock ∧ k_ ≠ gb604)) (Kd.R_types (Kd.R_apart' (Kd.R_apart' (Kd.R_apart' (HO617.out) (Kd.N_typed HO607.out) (by decide)) (Kd.N_typed HO610.out) (by decide)) (Kd.R_typed HO623.out) (by decide)) BK604.out (by decide)) (fun k_ hk => ⟨hk.1.1.1.1.1, ⟨hk.1.1.1.1.2, ⟨hk.1.1.1.2, ⟨hk.1.1.2, ⟨hk.1.2, hk.2⟩⟩⟩⟩⟩))).2.1 (Kd.R_F (Kd.R_mono (ok' := (fun k_ => some k_ ≠ (.slice Ao21 t598.length co21 : Value).ownBlock ∧ some k_ ≠ (.slice Ao22 t601.length co22 : Value).ownBlock ∧ some k_ ≠ (.slice Ao28 y605.length co28 : Value).ownBlock ∧ some k_ ≠ (.slice Ao27 y608.length co27 : Value).ownBlock ∧ some k_ ≠ (v622 : Value).ownBlock ∧ k_ ≠ gb604)) (Kd.R_types (Kd.R_apart' (Kd.R_apart' (Kd.R_apart' (HO617.out) (Kd.N_typed HO607.out) (by decide)) (Kd.N_typed HO610.out) (by decide)) (Kd.R_typed HO623.out) (by decide)) BK604.out (by decide)) (fun k_ hk => ⟨hk.1.1.1.1.1, ⟨hk.1.1.1.1.2, ⟨hk.1.1.1.2, ⟨hk.1.1.2, ⟨hk.1.2, hk.2⟩⟩⟩⟩⟩))))) (Reps.none _ _)))
 intro v619 w37 ho38 hb hg_ hnew_
 clear hg_ hnew_
 (first | rw [← Ny618.out] at ho38 | (simp only [Int.reduceToNat] at ho38; rw [← Ny618.out] at ho38))
 replace HO600 := FR_ HO600 hb
 replace HO603 := FR_ HO603 hb
 replace HO607 := Aside0.mk (Kd.N_elder' (kN_ HO607) (Kd.N_base ho38) hb)
 replace HO610 := Aside0.mk (Kd.N_elder' (kN_ HO610) (Kd.N_base ho38) hb)
 replace HO613 := Aside0.mk (Kd.V_elder' (kV_ HO613) (Kd.N_base ho38) hb)
 replace HO623 := FR_ HO623 hb
 have HO620 := Aside0.mk (Kd.N_lower ho38 (bs_ HB))
 replace BK604 := FB_ BK604 hb
 replace HB := BS_ HB hb
 clear HO617
 clear hb ho38
 refine hK.out _ _ ⟨ce_ BK604 0, ce_ BK604 1, ce_ BK604 2, ce_ BK604 3⟩ (fun hHeld => ?_)
 clear hK K
 refine norm_ (a' := ?_) ?_ ?_
 rotate_left
 {
 show Act.put _ (some 20) _ = _
 exact sp_}
 exact norm_ (by first | (simp only [putAll, Act.put, List.setIfInBounds_toArray, List.set_cons_zero, List.set_cons_succ]; done) | (simp only [putAll, Act.put, List.setIfInBounds_toArray, List.set_cons_zero, List.set_cons_succ]; rfl)) (hJ1_2_3 (.slice Ao36 y615.length co36, v619, v622) _ ⟨hHeld, (by (with_reducible repeat (first | apply Kd.R_alloc | apply Kd.R_drewN | apply Kd.R_drew)); exact Kd.R_mono HO600.out (fun _ hk => hk.1)), (by (with_reducible repeat (first | apply Kd.R_alloc | apply Kd.R_drewN | apply Kd.R_drew)); exact Kd.R_mono HO603.out (fun _ hk => hk.1)), (by (with_reducible repeat (first | apply Kd.N_alloc | apply Kd.N_drewN | apply Kd.N_drew)); exact Kd.N_mono HO607.out (fun _ hk => ⟨hk.1.1, ⟨hk.1.2.1, ⟨hk.1.2.2.1, ⟨hk.2, ⟨hk.1.2.2.2.2.1, hk.1.2.2.2.2.2⟩⟩⟩⟩⟩)), (by (with_reducible repeat (first | apply Kd.N_alloc | apply Kd.N_drewN | apply Kd.N_drew)); exact Kd.N_mono HO610.out (fun _ hk => ⟨hk.1.1, ⟨hk.1.2.1, ⟨hk.1.2.2.1, ⟨hk.2, ⟨hk.1.2.2.2.2.1, hk.1.2.2.2.2.2⟩⟩⟩⟩⟩)), (by (with_reducible repeat (first | apply Kd.V_alloc | apply Kd.V_drewN | apply Kd.V_drew)); exact Kd.V_mono HO613.out (fun _ hk => ⟨hk.1.1, ⟨hk.1.2.1, ⟨hk.1.2.2.1, ⟨hk.1.2.2.2.1, ⟨hk.2, ⟨hk.1.2.2.2.2.2.1, hk.1.2.2.2.2.2.2⟩⟩⟩⟩⟩⟩)), (kN_ HO620), (kR_ HO623), (bk_ BK604), (bl_ HB)⟩)}
 {
 skip
 obtain ⟨Ao36, co36, eo36⟩ := Kd.R_slice HO623.out
 (first | subst eo36 | (injection eo36 with f1_ f2_ f3_; have f4_ := f1_.symm; have f5_ := f3_.symm; clear f1_ f2_ f3_; subst f4_; subst f5_))
 refine Kd.N_lit_step (Kd.slice 2 (Kd.int .i64)) _ 84 ?hg (N' := 22) ?hd (xs := ([y621] : List (List Int))) (inner := [.slice Ao36 y621.length co36]) (ok := (fun k_ => some k_ ≠ (.slice Ao21 t598.length co21 : Value).ownBlock ∧ some k_ ≠ (.slice Ao22 t601.length co22 : Value).ownBlock ∧ some k_ ≠ (.slice Ao28 y605.length co28 : Value).ownBlock ∧ some k_ ≠ (.slice Ao27 y608.length co27 : Value).ownBlock ∧ some k_ ≠ (v616 : Value).ownBlock ∧ k_ ≠ gb604)) (okp := (fun k_ => some k_ ≠ (.slice Ao21 t598.length co21 : Value).ownBlock ∧ some k_ ≠ (.slice Ao22 t601.length co22 : Value).ownBlock ∧ some k_ ≠ (.slice Ao28 y605.length co28 : Value).ownBlock ∧ some k_ ≠ (.slice Ao27 y608.length co27 : Value).ownBlock ∧ some k_ ≠ (v616 : Value).ownBlock ∧ k_ ≠ gb604)) ?hr ?hp (fun _ hk => hk) (fr_ (P := (fun k_ => some k_ ≠ (.slice Ao21 t598.length co21 : Value).ownBlock ∧ some k_ ≠ (.slice Ao22 t601.length co22 : Value).ownBlock ∧ some k_ ≠ (.slice Ao28 y605.length co28 : Value).ownBlock ∧ some k_ ≠ (.slice Ao27 y608.length co27 : Value).ownBlock ∧ some k_ ≠ (v616 : Value).ownBlock ∧ k_ ≠ gb604)) (fun k_ hk => ⟨Kd.fresh' (Kd.R_lt (kR_ HO600)) k_ hk, Kd.fresh' (Kd.R_lt (kR_ HO603)) k_ hk, Kd.fresh' (Kd.N_lt (kN_ HO607)) k_ hk, Kd.fresh' (Kd.N_lt (kN_ HO610)) k_ hk, Kd.fresh' (Kd.R_lt (kR_ HO617)) k_ hk, Kd.freshB (g := gb604) (o := .cells #[.int .i64 t596, .int .i64 t597, .slice Ao21 t598.length co21, .slice Ao22 t601.length co22] 24 (0, 0)) (bk_ BK604) k_ hk⟩)) (Below.refl _ _) (Nat.le_refl _) (by simp) ?_; (case hd => rfl); (case hg => rfl); (case hr => first | (go_simp; done) | (go_simp; rfl)); (case hp => exact (Reps.one (show Kd.FK (Kd.slice 2 (Kd.int .i64)) _ _ y621 [.slice Ao36 y621.length co36] from (Kd.FK_slice_mk (Kd.R_reads' (Kd.R_mono (ok' := (fun k_ => some k_ ≠ (.slice Ao21 t598.length co21 : Value).ownBlock ∧ some k_ ≠ (.slice Ao22 t601.length co22 : Value).ownBlock ∧ some k_ ≠ (.slice Ao28 y605.length co28 : Value).ownBlock ∧ some k_ ≠ (.slice Ao27 y608.length co27 : Value).ownBlock ∧ some k_ ≠ (v616 : Value).ownBlock ∧ k_ ≠ gb604)) (Kd.R_types (Kd.R_apart' (Kd.R_apart' (Kd.R_apart' (Kd.R_apart' (Kd.R_apart' (HO623.out) (Kd.R_typed HO600.out) (by decide)) (Kd.R_typed HO603.out) (by decide)) (Kd.N_typed HO607.out) (by decide)) (Kd.N_typed HO610.out) (by decide)) (Kd.R_typed HO617.out) (by decide)) BK604.out (by decide)) (fun k_ hk => ⟨hk.1.1.1.1.1.2, ⟨hk.1.1.1.1.2, ⟨hk.1.1.1.2, ⟨hk.1.1.2, ⟨hk.1.2, hk.2⟩⟩⟩⟩⟩))).2.1 (Kd.R_F (Kd.R_mono (ok' := (fun k_ => some k_ ≠ (.slice Ao21 t598.length co21 : Value).ownBlock ∧ some k_ ≠ (.slice Ao22 t601.length co22 : Value).ownBlock ∧ some k_ ≠ (.slice Ao28 y605.length co28 : Value).ownBlock ∧ some k_ ≠ (.slice Ao27 y608.length co27 : Value).ownBlock ∧ some k_ ≠ (v616 : Value).ownBlock ∧ k_ ≠ gb604)) (Kd.R_types (Kd.R_apart' (Kd.R_apart' (Kd.R_apart' (Kd.R_apart' (Kd.R_apart' (HO623.out) (Kd.R_typed HO600.out) (by decide)) (Kd.R_typed HO603.out) (by decide)) (Kd.N_typed HO607.out) (by decide)) (Kd.N_typed HO610.out) (by decide)) (Kd.R_typed HO617.out) (by decide)) BK604.out (by decide)) (fun k_ hk => ⟨hk.1.1.1.1.1.2, ⟨hk.1.1.1.1.2, ⟨hk.1.1.1.2, ⟨hk.1.1.2, ⟨hk.1.2, hk.2⟩⟩⟩⟩⟩))))) (Reps.none _ _)))
 intro v625 w37 ho38 hb hg_ hnew_
 clear hg_ hnew_
 (first | rw [← Ny624.out] at ho38 | (simp only [Int.reduceToNat] at ho38; rw [← Ny624.out] at ho38))
 replace HO600 := FR_ HO600 hb
 replace HO603 := FR_ HO603 hb
 replace HO607 := Aside0.mk (Kd.N_elder' (kN_ HO607) (Kd.N_base ho38) hb)
 replace HO610 := Aside0.mk (Kd.N_elder' (kN_ HO610) (Kd.N_base ho38) hb)
 replace HO613 := Aside0.mk (Kd.V_elder' (kV_ HO613) (Kd.N_base ho38) hb)
 replace HO617 := FR_ HO617 hb
 have HO626 := Aside0.mk (Kd.N_lower ho38 (bs_ HB))
 replace BK604 := FB_ BK604 hb
 replace HB := BS_ HB hb
 clear HO623
 clear hb ho38
 refine hK.out _ _ ⟨ce_ BK604 0, ce_ BK604 1, ce_ BK604 2, ce_ BK604 3⟩ (fun hHeld => ?_)
 clear hK K
 refine norm_ (a' := ?_) ?_ ?_
 rotate_left
 {
 show Act.put _ (some 22) _ = _
 exact sp_}
 exact norm_ (by first | (simp only [putAll, Act.put, List.setIfInBounds_toArray, List.set_cons_zero, List.set_cons_succ]; done) | (simp only [putAll, Act.put, List.setIfInBounds_toArray, List.set_cons_zero, List.set_cons_succ]; rfl)) (hJ1_3_4 (v616, .slice Ao36 y621.length co36, v625) _ ⟨hHeld, (kR_ HO600), (kR_ HO603), (by (with_reducible repeat (first | apply Kd.N_alloc | apply Kd.N_drewN | apply Kd.N_drew)); exact Kd.N_mono HO607.out (fun _ hk => ⟨hk.1.1, ⟨hk.1.2.1, ⟨hk.1.2.2.1, ⟨hk.1.2.2.2.1, ⟨hk.2, hk.1.2.2.2.2.2⟩⟩⟩⟩⟩)), (by (with_reducible repeat (first | apply Kd.N_alloc | apply Kd.N_drewN | apply Kd.N_drew)); exact Kd.N_mono HO610.out (fun _ hk => ⟨hk.1.1, ⟨hk.1.2.1, ⟨hk.1.2.2.1, ⟨hk.1.2.2.2.1, ⟨hk.2, hk.1.2.2.2.2.2⟩⟩⟩⟩⟩)), (by (with_reducible repeat (first | apply Kd.V_alloc | apply Kd.V_drewN | apply Kd.V_drew)); exact Kd.V_mono HO613.out (fun _ hk => ⟨hk.1.1, ⟨hk.1.2.1, ⟨hk.1.2.2.1, ⟨hk.1.2.2.2.1, ⟨hk.1.2.2.2.2.1, ⟨hk.2, hk.1.2.2.2.2.2.2⟩⟩⟩⟩⟩⟩)), (kR_ HO617), (kN_ HO626), (bk_ BK604), (bl_ HB)⟩)}}}
 {
 skip
 clear HO600 HO603 HO607 HO610 HO613 BK604 HB
 rintro ⟨v616, v619⟩ w36 ⟨hS_, h0_, h1_, h2_, h3_, h4_, h5_, h6_, h7_⟩
 (try dsimp only at h0_ h1_ h2_ h3_ h4_ h5_ h6_ h7_)
 have HO600 := Aside0.mk h0_
 have HO603 := Aside0.mk h1_
 have HO607 := Aside0.mk h2_
 have HO610 := Aside0.mk h3_
 have HO613 := Aside0.mk h4_
 have HO620 := Aside0.mk h5_
 have BK604 := Aside0.mk h6_
 have HB := Aside0.mk h7_
 clear h0_ h1_ h2_ h3_ h4_ h5_ h6_ h7_
 have hHeld : w36.cell? ⟨gb604, 0, none⟩ = some (.int .i64 t596) ∧ w36.cell? ⟨gb604, 1, none⟩ = some (.int .i64 t597) ∧ w36.cell? ⟨gb604, 2, none⟩ = some (.slice Ao21 t598.length co21) ∧ w36.cell? ⟨gb604, 3, none⟩ = some (.slice Ao22 t601.length co22) := hS_
 refine norm_ (a' := ?_) ?_ ?_
 rotate_left
 {
 simp only [putAll, Act.put, List.setIfInBounds_toArray, List.set_cons_zero, List.set_cons_succ]
 rfl}
 refine one_ (i := 3) (N := some 21) (B_ 12 15) rfl rfl (one_of HT_.out kf_) (by decide) (fun K hK => ?_)
 refine Kd.R_make_step (Kd.int .i64) _ 2 (by rfl) (N := 21) rfl 84 _ _ rfl 16 rfl rfl Try.underlying84 (.int .i64 0) 8 info2 rfl (by decide) (by omega) 0 (ok := fun _ => True) (okp := fun _ => True) rfl (fun _ hk => hk) trivial (by omega) (by omega) (Below.refl _ _) (Nat.le_refl _) ?_
 intro v622 w37 ho38 hb hg_ hnew_
 clear hg_ hnew_
 (first | rw [← Ny621.out] at ho38 | (simp only [Int.reduceToNat] at ho38; rw [← Ny621.out] at ho38))
 replace HO600 := FR_ HO600 hb
 replace HO603 := FR_ HO603 hb
 replace HO607 := Aside0.mk (Kd.N_elder' (kN_ HO607) (Kd.R_base ho38) hb)
 replace HO610 := Aside0.mk (Kd.N_elder' (kN_ HO610) (Kd.R_base ho38) hb)
 replace HO613 := Aside0.mk (Kd.V_elder' (kV_ HO613) (Kd.R_base ho38) hb)
 replace HO620 := Aside0.mk (Kd.N_elder' (kN_ HO620) (Kd.R_base ho38) hb)
 have HO623 := Aside0.mk (Kd.R_lower ho38 (bs_ HB))
 replace BK604 := FB_ BK604 hb
 replace HB := BS_ HB hb
 clear hb ho38
 refine hK.out _ _ ⟨ce_ BK604 0, ce_ BK604 1, ce_ BK604 2, ce_ BK604 3⟩ (fun hHeld => ?_)
 clear hK K
 refine norm_ (a' := ?_) ?_ ?_
 rotate_left
 {
 show Act.put _ (some 21) _ = _
 exact sp_}
 exact norm_ (by first | (simp only [putAll, Act.put, List.setIfInBounds_toArray, List.set_cons_zero, List.set_cons_succ]; done) | (simp only [putAll, Act.put, List.setIfInBounds_toArray, List.set_cons_zero, List.set_cons_succ]; rfl)) (hJ1_2_3 (v616, v619, v622) _ ⟨hHeld, (kR_ HO600), (kR_ HO603), (by (with_reducible repeat (first | apply Kd.N_alloc | apply Kd.N_drewN | apply Kd.N_drew)); exact Kd.N_mono HO607.out (fun _ hk => ⟨hk.1.1, ⟨hk.1.2.1, ⟨hk.1.2.2.1, ⟨hk.1.2.2.2.1, ⟨hk.2, hk.1.2.2.2.2⟩⟩⟩⟩⟩)), (by (with_reducible repeat (first | apply Kd.N_alloc | apply Kd.N_drewN | apply Kd.N_drew)); exact Kd.N_mono HO610.out (fun _ hk => ⟨hk.1.1, ⟨hk.1.2.1, ⟨hk.1.2.2.1, ⟨hk.1.2.2.2.1, ⟨hk.2, hk.1.2.2.2.2⟩⟩⟩⟩⟩)), (by (with_reducible repeat (first | apply Kd.V_alloc | apply Kd.V_drewN | apply Kd.V_drew)); exact Kd.V_mono HO613.out (fun _ hk => ⟨hk.1.1, ⟨hk.1.2.1, ⟨hk.1.2.2.1, ⟨hk.1.2.2.2.1, ⟨hk.1.2.2.2.2.1, ⟨hk.2, hk.1.2.2.2.2.2⟩⟩⟩⟩⟩⟩)), (by (with_reducible repeat (first | apply Kd.N_alloc | apply Kd.N_drewN | apply Kd.N_drew)); exact Kd.N_mono HO620.out (fun _ hk => ⟨hk.1.1, ⟨hk.1.2.1, ⟨hk.1.2.2.1, ⟨hk.1.2.2.2.1, ⟨hk.2, hk.1.2.2.2.2⟩⟩⟩⟩⟩)), (kR_ HO623), (bk_ BK604), (bl_ HB)⟩)}}
 {
 skip
 clear HO600 HO603 HO607 HO610 HO613 BK604 HB
 rintro ⟨v616, v622, v625⟩ w38 ⟨hS_, h0_, h1_, h2_, h3_, h4_, h5_, h6_, h7_, h8_⟩
 (try dsimp only at h0_ h1_ h2_ h3_ h4_ h5_ h6_ h7_ h8_)
 have HO600 := Aside0.mk h0_
 have HO603 := Aside0.mk h1_
 have HO607 := Aside0.mk h2_
 have HO610 := Aside0.mk h3_
 have HO613 := Aside0.mk h4_
 have HO617 := Aside0.mk h5_
 have HO626 := Aside0.mk h6_
 have BK604 := Aside0.mk h7_
 have HB := Aside0.mk h8_
 clear h0_ h1_ h2_ h3_ h4_ h5_ h6_ h7_ h8_
 have hHeld : w38.cell? ⟨gb604, 0, none⟩ = some (.int .i64 t596) ∧ w38.cell? ⟨gb604, 1, none⟩ = some (.int .i64 t597) ∧ w38.cell? ⟨gb604, 2, none⟩ = some (.slice Ao21 t598.length co21) ∧ w38.cell? ⟨gb604, 3, none⟩ = some (.slice Ao22 t601.length co22) := hS_
 obtain ⟨Ao39, co39, eo39⟩ := Kd.R_slice HO617.out
 (first | subst eo39 | (injection eo39 with f1_ f2_ f3_; have f4_ := f1_.symm; have f5_ := f3_.symm; clear f1_ f2_ f3_; subst f4_; subst f5_))
 refine norm_ (a' := ?_) ?_ ?_
 rotate_left
 {
 simp only [putAll, Act.put, List.setIfInBounds_toArray, List.set_cons_zero, List.set_cons_succ]
 rfl}
 refine one_ (i := 2) (N := some 20) (B_ 12 31) rfl rfl (one_of HT_.out kf_) (by decide) (fun K hK => ?_)
 refine Kd.N_lit_step (Kd.slice 3 (Kd.int .i64)) _ 22 ?hg (N' := 20) ?hd (xs := ([y615] : List (List Int))) (inner := [.slice Ao39 y615.length co39]) (ok := (fun k_ => some k_ ≠ (.slice Ao21 t598.length co21 : Value).ownBlock ∧ some k_ ≠ (.slice Ao22 t601.length co22 : Value).ownBlock ∧ some k_ ≠ (.slice Ao28 y605.length co28 : Value).ownBlock ∧ some k_ ≠ (.slice Ao27 y608.length co27 : Value).ownBlock ∧ some k_ ≠ (v625 : Value).ownBlock ∧ k_ ≠ gb604)) (okp := (fun k_ => some k_ ≠ (.slice Ao21 t598.length co21 : Value).ownBlock ∧ some k_ ≠ (.slice Ao22 t601.length co22 : Value).ownBlock ∧ some k_ ≠ (.slice Ao28 y605.length co28 : Value).ownBlock ∧ some k_ ≠ (.slice Ao27 y608.length co27 : Value).ownBlock ∧ some k_ ≠ (v625 : Value).ownBlock ∧ k_ ≠ gb604)) ?hr ?hp (fun _ hk => hk) (fr_ (P := (fun k_ => some k_ ≠ (.slice Ao21 t598.length co21 : Value).ownBlock ∧ some k_ ≠ (.slice Ao22 t601.length co22 : Value).ownBlock ∧ some k_ ≠ (.slice Ao28 y605.length co28 : Value).ownBlock ∧ some k_ ≠ (.slice Ao27 y608.length co27 : Value).ownBlock ∧ some k_ ≠ (v625 : Value).ownBlock ∧ k_ ≠ gb604)) (fun k_ hk => ⟨Kd.fresh' (Kd.R_lt (kR_ HO600)) k_ hk, Kd.fresh' (Kd.R_lt (kR_ HO603)) k_ hk, Kd.fresh' (Kd.N_lt (kN_ HO607)) k_ hk, Kd.fresh' (Kd.N_lt (kN_ HO610)) k_ hk, Kd.fresh' (Kd.N_lt (kN_ HO626)) k_ hk, Kd.freshB (g := gb604) (o := .cells #[.int .i64 t596, .int .i64 t597, .slice Ao21 t598.length co21, .slice Ao22 t601.length co22] 24 (0, 0)) (bk_ BK604) k_ hk⟩)) (Below.refl _ _) (Nat.le_refl _) (by simp) ?_; (case hd => rfl); (case hg => rfl); (case hr => first | (go_simp; done) | (go_simp; rfl)); (case hp => exact (Reps.one (show Kd.FK (Kd.slice 3 (Kd.int .i64)) _ _ y615 [.slice Ao39 y615.length co39] from (Kd.FK_slice_mk (Kd.R_reads' (Kd.R_mono (ok' := (fun k_ => some k_ ≠ (.slice Ao21 t598.length co21 : Value).ownBlock ∧ some k_ ≠ (.slice Ao22 t601.length co22 : Value).ownBlock ∧ some k_ ≠ (.slice Ao28 y605.length co28 : Value).ownBlock ∧ some k_ ≠ (.slice Ao27 y608.length co27 : Value).ownBlock ∧ some k_ ≠ (v625 : Value).ownBlock ∧ k_ ≠ gb604)) (Kd.R_types (Kd.R_apart' (Kd.R_apart' (Kd.R_apart' (HO617.out) (Kd.N_typed HO607.out) (by decide)) (Kd.N_typed HO610.out) (by decide)) (Kd.N_typed HO626.out) (by decide)) BK604.out (by decide)) (fun k_ hk => ⟨hk.1.1.1.1.1, ⟨hk.1.1.1.1.2, ⟨hk.1.1.1.2, ⟨hk.1.1.2, ⟨hk.1.2, hk.2⟩⟩⟩⟩⟩))).2.1 (Kd.R_F (Kd.R_mono (ok' := (fun k_ => some k_ ≠ (.slice Ao21 t598.length co21 : Value).ownBlock ∧ some k_ ≠ (.slice Ao22 t601.length co22 : Value).ownBlock ∧ some k_ ≠ (.slice Ao28 y605.length co28 : Value).ownBlock ∧ some k_ ≠ (.slice Ao27 y608.length co27 : Value).ownBlock ∧ some k_ ≠ (v625 : Value).ownBlock ∧ k_ ≠ gb604)) (Kd.R_types (Kd.R_apart' (Kd.R_apart' (Kd.R_apart' (HO617.out) (Kd.N_typed HO607.out) (by decide)) (Kd.N_typed HO610.out) (by decide)) (Kd.N_typed HO626.out) (by decide)) BK604.out (by decide)) (fun k_ hk => ⟨hk.1.1.1.1.1, ⟨hk.1.1.1.1.2, ⟨hk.1.1.1.2, ⟨hk.1.1.2, ⟨hk.1.2, hk.2⟩⟩⟩⟩⟩))))) (Reps.none _ _)))
 intro v619 w40 ho41 hb hg_ hnew_
 clear hg_ hnew_
 (first | rw [← Ny618.out] at ho41 | (simp only [Int.reduceToNat] at ho41; rw [← Ny618.out] at ho41))
 replace HO600 := FR_ HO600 hb
 replace HO603 := FR_ HO603 hb
 replace HO607 := Aside0.mk (Kd.N_elder' (kN_ HO607) (Kd.N_base ho41) hb)
 replace HO610 := Aside0.mk (Kd.N_elder' (kN_ HO610) (Kd.N_base ho41) hb)
 replace HO613 := Aside0.mk (Kd.V_elder' (kV_ HO613) (Kd.N_base ho41) hb)
 replace HO626 := Aside0.mk (Kd.N_elder' (kN_ HO626) (Kd.N_base ho41) hb)
 have HO620 := Aside0.mk (Kd.N_lower ho41 (bs_ HB))
 replace BK604 := FB_ BK604 hb
 replace HB := BS_ HB hb
 clear HO617
 clear hb ho41
 obtain ⟨Ao42, co42, eo42⟩ := Kd.N_slice HO626.out
 (first | subst eo42 | (injection eo42 with f1_ f2_ f3_; have f4_ := f1_.symm; have f5_ := f3_.symm; clear f1_ f2_ f3_; subst f4_; subst f5_))
 obtain ⟨Ao43, co43, eo43⟩ := Kd.N_slice HO620.out
 (first | subst eo43 | (injection eo43 with f1_ f2_ f3_; have f4_ := f1_.symm; have f5_ := f3_.symm; clear f1_ f2_ f3_; subst f4_; subst f5_))
 refine hK.out _ _ ⟨ce_ BK604 0, ce_ BK604 1, ce_ BK604 2, ce_ BK604 3⟩ (fun hHeld => ?_)
 clear hK K
 refine norm_ (a' := ?_) ?_ ?_
 rotate_left
 {
 show Act.put _ (some 20) _ = _
 exact sp_}
 exact norm_ (by first | (simp only [putAll, Act.put, List.setIfInBounds_toArray, List.set_cons_zero, List.set_cons_succ]; done) | (simp only [putAll, Act.put, List.setIfInBounds_toArray, List.set_cons_zero, List.set_cons_succ]; rfl)) (hJ1_2_3_4 (.slice Ao39 y615.length co39, .slice Ao43 y618.length co43, v622, .slice Ao42 y624.length co42) _ ⟨hHeld, (by (with_reducible repeat (first | apply Kd.R_alloc | apply Kd.R_drewN | apply Kd.R_drew)); exact Kd.R_mono HO600.out (fun _ hk => hk.1)), (by (with_reducible repeat (first | apply Kd.R_alloc | apply Kd.R_drewN | apply Kd.R_drew)); exact Kd.R_mono HO603.out (fun _ hk => hk.1)), (by (with_reducible repeat (first | apply Kd.N_alloc | apply Kd.N_drewN | apply Kd.N_drew)); exact Kd.N_mono HO607.out (fun _ hk => ⟨hk.1.1, ⟨hk.1.2.1, ⟨hk.1.2.2.1, ⟨hk.2, ⟨hk.1.2.2.2.2.1, hk.1.2.2.2.2.2⟩⟩⟩⟩⟩)), (by (with_reducible repeat (first | apply Kd.N_alloc | apply Kd.N_drewN | apply Kd.N_drew)); exact Kd.N_mono HO610.out (fun _ hk => ⟨hk.1.1, ⟨hk.1.2.1, ⟨hk.1.2.2.1, ⟨hk.2, ⟨hk.1.2.2.2.2.1, hk.1.2.2.2.2.2⟩⟩⟩⟩⟩)), (by (with_reducible repeat (first | apply Kd.V_alloc | apply Kd.V_drewN | apply Kd.V_drew)); exact Kd.V_mono HO613.out (fun _ hk => ⟨hk.1.1, ⟨hk.1.2.1, ⟨hk.1.2.2.1, ⟨hk.1.2.2.2.1, ⟨hk.2, ⟨hk.1.2.2.2.2.2.1, hk.1.2.2.2.2.2.2⟩⟩⟩⟩⟩⟩)), (kN_ HO620), (by (with_reducible repeat (first | apply Kd.N_alloc | apply Kd.N_drewN | apply Kd.N_drew)); exact Kd.N_mono HO626.out (fun _ hk => ⟨hk.1.1, ⟨hk.1.2.1, ⟨hk.1.2.2.1, ⟨hk.1.2.2.2.1, ⟨hk.2, hk.1.2.2.2.2.2⟩⟩⟩⟩⟩)), (bk_ BK604), (bl_ HB)⟩)}}
 {
 skip
 clear HO600 HO603 HO607 HO610 HO613 BK604 HB
 rintro ⟨v616, v619, v622⟩ w38 ⟨hS_, h0_, h1_, h2_, h3_, h4_, h5_, h6_, h7_, h8_⟩
 (try dsimp only at h0_ h1_ h2_ h3_ h4_ h5_ h6_ h7_ h8_)
 have HO600 := Aside0.mk h0_
 have HO603 := Aside0.mk h1_
 have HO607 := Aside0.mk h2_
 have HO610 := Aside0.mk h3_
 have HO613 := Aside0.mk h4_
 have HO620 := Aside0.mk h5_
 have HO623 := Aside0.mk h6_
 have BK604 := Aside0.mk h7_
 have HB := Aside0.mk h8_
 clear h0_ h1_ h2_ h3_ h4_ h5_ h6_ h7_ h8_
 have hHeld : w38.cell? ⟨gb604, 0, none⟩ = some (.int .i64 t596) ∧ w38.cell? ⟨gb604, 1, none⟩ = some (.int .i64 t597) ∧ w38.cell? ⟨gb604, 2, none⟩ = some (.slice Ao21 t598.length co21) ∧ w38.cell? ⟨gb604, 3, none⟩ = some (.slice Ao22 t601.length co22) := hS_
 obtain ⟨Ao39, co39, eo39⟩ := Kd.R_slice HO623.out
 (first | subst eo39 | (injection eo39 with f1_ f2_ f3_; have f4_ := f1_.symm; have f5_ := f3_.symm; clear f1_ f2_ f3_; subst f4_; subst f5_))
 refine norm_ (a' := ?_) ?_ ?_
 rotate_left
 {
 simp only [putAll, Act.put, List.setIfInBounds_toArray, List.set_cons_zero, List.set_cons_succ]
 rfl}
 refine one_ (i := 4) (N := some 22) (B_ 12 31) rfl rfl (one_of HT_.out kf_) (by decide) (fun K hK => ?_)
 refine Kd.N_lit_step (Kd.slice 2 (Kd.int .i64)) _ 84 ?hg (N' := 22) ?hd (xs := ([y621] : List (List Int))) (inner := [.slice Ao39 y621.length co39]) (ok := (fun k_ => some k_ ≠ (.slice Ao21 t598.length co21 : Value).ownBlock ∧ some k_ ≠ (.slice Ao22 t601.length co22 : Value).ownBlock ∧ some k_ ≠ (.slice Ao28 y605.length co28 : Value).ownBlock ∧ some k_ ≠ (.slice Ao27 y608.length co27 : Value).ownBlock ∧ some k_ ≠ (v619 : Value).ownBlock ∧ k_ ≠ gb604)) (okp := (fun k_ => some k_ ≠ (.slice Ao21 t598.length co21 : Value).ownBlock ∧ some k_ ≠ (.slice Ao22 t601.length co22 : Value).ownBlock ∧ some k_ ≠ (.slice Ao28 y605.length co28 : Value).ownBlock ∧ some k_ ≠ (.slice Ao27 y608.length co27 : Value).ownBlock ∧ some k_ ≠ (v619 : Value).ownBlock ∧ k_ ≠ gb604)) ?hr ?hp (fun _ hk => hk) (fr_ (P := (fun k_ => some k_ ≠ (.slice Ao21 t598.length co21 : Value).ownBlock ∧ some k_ ≠ (.slice Ao22 t601.length co22 : Value).ownBlock ∧ some k_ ≠ (.slice Ao28 y605.length co28 : Value).ownBlock ∧ some k_ ≠ (.slice Ao27 y608.length co27 : Value).ownBlock ∧ some k_ ≠ (v619 : Value).ownBlock ∧ k_ ≠ gb604)) (fun k_ hk => ⟨Kd.fresh' (Kd.R_lt (kR_ HO600)) k_ hk, Kd.fresh' (Kd.R_lt (kR_ HO603)) k_ hk, Kd.fresh' (Kd.N_lt (kN_ HO607)) k_ hk, Kd.fresh' (Kd.N_lt (kN_ HO610)) k_ hk, Kd.fresh' (Kd.N_lt (kN_ HO620)) k_ hk, Kd.freshB (g := gb604) (o := .cells #[.int .i64 t596, .int .i64 t597, .slice Ao21 t598.length co21, .slice Ao22 t601.length co22] 24 (0, 0)) (bk_ BK604) k_ hk⟩)) (Below.refl _ _) (Nat.le_refl _) (by simp) ?_; (case hd => rfl); (case hg => rfl); (case hr => first | (go_simp; done) | (go_simp; rfl)); (case hp => exact (Reps.one (show Kd.FK (Kd.slice 2 (Kd.int .i64)) _ _ y621 [.slice Ao39 y621.length co39] from (Kd.FK_slice_mk (Kd.R_reads' (Kd.R_mono (ok' := (fun k_ => some k_ ≠ (.slice Ao21 t598.length co21 : Value).ownBlock ∧ some k_ ≠ (.slice Ao22 t601.length co22 : Value).ownBlock ∧ some k_ ≠ (.slice Ao28 y605.length co28 : Value).ownBlock ∧ some k_ ≠ (.slice Ao27 y608.length co27 : Value).ownBlock ∧ some k_ ≠ (v619 : Value).ownBlock ∧ k_ ≠ gb604)) (Kd.R_types (Kd.R_apart' (Kd.R_apart' (Kd.R_apart' (Kd.R_apart' (Kd.R_apart' (HO623.out) (Kd.R_typed HO600.out) (by decide)) (Kd.R_typed HO603.out) (by decide)) (Kd.N_typed HO607.out) (by decide)) (Kd.N_typed HO610.out) (by decide)) (Kd.N_typed HO620.out) (by decide)) BK604.out (by decide)) (fun k_ hk => ⟨hk.1.1.1.1.1.2, ⟨hk.1.1.1.1.2, ⟨hk.1.1.1.2, ⟨hk.1.1.2, ⟨hk.1.2, hk.2⟩⟩⟩⟩⟩))).2.1 (Kd.R_F (Kd.R_mono (ok' := (fun k_ => some k_ ≠ (.slice Ao21 t598.length co21 : Value).ownBlock ∧ some k_ ≠ (.slice Ao22 t601.length co22 : Value).ownBlock ∧ some k_ ≠ (.slice Ao28 y605.length co28 : Value).ownBlock ∧ some k_ ≠ (.slice Ao27 y608.length co27 : Value).ownBlock ∧ some k_ ≠ (v619 : Value).ownBlock ∧ k_ ≠ gb604)) (Kd.R_types (Kd.R_apart' (Kd.R_apart' (Kd.R_apart' (Kd.R_apart' (Kd.R_apart' (HO623.out) (Kd.R_typed HO600.out) (by decide)) (Kd.R_typed HO603.out) (by decide)) (Kd.N_typed HO607.out) (by decide)) (Kd.N_typed HO610.out) (by decide)) (Kd.N_typed HO620.out) (by decide)) BK604.out (by decide)) (fun k_ hk => ⟨hk.1.1.1.1.1.2, ⟨hk.1.1.1.1.2, ⟨hk.1.1.1.2, ⟨hk.1.1.2, ⟨hk.1.2, hk.2⟩⟩⟩⟩⟩))))) (Reps.none _ _)))
 intro v625 w40 ho41 hb hg_ hnew_
 clear hg_ hnew_
 (first | rw [← Ny624.out] at ho41 | (simp only [Int.reduceToNat] at ho41; rw [← Ny624.out] at ho41))
 replace HO600 := FR_ HO600 hb
 replace HO603 := FR_ HO603 hb
 replace HO607 := Aside0.mk (Kd.N_elder' (kN_ HO607) (Kd.N_base ho41) hb)
 replace HO610 := Aside0.mk (Kd.N_elder' (kN_ HO610) (Kd.N_base ho41) hb)
 replace HO613 := Aside0.mk (Kd.V_elder' (kV_ HO613) (Kd.N_base ho41) hb)
 replace HO620 := Aside0.mk (Kd.N_elder' (kN_ HO620) (Kd.N_base ho41) hb)
 have HO626 := Aside0.mk (Kd.N_lower ho41 (bs_ HB))
 replace BK604 := FB_ BK604 hb
 replace HB := BS_ HB hb
 clear HO623
 clear hb ho41
 obtain ⟨Ao42, co42, eo42⟩ := Kd.N_slice HO626.out
 (first | subst eo42 | (injection eo42 with f1_ f2_ f3_; have f4_ := f1_.symm; have f5_ := f3_.symm; clear f1_ f2_ f3_; subst f4_; subst f5_))
 obtain ⟨Ao43, co43, eo43⟩ := Kd.N_slice HO620.out
 (first | subst eo43 | (injection eo43 with f1_ f2_ f3_; have f4_ := f1_.symm; have f5_ := f3_.symm; clear f1_ f2_ f3_; subst f4_; subst f5_))
 refine hK.out _ _ ⟨ce_ BK604 0, ce_ BK604 1, ce_ BK604 2, ce_ BK604 3⟩ (fun hHeld => ?_)
 clear hK K
 refine norm_ (a' := ?_) ?_ ?_
 rotate_left
 {
 show Act.put _ (some 22) _ = _
 exact sp_}
 exact norm_ (by first | (simp only [putAll, Act.put, List.setIfInBounds_toArray, List.set_cons_zero, List.set_cons_succ]; done) | (simp only [putAll, Act.put, List.setIfInBounds_toArray, List.set_cons_zero, List.set_cons_succ]; rfl)) (hJ1_2_3_4 (v616, .slice Ao43 y618.length co43, .slice Ao39 y621.length co39, .slice Ao42 y624.length co42) _ ⟨hHeld, (kR_ HO600), (kR_ HO603), (by (with_reducible repeat (first | apply Kd.N_alloc | apply Kd.N_drewN | apply Kd.N_drew)); exact Kd.N_mono HO607.out (fun _ hk => ⟨hk.1.1, ⟨hk.1.2.1, ⟨hk.1.2.2.1, ⟨hk.1.2.2.2.1, ⟨hk.2, hk.1.2.2.2.2.2⟩⟩⟩⟩⟩)), (by (with_reducible repeat (first | apply Kd.N_alloc | apply Kd.N_drewN | apply Kd.N_drew)); exact Kd.N_mono HO610.out (fun _ hk => ⟨hk.1.1, ⟨hk.1.2.1, ⟨hk.1.2.2.1, ⟨hk.1.2.2.2.1, ⟨hk.2, hk.1.2.2.2.2.2⟩⟩⟩⟩⟩)), (by (with_reducible repeat (first | apply Kd.V_alloc | apply Kd.V_drewN | apply Kd.V_drew)); exact Kd.V_mono HO613.out (fun _ hk => ⟨hk.1.1, ⟨hk.1.2.1, ⟨hk.1.2.2.1, ⟨hk.1.2.2.2.1, ⟨hk.1.2.2.2.2.1, ⟨hk.2, hk.1.2.2.2.2.2.2⟩⟩⟩⟩⟩⟩)), (by (with_reducible repeat (first | apply Kd.N_alloc | apply Kd.N_drewN | apply Kd.N_drew)); exact Kd.N_mono HO620.out (fun _ hk => ⟨hk.1.1, ⟨hk.1.2.1, ⟨hk.1.2.2.1, ⟨hk.1.2.2.2.1, ⟨hk.2, hk.1.2.2.2.2.2⟩⟩⟩⟩⟩)), (kN_ HO626), (bk_ BK604), (bl_ HB)⟩)}}
 clear HO600 HO603 HO607 HO610 HO613 BK604 HB
 rintro ⟨v616, v619, v622, v625⟩ w43 ⟨hS_, h0_, h1_, h2_, h3_, h4_, h5_, h6_, h7_, h8_⟩
 (try dsimp only at h0_ h1_ h2_ h3_ h4_ h5_ h6_ h7_ h8_)
 have HO600 := Aside0.mk h0_
 have HO603 := Aside0.mk h1_
 have HO607 := Aside0.mk h2_
 have HO610 := Aside0.mk h3_
 have HO613 := Aside0.mk h4_
 have HO620 := Aside0.mk h5_
 have HO626 := Aside0.mk h6_
 have BK604 := Aside0.mk h7_
 have HB := Aside0.mk h8_
 clear h0_ h1_ h2_ h3_ h4_ h5_ h6_ h7_ h8_
 have hHeld : w43.cell? ⟨gb604, 0, none⟩ = some (.int .i64 t596) ∧ w43.cell? ⟨gb604, 1, none⟩ = some (.int .i64 t597) ∧ w43.cell? ⟨gb604, 2, none⟩ = some (.slice Ao21 t598.length co21) ∧ w43.cell? ⟨gb604, 3, none⟩ = some (.slice Ao22 t601.length co22) := hS_
 obtain ⟨Ao44, co44, eo44⟩ := Kd.N_slice HO626.out
 (first | subst eo44 | (injection eo44 with f1_ f2_ f3_; have f4_ := f1_.symm; have f5_ := f3_.symm; clear f1_ f2_ f3_; subst f4_; subst f5_))
 obtain ⟨Ao45, co45, eo45⟩ := Kd.N_slice HO620.out
 (first | subst eo45 | (injection eo45 with f1_ f2_ f3_; have f4_ := f1_.symm; have f5_ := f3_.symm; clear f1_ f2_ f3_; subst f4_; subst f5_))
 refine norm_ (a' := ?_) ?_ ?_
 rotate_left
 {
 simp only [putAll, Act.put, List.setIfInBounds_toArray, List.set_cons_zero, List.set_cons_succ]
 rfl}
 refine pu_ 5 (some 23) (B_ 12 63) HT_ ?_
 refine one_ (i := 6) (N := some 24) (B_ 12 127) rfl rfl (one_of HT_.out kf_) (by decide) (fun K hK => ?_)
 refine goes_ Try.func32 kf_ rfl #[.agg #[.int .i64 t596, .int .i64 t597, .slice Ao21 t598.length co21, .slice Ao22 t601.length co22], .agg #[.slice Ao45 y618.length co45, .slice Ao44 y624.length co44]] (by rfl) rfl rfl ar_ ?_
 with_reducible refine (vpack_Write.calls k t596 t597 _ _ t598 _ _ t601 _ _ y618 _ _ y624 t627 t630 _ ?side1 ?side2 ?side3 ?side4 ?side5 ?side6 ?side7 ?side8 A4.out).mono ?_
 (case side1 => exact kCt_ (Kd.R_reads' HO600.out).2.2)
 (case side2 => exact (Kd.R_reads' HO600.out).2.1)
 (case side3 => exact kCt_ (Kd.R_reads' HO603.out).2.2)
 (case side4 => exact (Kd.R_reads' HO603.out).2.1)
 (case side5 => repeat (first | exact (Kd.N_reads' HO620.out).2.2 | (with_reducible refine Kd.C_alloc ?_ _) | (with_reducible refine Kd.C_drewN ?_ _) | (with_reducible refine Kd.C_drew ?_)))
 (case side6 => exact (Kd.N_reads' HO620.out).2.1)
 (case side7 => repeat (first | exact (Kd.N_reads' HO626.out).2.2 | (with_reducible refine Kd.C_alloc ?_ _) | (with_reducible refine Kd.C_drewN ?_ _) | (with_reducible refine Kd.C_drew ?_)))
 (case side8 => exact (Kd.N_reads' HO626.out).2.1)
 rintro e w46 ⟨v628, rfl, ho0, hb⟩
 refine ⟨_, rfl, ?_⟩
 replace HO613 := FV_ HO613 hb
 have HO629 := Aside0.mk (Kd.V_lower (Kd.V_mono (ok' := fun k_ => some k_ ≠ (.slice Ao21 t598.length co21 : Value).ownBlock ∧ some k_ ≠ (.slice Ao22 t601.length co22 : Value).ownBlock ∧ some k_ ≠ (.slice Ao28 y605.length co28 : Value).ownBlock ∧ some k_ ≠ (.slice Ao27 y608.length co27 : Value).ownBlock ∧ some k_ ≠ (.slice Ao45 y618.length co45 : Value).ownBlock ∧ some k_ ≠ (.slice Ao44 y624.length co44 : Value).ownBlock ∧ k_ ≠ gb604) ho0 (fun k_ hk_ => ⟨(Kd.fresh' (Kd.R_lt (kR_ HO600)) k_ hk_), (Kd.fresh' (Kd.R_lt (kR_ HO603)) k_ hk_), (Kd.fresh' (Kd.N_lt (kN_ HO607)) k_ hk_), (Kd.fresh' (Kd.N_lt (kN_ HO610)) k_ hk_), (Kd.fresh' (Kd.N_lt (kN_ HO620)) k_ hk_), (Kd.fresh' (Kd.N_lt (kN_ HO626)) k_ hk_), (Kd.freshB (g := gb604) (o := .cells #[.int .i64 t596, .int .i64 t597, .slice Ao21 t598.length co21, .slice Ao22 t601.length co22] 24 (0, 0)) (bk_ BK604) k_ hk_)⟩)) (bs_ HB))
 replace HO600 := FR_ HO600 hb
 replace HO603 := FR_ HO603 hb
 replace HO607 := FN_ HO607 hb
 replace HO610 := FN_ HO610 hb
 replace HO620 := FN_ HO620 hb
 replace HO626 := FN_ HO626 hb
 replace BK604 := FB_ BK604 hb
 replace HB := BS_ HB hb
 (try clear hb)
 (try clear hk)
 (try clear ho0)
 refine hK.out _ _ ⟨ce_ BK604 0, ce_ BK604 1, ce_ BK604 2, ce_ BK604 3⟩ (fun hHeld => ?_)
 clear hK K
 refine norm_ (a' := ?_) ?_ ?_
 rotate_left
 {
 show Act.put _ (some 24) _ = _
 exact sp_}
 refine pu_ 7 (some 17) (B_ 12 255) HT_ ?_
 refine pu_ 8 (some 25) (B_ 12 511) HT_ ?_
 refine pu_ 9 (some 26) (B_ 12 1023) HT_ ?_
 refine pu_ 10 (some 4) (B_ 12 2047) HT_ ?_
 refine pu_ 11 (some 5) (B_ 12 4095) HT_ ?_
 refine done_ (done_of HT_.out kf_) ?_
 obtain ⟨hcz47_0, hcz47_1, hcz47_2, hcz47_3, hfz47_0, hfz47_1, hfz47_2, hfz47_3⟩ := e4_ BK604
 obtain ⟨Ao48, co48, eo48⟩ := Kd.V_slice HO629.out
 subst eo48
 try go_wp2_with (first | ((with_reducible refine gate_callee (f := 34) rfl ?_); refine gL_ (some 30) Try.func34 #[.agg #[.int .i64 t596, .int .i64 t597, .slice Ao21 t598.length co21, .slice Ao22 t601.length co22], .slice Ao48 t627.length co48] ?_; (with_reducible refine (vpack_Read.calls k t596 t597 _ _ t598 _ _ t601 _ _ t627 t631 t634 t637 _ ?side1 ?side2 ?side3 ?side4 ?side5 ?side6 A5.out).mono ?_); (case side1 => exact kCt_ (Kd.R_reads' HO600.out).2.2); (case side2 => exact (Kd.R_reads' HO600.out).2.1); (case side3 => exact kCt_ (Kd.R_reads' HO603.out).2.2); (case side4 => exact (Kd.R_reads' HO603.out).2.1); (case side5 => exact kCt_ (Kd.V_reads' HO629.out).2.2); (case side6 => exact (Kd.V_reads' HO629.out).2.1); rintro e w49 ⟨v632, v635, rfl, ho0, ho1, hb⟩; refine ⟨_, rfl, ?_⟩; replace HO613 := Aside0.mk (Kd.V_mono (Kd.V_told (Kd.V_told (Kd.V_old (kV_ HO613) hb) (Kd.S_base ho0)) (Kd.S_base ho1)) (fun _ h_ => h_.1)); replace HO629 := Aside0.mk (Kd.V_mono (Kd.V_told (Kd.V_told (Kd.V_old (kV_ HO629) hb) (Kd.S_base ho0)) (Kd.S_base ho1)) (fun _ h_ => h_.1)); have HO633 := Aside0.mk (Kd.N_lower (Kd.N_mono (ok' := fun k_ => some k_ ≠ (v635 : Value).ownBlock ∧ some k_ ≠ (.slice Ao21 t598.length co21 : Value).ownBlock ∧ some k_ ≠ (.slice Ao22 t601.length co22 : Value).ownBlock ∧ some k_ ≠ (.slice Ao28 y605.length co28 : Value).ownBlock ∧ some k_ ≠ (.slice Ao27 y608.length co27 : Value).ownBlock ∧ some k_ ≠ (.slice Ao45 y618.length co45 : Value).ownBlock ∧ some k_ ≠ (.slice Ao44 y624.length co44 : Value).ownBlock ∧ k_ ≠ gb604) (Kd.S_N (Kd.S_bound (Kd.S_apart' ho0 (Kd.S_typed ho1) (by decide)))) (fun k_ hk_ => ⟨hk_.1.2, (Kd.fresh' (Kd.R_lt (kR_ HO600)) k_ hk_.2.1), (Kd.fresh' (Kd.R_lt (kR_ HO603)) k_ hk_.2.1), (Kd.fresh' (Kd.N_lt (kN_ HO607)) k_ hk_.2.1), (Kd.fresh' (Kd.N_lt (kN_ HO610)) k_ hk_.2.1), (Kd.fresh' (Kd.N_lt (kN_ HO620)) k_ hk_.2.1), (Kd.fresh' (Kd.N_lt (kN_ HO626)) k_ hk_.2.1), (Kd.freshB (g := gb604) (o := .cells #[.int .i64 t596, .int .i64 t597, .slice Ao21 t598.length co21, .slice Ao22 t601.length co22] 24 (0, 0)) (bk_ BK604) k_ hk_.2.1)⟩)) (bs_ HB)); have HO636 := Aside0.mk (Kd.N_lower (Kd.N_mono (ok' := fun k_ => some k_ ≠ (v632 : Value).ownBlock ∧ some k_ ≠ (.slice Ao21 t598.length co21 : Value).ownBlock ∧ some k_ ≠ (.slice Ao22 t601.length co22 : Value).ownBlock ∧ some k_ ≠ (.slice Ao28 y605.length co28 : Value).ownBlock ∧ some k_ ≠ (.slice Ao27 y608.length co27 : Value).ownBlock ∧ some k_ ≠ (.slice Ao45 y618.length co45 : Value).ownBlock ∧ some k_ ≠ (.slice Ao44 y624.length co44 : Value).ownBlock ∧ k_ ≠ gb604) (Kd.S_N (Kd.S_bound (Kd.S_apart' ho1 (Kd.S_typed ho0) (by decide)))) (fun k_ hk_ => ⟨hk_.1.2, (Kd.fresh' (Kd.R_lt (kR_ HO600)) k_ hk_.2.1), (Kd.fresh' (Kd.R_lt (kR_ HO603)) k_ hk_.2.1), (Kd.fresh' (Kd.N_lt (kN_ HO607)) k_ hk_.2.1), (Kd.fresh' (Kd.N_lt (kN_ HO610)) k_ hk_.2.1), (Kd.fresh' (Kd.N_lt (kN_ HO620)) k_ hk_.2.1), (Kd.fresh' (Kd.N_lt (kN_ HO626)) k_ hk_.2.1), (Kd.freshB (g := gb604) (o := .cells #[.int .i64 t596, .int .i64 t597, .slice Ao21 t598.length co21, .slice Ao22 t601.length co22] 24 (0, 0)) (bk_ BK604) k_ hk_.2.1)⟩)) (bs_ HB)); replace HO600 := FR_ HO600 hb; replace HO603 := FR_ HO603 hb; replace HO607 := Aside0.mk (Kd.N_mono (Kd.N_told (Kd.N_told (Kd.N_old (kN_ HO607) hb) (Kd.S_base ho0)) (Kd.S_base ho1)) (fun _ h_ => h_.1)); replace HO610 := Aside0.mk (Kd.N_mono (Kd.N_told (Kd.N_told (Kd.N_old (kN_ HO610) hb) (Kd.S_base ho0)) (Kd.S_base ho1)) (fun _ h_ => h_.1)); replace HO620 := Aside0.mk (Kd.N_mono (Kd.N_told (Kd.N_told (Kd.N_old (kN_ HO620) hb) (Kd.S_base ho0)) (Kd.S_base ho1)) (fun _ h_ => h_.1)); replace HO626 := Aside0.mk (Kd.N_mono (Kd.N_told (Kd.N_told (Kd.N_old (kN_ HO626) hb) (Kd.S_base ho0)) (Kd.S_base ho1)) (fun _ h_ => h_.1)); replace BK604 := FB_ BK604 hb; replace HB := BS_ HB hb; (try clear hb); (try clear hk); (try clear ho0); (try clear ho1)) | ((with_reducible refine gate_dst (N := 6) rfl ?_); (try (refine gate_guard (by rfl) ?_; dsimp only)); refine box_ 6 #[.slice none 0 0, .slice none 0 0] 48 ?_; intro gb638 hg w50 hbox hb; replace HO600 := FR_ HO600 hb; replace HO603 := FR_ HO603 hb; replace HO607 := Aside0.mk (Kd.N_below (Kd.N_elderB (kN_ HO607) gb638 (Nat.le_of_eq hg.symm)) hb); replace HO610 := Aside0.mk (Kd.N_below (Kd.N_elderB (kN_ HO610) gb638 (Nat.le_of_eq hg.symm)) hb); replace HO613 := Aside0.mk (Kd.V_below (Kd.V_elderB (kV_ HO613) gb638 (Nat.le_of_eq hg.symm)) hb); replace HO620 := Aside0.mk (Kd.N_below (Kd.N_elderB (kN_ HO620) gb638 (Nat.le_of_eq hg.symm)) hb); replace HO626 := Aside0.mk (Kd.N_below (Kd.N_elderB (kN_ HO626) gb638 (Nat.le_of_eq hg.symm)) hb); replace HO629 := Aside0.mk (Kd.V_below (Kd.V_elderB (kV_ HO629) gb638 (Nat.le_of_eq hg.symm)) hb); replace HO633 := Aside0.mk (Kd.N_below (Kd.N_elderB (kN_ HO633) gb638 (Nat.le_of_eq hg.symm)) hb); replace HO636 := Aside0.mk (Kd.N_below (Kd.N_elderB (kN_ HO636) gb638 (Nat.le_of_eq hg.symm)) hb); have BK638 := Aside0.mk (hbox); have GW638 := GE_ HB hg; have GE638 := GE_ HB hg; replace HB := BS_ HB hb; obtain ⟨NB604_638, NB638_604⟩ := NN_ BK604 hg; replace BK604 := FB_ BK604 hb; clear hb hbox hg; obtain ⟨Ao51, co51, eo51⟩ := Kd.N_slice HO633.out; subst eo51; have hnb52 := NB638_604.out; have hnc52 := NB604_638.out; obtain ⟨hcz53_0, hcz53_1, hfz53_0, hfz53_1⟩ := e2_ BK638; obtain ⟨Ao54, co54, eo54⟩ := Kd.N_slice HO636.out; subst eo54) | ((with_reducible refine gate_store (t := 48) (p := 6) rfl ?_); refine store_event (t := 48) (p := 6) (v := ?vo_w55) (w1 := ((w50.setCell ⟨gb638, 0, none⟩ (.slice Ao51 t631.length co51)).setCell ⟨gb638, 1, none⟩ (.slice Ao54 t634.length co54))) ?hg ?ho ?hn ?hr ?_; (case ho => rfl); (case hg => rfl); (case hn => rfl); (case hr => first | (go_simp; done) | (go_simp; rfl)); intro w55 hw; have n0_ : Aside0 (Kd.R (Kd.int .i64) 3 w55 w.heap.size (fun k_ => some k_ ≠ (.slice Ao22 t601.length co22 : Value).ownBlock) (.slice Ao21 t598.length co21) t598) := ⟨(by rw [hw]; exact (kRk_ HO600 BK638))⟩; have n1_ : Aside0 (Kd.R (Kd.int .i64) 3 w55 w.heap.size (fun k_ => some k_ ≠ (.slice Ao21 t598.length co21 : Value).ownBlock) (.slice Ao22 t601.length co22) t601) := ⟨(by rw [hw]; exact (kRk_ HO603 BK638))⟩; have n2_ : Aside0 (Kd.N (Kd.slice 3 (Kd.int .i64)) 22 w55 w.heap.size (fun k_ => some k_ ≠ (.slice Ao21 t598.length co21 : Value).ownBlock ∧ some k_ ≠ (.slice Ao22 t601.length co22 : Value).ownBlock ∧ some k_ ≠ (.slice Ao27 y608.length co27 : Value).ownBlock ∧ some k_ ≠ (.slice Ao45 y618.length co45 : Value).ownBlock ∧ some k_ ≠ (.slice Ao44 y624.length co44 : Value).ownBlock ∧ some k_ ≠ (.slice Ao51 t631.length co51 : Value).ownBlock ∧ some k_ ≠ (.slice Ao54 t634.length co54 : Value).ownBlock ∧ k_ ≠ gb604 ∧ k_ ≠ gb638) (.slice Ao28 y605.length co28) y605) := ⟨(by rw [hw]; exact (by (with_reducible repeat (first | apply Kd.N_alloc | apply Kd.N_drewN | apply Kd.N_drew)); exact Kd.N_mono (Kd.N_far (p := ⟨gb638, 1, none⟩) (Kd.N_far (p := ⟨gb638, 0, none⟩) (Kd.N_mono HO607.out (fun k_ hk => (⟨hk, hk.2⟩ : _ ∧ k_ ≠ gb638))) (fun _ hk => hk.2) (.slice Ao51 t631.length co51)) (fun _ hk => hk.2) (.slice Ao54 t634.length co54)) (fun _ hk => ⟨hk.1.1.1.1.1, ⟨hk.1.1.1.1.2.1, ⟨hk.1.1.1.1.2.2.1, ⟨hk.1.1.1.1.2.2.2.1, ⟨hk.1.1.1.1.2.2.2.2.1, ⟨hk.1.1.1.2, ⟨hk.1.1.2, ⟨hk.1.1.1.1.2.2.2.2.2, hk.1.2⟩⟩⟩⟩⟩⟩⟩⟩)))⟩; have n3_ : Aside0 (Kd.N (Kd.slice 2 (Kd.int .i64)) 84 w55 w.heap.size (fun k_ => some k_ ≠ (.slice Ao21 t598.length co21 : Value).ownBlock ∧ some k_ ≠ (.slice Ao22 t601.length co22 : Value).ownBlock ∧ some k_ ≠ (.slice Ao28 y605.length co28 : Value).ownBlock ∧ some k_ ≠ (.slice Ao45 y618.length co45 : Value).ownBlock ∧ some k_ ≠ (.slice Ao44 y624.length co44 : Value).ownBlock ∧ some k_ ≠ (.slice Ao51 t631.length co51 : Value).ownBlock ∧ some k_ ≠ (.slice Ao54 t634.length co54 : Value).ownBlock ∧ k_ ≠ gb604 ∧ k_ ≠ gb638) (.slice Ao27 y608.length co27) y608) := ⟨(by rw [hw]; exact (by (with_reducible repeat (first | apply Kd.N_alloc | apply Kd.N_drewN | apply Kd.N_drew)); exact Kd.N_mono (Kd.N_far (p := ⟨gb638, 1, none⟩) (Kd.N_far (p := ⟨gb638, 0, none⟩) (Kd.N_mono HO610.out (fun k_ hk => (⟨hk, hk.2⟩ : _ ∧ k_ ≠ gb638))) (fun _ hk => hk.2) (.slice Ao51 t631.length co51)) (fun _ hk => hk.2) (.slice Ao54 t634.length co54)) (fun _ hk => ⟨hk.1.1.1.1.1, ⟨hk.1.1.1.1.2.1, ⟨hk.1.1.1.1.2.2.1, ⟨hk.1.1.1.1.2.2.2.1, ⟨hk.1.1.1.1.2.2.2.2.1, ⟨hk.1.1.1.2, ⟨hk.1.1.2, ⟨hk.1.1.1.1.2.2.2.2.2, hk.1.2⟩⟩⟩⟩⟩⟩⟩⟩)))⟩; have n4_ : Aside0 (Kd.V (Kd.int .u8) 5 w55 w.heap.size (fun k_ => some k_ ≠ (.slice Ao21 t598.length co21 : Value).ownBlock ∧ some k_ ≠ (.slice Ao22 t601.length co22 : Value).ownBlock ∧ some k_ ≠ (.slice Ao28 y605.length co28 : Value).ownBlock ∧ some k_ ≠ (.slice Ao27 y608.length co27 : Value).ownBlock ∧ some k_ ≠ (.slice Ao45 y618.length co45 : Value).ownBlock ∧ some k_ ≠ (.slice Ao44 y624.length co44 : Value).ownBlock ∧ some k_ ≠ (.slice Ao51 t631.length co51 : Value).ownBlock ∧ some k_ ≠ (.slice Ao54 t634.length co54 : Value).ownBlock ∧ k_ ≠ gb604 ∧ k_ ≠ gb638) v612 t611) := ⟨(by rw [hw]; exact (by (with_reducible repeat (first | apply Kd.V_alloc | apply Kd.V_drewN | apply Kd.V_drew)); exact Kd.V_mono (Kd.V_far (p := ⟨gb638, 1, none⟩) (Kd.V_far (p := ⟨gb638, 0, none⟩) (Kd.V_mono HO613.out (fun k_ hk => (⟨hk, hk.2⟩ : _ ∧ k_ ≠ gb638))) (fun _ hk => hk.2) (.slice Ao51 t631.length co51)) (fun _ hk => hk.2) (.slice Ao54 t634.length co54)) (fun _ hk => ⟨hk.1.1.1.1.1, ⟨hk.1.1.1.1.2.1, ⟨hk.1.1.1.1.2.2.1, ⟨hk.1.1.1.1.2.2.2.1, ⟨hk.1.1.1.1.2.2.2.2.1, ⟨hk.1.1.1.1.2.2.2.2.2.1, ⟨hk.1.1.1.2, ⟨hk.1.1.2, ⟨hk.1.1.1.1.2.2.2.2.2.2, hk.1.2⟩⟩⟩⟩⟩⟩⟩⟩⟩)))⟩; have n5_ : Aside0 (Kd.N (Kd.slice 3 (Kd.int .i64)) 22 w55 w.heap.size (fun k_ => some k_ ≠ (.slice Ao21 t598.length co21 : Value).ownBlock ∧ some k_ ≠ (.slice Ao22 t601.length co22 : Value).ownBlock ∧ some k_ ≠ (.slice Ao28 y605.length co28 : Value).ownBlock ∧ some k_ ≠ (.slice Ao27 y608.length co27 : Value).ownBlock ∧ some k_ ≠ (.slice Ao44 y624.length co44 : Value).ownBlock ∧ some k_ ≠ (.slice Ao51 t631.length co51 : Value).ownBlock ∧ some k_ ≠ (.slice Ao54 t634.length co54 : Value).ownBlock ∧ k_ ≠ gb604 ∧ k_ ≠ gb638) (.slice Ao45 y618.length co45) y618) := ⟨(by rw [hw]; exact (by (with_reducible repeat (first | apply Kd.N_alloc | apply Kd.N_drewN | apply Kd.N_drew)); exact Kd.N_mono (Kd.N_far (p := ⟨gb638, 1, none⟩) (Kd.N_far (p := ⟨gb638, 0, none⟩) (Kd.N_mono HO620.out (fun k_ hk => (⟨hk, hk.2⟩ : _ ∧ k_ ≠ gb638))) (fun _ hk => hk.2) (.slice Ao51 t631.length co51)) (fun _ hk => hk.2) (.slice Ao54 t634.length co54)) (fun _ hk => ⟨hk.1.1.1.1.1, ⟨hk.1.1.1.1.2.1, ⟨hk.1.1.1.1.2.2.1, ⟨hk.1.1.1.1.2.2.2.1, ⟨hk.1.1.1.1.2.2.2.2.1, ⟨hk.1.1.1.2, ⟨hk.1.1.2, ⟨hk.1.1.1.1.2.2.2.2.2, hk.1.2⟩⟩⟩⟩⟩⟩⟩⟩)))⟩; have n6_ : Aside0 (Kd.N (Kd.slice 2 (Kd.int .i64)) 84 w55 w.heap.size (fun k_ => some k_ ≠ (.slice Ao21 t598.length co21 : Value).ownBlock ∧ some k_ ≠ (.slice Ao22 t601.length co22 : Value).ownBlock ∧ some k_ ≠ (.slice Ao28 y605.length co28 : Value).ownBlock ∧ some k_ ≠ (.slice Ao27 y608.length co27 : Value).ownBlock ∧ some k_ ≠ (.slice Ao45 y618.length co45 : Value).ownBlock ∧ some k_ ≠ (.slice Ao51 t631.length co51 : Value).ownBlock ∧ some k_ ≠ (.slice Ao54 t634.length co54 : Value).ownBlock ∧ k_ ≠ gb604 ∧ k_ ≠ gb638) (.slice Ao44 y624.length co44) y624) := ⟨(by rw [hw]; exact (by (with_reducible repeat (first | apply Kd.N_alloc | apply Kd.N_drewN | apply Kd.N_drew)); exact Kd.N_mono (Kd.N_far (p := ⟨gb638, 1, none⟩) (Kd.N_far (p := ⟨gb638, 0, none⟩) (Kd.N_mono HO626.out (fun k_ hk => (⟨hk, hk.2⟩ : _ ∧ k_ ≠ gb638))) (fun _ hk => hk.2) (.slice Ao51 t631.length co51)) (fun _ hk => hk.2) (.slice Ao54 t634.length co54)) (fun _ hk => ⟨hk.1.1.1.1.1, ⟨hk.1.1.1.1.2.1, ⟨hk.1.1.1.1.2.2.1, ⟨hk.1.1.1.1.2.2.2.1, ⟨hk.1.1.1.1.2.2.2.2.1, ⟨hk.1.1.1.2, ⟨hk.1.1.2, ⟨hk.1.1.1.1.2.2.2.2.2, hk.1.2⟩⟩⟩⟩⟩⟩⟩⟩)))⟩; have n7_ : Aside0 (Kd.V (Kd.int .u8) 5 w55 w.heap.size (fun k_ => some k_ ≠ (.slice Ao21 t598.length co21 : Value).ownBlock ∧ some k_ ≠ (.slice Ao22 t601.length co22 : Value).ownBlock ∧ some k_ ≠ (.slice Ao28 y605.length co28 : Value).ownBlock ∧ some k_ ≠ (.slice Ao27 y608.length co27 : Value).ownBlock ∧ some k_ ≠ (.slice Ao45 y618.length co45 : Value).ownBlock ∧ some k_ ≠ (.slice Ao44 y624.length co44 : Value).ownBlock ∧ some k_ ≠ (.slice Ao51 t631.length co51 : Value).ownBlock ∧ some k_ ≠ (.slice Ao54 t634.length co54 : Value).ownBlock ∧ k_ ≠ gb604 ∧ k_ ≠ gb638) (.slice Ao48 t627.length co48) t627) := ⟨(by rw [hw]; exact (by (with_reducible repeat (first | apply Kd.V_alloc | apply Kd.V_drewN | apply Kd.V_drew)); exact Kd.V_mono (Kd.V_far (p := ⟨gb638, 1, none⟩) (Kd.V_far (p := ⟨gb638, 0, none⟩) (Kd.V_mono HO629.out (fun k_ hk => (⟨hk, hk.2⟩ : _ ∧ k_ ≠ gb638))) (fun _ hk => hk.2) (.slice Ao51 t631.length co51)) (fun _ hk => hk.2) (.slice Ao54 t634.length co54)) (fun _ hk => ⟨hk.1.1.1.1.1, ⟨hk.1.1.1.1.2.1, ⟨hk.1.1.1.1.2.2.1, ⟨hk.1.1.1.1.2.2.2.1, ⟨hk.1.1.1.1.2.2.2.2.1, ⟨hk.1.1.1.1.2.2.2.2.2.1, ⟨hk.1.1.1.2, ⟨hk.1.1.2, ⟨hk.1.1.1.1.2.2.2.2.2.2, hk.1.2⟩⟩⟩⟩⟩⟩⟩⟩⟩)))⟩; have n8_ : Aside0 (Kd.N (Kd.slice 3 (Kd.int .i64)) 22 w55 w.heap.size (fun k_ => some k_ ≠ (.slice Ao21 t598.length co21 : Value).ownBlock ∧ some k_ ≠ (.slice Ao22 t601.length co22 : Value).ownBlock ∧ some k_ ≠ (.slice Ao28 y605.length co28 : Value).ownBlock ∧ some k_ ≠ (.slice Ao27 y608.length co27 : Value).ownBlock ∧ some k_ ≠ (.slice Ao45 y618.length co45 : Value).ownBlock ∧ some k_ ≠ (.slice Ao44 y624.length co44 : Value).ownBlock ∧ some k_ ≠ (.slice Ao54 t634.length co54 : Value).ownBlock ∧ k_ ≠ gb604 ∧ k_ ≠ gb638) (.slice Ao51 t631.length co51) t631) := ⟨(by rw [hw]; exact (by (with_reducible repeat (first | apply Kd.N_alloc | apply Kd.N_drewN | apply Kd.N_drew)); exact Kd.N_mono (Kd.N_far (p := ⟨gb638, 1, none⟩) (Kd.N_far (p := ⟨gb638, 0, none⟩) (Kd.N_mono HO633.out (fun k_ hk => (⟨hk, hk.2⟩ : _ ∧ k_ ≠ gb638))) (fun _ hk => hk.2) (.slice Ao51 t631.length co51)) (fun _ hk => hk.2) (.slice Ao54 t634.length co54)) (fun _ hk => ⟨hk.1.1.2.1, ⟨hk.1.1.2.2.1, ⟨hk.1.1.2.2.2.1, ⟨hk.1.1.2.2.2.2.1, ⟨hk.1.1.2.2.2.2.2.1, ⟨hk.1.1.2.2.2.2.2.2.1, ⟨hk.1.1.1, ⟨hk.1.1.2.2.2.2.2.2.2, hk.1.2⟩⟩⟩⟩⟩⟩⟩⟩)))⟩; have n9_ : Aside0 (Kd.N (Kd.slice 2 (Kd.int .i64)) 84 w55 w.heap.size (fun k_ => some k_ ≠ (.slice Ao21 t598.length co21 : Value).ownBlock ∧ some k_ ≠ (.slice Ao22 t601.length co22 : Value).ownBlock ∧ some k_ ≠ (.slice Ao28 y605.length co28 : Value).ownBlock ∧ some k_ ≠ (.slice Ao27 y608.length co27 : Value).ownBlock ∧ some k_ ≠ (.slice Ao45 y618.length co45 : Value).ownBlock ∧ some k_ ≠ (.slice Ao44 y624.length co44 : Value).ownBlock ∧ some k_ ≠ (.slice Ao51 t631.length co51 : Value).ownBlock ∧ k_ ≠ gb604 ∧ k_ ≠ gb638) (.slice Ao54 t634.length co54) t634) := ⟨(by rw [hw]; exact (by (with_reducible repeat (first | apply Kd.N_alloc | apply Kd.N_drewN | apply Kd.N_drew)); exact Kd.N_mono (Kd.N_far (p := ⟨gb638, 1, none⟩) (Kd.N_far (p := ⟨gb638, 0, none⟩) (Kd.N_mono HO636.out (fun k_ hk => (⟨hk, hk.2⟩ : _ ∧ k_ ≠ gb638))) (fun _ hk => hk.2) (.slice Ao51 t631.length co51)) (fun _ hk => hk.2) (.slice Ao54 t634.length co54)) (fun _ hk => ⟨hk.1.1.2.1, ⟨hk.1.1.2.2.1, ⟨hk.1.1.2.2.2.1, ⟨hk.1.1.2.2.2.2.1, ⟨hk.1.1.2.2.2.2.2.1, ⟨hk.1.1.2.2.2.2.2.2.1, ⟨hk.1.1.1, ⟨hk.1.1.2.2.2.2.2.2.2, hk.1.2⟩⟩⟩⟩⟩⟩⟩⟩)))⟩; have n10_ : Aside0 (w55.heap[gb604]? = some (.cells #[.int .i64 t596, .int .i64 t597, .slice Ao21 t598.length co21, .slice Ao22 t601.length co22] 24 (0, 0))) := ⟨(by rw [hw]; exact (bk_ BK604))⟩; have n11_ : Aside0 (w55.heap[gb638]? = some (.cells #[.slice Ao51 t631.length co51, .slice Ao54 t634.length co54] 48 (0, 0))) := ⟨(by rw [hw]; exact (bp_ BK638))⟩; have n12_ : Aside0 (Below w.heap.size w w55) := ⟨(by rw [hw]; exact (bl_ HB))⟩; clear hw; clear HO600; clear HO603; clear HO607; clear HO610; clear HO613; clear HO620; clear HO626; clear HO629; clear HO633; clear HO636; clear BK604; clear BK638; clear HB; have HO600 := n0_; have HO603 := n1_; have HO607 := n2_; have HO610 := n3_; have HO613 := n4_; have HO620 := n5_; have HO626 := n6_; have HO629 := n7_; have HO633 := n8_; have HO636 := n9_; have BK604 := n10_; have BK638 := n11_; have HB := n12_; clear n0_ n1_ n2_ n3_ n4_ n5_ n6_ n7_ n8_ n9_ n10_ n11_ n12_; obtain ⟨Ao9613, co9613, eo9613⟩ := Kd.V_slice HO613.out; subst eo9613; have hcv56 := Kd.C_string (P := Try.prog) (c := co9613) Try.underlying34 Try.underlying5 Try.underlying9 (Kd.V_reads' HO613.out).2.2; obtain ⟨hcz57_0, hcz57_1, hfz57_0, hfz57_1⟩ := e2_ BK638; have p639 : 0 ≤ (0 : Int) := (by omega); have q639 : 0 < (t631.length : Int) := of_decide_eq_true am_; obtain ⟨ad639, A639_0, c639_0, e639, hx639_0, hl639_0, hi639_0⟩ := at_L1 (Kd.N_reads' HO633.out).2.2 0 p639 q639; cases e639; obtain ⟨ce639, hce639, hMe639, hcc639⟩ := Kd.N_get HO633.out [] 0 p639 (by first | exact q639 | exact of_decide_eq_true am_ | (have e_ := (Kd.N_reads' HO633.out).1; omega)); obtain ⟨ua639_0, uc639_0, rfl, ul639_0, ge639_0⟩ := Kd.FK_slice_open hMe639; have hv639_0 := hcc639 0 _ rfl; rw [Nat.add_zero, show ((Kd.slice 3 (Kd.int .i64))).sz = 1 from rfl, Nat.mul_one] at hv639_0; replace hv639_0 := Option.some.inj (hv639_0.symm.trans hx639_0); injection hv639_0 with hva_ hvn_ hvc_; rw [hva_] at ge639_0; rw [hvc_] at ul639_0; have HL639_0 := Aside0.mk (show Kd.V (Kd.int .i64) 3 _ w.heap.size _ _ (rd_L1 t631 0) from Kd.V_mk ul639_0 ge639_0); clear hva_ hvn_ hvc_ ge639_0 ul639_0; clear hcc639 hce639; have qi639 : (0 < t631.length) = True := eq_true (by omega); (try rw [show ((0 : Int)).toNat = 0 from rfl] at hx639_0); (try rw [Addr.add_zero'] at hx639_0); have HR639_0 := Aside0.mk hi639_0; have HC639_0 := Aside0.mk hl639_0; clear hi639_0 hl639_0; replace p639 := eq_true p639; replace q639 := eq_true q639; have p640 : 0 ≤ (0 : Int) := (by omega); have q640 : 0 < (t634.length : Int) := of_decide_eq_true am_; obtain ⟨ad640, A640_0, c640_0, e640, hx640_0, hl640_0, hi640_0⟩ := at_L5 (Kd.N_reads' HO636.out).2.2 0 p640 q640; cases e640; obtain ⟨ce640, hce640, hMe640, hcc640⟩ := Kd.N_get HO636.out [] 0 p640 (by first | exact q640 | exact of_decide_eq_true am_ | (have e_ := (Kd.N_reads' HO636.out).1; omega)); obtain ⟨ua640_0, uc640_0, rfl, ul640_0, ge640_0⟩ := Kd.FK_slice_open hMe640; have hv640_0 := hcc640 0 _ rfl; rw [Nat.add_zero, show ((Kd.slice 2 (Kd.int .i64))).sz = 1 from rfl, Nat.mul_one] at hv640_0; replace hv640_0 := Option.some.inj (hv640_0.symm.trans hx640_0); injection hv640_0 with hva_ hvn_ hvc_; rw [hva_] at ge640_0; rw [hvc_] at ul640_0; have HL640_0 := Aside0.mk (show Kd.V (Kd.int .i64) 2 _ w.heap.size _ _ (rd_L5 t634 0) from Kd.V_mk ul640_0 ge640_0); clear hva_ hvn_ hvc_ ge640_0 ul640_0; clear hcc640 hce640; have qi640 : (0 < t634.length) = True := eq_true (by omega); (try rw [show ((0 : Int)).toNat = 0 from rfl] at hx640_0); (try rw [Addr.add_zero'] at hx640_0); have HR640_0 := Aside0.mk hi640_0; have HC640_0 := Aside0.mk hl640_0; clear hi640_0 hl640_0; replace p640 := eq_true p640; replace q640 := eq_true q640; obtain ⟨hcz58_0, hcz58_1, hcz58_2, hcz58_3, hfz58_0, hfz58_1, hfz58_2, hfz58_3⟩ := e4_ BK604) | (go_at_call 29; (with_reducible refine (vpack_Right.calls k t596 t597 _ _ t598 _ _ t601 _ _ t631 _ _ t634 t641 _ ?side1 ?side2 ?side3 ?side4 ?side5 ?side6 ?side7 ?side8 A17.out).mono ?_); (case side1 => exact kCt_ (Kd.R_reads' HO600.out).2.2); (case side2 => exact (Kd.R_reads' HO600.out).2.1); (case side3 => exact kCt_ (Kd.R_reads' HO603.out).2.2); (case side4 => exact (Kd.R_reads' HO603.out).2.1); (case side5 => repeat (first | exact (Kd.N_reads' HO633.out).2.2 | (with_reducible refine Kd.C_alloc ?_ _) | (with_reducible refine Kd.C_drewN ?_ _) | (with_reducible refine Kd.C_drew ?_))); (case side6 => exact (Kd.N_reads' HO633.out).2.1); (case side7 => repeat (first | exact (Kd.N_reads' HO636.out).2.2 | (with_reducible refine Kd.C_alloc ?_ _) | (with_reducible refine Kd.C_drewN ?_ _) | (with_reducible refine Kd.C_drew ?_))); (case side8 => exact (Kd.N_reads' HO636.out).2.1); rintro e w59 ⟨rfl, hb⟩; replace HO600 := FR_ HO600 hb; replace HO603 := FR_ HO603 hb; replace HO607 := FN_ HO607 hb; replace HO610 := FN_ HO610 hb; replace HO613 := FV_ HO613 hb; replace HO620 := FN_ HO620 hb; replace HO626 := FN_ HO626 hb; replace HO629 := FV_ HO629 hb; replace HO633 := FN_ HO633 hb; replace HO636 := FN_ HO636 hb; replace HL639_0 := FV_ HL639_0 hb; replace HL640_0 := FV_ HL640_0 hb; replace BK604 := FB_ BK604 hb; replace BK638 := FB_ BK638 hb; replace HR639_0 := Aside0.mk (Kd.C_below (by repeat (first | (with_reducible exact HR639_0.out) | (with_reducible refine Kd.C_alloc ?_ _) | (with_reducible refine Kd.C_drewN ?_ _) | (with_reducible refine Kd.C_drew ?_) | exact HR639_0.out)) hb); replace HR640_0 := Aside0.mk (Kd.C_below (by repeat (first | (with_reducible exact HR640_0.out) | (with_reducible refine Kd.C_alloc ?_ _) | (with_reducible refine Kd.C_drewN ?_ _) | (with_reducible refine Kd.C_drew ?_) | exact HR640_0.out)) hb); replace HB := BS_ HB hb; (try clear hb); (try clear hk)))
 go_ret
 exact ⟨by first | rfl | (simp [errW_none, errW_some] <;> rfl) | (simp [*, errW_none, errW_some] <;> rfl), bl_ HB⟩}
 {
 rw [if_neg c16] at H
 have c16b0 : (t637 == 0) = false := beq_eq_false_iff_ne.mpr c16
 have c16b1 : (t637 != 0) = true := bne_iff_ne.mpr c16
 exact absurd ((Option.some.inj H).trans HT.out) (by decide)}}
 {
 rw [if_neg c15] at H
 have c15b0 : (((rd_L5 t634 0).length : Int) == 16) = false := beq_eq_false_iff_ne.mpr c15
 have c15b1 : (((rd_L5 t634 0).length : Int) != 16) = true := bne_iff_ne.mpr c15
 exact absurd ((Option.some.inj H).trans HT.out) (by decide)}}
 {
 rw [if_neg c14] at H
 exact absurd H (by simp)}}
 {
 rw [if_neg c13] at H
 have c13b0 : ((t634.length : Int) == 1) = false := beq_eq_false_iff_ne.mpr c13
 have c13b1 : ((t634.length : Int) != 1) = true := bne_iff_ne.mpr c13
 exact absurd ((Option.some.inj H).trans HT.out) (by decide)}}
 {
 rw [if_neg c12] at H
 have c12b0 : (((rd_L1 t631 0).length : Int) == 6) = false := beq_eq_false_iff_ne.mpr c12
 have c12b1 : (((rd_L1 t631 0).length : Int) != 6) = true := bne_iff_ne.mpr c12
 exact absurd ((Option.some.inj H).trans HT.out) (by decide)}}
 {
 rw [if_neg c11] at H
 exact absurd H (by simp)}}
 {
 rw [if_neg c10] at H
 have c10b0 : ((t631.length : Int) == 1) = false := beq_eq_false_iff_ne.mpr c10
 have c10b1 : ((t631.length : Int) != 1) = true := bne_iff_ne.mpr c10
 exact absurd ((Option.some.inj H).trans HT.out) (by decide)}}
 {
 rw [if_neg c9] at H
 have c9b0 : (t630 == 0) = false := beq_eq_false_iff_ne.mpr c9
 have c9b1 : (t630 != 0) = true := bne_iff_ne.mpr c9
 exact absurd ((Option.some.inj H).trans HT.out) (by decide)}}
 {
 rw [if_neg c8] at H
 have c8b0 : ((t627.length : Int) == 12) = false := beq_eq_false_iff_ne.mpr c8
 have c8b1 : ((t627.length : Int) != 12) = true := bne_iff_ne.mpr c8
 exact absurd ((Option.some.inj H).trans HT.out) (by decide)}}
 {
 rw [if_neg c7] at H
 have c7b0 : (t614 == 0) = false := beq_eq_false_iff_ne.mpr c7
 have c7b1 : (t614 != 0) = true := bne_iff_ne.mpr c7
 exact absurd ((Option.some.inj H).trans HT.out) (by decide)}}
 {
 rw [if_neg c6] at H
 have c6b0 : ((strOfNums t611).toList == ([0] : List UInt8)) = false := beq_eq_false_iff_ne.mpr c6
 have c6b1 : ((strOfNums t611).toList != ([0] : List UInt8)) = true := bne_iff_ne.mpr c6
 exact absurd ((Option.some.inj H).trans HT.out) (by decide)}}
 {
 rw [if_neg c3] at H
 exact absurd H (by simp)}
theorem psalterylaw17_knows.sure : psalterylaw17_knows.f 2000 = some true := by decide +kernel
theorem psalterylaw17_knows.calls (k : Nat)  (r : Bool) (w : World) (h : psalterylaw17_knows.f k  = some r) :
    Calls Try.prog 28 #[] w fun e w' => e = .returned (.bool r) ∧ Below w.heap.size w w' :=
  psalterylaw17_knows.callsT k r w h (by
    have h1 := at_rounds (g := fun k => psalterylaw17_knows.f k) (fun k => psalterylaw17_knows.mono k) (Nat.le_add_right k 2000) h
    have h2 := at_rounds (g := fun k => psalterylaw17_knows.f k) (fun k => psalterylaw17_knows.mono k) (Nat.le_add_left 2000 k) psalterylaw17_knows.sure
    exact Option.some.inj (h1.symm.trans h2))

end Go.Proofs.Ytpdfdaoohknfoaa.P
namespace Go.Proofs.Ytpdfdaoohknfoaa.P
open Go.RowKit Go.Proofs.YtpdfdaoohknfoaaW.PrintWords Go.Proofs.YtpdfdaoohknfoaaW.PrintLast Go.Proofs.YtpdfdaoohknfoaaW.PrintMore
attribute [local go_sem] max2_int min2_int max_two min_two max_three min_three max_four min_four   -- for this text's walks alone
set_option linter.unusedVariables false
set_option linter.unusedSimpArgs false

mutual
def psalteryref04_Right.j0 : Nat → List Int → Bool → Option (Bool)
  | 0, _, _ => none
  | k + 1, x0, x15 => if x15 = true then (some false) else (psalteryref04_Right.l0 k x0 0 0 0)
def psalteryref04_Right.l0 : Nat → List Int → Int → Int → Int → Option (Bool)
  | 0, _, _, _, _ => none
  | k + 1, x0, x3, x4, x5 => if x5 < (x0.length : Int) then (if 0 ≤ x5 then (if (rd x0 x5) < 0 then (psalteryref04_Right.j2 k x0 x3 x4 x5 true) else (psalteryref04_Right.j2 k x0 x3 x4 x5 (decide ((rd x0 x5) > 16)))) else (none)) else (if x4 = 1 then (some (x3 == 32768)) else (if x4 > 1 then (some (x3 == 65536)) else (some false)))
def psalteryref04_Right.j2 : Nat → List Int → Int → Int → Int → Bool → Option (Bool)
  | 0, _, _, _, _, _ => none
  | k + 1, x0, x3, x4, x5, x33 => if x33 = true then (some false) else (if 0 ≤ x5 then (if x5 < (x0.length : Int) then (if (rd x0 x5) > 0 then (psalteryref04_Right.l1 k x0 x3 (wrap64 (x4 + 1)) x5 65536 0) else (psalteryref04_Right.l0 k x0 x3 x4 (wrap64 (x5 + 1)))) else (none)) else (none))
def psalteryref04_Right.l1 : Nat → List Int → Int → Int → Int → Int → Int → Option (Bool)
  | 0, _, _, _, _, _, _ => none
  | k + 1, x0, x3, x4, x5, x6, x7 => if 0 ≤ x5 then (if x5 < (x0.length : Int) then (if x7 < (rd x0 x5) then (psalteryref04_Right.l1 k x0 x3 x4 x5 (wrap64 (Int.tdiv x6 2)) (wrap64 (x7 + 1))) else (psalteryref04_Right.l0 k x0 (wrap64 (x3 + x6)) x4 (wrap64 (x5 + 1)))) else (none)) else (none)
end
def psalteryref04_Right.f (k : Nat) (l0 : List Int) : Option (Bool) := if (l0.length : Int) < 2 then (psalteryref04_Right.j0 k l0 true) else (psalteryref04_Right.j0 k l0 (decide ((l0.length : Int) > 64)))
theorem psalteryref04_Right.mono_l : ∀ k, (∀ y0 y1, LeO (psalteryref04_Right.j0 k y0 y1) (psalteryref04_Right.j0 (k + 1) y0 y1)) ∧ (∀ y0 y1 y2 y3, LeO (psalteryref04_Right.l0 k y0 y1 y2 y3) (psalteryref04_Right.l0 (k + 1) y0 y1 y2 y3)) ∧ (∀ y0 y1 y2 y3 y4, LeO (psalteryref04_Right.j2 k y0 y1 y2 y3 y4) (psalteryref04_Right.j2 (k + 1) y0 y1 y2 y3 y4)) ∧ (∀ y0 y1 y2 y3 y4 y5, LeO (psalteryref04_Right.l1 k y0 y1 y2 y3 y4 y5) (psalteryref04_Right.l1 (k + 1) y0 y1 y2 y3 y4 y5))
  | 0 => ⟨fun _ _ r h => by simp [psalteryref04_Right.j0] at h, fun _ _ _ _ r h => by simp [psalteryref04_Right.l0] at h, fun _ _ _ _ _ r h => by simp [psalteryref04_Right.j2] at h, fun _ _ _ _ _ _ r h => by simp [psalteryref04_Right.l1] at h⟩
  | k + 1 => by
    obtain ⟨ih0, ih1, ih2, ih3⟩ := psalteryref04_Right.mono_l k
    refine ⟨?_, ?_, ?_, ?_⟩
    all_goals (intros; first | unfold psalteryref04_Right.j0 | unfold psalteryref04_Right.l0 | unfold psalteryref04_Right.j2 | unfold psalteryref04_Right.l1)
    all_goals with_reducible repeat' first
     | exact ih0 _ _
     | exact ih1 _ _ _ _
     | exact ih2 _ _ _ _ _
     | exact ih3 _ _ _ _ _ _
     | exact LeO.refl _
     | exact LeO.none _
     | refine LeO.ite ?_ ?_
     | refine LeO.bind ?_ (fun _ => ?_)
theorem psalteryref04_Right.mono : ∀ a0 k, LeO (psalteryref04_Right.f k a0) (psalteryref04_Right.f (k + 1) a0) := by
  intro a0 k
  obtain ⟨ih0, ih1, ih2, ih3⟩ := psalteryref04_Right.mono_l k
  unfold psalteryref04_Right.f
  with_reducible repeat' first
   | exact ih0 _ _
   | exact ih1 _ _ _ _
   | exact ih2 _ _ _ _ _
   | exact ih3 _ _ _ _ _ _
   | exact LeO.refl _
   | exact LeO.none _
   | refine LeO.ite ?_ ?_
   | refine LeO.bind ?_ (fun _ => ?_)
set_option maxHeartbeats 8000000 in
set_option maxRecDepth 100000 in
theorem psalteryref04_Right.calls (k : Nat) (A0 : Option Addr) (c0 : Nat) (l0 : List Int) (r : Bool) (w : World) (hr0 : Kd.C (Kd.int .i64) w A0 l0.length l0) (hc0 : l0.length ≤ c0) (h : psalteryref04_Right.f k l0 = some r) :
    Calls Try.prog 38 #[.slice A0 l0.length c0] w fun e w' => e = .returned (.bool r) ∧ Drawn0 w w' := by
 have HR0 := Aside0.mk hr0
 have HC0 := Aside0.mk hc0
 clear hr0 hc0
 have H : (if (l0.length : Int) < 2 then (psalteryref04_Right.j0 k l0 true) else (psalteryref04_Right.j0 k l0 (decide ((l0.length : Int) > 64)))) = some r := h
 clear h
 have HC2 := Aside0.mk H
 clear H
 go_enter Try.func38, Try.ntmps38
 go_upto_region 1 with (fail)
 go_cut [15] (fun v15 wc => ∃ (kq : Nat) (x15_1 : Bool), v15 = .bool x15_1 ∧ Aside0 (psalteryref04_Right.j0 kq l0 x15_1 = some r) ∧ Aside0 (kq ≤ k) ∧ Drawn0 w wc)
 case first => (
 have H := HC2.out
 clear HC2
 by_cases c3 : (l0.length : Int) < 2
 {
 rw [if_pos c3] at H
 have c3b0 : decide ((l0.length : Int) < 2) = true := decide_eq_true c3
 have c3b1 : decide (l0.length < 2) = true := decide_eq_true (by omega)
 clear c3
 (first | rw [c3b0] | (simp only [i64_w, i32_w]; rw [c3b0]) | skip)
 have H' := Aside0.mk H
 clear H
 go_wp2
 go_meet
 case rel => exact ⟨_, (true), rs_, H', ⟨ol_⟩, by repeat (first | exact Drawn0.refl _ | apply Drawn0.step)⟩}
 {
 rw [if_neg c3] at H
 have c3b0 : decide ((l0.length : Int) < 2) = false := decide_eq_false c3
 have c3b1 : decide (l0.length < 2) = false := decide_eq_false (by omega)
 clear c3
 (first | rw [c3b0] | (simp only [i64_w, i32_w]; rw [c3b0]) | skip)
 have H' := Aside0.mk H
 clear H
 go_wp2
 go_meet
 case rel => exact ⟨_, (decide ((l0.length : Int) > 64)), rs_, H', ⟨ol_⟩, by repeat (first | exact Drawn0.refl _ | apply Drawn0.step)⟩})
 case rest => (
 clear HC2
 obtain ⟨kq, x15_1, rfl, HA, HJ1, ⟨mc1, rfl⟩⟩ := hcut
 cases kq with
 | zero => exact absurd HA.out (by simp [psalteryref04_Right.j0])
 | succ kj1 => (
 have H := HA.out
 clear HA
 simp only [psalteryref04_Right.j0] at H
 by_cases c4 : x15_1 = true
 {
 subst c4
 rw [if_pos rfl] at H
 obtain rfl := Option.some.inj H
 go_wp2
 go_ret
 exact ⟨by first | rfl | (simp; done) | (simp [*]; done), by repeat (first | exact Drawn0.refl _ | apply Drawn0.step)⟩}
 {
 replace c4 := Bool.eq_false_iff.mpr c4
 subst c4
 rw [if_neg (show ¬ (false = true) by decide)] at H
 have H' := Aside0.mk H
 clear H
 go_wp2
 go_loopg [3, 4, 5] kj1 (fun kq v3 v4 v5 w' => ∃ (x3_2 : Int) (x4_2 : Int) (x5_2 : Int), v3 = .int .i64 x3_2 ∧ v4 = .int .i64 x4_2 ∧ v5 = .int .i64 x5_2 ∧ Aside0 (psalteryref04_Right.l0 kq l0 x3_2 x4_2 x5_2 = some r) ∧ Aside0 (kq ≤ kj1) ∧ Drawn0 w w')
 case atStart => exact ⟨(0), (0), (0), rs_, rs_, rs_, H', ⟨Nat.le_refl _⟩, by repeat (first | exact Drawn0.refl _ | apply Drawn0.step)⟩
 case round => (
 clear H'
 try clear c4
 obtain ⟨x3_2, x4_2, x5_2, rfl, rfl, rfl, HA, HK2, ⟨m2, rfl⟩⟩ := hrel
 cases gk with
 | zero => exact absurd HA.out (by simp [psalteryref04_Right.l0])
 | succ k2 => (
 have H := HA.out
 clear HA
 simp only [psalteryref04_Right.l0] at H
 by_cases c5 : x5_2 < (l0.length : Int)
 {
 rw [if_pos c5] at H
 have c5b0 : decide (x5_2 < (l0.length : Int)) = true := decide_eq_true c5
 clear c5
 have HC6 := Aside0.mk H
 clear H
 go_upto_region 8 with (fail)
 go_cut [33] (fun v33 wc => ∃ (kq : Nat) (x33_5 : Bool), v33 = .bool x33_5 ∧ Aside0 (psalteryref04_Right.j2 kq l0 x3_2 x4_2 x5_2 x33_5 = some r) ∧ Aside0 (kq ≤ k2) ∧ Drawn0 w wc)
 case first => (
 have H := HC6.out
 clear HC6
 by_cases c7 : 0 ≤ x5_2
 {
 rw [if_pos c7] at H
 have c7b0 : decide (0 ≤ x5_2) = true := decide_eq_true c7
 clear c7
 (first | rw [c7b0] | (simp only [i64_w, i32_w]; rw [c7b0]) | skip)
 by_cases c8 : (rd l0 x5_2) < 0
 {
 rw [if_pos c8] at H
 have c8b0 : decide ((rd l0 x5_2) < 0) = true := decide_eq_true c8
 clear c8
 have H' := Aside0.mk H
 clear H
 have p155 : 0 ≤ (x5_2 : Int) := of_decide_eq_true am_
 have q155 : x5_2 < (l0.length : Int) := of_decide_eq_true am_
 obtain ⟨ad155, e155, hx155_0⟩ := Kd.at_int HR0.out x5_2 p155 q155
 cases e155
 replace p155 := eq_true p155
 replace q155 := eq_true q155
 go_wp2
 go_meet
 case rel => exact ⟨_, (true), rs_, H', ⟨by have := HJ1.out; have := HK2.out; first | omega | exact Nat.le_refl _⟩, by repeat (first | exact Drawn0.refl _ | apply Drawn0.step)⟩}
 {
 rw [if_neg c8] at H
 have c8b0 : decide ((rd l0 x5_2) < 0) = false := decide_eq_false c8
 clear c8
 have H' := Aside0.mk H
 clear H
 have p155 : 0 ≤ (x5_2 : Int) := of_decide_eq_true am_
 have q155 : x5_2 < (l0.length : Int) := of_decide_eq_true am_
 obtain ⟨ad155, e155, hx155_0⟩ := Kd.at_int HR0.out x5_2 p155 q155
 cases e155
 replace p155 := eq_true p155
 replace q155 := eq_true q155
 have p156 : 0 ≤ (x5_2 : Int) := of_decide_eq_true am_
 have q156 : x5_2 < (l0.length : Int) := of_decide_eq_true am_
 obtain ⟨ad156, e156, hx156_0⟩ := Kd.at_int HR0.out x5_2 p156 q156
 obtain rfl : ad155 = ad156 := (by injection e156)
 replace p156 := eq_true p156
 replace q156 := eq_true q156
 go_wp2
 go_meet
 case rel => exact ⟨_, (decide ((rd l0 x5_2) > 16)), rs_, H', ⟨by have := HJ1.out; have := HK2.out; first | omega | exact Nat.le_refl _⟩, by repeat (first | exact Drawn0.refl _ | apply Drawn0.step)⟩}}
 {
 rw [if_neg c7] at H
 exact absurd H (by simp)})
 case rest => (
 clear HC6
 try clear c4
 try clear c5
 try clear c5b0
 obtain ⟨kq, x33_5, rfl, HA, HJ5, ⟨mc5, rfl⟩⟩ := hcut
 cases kq with
 | zero => exact absurd HA.out (by simp [psalteryref04_Right.j2])
 | succ kj5 => (
 have H := HA.out
 clear HA
 simp only [psalteryref04_Right.j2] at H
 by_cases c9 : x33_5 = true
 {
 subst c9
 rw [if_pos rfl] at H
 obtain rfl := Option.some.inj H
 go_wp2
 go_ret
 exact ⟨by first | rfl | (simp; done) | (simp [*]; done), by repeat (first | exact Drawn0.refl _ | apply Drawn0.step)⟩}
 {
 replace c9 := Bool.eq_false_iff.mpr c9
 subst c9
 rw [if_neg (show ¬ (false = true) by decide)] at H
 by_cases c10 : 0 ≤ x5_2
 {
 rw [if_pos c10] at H
 have c10b0 : decide (0 ≤ x5_2) = true := decide_eq_true c10
 clear c10
 by_cases c11 : x5_2 < (l0.length : Int)
 {
 rw [if_pos c11] at H
 have c11b0 : decide (x5_2 < (l0.length : Int)) = true := decide_eq_true c11
 clear c11
 by_cases c12 : (rd l0 x5_2) > 0
 {
 rw [if_pos c12] at H
 have c12b0 : decide (0 < (rd l0 x5_2)) = true := decide_eq_true c12
 clear c12
 have H' := Aside0.mk H
 clear H
 have p157 : 0 ≤ (x5_2 : Int) := of_decide_eq_true am_
 have q157 : x5_2 < (l0.length : Int) := of_decide_eq_true am_
 obtain ⟨ad157, e157, hx157_0⟩ := Kd.at_int HR0.out x5_2 p157 q157
 cases e157
 replace p157 := eq_true p157
 replace q157 := eq_true q157
 go_wp2
 go_loopg [6, 7] kj5 (fun kq v6 v7 w' => ∃ (x6_4 : Int) (x7_4 : Int), v6 = .int .i64 x6_4 ∧ v7 = .int .i64 x7_4 ∧ Aside0 (psalteryref04_Right.l1 kq l0 x3_2 (wrap64 (x4_2 + 1)) x5_2 x6_4 x7_4 = some r) ∧ Aside0 (kq ≤ kj5) ∧ Drawn0 w w')
 case atStart => exact ⟨(65536), (0), rs_, rs_, H', ⟨Nat.le_refl _⟩, by repeat (first | exact Drawn0.refl _ | apply Drawn0.step)⟩
 case round => (
 clear H'
 try clear c4
 try clear c5
 try clear c5b0
 try clear c9
 try clear c10
 try clear c10b0
 try clear c11
 try clear c11b0
 try clear c12
 try clear c12b0
 try clear hx157_0
 try clear p157
 try clear q157
 obtain ⟨x6_4, x7_4, rfl, rfl, HA, HK4, ⟨m4, rfl⟩⟩ := hrel
 cases gk with
 | zero => exact absurd HA.out (by simp [psalteryref04_Right.l1])
 | succ k4 => (
 have H := HA.out
 clear HA
 simp only [psalteryref04_Right.l1] at H
 by_cases c13 : 0 ≤ x5_2
 {
 rw [if_pos c13] at H
 have c13b0 : decide (0 ≤ x5_2) = true := decide_eq_true c13
 clear c13
 by_cases c14 : x5_2 < (l0.length : Int)
 {
 rw [if_pos c14] at H
 have c14b0 : decide (x5_2 < (l0.length : Int)) = true := decide_eq_true c14
 clear c14
 by_cases c15 : x7_4 < (rd l0 x5_2)
 {
 rw [if_pos c15] at H
 have c15b0 : decide (x7_4 < (rd l0 x5_2)) = true := decide_eq_true c15
 clear c15
 have H' := Aside0.mk H
 clear H
 have p158 : 0 ≤ (x5_2 : Int) := of_decide_eq_true am_
 have q158 : x5_2 < (l0.length : Int) := of_decide_eq_true am_
 obtain ⟨ad158, e158, hx158_0⟩ := Kd.at_int HR0.out x5_2 p158 q158
 obtain rfl : ad157 = ad158 := (by injection e158)
 replace p158 := eq_true p158
 replace q158 := eq_true q158
 go_wp2
 go_roundg k4
 case measure => have := HJ1.out; have := HK2.out; have := HJ5.out; have := HK4.out; omega
 case rel => exact ⟨(wrap64 (Int.tdiv x6_4 2)), (wrap64 (x7_4 + 1)), rs_, rs_, H', ⟨by have := HJ1.out; have := HK2.out; have := HJ5.out; have := HK4.out; omega⟩, by repeat (first | exact Drawn0.refl _ | apply Drawn0.step)⟩}
 {
 rw [if_neg c15] at H
 have c15b0 : decide (x7_4 < (rd l0 x5_2)) = false := decide_eq_false c15
 clear c15
 have H' := Aside0.mk H
 clear H
 have p158 : 0 ≤ (x5_2 : Int) := of_decide_eq_true am_
 have q158 : x5_2 < (l0.length : Int) := of_decide_eq_true am_
 obtain ⟨ad158, e158, hx158_0⟩ := Kd.at_int HR0.out x5_2 p158 q158
 obtain rfl : ad157 = ad158 := (by injection e158)
 replace p158 := eq_true p158
 replace q158 := eq_true q158
 go_wp2
 go_roundg k4
 case measure => have := HJ1.out; have := HK2.out; have := HJ5.out; have := HK4.out; omega
 case rel => exact ⟨(wrap64 (x3_2 + x6_4)), ((wrap64 (x4_2 + 1))), (wrap64 (x5_2 + 1)), rs_, rs_, rs_, H', ⟨by have := HJ1.out; have := HK2.out; have := HJ5.out; have := HK4.out; omega⟩, by repeat (first | exact Drawn0.refl _ | apply Drawn0.step)⟩}}
 {
 rw [if_neg c14] at H
 exact absurd H (by simp)}}
 {
 rw [if_neg c13] at H
 exact absurd H (by simp)}))}
 {
 rw [if_neg c12] at H
 have c12b0 : decide (0 < (rd l0 x5_2)) = false := decide_eq_false c12
 clear c12
 have H' := Aside0.mk H
 clear H
 have p157 : 0 ≤ (x5_2 : Int) := of_decide_eq_true am_
 have q157 : x5_2 < (l0.length : Int) := of_decide_eq_true am_
 obtain ⟨ad157, e157, hx157_0⟩ := Kd.at_int HR0.out x5_2 p157 q157
 cases e157
 replace p157 := eq_true p157
 replace q157 := eq_true q157
 go_wp2
 go_roundg kj5
 case measure => have := HJ1.out; have := HK2.out; have := HJ5.out; omega
 case rel => exact ⟨(x3_2), (x4_2), (wrap64 (x5_2 + 1)), rs_, rs_, rs_, H', ⟨by have := HJ1.out; have := HK2.out; have := HJ5.out; omega⟩, by repeat (first | exact Drawn0.refl _ | apply Drawn0.step)⟩}}
 {
 rw [if_neg c11] at H
 exact absurd H (by simp)}}
 {
 rw [if_neg c10] at H
 exact absurd H (by simp)}}))}
 {
 rw [if_neg c5] at H
 have c5b0 : decide (x5_2 < (l0.length : Int)) = false := decide_eq_false c5
 clear c5
 by_cases c16 : x4_2 = 1
 {
 rw [if_pos c16] at H
 have c16b0 : (x4_2 == 1) = true := beq_iff_eq.mpr c16
 have c16b1 : (x4_2 != 1) = false := bne_eq_false_iff_eq.mpr c16
 clear c16
 obtain rfl := Option.some.inj H
 go_wp2
 go_ret
 exact ⟨by first | rfl | (simp; done) | (simp [*]; done), by repeat (first | exact Drawn0.refl _ | apply Drawn0.step)⟩}
 {
 rw [if_neg c16] at H
 have c16b0 : (x4_2 == 1) = false := beq_eq_false_iff_ne.mpr c16
 have c16b1 : (x4_2 != 1) = true := bne_iff_ne.mpr c16
 by_cases c17 : x4_2 > 1
 {
 rw [if_pos c17] at H
 have c17b0 : decide (1 < x4_2) = true := decide_eq_true c17
 clear c17
 obtain rfl := Option.some.inj H
 go_wp2
 go_ret
 exact ⟨by first | rfl | (simp; done) | (simp [*]; done), by repeat (first | exact Drawn0.refl _ | apply Drawn0.step)⟩}
 {
 rw [if_neg c17] at H
 have c17b0 : decide (1 < x4_2) = false := decide_eq_false c17
 clear c17
 obtain rfl := Option.some.inj H
 go_wp2
 go_ret
 exact ⟨by first | rfl | (simp; done) | (simp [*]; done), by repeat (first | exact Drawn0.refl _ | apply Drawn0.step)⟩}}}))}))
end Go.Proofs.Ytpdfdaoohknfoaa.P
