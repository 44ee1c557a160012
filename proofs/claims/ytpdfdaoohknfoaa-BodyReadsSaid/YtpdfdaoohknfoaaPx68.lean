/- Walks. -/
import Derived.Test.YtpdfdaoohknfoaaQ1
import Derived.Test.YtpdfdaoohknfoaaPx16
import Derived.Test.YtpdfdaoohknfoaaQ3
import Derived.Test.YtpdfdaoohknfoaaPx53
import Derived.Test.YtpdfdaoohknfoaaPx65
import Derived.Test.YtpdfdaoohknfoaaPx67
namespace Go.Proofs.Ytpdfdaoohknfoaa.P
open Go.RowKit Go.Proofs.YtpdfdaoohknfoaaW.PrintWords Go.Proofs.YtpdfdaoohknfoaaW.PrintLast Go.Proofs.YtpdfdaoohknfoaaW.PrintMore
attribute [local go_sem] max2_int min2_int max_two min_two max_three min_three max_four min_four   -- for this text's walks alone
set_option linter.unusedVariables false
set_option linter.unusedSimpArgs false

def psalterylaw17_BodyReads.j0 : Nat → List Int → Bool → Int → Int → List Int → List Int → Option (Bool)
  | 0, _, _, _, _, _, _ => none
  | k + 1, x1, x15, x833000, x833001, x833002, x833003 => if x15 = true then ((psalterylaw17_knows.f k).bind fun t834 => (some t834)) else ((some (([] : List Int) : List Int)).bind fun y835 => (if y835.length + x1.length < 140737488355328 then ((vpack_Read.f k x833000 x833001 x833002 x833003 (y835 ++ x1)).bind fun bt841 => ((psalterylaw16_As.f x833000 x833001 x833002 x833003).bind fun bt849 => ((psalteryref17_Read.f k bt849.1 bt849.2 x833002 x833003 x1).bind fun bt851 => ((psalterylaw17_As.f bt841.1 bt841.2.1).bind fun _ => ((psalteryref17_Same.f k bt841.1 bt841.2.1 bt851.1 bt851.2.1).bind fun t859 => (if t859 = true then (if bt841.2.2 = bt851.2.2 then ((psalterylaw17_knows.f k).bind fun t860 => (some t860)) else (some false)) else (some false))))))) else (none)))
def psalterylaw17_BodyReads.f (k : Nat) (a0_0 : Int) (a0_1 : Int) (l0_2 : List Int) (l0_3 : List Int) (l1 : List Int) : Option (Bool) := (psalterylaw16_Great.f a0_0 a0_1 l0_2 l0_3).bind fun t833 => (if t833 = true then (psalterylaw17_BodyReads.j0 k l1 true a0_0 a0_1 l0_2 l0_3) else (psalterylaw17_BodyReads.j0 k l1 (decide ((l1.length : Int) > 1000)) a0_0 a0_1 l0_2 l0_3))
theorem psalterylaw17_BodyReads.mono_l : ∀ k, (∀ y0 y1 y2 y3 y4 y5, LeO (psalterylaw17_BodyReads.j0 k y0 y1 y2 y3 y4 y5) (psalterylaw17_BodyReads.j0 (k + 1) y0 y1 y2 y3 y4 y5))
  | 0 => fun _ _ _ _ _ _ r h => by simp [psalterylaw17_BodyReads.j0] at h
  | k + 1 => by
    have ih0 := psalterylaw17_BodyReads.mono_l k
    · intro y0 y1 y2 y3 y4 y5
      unfold psalterylaw17_BodyReads.j0
      with_reducible repeat' first
   | exact ih0 _ _ _ _ _ _
   | exact psalterylaw17_knows.mono _
   | exact psalteryref17_Read.mono _ _ _ _ _ _
   | exact psalteryref17_Same.mono _ _ _ _ _
   | exact vpack_Read.mono _ _ _ _ _ _
   | exact LeO.refl _
   | exact LeO.none _
   | refine LeO.ite ?_ ?_
   | refine LeO.bind ?_ (fun _ => ?_)
theorem psalterylaw17_BodyReads.mono : ∀ a0 a1 a2 a3 a4 k, LeO (psalterylaw17_BodyReads.f k a0 a1 a2 a3 a4) (psalterylaw17_BodyReads.f (k + 1) a0 a1 a2 a3 a4) := by
  intro a0 a1 a2 a3 a4 k
  have ih0 := psalterylaw17_BodyReads.mono_l k
  unfold psalterylaw17_BodyReads.f
  with_reducible repeat' first
   | exact ih0 _ _ _ _ _ _
   | exact psalterylaw17_knows.mono _
   | exact psalteryref17_Read.mono _ _ _ _ _ _
   | exact psalteryref17_Same.mono _ _ _ _ _
   | exact vpack_Read.mono _ _ _ _ _ _
   | exact LeO.refl _
   | exact LeO.none _
   | refine LeO.ite ?_ ?_
   | refine LeO.bind ?_ (fun _ => ?_)
def psalterylaw17_BodyReads.T3 : Bool × List (List Nat × List Nat) := (true, [([], []), ([], []), ([], []), ([1, 2], [1, 2]), ([0, 3, 3], [0, 3]), ([4], [4]), ([5], [5]), ([5], [5]), ([], []), ([8, 6, 4, 0, 1, 2, 3, 4, 5, 6, 8], [6, 8]), ([7, 9, 0, 1, 2, 3, 4, 5, 6, 7, 8, 9], [7])])
def psalterylaw17_BodyReads.B3 : List Nat := [0, 0, 0, 6, 15, 31, 63, 63, 0, 383, 1023]
theorem psalterylaw17_BodyReads.tab3 : rtab .any (opsOf Try.f11 3) = psalterylaw17_BodyReads.T3 := by kernel_rfl
theorem psalterylaw17_BodyReads.bits3 : waitsOk psalterylaw17_BodyReads.T3.2 psalterylaw17_BodyReads.B3 = true := by kernel_rfl
def psalterylaw17_BodyReads.T5 : Bool × List (List Nat × List Nat) := (true, [([], []), ([0], [0]), ([], []), ([1, 2, 1], [1, 2]), ([3, 3], [3]), ([4], [4]), ([4], [4]), ([5, 6, 4], [4, 5, 6]), ([4, 7], [4, 7]), ([8, 4], [8]), ([9, 9], [9]), ([9, 10], [9, 10]), ([11, 10, 0, 1, 2, 3, 4, 5, 6, 7, 8, 9, 10, 11], [11])])
def psalterylaw17_BodyReads.B5 : List Nat := [0, 1, 0, 7, 15, 31, 31, 127, 255, 511, 1023, 2047, 4095]
theorem psalterylaw17_BodyReads.tab5 : rtab .any (opsOf Try.f11 5) = psalterylaw17_BodyReads.T5 := by kernel_rfl
theorem psalterylaw17_BodyReads.bits5 : waitsOk psalterylaw17_BodyReads.T5.2 psalterylaw17_BodyReads.B5 = true := by kernel_rfl
set_option maxHeartbeats 8000000 in
set_option maxRecDepth 100000 in
theorem psalterylaw17_BodyReads.calls (k : Nat) (a0_0 : Int) (a0_1 : Int) (A0_2 : Option Addr) (c0_2 : Nat) (l0_2 : List Int) (A0_3 : Option Addr) (c0_3 : Nat) (l0_3 : List Int) (A1 : Option Addr) (c1 : Nat) (l1 : List Int) (r : Bool) (w : World) (hr0_2 : Kd.C (Kd.int .i64) w A0_2 l0_2.length l0_2) (hc0_2 : l0_2.length ≤ c0_2) (hr0_3 : Kd.C (Kd.int .i64) w A0_3 l0_3.length l0_3) (hc0_3 : l0_3.length ≤ c0_3) (hr1 : Kd.C (Kd.int .u8) w A1 l1.length l1) (hc1 : l1.length ≤ c1) (h : psalterylaw17_BodyReads.f k a0_0 a0_1 l0_2 l0_3 l1 = some r) (hT : r = true) :
    Calls Try.prog 11 #[.agg #[.int .i64 a0_0, .int .i64 a0_1, .slice A0_2 l0_2.length c0_2, .slice A0_3 l0_3.length c0_3], .slice A1 l1.length c1] w fun e w' => e = .returned (.bool r) ∧ Below w.heap.size w w' := by
 have hu24 := Try.underlying24
 have hu48 := Try.underlying48
 have hu51 := Try.underlying51
 have HR0_2 := Aside0.mk hr0_2
 have HC0_2 := Aside0.mk hc0_2
 clear hr0_2 hc0_2
 have HR0_3 := Aside0.mk hr0_3
 have HC0_3 := Aside0.mk hc0_3
 clear hr0_3 hc0_3
 have HR1 := Aside0.mk hr1
 have HC1 := Aside0.mk hc1
 clear hr1 hc1
 have HB := Aside0.mk (Below.refl w.heap.size w)
 have H : ((psalterylaw16_Great.f a0_0 a0_1 l0_2 l0_3).bind fun t833 => (if t833 = true then (psalterylaw17_BodyReads.j0 k l1 true a0_0 a0_1 l0_2 l0_3) else (psalterylaw17_BodyReads.j0 k l1 (decide ((l1.length : Int) > 1000)) a0_0 a0_1 l0_2 l0_3))) = some r := h
 clear h
 have HT := Aside0.mk hT
 clear hT
 have HC3 := Aside0.mk H
 clear H
 go_enter Try.func11, Try.ntmps11
 go_upto_region 1 with (first | ((with_reducible refine gate_dst (N := 2) rfl ?_); (try (refine gate_guard (by rfl) ?_; dsimp only)); refine bx_ HB 2 #[.int .i64 a0_0, .int .i64 a0_1, .slice A0_2 l0_2.length c0_2, .slice A0_3 l0_3.length c0_3] 24 ?_; clear HB; intro gb832 hg w4 hb BK832 GE832 HB; have GW832 := GE832; clear hb hg))
 (try simp only [Act.put, List.setIfInBounds_toArray, List.set_cons_zero, List.set_cons_succ])
 go_cut [15] (fun v15 wc => ∃ (kq : Nat) (x15_2 : Bool), v15 = .bool x15_2 ∧ Aside0 (psalterylaw17_BodyReads.j0 kq l1 x15_2 a0_0 a0_1 l0_2 l0_3 = some r) ∧ Aside0 (kq ≤ k) ∧ Aside0 (wc.heap[gb832]? = some (.cells #[.int .i64 a0_0, .int .i64 a0_1, (.slice A0_2 l0_2.length c0_2), (.slice A0_3 l0_3.length c0_3)] 24 (0, 0))) ∧ Aside0 (Below w.heap.size w wc))
 case first => (
 have H := HC3.out
 clear HC3
 obtain ⟨t833, A5, H⟩ := ob_ H
 (try dsimp only at H)
 by_cases c6 : t833 = true
 {
 subst c6
 rw [if_pos rfl] at H
 have H' := Aside0.mk H
 clear H
 obtain ⟨hcz7_0, hcz7_1, hcz7_2, hcz7_3, hfz7_0, hfz7_1, hfz7_2, hfz7_3⟩ := e4_ BK832
 go_wp2_with (first | ((with_reducible refine gate_callee (f := 15) rfl ?_); refine gL_ (some 10) Try.func15 #[.agg #[.int .i64 a0_0, .int .i64 a0_1, .slice A0_2 l0_2.length c0_2, .slice A0_3 l0_3.length c0_3]] ?_; (with_reducible refine (psalterylaw16_Great.calls a0_0 a0_1 _ _ l0_2 _ _ l0_3 true _ ?side1 ?side2 ?side3 ?side4 A5.out).mono ?_); (case side1 => exact kC_ HR0_2 HB); (case side2 => exact HC0_2.out); (case side3 => exact kC_ HR0_3 HB); (case side4 => exact HC0_3.out); rintro e w8 ⟨rfl, hb⟩; refine ⟨_, rfl, ?_⟩; replace BK832 := FB_ BK832 hb; replace HB := BS_ HB hb; (try clear hb)))
 go_meet
 case rel => exact ⟨_, (true), rs_, H', ⟨ol_⟩, ⟨bk_ BK832⟩, ⟨bl_ HB⟩⟩}
 {
 replace c6 := Bool.eq_false_iff.mpr c6
 subst c6
 rw [if_neg (show ¬ (false = true) by decide)] at H
 have H' := Aside0.mk H
 clear H
 obtain ⟨hcz9_0, hcz9_1, hcz9_2, hcz9_3, hfz9_0, hfz9_1, hfz9_2, hfz9_3⟩ := e4_ BK832
 go_wp2_with (first | ((with_reducible refine gate_callee (f := 15) rfl ?_); refine gL_ (some 10) Try.func15 #[.agg #[.int .i64 a0_0, .int .i64 a0_1, .slice A0_2 l0_2.length c0_2, .slice A0_3 l0_3.length c0_3]] ?_; (with_reducible refine (psalterylaw16_Great.calls a0_0 a0_1 _ _ l0_2 _ _ l0_3 false _ ?side1 ?side2 ?side3 ?side4 A5.out).mono ?_); (case side1 => exact kC_ HR0_2 HB); (case side2 => exact HC0_2.out); (case side3 => exact kC_ HR0_3 HB); (case side4 => exact HC0_3.out); rintro e w10 ⟨rfl, hb⟩; refine ⟨_, rfl, ?_⟩; replace BK832 := FB_ BK832 hb; replace HB := BS_ HB hb; (try clear hb)))
 go_meet
 case rel => exact ⟨_, (decide ((l1.length : Int) > 1000)), rs_, H', ⟨ol_⟩, ⟨bk_ BK832⟩, ⟨bl_ HB⟩⟩})
 case rest => (
 clear HC3
 obtain ⟨kq, x15_2, rfl, HA, HJ2, BK832, HB⟩ := hcut
 cases kq with
 | zero => exact absurd HA.out (by simp [psalterylaw17_BodyReads.j0])
 | succ kj2 => (
 have H := HA.out
 clear HA
 simp only [psalterylaw17_BodyReads.j0] at H
 by_cases c11 : x15_2 = true
 {
 subst c11
 rw [if_pos rfl] at H
 replace H := Option.bind_eq_some_iff.mp H
 obtain ⟨t834, A120, H⟩ := H
 replace H : (some t834) = some r := H
 have A12 := Aside0.mk A120
 clear A120
 obtain rfl := Option.some.inj H
 go_wp2_with (first | ((with_reducible refine gate_callee (f := 28) rfl ?_); refine gL_ (some 16) Try.func28 #[] ?_; (with_reducible refine (psalterylaw17_knows.calls kj2  t834 _ A12.out).mono ?_); rintro e w13 ⟨rfl, hb⟩; refine ⟨_, rfl, ?_⟩; replace BK832 := FB_ BK832 hb; replace HB := BS_ HB hb; (try clear hb)))
 go_ret
 exact ⟨by first | rfl | (simp [errW_none, errW_some] <;> rfl) | (simp [*, errW_none, errW_some] <;> rfl), bl_ HB⟩}
 {
 replace c11 := Bool.eq_false_iff.mpr c11
 subst c11
 rw [if_neg (show ¬ (false = true) by decide)] at H
 obtain ⟨y835, hy835⟩ : ∃ y_ : List Int, y_ = (([] : List Int)) := ⟨_, rfl⟩
 replace H : (if y835.length + l1.length < 140737488355328 then ((vpack_Read.f kj2 a0_0 a0_1 l0_2 l0_3 (y835 ++ l1)).bind fun bt841 => ((psalterylaw16_As.f a0_0 a0_1 l0_2 l0_3).bind fun bt849 => ((psalteryref17_Read.f kj2 bt849.1 bt849.2 l0_2 l0_3 l1).bind fun bt851 => ((psalterylaw17_As.f bt841.1 bt841.2.1).bind fun _ => ((psalteryref17_Same.f kj2 bt841.1 bt841.2.1 bt851.1 bt851.2.1).bind fun t859 => (if t859 = true then (if bt841.2.2 = bt851.2.2 then ((psalterylaw17_knows.f kj2).bind fun t860 => (some t860)) else (some false)) else (some false))))))) else (none)) = some r := by first | (rw [hy835]; with_reducible exact H) | (have H2_ := (Option.bind_some _ _).symm.trans H; rw [hy835]; with_reducible exact H2_) | (have H2_ := (Option.bind_some _ _).symm.trans H; with_reducible exact H2_) | with_reducible exact H | (rw [hy835]; exact H) | exact H
 have Ny835 := Aside0.mk hy835
 clear hy835
 by_cases c14 : y835.length + l1.length < 140737488355328
 {
 rw [if_pos c14] at H
 have LMc14 := Aside0.mk c14
 clear c14
 obtain ⟨y838, hy838⟩ : ∃ y_ : List Int, y_ = (y835 ++ l1) := ⟨_, rfl⟩
 replace H : ((vpack_Read.f kj2 a0_0 a0_1 l0_2 l0_3 y838).bind fun bt841 => ((psalterylaw16_As.f a0_0 a0_1 l0_2 l0_3).bind fun bt849 => ((psalteryref17_Read.f kj2 bt849.1 bt849.2 l0_2 l0_3 l1).bind fun bt851 => ((psalterylaw17_As.f bt841.1 bt841.2.1).bind fun _ => ((psalteryref17_Same.f kj2 bt841.1 bt841.2.1 bt851.1 bt851.2.1).bind fun t859 => (if t859 = true then (if bt841.2.2 = bt851.2.2 then ((psalterylaw17_knows.f kj2).bind fun t860 => (some t860)) else (some false)) else (some false))))))) = some r := by first | (rw [hy838]; with_reducible exact H) | (have H2_ := (Option.bind_some _ _).symm.trans H; rw [hy838]; with_reducible exact H2_) | (have H2_ := (Option.bind_some _ _).symm.trans H; with_reducible exact H2_) | with_reducible exact H | (rw [hy838]; exact H) | exact H
 have Ny838 := Aside0.mk hy838
 clear hy838
 obtain ⟨⟨t841, t844, t847⟩, A15, H⟩ := ob_ H
 (try dsimp only at H)
 obtain ⟨⟨t849, t850⟩, A16, H⟩ := ob_ H
 (try dsimp only at H)
 obtain ⟨⟨t851, t854, t857⟩, A17, H⟩ := ob_ H
 (try dsimp only at H)
 obtain ⟨_, A18, H⟩ := ob_ H
 (try dsimp only at H)
 obtain ⟨t859, A19, H⟩ := ob_ H
 (try dsimp only at H)
 by_cases c20 : t859 = true
 {
 subst c20
 rw [if_pos rfl] at H
 by_cases c21 : t847 = t857
 {
 rw [if_pos c21] at H
 have c21b0 : (t847 == t857) = true := beq_iff_eq.mpr c21
 have c21b1 : (t847 != t857) = false := bne_eq_false_iff_eq.mpr c21
 clear c21
 replace H := Option.bind_eq_some_iff.mp H
 obtain ⟨t860, A220, H⟩ := H
 replace H : (some t860) = some r := H
 have A22 := Aside0.mk A220
 clear A220
 obtain rfl := Option.some.inj H
 try go_wp2
 replace BK832 := Aside0.mk (blk_drew BK832.out)
 replace HB := Aside0.mk (below_drew1 HB.out)
 refine start_ (n := 11) (S := fun w' => w'.cell? ⟨gb832, 0, none⟩ = some (.int .i64 a0_0) ∧ w'.cell? ⟨gb832, 1, none⟩ = some (.int .i64 a0_1) ∧ w'.cell? ⟨gb832, 2, none⟩ = some (.slice A0_2 l0_2.length c0_2) ∧ w'.cell? ⟨gb832, 3, none⟩ = some (.slice A0_3 l0_3.length c0_3)) (ds := []) (B_ 11 0) kf_ rfl rfl ⟨ce_ BK832 0, ce_ BK832 1, ce_ BK832 2, ce_ BK832 3⟩ (fun hHeld => ?_); refine with_tabW psalterylaw17_BodyReads.tab3 psalterylaw17_BodyReads.bits3 (fun HT_ HW_ => ?_)
 generalize wc.drew = w23 at BK832 HB hHeld ⊢
 refine pu_ 2 (some 20) (B_ 11 4) HT_ ?_
 refine take_ (i := 0) (N := some 18) (v := ?_) (a' := ?_) (B_ 11 5) rfl rfl (take_ofW HT_.out HW_.out kf_) (fun _ _ _ h => h) (Or.inl ⟨by rfl, ?_⟩) hHeld ?_ ?_
 rotate_left
 {
 rintro w' ⟨s0, s1, s2, s3⟩
 go_simp
 with_reducible rfl}
 rotate_left
 {
 exact sp_}
 refine join_ (σ := Value × Value × Value × Value × Nat) 2 (B_ 11 511) (fun s_ => [(19, s_.1), (21, s_.2.1), (22, .tuple #[.agg #[s_.2.2.1, s_.2.2.2.1], .int .i64 t847]), (5, .pointer (some ⟨s_.2.2.2.2, 0, none⟩)), (17, .tuple #[.agg #[s_.2.2.1, s_.2.2.2.1], .int .i64 t847]), (23, .agg #[s_.2.2.1, s_.2.2.2.1]), (24, .int .i64 t847)]) (fun s_ w' => (w'.cell? ⟨gb832, 0, none⟩ = some (.int .i64 a0_0) ∧ w'.cell? ⟨gb832, 1, none⟩ = some (.int .i64 a0_1) ∧ w'.cell? ⟨gb832, 2, none⟩ = some (.slice A0_2 l0_2.length c0_2) ∧ w'.cell? ⟨gb832, 3, none⟩ = some (.slice A0_3 l0_3.length c0_3)) ∧ (Kd.R (Kd.int .u8) 5 w' w.heap.size (fun _ => True) s_.2.1 y838) ∧ (Kd.S (Kd.slice 3 (Kd.int .i64)) 22 w' w.heap.size (fun _ => True) s_.2.2.1 t841) ∧ (Kd.S (Kd.slice 2 (Kd.int .i64)) 84 w' w.heap.size (fun _ => True) s_.2.2.2.1 t844) ∧ (w'.heap[gb832]? = some (.cells #[.int .i64 a0_0, .int .i64 a0_1, .slice A0_2 l0_2.length c0_2, .slice A0_3 l0_3.length c0_3] 24 (0, 0))) ∧ (w'.heap[s_.2.2.2.2]? = some (.cells #[.slice none 0 0, .slice none 0 0] 48 (0, 0))) ∧ (w.heap.size ≤ s_.2.2.2.2) ∧ (w.heap.size ≤ s_.2.2.2.2) ∧ (gb832 ≠ s_.2.2.2.2) ∧ (s_.2.2.2.2 ≠ gb832) ∧ (Below w.heap.size w w')) ?_ ?_
 rotate_left
 {
 intro hCont
 refine two_ (i := 1) (j := 8) (Ni := some 19) (Nj := some 5) (B_ 11 7) (B_ 11 261) rfl rfl rfl rfl (two_of HT_.out kf_) (by decide) (by decide) (fun K hK => ?_) (fun K hK => ?_)
 {
 skip
 refine Kd.R_lit_step (Kd.int .u8) _ 5 ?hg (N := 19) ?hd (xs := ([] : List Int)) (inner := []) (ok := fun _ => True) (okp := fun _ => True) ?hr ?hp (fun _ hk => hk) trivial (Below.refl _ _) (Nat.le_refl _) (by simp) ?_; (case hd => rfl); (case hg => rfl); (case hr => first | (go_simp; done) | (go_simp; rfl)); (case hp => exact (Reps.none _ _))
 intro v836 w24 ho25 hb hg_ hnew_
 clear hg_ hnew_
 (first | rw [← Ny835.out] at ho25 | (simp only [Int.reduceToNat] at ho25; rw [← Ny835.out] at ho25))
 have HO837 := Aside0.mk (Kd.R_lower ho25 (bs_ HB))
 replace BK832 := FB_ BK832 hb
 replace HB := BS_ HB hb
 clear hb ho25
 refine hK.out _ _ ⟨ce_ BK832 0, ce_ BK832 1, ce_ BK832 2, ce_ BK832 3⟩ (fun hHeld => ?_)
 clear hK K
 refine norm_ (a' := ?_) ?_ ?_
 rotate_left
 {
 show Act.put _ (some 19) _ = _
 exact sp_}
 refine two_ (i := 3) (j := 8) (Ni := some 21) (Nj := some 5) (B_ 11 15) (B_ 11 263) rfl rfl rfl rfl (two_of HT_.out kf_) (by decide) (by decide) (fun K hK => ?_) (fun K hK => ?_)
 {
 skip
 refine Kd.R_append_rows_step (Kd.int .u8) (w0 := w) w.heap.size (by rfl) (.tmp 19) (.tmp 20) 34 5 (.int .u8 0) 1 rfl Try.underlying34 info5 rfl (by decide) (by omega) v836 y835 l1 _ _ _ (fun _ => True) (fun _ => False) rfl rfl ?aO ?aR (fun _ _ h => h) (fun _ h => h.elim) ?aF ?aB ?aS ?aL ?_
 (case aR => exact kC_ HR1 HB)
 (case aB => exact (bl_ HB))
 (case aF => exact (fun _ _ => trivial))
 (case aO => exact (kR_ HO837))
 (case aS => exact (bs_ HB))
 (case aL => have := LMc14.out; omega)
 intro v839 w26 ho hb hg hat
 rw [← Ny838.out] at ho
 replace BK832 := (FG_ BK832 hg (Kd.R_ne HO837.out BK832.out (by decide)))
 replace HB := Aside0.mk (hb)
 have HO840 := Aside0.mk (ho)
 clear HO837
 clear ho hb hg hat
 obtain ⟨Ao27, co27, eo27⟩ := Kd.R_slice HO840.out
 (first | subst eo27 | (injection eo27 with f1_ f2_ f3_; have f4_ := f1_.symm; have f5_ := f3_.symm; clear f1_ f2_ f3_; subst f4_; subst f5_))
 refine hK.out _ _ ⟨ce_ BK832 0, ce_ BK832 1, ce_ BK832 2, ce_ BK832 3⟩ (fun hHeld => ?_)
 clear hK K
 refine norm_ (a' := ?_) ?_ ?_
 rotate_left
 {
 show Act.put _ (some 21) _ = _
 exact sp_}
 refine two_ (i := 4) (j := 8) (Ni := some 22) (Nj := some 5) (B_ 11 31) (B_ 11 271) rfl rfl rfl rfl (two_of HT_.out kf_) (by decide) (by decide) (fun K hK => ?_) (fun K hK => ?_)
 {
 skip
 refine goes_ Try.func34 kf_ rfl #[.agg #[.int .i64 a0_0, .int .i64 a0_1, .slice A0_2 l0_2.length c0_2, .slice A0_3 l0_3.length c0_3], .slice Ao27 y838.length co27] (by rfl) rfl rfl ar_ ?_
 with_reducible refine (vpack_Read.calls kj2 a0_0 a0_1 _ _ l0_2 _ _ l0_3 _ _ y838 t841 t844 t847 _ ?side1 ?side2 ?side3 ?side4 ?side5 ?side6 A15.out).mono ?_
 (case side1 => exact kC_ HR0_2 HB)
 (case side2 => exact HC0_2.out)
 (case side3 => exact kC_ HR0_3 HB)
 (case side4 => exact HC0_3.out)
 (case side5 => exact kCt_ (Kd.R_reads' HO840.out).2.2)
 (case side6 => exact (Kd.R_reads' HO840.out).2.1)
 rintro e w28 ⟨v842, v845, rfl, ho0, ho1, hb⟩
 refine ⟨_, rfl, ?_⟩
 replace HO840 := FR_ HO840 hb
 have HO843 := Aside0.mk (Kd.S_lower ho0 (bs_ HB))
 have HO846 := Aside0.mk (Kd.S_lower ho1 (bs_ HB))
 replace BK832 := FB_ BK832 hb
 replace HB := BS_ HB hb
 (try clear hb)
 (try clear hk)
 (try clear ho0)
 (try clear ho1)
 refine hK.out _ _ ⟨ce_ BK832 0, ce_ BK832 1, ce_ BK832 2, ce_ BK832 3⟩ (fun hHeld => ?_)
 clear hK K
 refine norm_ (a' := ?_) ?_ ?_
 rotate_left
 {
 show Act.put _ (some 22) _ = _
 exact sp_}
 refine pu_ 5 (some 17) (B_ 11 63) HT_ ?_
 refine pu_ 6 (some 23) (B_ 11 127) HT_ ?_
 refine pu_ 7 (some 24) (B_ 11 255) HT_ ?_
 refine one_ (i := 8) (N := some 5) (B_ 11 511) rfl rfl (one_of HT_.out kf_) (by decide) (fun K hK => ?_)
 refine box_step ?hg (N := 5) ?hd (cs := #[.slice none 0 0, .slice none 0 0]) (t := 48) ?hr ?_; (case hd => rfl); (case hg => rfl); (case hr => first | (go_simp; done) | (go_simp; rfl))
 intro gb848 hg w29 hbox hb
 replace HO840 := FR_ HO840 hb
 replace HO843 := FS_ HO843 hb
 replace HO846 := FS_ HO846 hb
 have BK848 := Aside0.mk (hbox)
 have GW848 := GE_ HB hg
 have GE848 := GE_ HB hg
 replace HB := BS_ HB hb
 obtain ⟨NB832_848, NB848_832⟩ := NN_ BK832 hg
 replace BK832 := FB_ BK832 hb
 clear hb hg
 refine hK.out _ _ ⟨ce_ BK832 0, ce_ BK832 1, ce_ BK832 2, ce_ BK832 3⟩ (fun hHeld => ?_)
 clear hK K
 refine norm_ (a' := ?_) ?_ ?_
 rotate_left
 {
 show Act.put _ (some 5) _ = _
 exact sp_}
 exact norm_ pa_ (hCont (v836, .slice Ao27 y838.length co27, v842, v845, gb848) _ ⟨hHeld, (kR_ HO840), (kS_ HO843), (kS_ HO846), (bk_ BK832), (bk_ BK848), GW848.out, GE848.out, NB832_848.out, NB848_832.out, (bl_ HB)⟩)}
 {
 skip
 refine box_step ?hg (N := 5) ?hd (cs := #[.slice none 0 0, .slice none 0 0]) (t := 48) ?hr ?_; (case hd => rfl); (case hg => rfl); (case hr => first | (go_simp; done) | (go_simp; rfl))
 intro gb848 hg w27 hbox hb
 replace HO840 := FR_ HO840 hb
 have BK848 := Aside0.mk (hbox)
 have GW848 := GE_ HB hg
 have GE848 := GE_ HB hg
 replace HB := BS_ HB hb
 obtain ⟨NB832_848, NB848_832⟩ := NN_ BK832 hg
 replace BK832 := FB_ BK832 hb
 clear hb hg
 obtain ⟨Ao28, co28, eo28⟩ := Kd.R_slice HO840.out
 (first | subst eo28 | (injection eo28 with f1_ f2_ f3_; have f4_ := f1_.symm; have f5_ := f3_.symm; clear f1_ f2_ f3_; subst f4_; subst f5_))
 refine hK.out _ _ ⟨ce_ BK832 0, ce_ BK832 1, ce_ BK832 2, ce_ BK832 3⟩ (fun hHeld => ?_)
 clear hK K
 refine norm_ (a' := ?_) ?_ ?_
 rotate_left
 {
 show Act.put _ (some 5) _ = _
 exact sp_}
 refine one_ (i := 4) (N := some 22) (B_ 11 287) rfl rfl (one_of HT_.out kf_) (by decide) (fun K hK => ?_)
 refine goes_ Try.func34 kf_ rfl #[.agg #[.int .i64 a0_0, .int .i64 a0_1, .slice A0_2 l0_2.length c0_2, .slice A0_3 l0_3.length c0_3], .slice Ao28 y838.length co28] (by rfl) rfl rfl ar_ ?_
 with_reducible refine (vpack_Read.calls kj2 a0_0 a0_1 _ _ l0_2 _ _ l0_3 _ _ y838 t841 t844 t847 _ ?side1 ?side2 ?side3 ?side4 ?side5 ?side6 A15.out).mono ?_
 (case side1 => exact kC_ HR0_2 HB)
 (case side2 => exact HC0_2.out)
 (case side3 => exact kC_ HR0_3 HB)
 (case side4 => exact HC0_3.out)
 (case side5 => exact kCt_ (Kd.R_reads' HO840.out).2.2)
 (case side6 => exact (Kd.R_reads' HO840.out).2.1)
 rintro e w29 ⟨v842, v845, rfl, ho0, ho1, hb⟩
 refine ⟨_, rfl, ?_⟩
 replace HO840 := FR_ HO840 hb
 have HO843 := Aside0.mk (Kd.S_lower ho0 (bs_ HB))
 have HO846 := Aside0.mk (Kd.S_lower ho1 (bs_ HB))
 replace BK832 := FB_ BK832 hb
 replace BK848 := FB_ BK848 hb
 replace HB := BS_ HB hb
 (try clear hb)
 (try clear hk)
 (try clear ho0)
 (try clear ho1)
 refine hK.out _ _ ⟨ce_ BK832 0, ce_ BK832 1, ce_ BK832 2, ce_ BK832 3⟩ (fun hHeld => ?_)
 clear hK K
 refine norm_ (a' := ?_) ?_ ?_
 rotate_left
 {
 show Act.put _ (some 22) _ = _
 exact sp_}
 refine pu_ 5 (some 17) (B_ 11 319) HT_ ?_
 refine pu_ 6 (some 23) (B_ 11 383) HT_ ?_
 refine pu_ 7 (some 24) (B_ 11 511) HT_ ?_
 exact norm_ pa_ (hCont (v836, .slice Ao28 y838.length co28, v842, v845, gb848) _ ⟨hHeld, (kR_ HO840), (kS_ HO843), (kS_ HO846), (bk_ BK832), (bk_ BK848), GW848.out, GE848.out, NB832_848.out, NB848_832.out, (bl_ HB)⟩)}}
 {
 skip
 refine box_step ?hg (N := 5) ?hd (cs := #[.slice none 0 0, .slice none 0 0]) (t := 48) ?hr ?_; (case hd => rfl); (case hg => rfl); (case hr => first | (go_simp; done) | (go_simp; rfl))
 intro gb848 hg w26 hbox hb
 replace HO837 := FR_ HO837 hb
 have BK848 := Aside0.mk (hbox)
 have GW848 := GE_ HB hg
 have GE848 := GE_ HB hg
 replace HB := BS_ HB hb
 obtain ⟨NB832_848, NB848_832⟩ := NN_ BK832 hg
 replace BK832 := FB_ BK832 hb
 clear hb hg
 refine hK.out _ _ ⟨ce_ BK832 0, ce_ BK832 1, ce_ BK832 2, ce_ BK832 3⟩ (fun hHeld => ?_)
 clear hK K
 refine norm_ (a' := ?_) ?_ ?_
 rotate_left
 {
 show Act.put _ (some 5) _ = _
 exact sp_}
 refine one_ (i := 3) (N := some 21) (B_ 11 271) rfl rfl (one_of HT_.out kf_) (by decide) (fun K hK => ?_)
 refine Kd.R_append_rows_step (Kd.int .u8) (w0 := w) w.heap.size (by rfl) (.tmp 19) (.tmp 20) 34 5 (.int .u8 0) 1 rfl Try.underlying34 info5 rfl (by decide) (by omega) v836 y835 l1 _ _ _ (fun _ => True) (fun _ => False) rfl rfl ?aO ?aR (fun _ _ h => h) (fun _ h => h.elim) ?aF ?aB ?aS ?aL ?_
 (case aR => exact kC_ HR1 HB)
 (case aB => exact (bl_ HB))
 (case aF => exact (fun _ _ => trivial))
 (case aO => exact (kR_ HO837))
 (case aS => exact (bs_ HB))
 (case aL => have := LMc14.out; omega)
 intro v839 w27 ho hb hg hat
 rw [← Ny838.out] at ho
 replace BK832 := (FG_ BK832 hg (Kd.R_ne HO837.out BK832.out (by decide)))
 replace BK848 := (FG_ BK848 hg (Kd.R_ne HO837.out BK848.out (by decide)))
 replace HB := Aside0.mk (hb)
 have HO840 := Aside0.mk (ho)
 clear HO837
 clear ho hb hg hat
 obtain ⟨Ao28, co28, eo28⟩ := Kd.R_slice HO840.out
 (first | subst eo28 | (injection eo28 with f1_ f2_ f3_; have f4_ := f1_.symm; have f5_ := f3_.symm; clear f1_ f2_ f3_; subst f4_; subst f5_))
 refine hK.out _ _ ⟨ce_ BK832 0, ce_ BK832 1, ce_ BK832 2, ce_ BK832 3⟩ (fun hHeld => ?_)
 clear hK K
 refine norm_ (a' := ?_) ?_ ?_
 rotate_left
 {
 show Act.put _ (some 21) _ = _
 exact sp_}
 refine one_ (i := 4) (N := some 22) (B_ 11 287) rfl rfl (one_of HT_.out kf_) (by decide) (fun K hK => ?_)
 refine goes_ Try.func34 kf_ rfl #[.agg #[.int .i64 a0_0, .int .i64 a0_1, .slice A0_2 l0_2.length c0_2, .slice A0_3 l0_3.length c0_3], .slice Ao28 y838.length co28] (by rfl) rfl rfl ar_ ?_
 with_reducible refine (vpack_Read.calls kj2 a0_0 a0_1 _ _ l0_2 _ _ l0_3 _ _ y838 t841 t844 t847 _ ?side1 ?side2 ?side3 ?side4 ?side5 ?side6 A15.out).mono ?_
 (case side1 => exact kC_ HR0_2 HB)
 (case side2 => exact HC0_2.out)
 (case side3 => exact kC_ HR0_3 HB)
 (case side4 => exact HC0_3.out)
 (case side5 => exact kCt_ (Kd.R_reads' HO840.out).2.2)
 (case side6 => exact (Kd.R_reads' HO840.out).2.1)
 rintro e w29 ⟨v842, v845, rfl, ho0, ho1, hb⟩
 refine ⟨_, rfl, ?_⟩
 replace HO840 := FR_ HO840 hb
 have HO843 := Aside0.mk (Kd.S_lower ho0 (bs_ HB))
 have HO846 := Aside0.mk (Kd.S_lower ho1 (bs_ HB))
 replace BK832 := FB_ BK832 hb
 replace BK848 := FB_ BK848 hb
 replace HB := BS_ HB hb
 (try clear hb)
 (try clear hk)
 (try clear ho0)
 (try clear ho1)
 refine hK.out _ _ ⟨ce_ BK832 0, ce_ BK832 1, ce_ BK832 2, ce_ BK832 3⟩ (fun hHeld => ?_)
 clear hK K
 refine norm_ (a' := ?_) ?_ ?_
 rotate_left
 {
 show Act.put _ (some 22) _ = _
 exact sp_}
 refine pu_ 5 (some 17) (B_ 11 319) HT_ ?_
 refine pu_ 6 (some 23) (B_ 11 383) HT_ ?_
 refine pu_ 7 (some 24) (B_ 11 511) HT_ ?_
 exact norm_ pa_ (hCont (v836, .slice Ao28 y838.length co28, v842, v845, gb848) _ ⟨hHeld, (kR_ HO840), (kS_ HO843), (kS_ HO846), (bk_ BK832), (bk_ BK848), GW848.out, GE848.out, NB832_848.out, NB848_832.out, (bl_ HB)⟩)}}
 {
 skip
 refine box_step ?hg (N := 5) ?hd (cs := #[.slice none 0 0, .slice none 0 0]) (t := 48) ?hr ?_; (case hd => rfl); (case hg => rfl); (case hr => first | (go_simp; done) | (go_simp; rfl))
 intro gb848 hg w24 hbox hb
 have BK848 := Aside0.mk (hbox)
 have GW848 := GE_ HB hg
 have GE848 := GE_ HB hg
 replace HB := BS_ HB hb
 obtain ⟨NB832_848, NB848_832⟩ := NN_ BK832 hg
 replace BK832 := FB_ BK832 hb
 clear hb hg
 refine hK.out _ _ ⟨ce_ BK832 0, ce_ BK832 1, ce_ BK832 2, ce_ BK832 3⟩ (fun hHeld => ?_)
 clear hK K
 refine norm_ (a' := ?_) ?_ ?_
 rotate_left
 {
 show Act.put _ (some 5) _ = _
 exact sp_}
 refine one_ (i := 1) (N := some 19) (B_ 11 263) rfl rfl (one_of HT_.out kf_) (by decide) (fun K hK => ?_)
 refine Kd.R_lit_step (Kd.int .u8) _ 5 ?hg (N := 19) ?hd (xs := ([] : List Int)) (inner := []) (ok := fun _ => True) (okp := fun _ => True) ?hr ?hp (fun _ hk => hk) trivial (Below.refl _ _) (Nat.le_refl _) (by simp) ?_; (case hd => rfl); (case hg => rfl); (case hr => first | (go_simp; done) | (go_simp; rfl)); (case hp => exact (Reps.none _ _))
 intro v836 w25 ho26 hb hg_ hnew_
 clear hg_ hnew_
 (first | rw [← Ny835.out] at ho26 | (simp only [Int.reduceToNat] at ho26; rw [← Ny835.out] at ho26))
 have HO837 := Aside0.mk (Kd.R_lower ho26 (bs_ HB))
 replace BK832 := FB_ BK832 hb
 replace BK848 := FB_ BK848 hb
 replace HB := BS_ HB hb
 clear hb ho26
 refine hK.out _ _ ⟨ce_ BK832 0, ce_ BK832 1, ce_ BK832 2, ce_ BK832 3⟩ (fun hHeld => ?_)
 clear hK K
 refine norm_ (a' := ?_) ?_ ?_
 rotate_left
 {
 show Act.put _ (some 19) _ = _
 exact sp_}
 refine one_ (i := 3) (N := some 21) (B_ 11 271) rfl rfl (one_of HT_.out kf_) (by decide) (fun K hK => ?_)
 refine Kd.R_append_rows_step (Kd.int .u8) (w0 := w) w.heap.size (by rfl) (.tmp 19) (.tmp 20) 34 5 (.int .u8 0) 1 rfl Try.underlying34 info5 rfl (by decide) (by omega) v836 y835 l1 _ _ _ (fun _ => True) (fun _ => False) rfl rfl ?aO ?aR (fun _ _ h => h) (fun _ h => h.elim) ?aF ?aB ?aS ?aL ?_
 (case aR => exact kC_ HR1 HB)
 (case aB => exact (bl_ HB))
 (case aF => exact (fun _ _ => trivial))
 (case aO => exact (kR_ HO837))
 (case aS => exact (bs_ HB))
 (case aL => have := LMc14.out; omega)
 intro v839 w27 ho hb hg hat
 rw [← Ny838.out] at ho
 replace BK832 := (FG_ BK832 hg (Kd.R_ne HO837.out BK832.out (by decide)))
 replace BK848 := (FG_ BK848 hg (Kd.R_ne HO837.out BK848.out (by decide)))
 replace HB := Aside0.mk (hb)
 have HO840 := Aside0.mk (ho)
 clear HO837
 clear ho hb hg hat
 obtain ⟨Ao28, co28, eo28⟩ := Kd.R_slice HO840.out
 (first | subst eo28 | (injection eo28 with f1_ f2_ f3_; have f4_ := f1_.symm; have f5_ := f3_.symm; clear f1_ f2_ f3_; subst f4_; subst f5_))
 refine hK.out _ _ ⟨ce_ BK832 0, ce_ BK832 1, ce_ BK832 2, ce_ BK832 3⟩ (fun hHeld => ?_)
 clear hK K
 refine norm_ (a' := ?_) ?_ ?_
 rotate_left
 {
 show Act.put _ (some 21) _ = _
 exact sp_}
 refine one_ (i := 4) (N := some 22) (B_ 11 287) rfl rfl (one_of HT_.out kf_) (by decide) (fun K hK => ?_)
 refine goes_ Try.func34 kf_ rfl #[.agg #[.int .i64 a0_0, .int .i64 a0_1, .slice A0_2 l0_2.length c0_2, .slice A0_3 l0_3.length c0_3], .slice Ao28 y838.length co28] (by rfl) rfl rfl ar_ ?_
 with_reducible refine (vpack_Read.calls kj2 a0_0 a0_1 _ _ l0_2 _ _ l0_3 _ _ y838 t841 t844 t847 _ ?side1 ?side2 ?side3 ?side4 ?side5 ?side6 A15.out).mono ?_
 (case side1 => exact kC_ HR0_2 HB)
 (case side2 => exact HC0_2.out)
 (case side3 => exact kC_ HR0_3 HB)
 (case side4 => exact HC0_3.out)
 (case side5 => exact kCt_ (Kd.R_reads' HO840.out).2.2)
 (case side6 => exact (Kd.R_reads' HO840.out).2.1)
 rintro e w29 ⟨v842, v845, rfl, ho0, ho1, hb⟩
 refine ⟨_, rfl, ?_⟩
 replace HO840 := FR_ HO840 hb
 have HO843 := Aside0.mk (Kd.S_lower ho0 (bs_ HB))
 have HO846 := Aside0.mk (Kd.S_lower ho1 (bs_ HB))
 replace BK832 := FB_ BK832 hb
 replace BK848 := FB_ BK848 hb
 replace HB := BS_ HB hb
 (try clear hb)
 (try clear hk)
 (try clear ho0)
 (try clear ho1)
 refine hK.out _ _ ⟨ce_ BK832 0, ce_ BK832 1, ce_ BK832 2, ce_ BK832 3⟩ (fun hHeld => ?_)
 clear hK K
 refine norm_ (a' := ?_) ?_ ?_
 rotate_left
 {
 show Act.put _ (some 22) _ = _
 exact sp_}
 refine pu_ 5 (some 17) (B_ 11 319) HT_ ?_
 refine pu_ 6 (some 23) (B_ 11 383) HT_ ?_
 refine pu_ 7 (some 24) (B_ 11 511) HT_ ?_
 exact norm_ pa_ (hCont (v836, .slice Ao28 y838.length co28, v842, v845, gb848) _ ⟨hHeld, (kR_ HO840), (kS_ HO843), (kS_ HO846), (bk_ BK832), (bk_ BK848), GW848.out, GE848.out, NB832_848.out, NB848_832.out, (bl_ HB)⟩)}}
 clear BK832 HB
 rintro ⟨v836, v839, v842, v845, gb848⟩ w30 ⟨hS_, h0_, h1_, h2_, h3_, h4_, h5_, h6_, h7_, h8_, h9_⟩
 (try dsimp only at h0_ h1_ h2_ h3_ h4_ h5_ h6_ h7_ h8_ h9_)
 have HO840 := Aside0.mk h0_
 have HO843 := Aside0.mk h1_
 have HO846 := Aside0.mk h2_
 have BK832 := Aside0.mk h3_
 have BK848 := Aside0.mk h4_
 have GW848 := Aside0.mk h5_
 have GE848 := Aside0.mk h6_
 have NB832_848 := Aside0.mk h7_
 have NB848_832 := Aside0.mk h8_
 have HB := Aside0.mk h9_
 clear h0_ h1_ h2_ h3_ h4_ h5_ h6_ h7_ h8_ h9_
 have hHeld : w30.cell? ⟨gb832, 0, none⟩ = some (.int .i64 a0_0) ∧ w30.cell? ⟨gb832, 1, none⟩ = some (.int .i64 a0_1) ∧ w30.cell? ⟨gb832, 2, none⟩ = some (.slice A0_2 l0_2.length c0_2) ∧ w30.cell? ⟨gb832, 3, none⟩ = some (.slice A0_3 l0_3.length c0_3) := hS_
 obtain ⟨Ao31, co31, eo31⟩ := Kd.S_slice HO843.out
 (first | subst eo31 | (injection eo31 with f1_ f2_ f3_; have f4_ := f1_.symm; have f5_ := f3_.symm; clear f1_ f2_ f3_; subst f4_; subst f5_))
 obtain ⟨Ao33, co33, eo33⟩ := Kd.S_slice HO846.out
 (first | subst eo33 | (injection eo33 with f1_ f2_ f3_; have f4_ := f1_.symm; have f5_ := f3_.symm; clear f1_ f2_ f3_; subst f4_; subst f5_))
 refine norm_ (a' := ?_) ?_ ?_
 rotate_left
 {
 simp only [putAll, Act.put, List.setIfInBounds_toArray, List.set_cons_zero, List.set_cons_succ]
 rfl}
 refine one_ (i := 9) (N := none) (B_ 11 1023) rfl rfl (one_of HT_.out kf_) (by decide) (fun K hK => ?_)
 have hs32 : w30.cell? ⟨gb848, 0, none⟩ = some (.slice none 0 0) := ce_ BK848 0
 have hfs32 := blk_frozen BK848.out 0
 have hns32_0 := NB832_848.out
 have hms32_0 := NB848_832.out
 have hs34 : w30.cell? ⟨gb848, 1, none⟩ = some (.slice none 0 0) := ce_ BK848 1
 have hfs34 := blk_frozen BK848.out 1
 have hns34_0 := NB832_848.out
 have hms34_0 := NB848_832.out
 refine skip_ (w1 := ?_) (by rfl) rfl ?_ ?_
 rotate_left
 {
 go_simp
 rfl}
 refine hK.out _ _ ⟨((cell_far (p := ⟨gb848, _, none⟩) NB832_848.out _).trans (((cell_far (p := ⟨gb848, _, none⟩) NB832_848.out _).trans (hHeld.1)))), ((cell_far (p := ⟨gb848, _, none⟩) NB832_848.out _).trans (((cell_far (p := ⟨gb848, _, none⟩) NB832_848.out _).trans (hHeld.2.1)))), ((cell_far (p := ⟨gb848, _, none⟩) NB832_848.out _).trans (((cell_far (p := ⟨gb848, _, none⟩) NB832_848.out _).trans (hHeld.2.2.1)))), ((cell_far (p := ⟨gb848, _, none⟩) NB832_848.out _).trans (((cell_far (p := ⟨gb848, _, none⟩) NB832_848.out _).trans (hHeld.2.2.2))))⟩ (fun hHeld => ?_)
 clear hK K
 refine pu_ 10 (some 6) (B_ 11 2047) HT_ ?_
 refine done_ (done_of HT_.out kf_) ?_
 have hnb35 := NB832_848.out
 have hnc35 := NB848_832.out
 obtain ⟨hcz36_0, hcz36_1, hcz36_2, hcz36_3, hfz36_0, hfz36_1, hfz36_2, hfz36_3⟩ := e4_ BK832
 try go_wp2_with (first | ((with_reducible refine gate_callee (f := 19) rfl ?_); refine gL_ (some 27) Try.func19 #[.agg #[.int .i64 a0_0, .int .i64 a0_1, .slice A0_2 l0_2.length c0_2, .slice A0_3 l0_3.length c0_3]] ?_; (with_reducible refine (psalterylaw16_As.calls a0_0 a0_1 _ _ l0_2 _ _ l0_3 t849 t850 _ ?side1 ?side2 ?side3 ?side4 A16.out).mono ?_); (case side1 => exact Kd.C_below HR0_2.out (bl_ HB)); (case side2 => exact HC0_2.out); (case side3 => exact Kd.C_below HR0_3.out (bl_ HB)); (case side4 => exact HC0_3.out); rintro e w37 ⟨rfl, hb⟩; refine ⟨_, rfl, ?_⟩; replace HO840 := Aside0.mk (Kd.R_below (kRk_ HO840 BK848) hb); replace HO843 := Aside0.mk (Kd.S_below (kSk_ HO843 BK848) hb); replace HO846 := Aside0.mk (Kd.S_below (kSk_ HO846 BK848) hb); replace BK832 := FB_ BK832 hb; replace BK848 := Aside0.mk (blk_below (g := gb848) (o := .cells #[.slice Ao31 t841.length co31, .slice Ao33 t844.length co33] 48 (0, 0)) (bp_ BK848) hb); replace HB := BS_ HB hb; (try clear hb)) | ((with_reducible refine gate_callee (f := 35) rfl ?_); refine gL_ (some 29) Try.func35 #[.agg #[.int .i64 t849, .int .i64 t850, .slice A0_2 l0_2.length c0_2, .slice A0_3 l0_3.length c0_3], .slice A1 l1.length c1] ?_; (with_reducible refine (psalteryref17_Read.calls kj2 t849 t850 _ _ l0_2 _ _ l0_3 _ _ l1 t851 t854 t857 _ ?side1 ?side2 ?side3 ?side4 ?side5 ?side6 A17.out).mono ?_); (case side1 => exact kC_ HR0_2 HB); (case side2 => exact HC0_2.out); (case side3 => exact kC_ HR0_3 HB); (case side4 => exact HC0_3.out); (case side5 => exact kC_ HR1 HB); (case side6 => exact HC1.out); rintro e w38 ⟨v852, v855, rfl, ho0, ho1, hb⟩; refine ⟨_, rfl, ?_⟩; replace HO840 := FR_ HO840 hb; have HO853 := Aside0.mk (Kd.S_lower (Kd.S_new' ho0 (Kd.S_lt (kS_ HO843))) (bs_ HB)); replace HO843 := Aside0.mk (Kd.S_elder' (kS_ HO843) (Kd.S_base ho0) hb); have HO856 := Aside0.mk (Kd.S_lower (Kd.S_new' ho1 (Kd.S_lt (kS_ HO846))) (bs_ HB)); replace HO846 := Aside0.mk (Kd.S_elder' (kS_ HO846) (Kd.S_base ho1) hb); replace BK832 := FB_ BK832 hb; replace BK848 := FB_ BK848 hb; replace HB := BS_ HB hb; (try clear hb); (try clear ho0); (try clear ho1)) | ((with_reducible refine gate_dst (N := 7) rfl ?_); (try (refine gate_guard (by rfl) ?_; dsimp only)); refine bx_ HB 7 #[.slice none 0 0, .slice none 0 0] 51 ?_; clear HB; intro gb858 hg w39 hb BK858 GE858 HB; have GW858 := GE858; replace HO840 := FR_ HO840 hb; replace HO843 := FS_ HO843 hb; replace HO846 := FS_ HO846 hb; replace HO853 := FS_ HO853 hb; replace HO856 := FS_ HO856 hb; obtain ⟨NB832_858, NB858_832⟩ := NN_ BK832 hg; replace BK832 := FB_ BK832 hb; obtain ⟨NB848_858, NB858_848⟩ := NN_ BK848 hg; replace BK848 := FB_ BK848 hb; clear hb hg; obtain ⟨Ao40, co40, eo40⟩ := Kd.S_slice HO853.out; subst eo40; have hnb41 := NB858_832.out; have hnc41 := NB832_858.out; have hnb42 := NB858_848.out; have hnc42 := NB848_858.out; obtain ⟨hcz43_0, hcz43_1, hfz43_0, hfz43_1⟩ := e2_ BK858; obtain ⟨Ao44, co44, eo44⟩ := Kd.S_slice HO856.out; subst eo44))
 have n0_ : Aside0 (Kd.R (Kd.int .u8) 5 ((w39.setCell ⟨gb858, 0, none⟩ (.slice Ao40 t851.length co40)).setCell ⟨gb858, 1, none⟩ (.slice Ao44 t854.length co44)) w.heap.size (fun _ => True) v839 y838) := ⟨by (with_reducible repeat (first | apply Kd.R_alloc | apply Kd.R_drewN | apply Kd.R_drew)); exact Kd.R_mono (Kd.R_far (p := ⟨gb858, 1, none⟩) (Kd.R_far (p := ⟨gb858, 0, none⟩) (Kd.R_types HO840.out BK858.out (by decide)) (fun _ hk => hk.2) (.slice Ao40 t851.length co40)) (fun _ hk => hk.2) (.slice Ao44 t854.length co44)) (fun _ hk => trivial)⟩
 have n1_ : Aside0 (Kd.S (Kd.slice 3 (Kd.int .i64)) 22 ((w39.setCell ⟨gb858, 0, none⟩ (.slice Ao40 t851.length co40)).setCell ⟨gb858, 1, none⟩ (.slice Ao44 t854.length co44)) w.heap.size (fun k_ => some k_ ≠ (.slice Ao40 t851.length co40 : Value).ownBlock) (.slice Ao31 t841.length co31) t841) := ⟨by (with_reducible repeat (first | apply Kd.S_alloc | apply Kd.S_drewN | apply Kd.S_drew)); exact Kd.S_mono (Kd.S_far (p := ⟨gb858, 1, none⟩) (Kd.S_far (p := ⟨gb858, 0, none⟩) (Kd.S_types HO843.out BK858.out (by decide)) (fun _ hk => hk.2) (.slice Ao40 t851.length co40)) (fun _ hk => hk.2) (.slice Ao44 t854.length co44)) (fun _ hk => hk.1.2)⟩
 have n2_ : Aside0 (Kd.S (Kd.slice 2 (Kd.int .i64)) 84 ((w39.setCell ⟨gb858, 0, none⟩ (.slice Ao40 t851.length co40)).setCell ⟨gb858, 1, none⟩ (.slice Ao44 t854.length co44)) w.heap.size (fun k_ => some k_ ≠ (.slice Ao44 t854.length co44 : Value).ownBlock) (.slice Ao33 t844.length co33) t844) := ⟨by (with_reducible repeat (first | apply Kd.S_alloc | apply Kd.S_drewN | apply Kd.S_drew)); exact Kd.S_mono (Kd.S_far (p := ⟨gb858, 1, none⟩) (Kd.S_far (p := ⟨gb858, 0, none⟩) (Kd.S_types HO846.out BK858.out (by decide)) (fun _ hk => hk.2) (.slice Ao40 t851.length co40)) (fun _ hk => hk.2) (.slice Ao44 t854.length co44)) (fun _ hk => hk.1.2)⟩
 have n3_ : Aside0 (Kd.S (Kd.slice 3 (Kd.int .i64)) 22 ((w39.setCell ⟨gb858, 0, none⟩ (.slice Ao40 t851.length co40)).setCell ⟨gb858, 1, none⟩ (.slice Ao44 t854.length co44)) w.heap.size (fun k_ => some k_ ≠ (.slice Ao31 t841.length co31 : Value).ownBlock) (.slice Ao40 t851.length co40) t851) := ⟨by (with_reducible repeat (first | apply Kd.S_alloc | apply Kd.S_drewN | apply Kd.S_drew)); exact Kd.S_mono (Kd.S_far (p := ⟨gb858, 1, none⟩) (Kd.S_far (p := ⟨gb858, 0, none⟩) (Kd.S_types HO853.out BK858.out (by decide)) (fun _ hk => hk.2) (.slice Ao40 t851.length co40)) (fun _ hk => hk.2) (.slice Ao44 t854.length co44)) (fun _ hk => hk.1.2)⟩
 have n4_ : Aside0 (Kd.S (Kd.slice 2 (Kd.int .i64)) 84 ((w39.setCell ⟨gb858, 0, none⟩ (.slice Ao40 t851.length co40)).setCell ⟨gb858, 1, none⟩ (.slice Ao44 t854.length co44)) w.heap.size (fun k_ => some k_ ≠ (.slice Ao33 t844.length co33 : Value).ownBlock) (.slice Ao44 t854.length co44) t854) := ⟨by (with_reducible repeat (first | apply Kd.S_alloc | apply Kd.S_drewN | apply Kd.S_drew)); exact Kd.S_mono (Kd.S_far (p := ⟨gb858, 1, none⟩) (Kd.S_far (p := ⟨gb858, 0, none⟩) (Kd.S_types HO856.out BK858.out (by decide)) (fun _ hk => hk.2) (.slice Ao40 t851.length co40)) (fun _ hk => hk.2) (.slice Ao44 t854.length co44)) (fun _ hk => hk.1.2)⟩
 have n5_ : Aside0 (((w39.setCell ⟨gb858, 0, none⟩ (.slice Ao40 t851.length co40)).setCell ⟨gb858, 1, none⟩ (.slice Ao44 t854.length co44)).heap[gb832]? = some (.cells #[.int .i64 a0_0, .int .i64 a0_1, .slice A0_2 l0_2.length c0_2, .slice A0_3 l0_3.length c0_3] 24 (0, 0))) := ⟨bk_ BK832⟩
 have n6_ : Aside0 (((w39.setCell ⟨gb858, 0, none⟩ (.slice Ao40 t851.length co40)).setCell ⟨gb858, 1, none⟩ (.slice Ao44 t854.length co44)).heap[gb848]? = some (.cells #[.slice Ao31 t841.length co31, .slice Ao33 t844.length co33] 48 (0, 0))) := ⟨bk_ BK848⟩
 have n7_ : Aside0 (((w39.setCell ⟨gb858, 0, none⟩ (.slice Ao40 t851.length co40)).setCell ⟨gb858, 1, none⟩ (.slice Ao44 t854.length co44)).heap[gb858]? = some (.cells #[.slice Ao40 t851.length co40, .slice Ao44 t854.length co44] 51 (0, 0))) := ⟨bp_ BK858⟩
 have n8_ : Aside0 (Below w.heap.size w ((w39.setCell ⟨gb858, 0, none⟩ (.slice Ao40 t851.length co40)).setCell ⟨gb858, 1, none⟩ (.slice Ao44 t854.length co44))) := ⟨bl_ HB⟩
 (try clear HO840)
 (try clear HO843)
 (try clear HO846)
 (try clear HO853)
 (try clear HO856)
 (try clear BK832)
 (try clear BK848)
 (try clear BK858)
 (try clear HB)
 generalize ((w39.setCell ⟨gb858, 0, none⟩ (.slice Ao40 t851.length co40)).setCell ⟨gb858, 1, none⟩ (.slice Ao44 t854.length co44)) = w45 at n0_ n1_ n2_ n3_ n4_ n5_ n6_ n7_ n8_ ⊢
 have HO840 := n0_
 have HO843 := n1_
 have HO846 := n2_
 have HO853 := n3_
 have HO856 := n4_
 have BK832 := n5_
 have BK848 := n6_
 have BK858 := n7_
 have HB := n8_
 clear n0_ n1_ n2_ n3_ n4_ n5_ n6_ n7_ n8_
 replace HO840 := Aside0.mk (Kd.R_drew HO840.out)
 replace HO843 := Aside0.mk (Kd.S_drew HO843.out)
 replace HO846 := Aside0.mk (Kd.S_drew HO846.out)
 replace HO853 := Aside0.mk (Kd.S_drew HO853.out)
 replace HO856 := Aside0.mk (Kd.S_drew HO856.out)
 replace BK832 := Aside0.mk (blk_drew BK832.out)
 replace BK848 := Aside0.mk (blk_drew BK848.out)
 replace BK858 := Aside0.mk (blk_drew BK858.out)
 replace HB := Aside0.mk (below_drew1 HB.out)
 refine start_ (n := 13) (S := fun w' => w'.cell? ⟨gb848, 0, none⟩ = some (.slice Ao31 t841.length co31) ∧ w'.cell? ⟨gb848, 1, none⟩ = some (.slice Ao33 t844.length co33) ∧ w'.cell? ⟨gb858, 0, none⟩ = some (.slice Ao40 t851.length co40) ∧ w'.cell? ⟨gb858, 1, none⟩ = some (.slice Ao44 t854.length co44)) (ds := []) (B_ 13 0) kf_ rfl rfl ⟨ce_ BK848 0, ce_ BK848 1, ce_ BK858 0, ce_ BK858 1⟩ (fun hHeld => ?_); refine with_tabW psalterylaw17_BodyReads.tab5 psalterylaw17_BodyReads.bits5 (fun HT_ HW_ => ?_)
 generalize w45.drew = w46 at HO840 HO843 HO846 HO853 HO856 BK832 BK848 BK858 HB hHeld ⊢
 refine take_ (i := 0) (N := some 32) (v := ?_) (a' := ?_) (B_ 13 1) rfl rfl (take_ofW HT_.out HW_.out kf_) (fun _ _ _ h => h) (Or.inl ⟨by rfl, ?_⟩) hHeld ?_ ?_
 rotate_left
 {
 rintro w' ⟨s0, s1, s2, s3⟩
 go_simp
 with_reducible rfl}
 rotate_left
 {
 exact sp_}
 refine take_ (i := 2) (N := some 34) (v := ?_) (a' := ?_) (B_ 13 5) rfl rfl (take_ofW HT_.out HW_.out kf_) (fun _ _ _ h => h) (Or.inl ⟨by rfl, ?_⟩) hHeld ?_ ?_
 rotate_left
 {
 rintro w' ⟨s0, s1, s2, s3⟩
 go_simp
 with_reducible rfl}
 rotate_left
 {
 exact sp_}
 refine one_ (i := 1) (N := some 33) (B_ 13 7) rfl rfl (one_of HT_.out kf_) (by decide) (fun K hK => ?_)
 refine goes_ Try.func31 kf_ rfl #[.agg #[.slice Ao31 t841.length co31, .slice Ao33 t844.length co33]] (by rfl) rfl rfl ar_ ?_
 with_reducible refine (psalterylaw17_As.calls _ _ t841 _ _ t844  _ ?side1 ?side2 ?side3 ?side4 A18.out).mono ?_
 (case side1 => repeat (first | exact (Kd.S_reads' HO843.out).2.2 | (with_reducible refine Kd.C_alloc ?_ _) | (with_reducible refine Kd.C_drewN ?_ _) | (with_reducible refine Kd.C_drew ?_)))
 (case side2 => exact (Kd.S_reads' HO843.out).2.1)
 (case side3 => repeat (first | exact (Kd.S_reads' HO846.out).2.2 | (with_reducible refine Kd.C_alloc ?_ _) | (with_reducible refine Kd.C_drewN ?_ _) | (with_reducible refine Kd.C_drew ?_)))
 (case side4 => exact (Kd.S_reads' HO846.out).2.1)
 rintro e w47 ⟨rfl, hb⟩
 refine ⟨_, rfl, ?_⟩
 replace HO840 := FR_ HO840 hb
 replace HO843 := FS_ HO843 hb
 replace HO846 := FS_ HO846 hb
 replace HO853 := FS_ HO853 hb
 replace HO856 := FS_ HO856 hb
 replace BK832 := FB_ BK832 hb
 replace BK848 := FB_ BK848 hb
 replace BK858 := FB_ BK858 hb
 replace HB := BS_ HB hb
 (try clear hb)
 (try clear hk)
 refine hK.out _ _ ⟨ce_ BK848 0, ce_ BK848 1, ce_ BK858 0, ce_ BK858 1⟩ (fun hHeld => ?_)
 clear hK K
 refine norm_ (a' := ?_) ?_ ?_
 rotate_left
 {
 show Act.put _ (some 33) _ = _
 exact sp_}
 refine one_ (i := 3) (N := some 35) (B_ 13 15) rfl rfl (one_of HT_.out kf_) (by decide) (fun K hK => ?_)
 refine goes_ Try.func36 kf_ rfl #[.agg #[.slice Ao31 t841.length co31, .slice Ao33 t844.length co33], .agg #[.slice Ao40 t851.length co40, .slice Ao44 t854.length co44]] (by rfl) rfl rfl ar_ ?_
 with_reducible refine (psalteryref17_Same.calls kj2 _ _ t841 _ _ t844 _ _ t851 _ _ t854 true _ ?side1 ?side2 ?side3 ?side4 ?side5 ?side6 ?side7 ?side8 A19.out).mono ?_
 (case side1 => repeat (first | exact (Kd.S_reads' HO843.out).2.2 | (with_reducible refine Kd.C_alloc ?_ _) | (with_reducible refine Kd.C_drewN ?_ _) | (with_reducible refine Kd.C_drew ?_)))
 (case side2 => exact (Kd.S_reads' HO843.out).2.1)
 (case side3 => repeat (first | exact (Kd.S_reads' HO846.out).2.2 | (with_reducible refine Kd.C_alloc ?_ _) | (with_reducible refine Kd.C_drewN ?_ _) | (with_reducible refine Kd.C_drew ?_)))
 (case side4 => exact (Kd.S_reads' HO846.out).2.1)
 (case side5 => repeat (first | exact (Kd.S_reads' HO853.out).2.2 | (with_reducible refine Kd.C_alloc ?_ _) | (with_reducible refine Kd.C_drewN ?_ _) | (with_reducible refine Kd.C_drew ?_)))
 (case side6 => exact (Kd.S_reads' HO853.out).2.1)
 (case side7 => repeat (first | exact (Kd.S_reads' HO856.out).2.2 | (with_reducible refine Kd.C_alloc ?_ _) | (with_reducible refine Kd.C_drewN ?_ _) | (with_reducible refine Kd.C_drew ?_)))
 (case side8 => exact (Kd.S_reads' HO856.out).2.1)
 rintro e w48 ⟨rfl, hb⟩
 refine ⟨_, rfl, ?_⟩
 replace HO840 := FR_ HO840 hb
 replace HO843 := FS_ HO843 hb
 replace HO846 := FS_ HO846 hb
 replace HO853 := FS_ HO853 hb
 replace HO856 := FS_ HO856 hb
 replace BK832 := FB_ BK832 hb
 replace BK848 := FB_ BK848 hb
 replace BK858 := FB_ BK858 hb
 replace HB := BS_ HB hb
 (try clear hb)
 (try clear hk)
 refine hK.out _ _ ⟨ce_ BK848 0, ce_ BK848 1, ce_ BK858 0, ce_ BK858 1⟩ (fun hHeld => ?_)
 clear hK K
 refine norm_ (a' := ?_) ?_ ?_
 rotate_left
 {
 show Act.put _ (some 35) _ = _
 exact sp_}
 refine pu_ 4 (some 36) (B_ 13 31) HT_ ?_
 refine pu_ 5 (some 37) (B_ 13 63) HT_ ?_
 refine pu_ 6 (some 38) (B_ 13 127) HT_ ?_
 refine pu_ 7 (some 39) (B_ 13 255) HT_ ?_
 refine pu_ 8 (some 40) (B_ 13 511) HT_ ?_
 refine pu_ 9 (some 41) (B_ 13 1023) HT_ ?_
 refine one_ (i := 10) (N := some 42) (B_ 13 2047) rfl rfl (one_of HT_.out kf_) (by decide) (fun K hK => ?_)
 refine goes_ Try.func28 kf_ rfl #[] (by rfl) rfl rfl ar_ ?_
 with_reducible refine (psalterylaw17_knows.calls kj2  t860 _ A22.out).mono ?_
 rintro e w49 ⟨rfl, hb⟩
 refine ⟨_, rfl, ?_⟩
 replace HO840 := FR_ HO840 hb
 replace HO843 := FS_ HO843 hb
 replace HO846 := FS_ HO846 hb
 replace HO853 := FS_ HO853 hb
 replace HO856 := FS_ HO856 hb
 replace BK832 := FB_ BK832 hb
 replace BK848 := FB_ BK848 hb
 replace BK858 := FB_ BK858 hb
 replace HB := BS_ HB hb
 (try clear hb)
 (try clear hk)
 refine hK.out _ _ ⟨ce_ BK848 0, ce_ BK848 1, ce_ BK858 0, ce_ BK858 1⟩ (fun hHeld => ?_)
 clear hK K
 refine norm_ (a' := ?_) ?_ ?_
 rotate_left
 {
 show Act.put _ (some 42) _ = _
 exact sp_}
 refine pu_ 11 (some 43) (B_ 13 4095) HT_ ?_
 refine pu_ 12 (some 4) (B_ 13 8191) HT_ ?_
 refine done_ (done_of HT_.out kf_) ?_
 try go_wp2
 go_ret
 exact ⟨by first | rfl | (simp [errW_none, errW_some] <;> rfl) | (simp [*, errW_none, errW_some] <;> rfl), bl_ HB⟩}
 {
 rw [if_neg c21] at H
 have c21b0 : (t847 == t857) = false := beq_eq_false_iff_ne.mpr c21
 have c21b1 : (t847 != t857) = true := bne_iff_ne.mpr c21
 exact absurd ((Option.some.inj H).trans HT.out) (by decide)}}
 {
 replace c20 := Bool.eq_false_iff.mpr c20
 subst c20
 rw [if_neg (show ¬ (false = true) by decide)] at H
 exact absurd ((Option.some.inj H).trans HT.out) (by decide)}}
 {
 rw [if_neg c14] at H
 exact absurd H (by simp)}}))
def psalterylaw17_BodyReads.Pure : Prop := ∀ (a0_0 : Int) (a0_1 : Int) (l0_2 : List Int) (l0_3 : List Int) (l1 : List Int), (Lit.int .i64 a0_0).wf = true → (Lit.int .i64 a0_1).wf = true → (l0_2.length ≤ maxLen ∧ ∀ x0_ ∈ l0_2, (Lit.int .i64 x0_).wf = true) → (l0_3.length ≤ maxLen ∧ ∀ x0_ ∈ l0_3, (Lit.int .i64 x0_).wf = true) → (l1.length ≤ maxLen ∧ ∀ x0_ ∈ l1, (Lit.int .u8 x0_).wf = true) → ∃ k, psalterylaw17_BodyReads.f k a0_0 a0_1 l0_2 l0_3 l1 = some true
theorem psalterylaw17_BodyReads.walk (P : psalterylaw17_BodyReads.Pure) (a0_0 : Int) (a0_1 : Int) (A0_2 : Option Addr) (c0_2 : Nat) (l0_2 : List Int) (A0_3 : Option Addr) (c0_3 : Nat) (l0_3 : List Int) (A1 : Option Addr) (c1 : Nat) (l1 : List Int) (w : World) (hr0_2 : Kd.C (Kd.int .i64) w A0_2 l0_2.length l0_2) (hc0_2 : l0_2.length ≤ c0_2) (hr0_3 : Kd.C (Kd.int .i64) w A0_3 l0_3.length l0_3) (hc0_3 : l0_3.length ≤ c0_3) (hr1 : Kd.C (Kd.int .u8) w A1 l1.length l1) (hc1 : l1.length ≤ c1) (w0_0 : (Lit.int .i64 a0_0).wf = true) (w0_1 : (Lit.int .i64 a0_1).wf = true) (w0_2 : (l0_2.length ≤ maxLen ∧ ∀ x0_ ∈ l0_2, (Lit.int .i64 x0_).wf = true)) (w0_3 : (l0_3.length ≤ maxLen ∧ ∀ x0_ ∈ l0_3, (Lit.int .i64 x0_).wf = true)) (w1 : (l1.length ≤ maxLen ∧ ∀ x0_ ∈ l1, (Lit.int .u8 x0_).wf = true)) :
    Calls Try.prog 11 #[.agg #[.int .i64 a0_0, .int .i64 a0_1, .slice A0_2 l0_2.length c0_2, .slice A0_3 l0_3.length c0_3], .slice A1 l1.length c1] w fun e w' => e = .returned (.bool true) ∧ Below w.heap.size w w' := by
  obtain ⟨k, h⟩ := P a0_0 a0_1 l0_2 l0_3 l1 w0_0 w0_1 w0_2 w0_3 w1
  refine (psalterylaw17_BodyReads.calls k a0_0 a0_1 _ _ l0_2 _ _ l0_3 _ _ l1 true w hr0_2 hc0_2 hr0_3 hc0_3 hr1 hc1 h rfl).mono ?_
  rintro e w' ⟨rfl, hd⟩
  exact ⟨rfl, hd⟩

end Go.Proofs.Ytpdfdaoohknfoaa.P
