/- Walks. -/
import Derived.Test.YtpdfdaoohknfoaaQ1
import Derived.Test.YtpdfdaoohknfoaaQ2
import Derived.Test.YtpdfdaoohknfoaaQ3
import Derived.Test.YtpdfdaoohknfoaaPx53
import Derived.Test.YtpdfdaoohknfoaaPx67
namespace Go.Proofs.Ytpdfdaoohknfoaa.P
open Go.RowKit Go.Proofs.YtpdfdaoohknfoaaW.PrintWords Go.Proofs.YtpdfdaoohknfoaaW.PrintLast Go.Proofs.YtpdfdaoohknfoaaW.PrintMore
attribute [local go_sem] max2_int min2_int max_two min_two max_three min_three max_four min_four   -- for this text's walks alone
set_option linter.unusedVariables false
set_option linter.unusedSimpArgs false

def psalterylaw17_BodyBack.f (k : Nat) (a0_0 : Int) (a0_1 : Int) (l0_2 : List Int) (l0_3 : List Int) (l1_0 : List (List Int)) (l1_1 : List (List Int)) : Option (Bool) := (psalterylaw17_great.f k a0_0 a0_1 l0_2 l0_3 l1_0 l1_1).bind fun t863 => (if t863 = true then ((psalterylaw17_knows.f k).bind fun t864 => (some t864)) else ((vpack_Write.f k a0_0 a0_1 l0_2 l0_3 l1_0 l1_1).bind fun bt865 => (if bt865.2 = 0 then ((vpack_Read.f k a0_0 a0_1 l0_2 l0_3 bt865.1).bind fun bt870 => ((psalterylaw17_As.f l1_0 l1_1).bind fun _ => ((psalterylaw17_As.f bt870.1 bt870.2.1).bind fun _ => ((psalteryref17_Same.f k l1_0 l1_1 bt870.1 bt870.2.1).bind fun t878 => (if t878 = true then (if bt870.2.2 = 0 then ((psalterylaw17_knows.f k).bind fun t879 => (some t879)) else (some false)) else (some false)))))) else (if (bt865.1.length : Int) = 0 then ((psalterylaw17_knows.f k).bind fun t869 => (some t869)) else (some false)))))
theorem psalterylaw17_BodyBack.mono : ∀ a0 a1 a2 a3 a4 a5 k, LeO (psalterylaw17_BodyBack.f k a0 a1 a2 a3 a4 a5) (psalterylaw17_BodyBack.f (k + 1) a0 a1 a2 a3 a4 a5) := by
  intro a0 a1 a2 a3 a4 a5 k
  unfold psalterylaw17_BodyBack.f
  with_reducible repeat' first
   | exact psalterylaw17_great.mono _ _ _ _ _ _ _
   | exact psalterylaw17_knows.mono _
   | exact psalteryref17_Same.mono _ _ _ _ _
   | exact vpack_Read.mono _ _ _ _ _ _
   | exact vpack_Write.mono _ _ _ _ _ _ _
   | exact LeO.refl _
   | exact LeO.none _
   | refine LeO.ite ?_ ?_
   | refine LeO.bind ?_ (fun _ => ?_)
def psalterylaw17_BodyBack.T7 : Bool × List (List Nat × List Nat) := (true, [([], []), ([0], [0]), ([], []), ([2, 1], [2]), ([1, 3, 3], [1, 3]), ([4, 4], [4]), ([5], [5]), ([6, 5], [5, 6]), ([5, 7], [5, 7]), ([8, 5], [8]), ([9, 9], [9]), ([9, 10], [9, 10]), ([11, 10, 0, 1, 2, 3, 4, 5, 6, 7, 8, 9, 10, 11], [11])])
def psalterylaw17_BodyBack.B7 : List Nat := [0, 1, 0, 7, 15, 31, 63, 127, 255, 511, 1023, 2047, 4095]
theorem psalterylaw17_BodyBack.tab7 : rtab .any (opsOf Try.f12 7) = psalterylaw17_BodyBack.T7 := by kernel_rfl
theorem psalterylaw17_BodyBack.bits7 : waitsOk psalterylaw17_BodyBack.T7.2 psalterylaw17_BodyBack.B7 = true := by kernel_rfl
set_option maxHeartbeats 8000000 in
set_option maxRecDepth 100000 in
theorem psalterylaw17_BodyBack.calls (k : Nat) (a0_0 : Int) (a0_1 : Int) (A0_2 : Option Addr) (c0_2 : Nat) (l0_2 : List Int) (A0_3 : Option Addr) (c0_3 : Nat) (l0_3 : List Int) (A1_0 : Option Addr) (c1_0 : Nat) (l1_0 : List (List Int)) (A1_1 : Option Addr) (c1_1 : Nat) (l1_1 : List (List Int)) (r : Bool) (w : World) (hr0_2 : Kd.C (Kd.int .i64) w A0_2 l0_2.length l0_2) (hc0_2 : l0_2.length ≤ c0_2) (hr0_3 : Kd.C (Kd.int .i64) w A0_3 l0_3.length l0_3) (hc0_3 : l0_3.length ≤ c0_3) (hr1_0 : Kd.C (Kd.slice 3 (Kd.int .i64)) w A1_0 l1_0.length l1_0) (hc1_0 : l1_0.length ≤ c1_0) (hr1_1 : Kd.C (Kd.slice 2 (Kd.int .i64)) w A1_1 l1_1.length l1_1) (hc1_1 : l1_1.length ≤ c1_1) (h : psalterylaw17_BodyBack.f k a0_0 a0_1 l0_2 l0_3 l1_0 l1_1 = some r) (hT : r = true) :
    Calls Try.prog 12 #[.agg #[.int .i64 a0_0, .int .i64 a0_1, .slice A0_2 l0_2.length c0_2, .slice A0_3 l0_3.length c0_3], .agg #[.slice A1_0 l1_0.length c1_0, .slice A1_1 l1_1.length c1_1]] w fun e w' => e = .returned (.bool r) ∧ Below w.heap.size w w' := by
 have hu24 := Try.underlying24
 have hu48 := Try.underlying48
 have HR0_2 := Aside0.mk hr0_2
 have HC0_2 := Aside0.mk hc0_2
 clear hr0_2 hc0_2
 have HR0_3 := Aside0.mk hr0_3
 have HC0_3 := Aside0.mk hc0_3
 clear hr0_3 hc0_3
 have HR1_0 := Aside0.mk hr1_0
 have HC1_0 := Aside0.mk hc1_0
 clear hr1_0 hc1_0
 have HR1_1 := Aside0.mk hr1_1
 have HC1_1 := Aside0.mk hc1_1
 clear hr1_1 hc1_1
 have HB := Aside0.mk (Below.refl w.heap.size w)
 have H : ((psalterylaw17_great.f k a0_0 a0_1 l0_2 l0_3 l1_0 l1_1).bind fun t863 => (if t863 = true then ((psalterylaw17_knows.f k).bind fun t864 => (some t864)) else ((vpack_Write.f k a0_0 a0_1 l0_2 l0_3 l1_0 l1_1).bind fun bt865 => (if bt865.2 = 0 then ((vpack_Read.f k a0_0 a0_1 l0_2 l0_3 bt865.1).bind fun bt870 => ((psalterylaw17_As.f l1_0 l1_1).bind fun _ => ((psalterylaw17_As.f bt870.1 bt870.2.1).bind fun _ => ((psalteryref17_Same.f k l1_0 l1_1 bt870.1 bt870.2.1).bind fun t878 => (if t878 = true then (if bt870.2.2 = 0 then ((psalterylaw17_knows.f k).bind fun t879 => (some t879)) else (some false)) else (some false)))))) else (if (bt865.1.length : Int) = 0 then ((psalterylaw17_knows.f k).bind fun t869 => (some t869)) else (some false)))))) = some r := h
 clear h
 have HT := Aside0.mk hT
 clear hT
 obtain ⟨t863, A3, H⟩ := ob_ H
 (try dsimp only at H)
 by_cases c4 : t863 = true
 {
 subst c4
 rw [if_pos rfl] at H
 replace H := Option.bind_eq_some_iff.mp H
 obtain ⟨t864, A50, H⟩ := H
 replace H : (some t864) = some r := H
 have A5 := Aside0.mk A50
 clear A50
 obtain rfl := Option.some.inj H
 go_enter Try.func12, Try.ntmps12
 go_wp2_with (first | ((with_reducible refine gate_dst (N := 2) rfl ?_); refine bx_ HB 2 #[.int .i64 a0_0, .int .i64 a0_1, .slice A0_2 l0_2.length c0_2, .slice A0_3 l0_3.length c0_3] 24 ?_; clear HB; intro gb861 hg w6 hb BK861 GE861 HB; have GW861 := GE861; clear hb hg) | ((with_reducible refine gate_dst (N := 3) rfl ?_); refine bx_ HB 3 #[.slice A1_0 l1_0.length c1_0, .slice A1_1 l1_1.length c1_1] 48 ?_; clear HB; intro gb862 hg w7 hb BK862 GE862 HB; have GW862 := GE862; obtain ⟨NB861_862, NB862_861⟩ := NN_ BK861 hg; replace BK861 := FB_ BK861 hb; clear hb hg; have hnb8 := NB861_862.out; have hnc8 := NB862_861.out; obtain ⟨hcz9_0, hcz9_1, hcz9_2, hcz9_3, hfz9_0, hfz9_1, hfz9_2, hfz9_3⟩ := e4_ BK861; obtain ⟨hcz10_0, hcz10_1, hfz10_0, hfz10_1⟩ := e2_ BK862) | ((with_reducible refine gate_callee (f := 27) rfl ?_); refine gL_ (some 11) Try.func27 #[.agg #[.int .i64 a0_0, .int .i64 a0_1, .slice A0_2 l0_2.length c0_2, .slice A0_3 l0_3.length c0_3], .agg #[.slice A1_0 l1_0.length c1_0, .slice A1_1 l1_1.length c1_1]] ?_; (with_reducible refine (psalterylaw17_great.calls k a0_0 a0_1 _ _ l0_2 _ _ l0_3 _ _ l1_0 _ _ l1_1 true _ ?side1 ?side2 ?side3 ?side4 ?side5 ?side6 ?side7 ?side8 A3.out).mono ?_); (case side1 => exact kC_ HR0_2 HB); (case side2 => exact HC0_2.out); (case side3 => exact kC_ HR0_3 HB); (case side4 => exact HC0_3.out); (case side5 => exact kC_ HR1_0 HB); (case side6 => exact HC1_0.out); (case side7 => exact kC_ HR1_1 HB); (case side8 => exact HC1_1.out); rintro e w11 ⟨rfl, hb⟩; refine ⟨_, rfl, ?_⟩; replace BK861 := FB_ BK861 hb; replace BK862 := FB_ BK862 hb; replace HB := BS_ HB hb; (try clear hb)) | ((with_reducible refine gate_callee (f := 28) rfl ?_); refine gL_ (some 12) Try.func28 #[] ?_; (with_reducible refine (psalterylaw17_knows.calls k  t864 _ A5.out).mono ?_); rintro e w12 ⟨rfl, hb⟩; refine ⟨_, rfl, ?_⟩; replace BK861 := FB_ BK861 hb; replace BK862 := FB_ BK862 hb; replace HB := BS_ HB hb; (try clear hb)))
 go_ret
 exact ⟨by first | rfl | (simp [errW_none, errW_some] <;> rfl) | (simp [*, errW_none, errW_some] <;> rfl), bl_ HB⟩}
 {
 replace c4 := Bool.eq_false_iff.mpr c4
 subst c4
 rw [if_neg (show ¬ (false = true) by decide)] at H
 obtain ⟨⟨t865, t868⟩, A13, H⟩ := ob_ H
 (try dsimp only at H)
 by_cases c14 : t868 = 0
 {
 rw [if_pos c14] at H
 have c14b0 : (t868 == 0) = true := beq_iff_eq.mpr c14
 have c14b1 : (t868 != 0) = false := bne_eq_false_iff_eq.mpr c14
 clear c14
 obtain ⟨⟨t870, t873, t876⟩, A15, H⟩ := ob_ H
 (try dsimp only at H)
 obtain ⟨_, A16, H⟩ := ob_ H
 (try dsimp only at H)
 obtain ⟨_, A17, H⟩ := ob_ H
 (try dsimp only at H)
 obtain ⟨t878, A18, H⟩ := ob_ H
 (try dsimp only at H)
 by_cases c19 : t878 = true
 {
 subst c19
 rw [if_pos rfl] at H
 by_cases c20 : t876 = 0
 {
 rw [if_pos c20] at H
 have c20b0 : (t876 == 0) = true := beq_iff_eq.mpr c20
 have c20b1 : (t876 != 0) = false := bne_eq_false_iff_eq.mpr c20
 clear c20
 replace H := Option.bind_eq_some_iff.mp H
 obtain ⟨t879, A210, H⟩ := H
 replace H : (some t879) = some r := H
 have A21 := Aside0.mk A210
 clear A210
 obtain rfl := Option.some.inj H
 go_enter Try.func12, Try.ntmps12
 try go_wp2_with (first | ((with_reducible refine gate_dst (N := 2) rfl ?_); refine bx_ HB 2 #[.int .i64 a0_0, .int .i64 a0_1, .slice A0_2 l0_2.length c0_2, .slice A0_3 l0_3.length c0_3] 24 ?_; clear HB; intro gb861 hg w22 hb BK861 GE861 HB; have GW861 := GE861; clear hb hg) | ((with_reducible refine gate_dst (N := 3) rfl ?_); refine bx_ HB 3 #[.slice A1_0 l1_0.length c1_0, .slice A1_1 l1_1.length c1_1] 48 ?_; clear HB; intro gb862 hg w23 hb BK862 GE862 HB; have GW862 := GE862; obtain ⟨NB861_862, NB862_861⟩ := NN_ BK861 hg; replace BK861 := FB_ BK861 hb; clear hb hg; have hnb24 := NB861_862.out; have hnc24 := NB862_861.out; obtain ⟨hcz25_0, hcz25_1, hcz25_2, hcz25_3, hfz25_0, hfz25_1, hfz25_2, hfz25_3⟩ := e4_ BK861; obtain ⟨hcz26_0, hcz26_1, hfz26_0, hfz26_1⟩ := e2_ BK862) | ((with_reducible refine gate_callee (f := 27) rfl ?_); refine gL_ (some 11) Try.func27 #[.agg #[.int .i64 a0_0, .int .i64 a0_1, .slice A0_2 l0_2.length c0_2, .slice A0_3 l0_3.length c0_3], .agg #[.slice A1_0 l1_0.length c1_0, .slice A1_1 l1_1.length c1_1]] ?_; (with_reducible refine (psalterylaw17_great.calls k a0_0 a0_1 _ _ l0_2 _ _ l0_3 _ _ l1_0 _ _ l1_1 false _ ?side1 ?side2 ?side3 ?side4 ?side5 ?side6 ?side7 ?side8 A3.out).mono ?_); (case side1 => exact kC_ HR0_2 HB); (case side2 => exact HC0_2.out); (case side3 => exact kC_ HR0_3 HB); (case side4 => exact HC0_3.out); (case side5 => exact kC_ HR1_0 HB); (case side6 => exact HC1_0.out); (case side7 => exact kC_ HR1_1 HB); (case side8 => exact HC1_1.out); rintro e w27 ⟨rfl, hb⟩; refine ⟨_, rfl, ?_⟩; replace BK861 := FB_ BK861 hb; replace BK862 := FB_ BK862 hb; replace HB := BS_ HB hb; (try clear hb); obtain ⟨hcz28_0, hcz28_1, hcz28_2, hcz28_3, hfz28_0, hfz28_1, hfz28_2, hfz28_3⟩ := e4_ BK861; obtain ⟨hcz29_0, hcz29_1, hfz29_0, hfz29_1⟩ := e2_ BK862) | ((with_reducible refine gate_callee (f := 32) rfl ?_); refine gL_ (some 16) Try.func32 #[.agg #[.int .i64 a0_0, .int .i64 a0_1, .slice A0_2 l0_2.length c0_2, .slice A0_3 l0_3.length c0_3], .agg #[.slice A1_0 l1_0.length c1_0, .slice A1_1 l1_1.length c1_1]] ?_; (with_reducible refine (vpack_Write.calls k a0_0 a0_1 _ _ l0_2 _ _ l0_3 _ _ l1_0 _ _ l1_1 t865 t868 _ ?side1 ?side2 ?side3 ?side4 ?side5 ?side6 ?side7 ?side8 A13.out).mono ?_); (case side1 => exact kC_ HR0_2 HB); (case side2 => exact HC0_2.out); (case side3 => exact kC_ HR0_3 HB); (case side4 => exact HC0_3.out); (case side5 => exact kC_ HR1_0 HB); (case side6 => exact HC1_0.out); (case side7 => exact kC_ HR1_1 HB); (case side8 => exact HC1_1.out); rintro e w30 ⟨v866, rfl, ho0, hb⟩; refine ⟨_, rfl, ?_⟩; have HO867 := Aside0.mk (Kd.V_lower (Kd.V_mono (ok' := fun k_ => k_ ≠ gb861 ∧ k_ ≠ gb862) ho0 (fun k_ hk_ => ⟨(Kd.freshB (g := gb861) (o := .cells #[.int .i64 a0_0, .int .i64 a0_1, .slice A0_2 l0_2.length c0_2, .slice A0_3 l0_3.length c0_3] 24 (0, 0)) (bk_ BK861) k_ hk_), (Kd.freshB (g := gb862) (o := .cells #[.slice A1_0 l1_0.length c1_0, .slice A1_1 l1_1.length c1_1] 48 (0, 0)) (bk_ BK862) k_ hk_)⟩)) (bs_ HB)); replace BK861 := FB_ BK861 hb; replace BK862 := FB_ BK862 hb; replace HB := BS_ HB hb; (try clear hb); (try clear ho0); obtain ⟨hcz31_0, hcz31_1, hcz31_2, hcz31_3, hfz31_0, hfz31_1, hfz31_2, hfz31_3⟩ := e4_ BK861; obtain ⟨Ao32, co32, eo32⟩ := Kd.V_slice HO867.out; subst eo32) | ((with_reducible refine gate_callee (f := 34) rfl ?_); refine gL_ (some 30) Try.func34 #[.agg #[.int .i64 a0_0, .int .i64 a0_1, .slice A0_2 l0_2.length c0_2, .slice A0_3 l0_3.length c0_3], .slice Ao32 t865.length co32] ?_; (with_reducible refine (vpack_Read.calls k a0_0 a0_1 _ _ l0_2 _ _ l0_3 _ _ t865 t870 t873 t876 _ ?side1 ?side2 ?side3 ?side4 ?side5 ?side6 A15.out).mono ?_); (case side1 => exact kC_ HR0_2 HB); (case side2 => exact HC0_2.out); (case side3 => exact kC_ HR0_3 HB); (case side4 => exact HC0_3.out); (case side5 => exact kCt_ (Kd.V_reads' HO867.out).2.2); (case side6 => exact (Kd.V_reads' HO867.out).2.1); rintro e w33 ⟨v871, v874, rfl, ho0, ho1, hb⟩; refine ⟨_, rfl, ?_⟩; replace HO867 := Aside0.mk (Kd.V_mono (Kd.V_told (Kd.V_told (Kd.V_old (kV_ HO867) hb) (Kd.S_base ho0)) (Kd.S_base ho1)) (fun _ h_ => h_.1)); have HO872 := Aside0.mk (Kd.S_lower ho0 (bs_ HB)); have HO875 := Aside0.mk (Kd.S_lower ho1 (bs_ HB)); replace BK861 := FB_ BK861 hb; replace BK862 := FB_ BK862 hb; replace HB := BS_ HB hb; (try clear hb); (try clear ho0); (try clear ho1)) | ((with_reducible refine gate_dst (N := 7) rfl ?_); refine box_ 7 #[.slice none 0 0, .slice none 0 0] 48 ?_; intro gb877 hg w34 hbox hb; replace HO867 := Aside0.mk (Kd.V_below (Kd.V_elderB (kV_ HO867) gb877 (Nat.le_of_eq hg.symm)) hb); replace HO872 := FS_ HO872 hb; replace HO875 := FS_ HO875 hb; have BK877 := Aside0.mk (hbox); have GW877 := GE_ HB hg; have GE877 := GE_ HB hg; replace HB := BS_ HB hb; obtain ⟨NB861_877, NB877_861⟩ := NN_ BK861 hg; replace BK861 := FB_ BK861 hb; obtain ⟨NB862_877, NB877_862⟩ := NN_ BK862 hg; replace BK862 := FB_ BK862 hb; clear hb hbox hg; obtain ⟨Ao35, co35, eo35⟩ := Kd.S_slice HO872.out; subst eo35; have hnb36 := NB877_861.out; have hnc36 := NB861_877.out; have hnb37 := NB877_862.out; have hnc37 := NB862_877.out; obtain ⟨hcz38_0, hcz38_1, hfz38_0, hfz38_1⟩ := e2_ BK877; obtain ⟨Ao39, co39, eo39⟩ := Kd.S_slice HO875.out; subst eo39))
 have n0_ : Aside0 (Kd.V (Kd.int .u8) 5 ((w34.setCell ⟨gb877, 0, none⟩ (.slice Ao35 t870.length co35)).setCell ⟨gb877, 1, none⟩ (.slice Ao39 t873.length co39)) w.heap.size (fun k_ => some k_ ≠ (.slice Ao35 t870.length co35 : Value).ownBlock ∧ some k_ ≠ (.slice Ao39 t873.length co39 : Value).ownBlock ∧ k_ ≠ gb861 ∧ k_ ≠ gb862 ∧ k_ ≠ gb877) (.slice Ao32 t865.length co32) t865) := ⟨by (with_reducible repeat (first | apply Kd.V_alloc | apply Kd.V_drewN | apply Kd.V_drew)); exact Kd.V_mono (Kd.V_far (p := ⟨gb877, 1, none⟩) (Kd.V_far (p := ⟨gb877, 0, none⟩) (Kd.V_mono HO867.out (fun k_ hk => (⟨hk, hk.2⟩ : _ ∧ k_ ≠ gb877))) (fun _ hk => hk.2) (.slice Ao35 t870.length co35)) (fun _ hk => hk.2) (.slice Ao39 t873.length co39)) (fun _ hk => ⟨hk.1.1.1.2, ⟨hk.1.1.2, ⟨hk.1.1.1.1.1, ⟨hk.1.1.1.1.2, hk.1.2⟩⟩⟩⟩)⟩
 have n1_ : Aside0 (Kd.S (Kd.slice 3 (Kd.int .i64)) 22 ((w34.setCell ⟨gb877, 0, none⟩ (.slice Ao35 t870.length co35)).setCell ⟨gb877, 1, none⟩ (.slice Ao39 t873.length co39)) w.heap.size (fun _ => True) (.slice Ao35 t870.length co35) t870) := ⟨by (with_reducible repeat (first | apply Kd.S_alloc | apply Kd.S_drewN | apply Kd.S_drew)); exact Kd.S_mono (Kd.S_far (p := ⟨gb877, 1, none⟩) (Kd.S_far (p := ⟨gb877, 0, none⟩) (Kd.S_types HO872.out BK877.out (by decide)) (fun _ hk => hk.2) (.slice Ao35 t870.length co35)) (fun _ hk => hk.2) (.slice Ao39 t873.length co39)) (fun _ hk => trivial)⟩
 have n2_ : Aside0 (Kd.S (Kd.slice 2 (Kd.int .i64)) 84 ((w34.setCell ⟨gb877, 0, none⟩ (.slice Ao35 t870.length co35)).setCell ⟨gb877, 1, none⟩ (.slice Ao39 t873.length co39)) w.heap.size (fun _ => True) (.slice Ao39 t873.length co39) t873) := ⟨by (with_reducible repeat (first | apply Kd.S_alloc | apply Kd.S_drewN | apply Kd.S_drew)); exact Kd.S_mono (Kd.S_far (p := ⟨gb877, 1, none⟩) (Kd.S_far (p := ⟨gb877, 0, none⟩) (Kd.S_types HO875.out BK877.out (by decide)) (fun _ hk => hk.2) (.slice Ao35 t870.length co35)) (fun _ hk => hk.2) (.slice Ao39 t873.length co39)) (fun _ hk => trivial)⟩
 have n3_ : Aside0 (((w34.setCell ⟨gb877, 0, none⟩ (.slice Ao35 t870.length co35)).setCell ⟨gb877, 1, none⟩ (.slice Ao39 t873.length co39)).heap[gb861]? = some (.cells #[.int .i64 a0_0, .int .i64 a0_1, .slice A0_2 l0_2.length c0_2, .slice A0_3 l0_3.length c0_3] 24 (0, 0))) := ⟨bk_ BK861⟩
 have n4_ : Aside0 (((w34.setCell ⟨gb877, 0, none⟩ (.slice Ao35 t870.length co35)).setCell ⟨gb877, 1, none⟩ (.slice Ao39 t873.length co39)).heap[gb862]? = some (.cells #[.slice A1_0 l1_0.length c1_0, .slice A1_1 l1_1.length c1_1] 48 (0, 0))) := ⟨bk_ BK862⟩
 have n5_ : Aside0 (((w34.setCell ⟨gb877, 0, none⟩ (.slice Ao35 t870.length co35)).setCell ⟨gb877, 1, none⟩ (.slice Ao39 t873.length co39)).heap[gb877]? = some (.cells #[.slice Ao35 t870.length co35, .slice Ao39 t873.length co39] 48 (0, 0))) := ⟨bp_ BK877⟩
 have n6_ : Aside0 (Below w.heap.size w ((w34.setCell ⟨gb877, 0, none⟩ (.slice Ao35 t870.length co35)).setCell ⟨gb877, 1, none⟩ (.slice Ao39 t873.length co39))) := ⟨bl_ HB⟩
 (try clear HO867)
 (try clear HO872)
 (try clear HO875)
 (try clear BK861)
 (try clear BK862)
 (try clear BK877)
 (try clear HB)
 generalize ((w34.setCell ⟨gb877, 0, none⟩ (.slice Ao35 t870.length co35)).setCell ⟨gb877, 1, none⟩ (.slice Ao39 t873.length co39)) = w40 at n0_ n1_ n2_ n3_ n4_ n5_ n6_ ⊢
 have HO867 := n0_
 have HO872 := n1_
 have HO875 := n2_
 have BK861 := n3_
 have BK862 := n4_
 have BK877 := n5_
 have HB := n6_
 clear n0_ n1_ n2_ n3_ n4_ n5_ n6_
 replace HO867 := Aside0.mk (Kd.V_drew HO867.out)
 replace HO872 := Aside0.mk (Kd.S_drew HO872.out)
 replace HO875 := Aside0.mk (Kd.S_drew HO875.out)
 replace BK861 := Aside0.mk (blk_drew BK861.out)
 replace BK862 := Aside0.mk (blk_drew BK862.out)
 replace BK877 := Aside0.mk (blk_drew BK877.out)
 replace HB := Aside0.mk (below_drew1 HB.out)
 refine start_ (n := 13) (S := fun w' => w'.cell? ⟨gb862, 0, none⟩ = some (.slice A1_0 l1_0.length c1_0) ∧ w'.cell? ⟨gb862, 1, none⟩ = some (.slice A1_1 l1_1.length c1_1) ∧ w'.cell? ⟨gb877, 0, none⟩ = some (.slice Ao35 t870.length co35) ∧ w'.cell? ⟨gb877, 1, none⟩ = some (.slice Ao39 t873.length co39)) (ds := []) (B_ 13 0) kf_ rfl rfl ⟨ce_ BK862 0, ce_ BK862 1, ce_ BK877 0, ce_ BK877 1⟩ (fun hHeld => ?_); refine with_tabW psalterylaw17_BodyBack.tab7 psalterylaw17_BodyBack.bits7 (fun HT_ HW_ => ?_)
 generalize w40.drew = w41 at HO867 HO872 HO875 BK861 BK862 BK877 HB hHeld ⊢
 refine take_ (i := 0) (N := some 33) (v := ?_) (a' := ?_) (B_ 13 1) rfl rfl (take_ofW HT_.out HW_.out kf_) (fun _ _ _ h => h) (Or.inl ⟨by rfl, ?_⟩) hHeld ?_ ?_
 rotate_left
 {
 rintro w' ⟨s0, s1, s2, s3⟩
 go_simp
 with_reducible rfl}
 rotate_left
 {
 exact sp_}
 refine take_ (i := 2) (N := some 35) (v := ?_) (a' := ?_) (B_ 13 5) rfl rfl (take_ofW HT_.out HW_.out kf_) (fun _ _ _ h => h) (Or.inl ⟨by rfl, ?_⟩) hHeld ?_ ?_
 rotate_left
 {
 rintro w' ⟨s0, s1, s2, s3⟩
 go_simp
 with_reducible rfl}
 rotate_left
 {
 exact sp_}
 refine one_ (i := 1) (N := some 34) (B_ 13 7) rfl rfl (one_of HT_.out kf_) (by decide) (fun K hK => ?_)
 refine goes_ Try.func31 kf_ rfl #[.agg #[.slice A1_0 l1_0.length c1_0, .slice A1_1 l1_1.length c1_1]] (by rfl) rfl rfl ar_ ?_
 with_reducible refine (psalterylaw17_As.calls _ _ l1_0 _ _ l1_1  _ ?side1 ?side2 ?side3 ?side4 A16.out).mono ?_
 (case side1 => exact kC_ HR1_0 HB)
 (case side2 => exact HC1_0.out)
 (case side3 => exact kC_ HR1_1 HB)
 (case side4 => exact HC1_1.out)
 rintro e w42 ⟨rfl, hb⟩
 refine ⟨_, rfl, ?_⟩
 replace HO867 := FV_ HO867 hb
 replace HO872 := FS_ HO872 hb
 replace HO875 := FS_ HO875 hb
 replace BK861 := FB_ BK861 hb
 replace BK862 := FB_ BK862 hb
 replace BK877 := FB_ BK877 hb
 replace HB := BS_ HB hb
 (try clear hb)
 (try clear hk)
 refine hK.out _ _ ⟨ce_ BK862 0, ce_ BK862 1, ce_ BK877 0, ce_ BK877 1⟩ (fun hHeld => ?_)
 clear hK K
 refine norm_ (a' := ?_) ?_ ?_
 rotate_left
 {
 show Act.put _ (some 34) _ = _
 exact sp_}
 refine one_ (i := 3) (N := some 36) (B_ 13 15) rfl rfl (one_of HT_.out kf_) (by decide) (fun K hK => ?_)
 refine goes_ Try.func31 kf_ rfl #[.agg #[.slice Ao35 t870.length co35, .slice Ao39 t873.length co39]] (by rfl) rfl rfl ar_ ?_
 with_reducible refine (psalterylaw17_As.calls _ _ t870 _ _ t873  _ ?side1 ?side2 ?side3 ?side4 A17.out).mono ?_
 (case side1 => repeat (first | exact (Kd.S_reads' HO872.out).2.2 | (with_reducible refine Kd.C_alloc ?_ _) | (with_reducible refine Kd.C_drewN ?_ _) | (with_reducible refine Kd.C_drew ?_)))
 (case side2 => exact (Kd.S_reads' HO872.out).2.1)
 (case side3 => repeat (first | exact (Kd.S_reads' HO875.out).2.2 | (with_reducible refine Kd.C_alloc ?_ _) | (with_reducible refine Kd.C_drewN ?_ _) | (with_reducible refine Kd.C_drew ?_)))
 (case side4 => exact (Kd.S_reads' HO875.out).2.1)
 rintro e w43 ⟨rfl, hb⟩
 refine ⟨_, rfl, ?_⟩
 replace HO867 := FV_ HO867 hb
 replace HO872 := FS_ HO872 hb
 replace HO875 := FS_ HO875 hb
 replace BK861 := FB_ BK861 hb
 replace BK862 := FB_ BK862 hb
 replace BK877 := FB_ BK877 hb
 replace HB := BS_ HB hb
 (try clear hb)
 (try clear hk)
 refine hK.out _ _ ⟨ce_ BK862 0, ce_ BK862 1, ce_ BK877 0, ce_ BK877 1⟩ (fun hHeld => ?_)
 clear hK K
 refine norm_ (a' := ?_) ?_ ?_
 rotate_left
 {
 show Act.put _ (some 36) _ = _
 exact sp_}
 refine one_ (i := 4) (N := some 37) (B_ 13 31) rfl rfl (one_of HT_.out kf_) (by decide) (fun K hK => ?_)
 refine goes_ Try.func36 kf_ rfl #[.agg #[.slice A1_0 l1_0.length c1_0, .slice A1_1 l1_1.length c1_1], .agg #[.slice Ao35 t870.length co35, .slice Ao39 t873.length co39]] (by rfl) rfl rfl ar_ ?_
 with_reducible refine (psalteryref17_Same.calls k _ _ l1_0 _ _ l1_1 _ _ t870 _ _ t873 true _ ?side1 ?side2 ?side3 ?side4 ?side5 ?side6 ?side7 ?side8 A18.out).mono ?_
 (case side1 => exact kC_ HR1_0 HB)
 (case side2 => exact HC1_0.out)
 (case side3 => exact kC_ HR1_1 HB)
 (case side4 => exact HC1_1.out)
 (case side5 => repeat (first | exact (Kd.S_reads' HO872.out).2.2 | (with_reducible refine Kd.C_alloc ?_ _) | (with_reducible refine Kd.C_drewN ?_ _) | (with_reducible refine Kd.C_drew ?_)))
 (case side6 => exact (Kd.S_reads' HO872.out).2.1)
 (case side7 => repeat (first | exact (Kd.S_reads' HO875.out).2.2 | (with_reducible refine Kd.C_alloc ?_ _) | (with_reducible refine Kd.C_drewN ?_ _) | (with_reducible refine Kd.C_drew ?_)))
 (case side8 => exact (Kd.S_reads' HO875.out).2.1)
 rintro e w44 ⟨rfl, hb⟩
 refine ⟨_, rfl, ?_⟩
 replace HO867 := FV_ HO867 hb
 replace HO872 := FS_ HO872 hb
 replace HO875 := FS_ HO875 hb
 replace BK861 := FB_ BK861 hb
 replace BK862 := FB_ BK862 hb
 replace BK877 := FB_ BK877 hb
 replace HB := BS_ HB hb
 (try clear hb)
 (try clear hk)
 refine hK.out _ _ ⟨ce_ BK862 0, ce_ BK862 1, ce_ BK877 0, ce_ BK877 1⟩ (fun hHeld => ?_)
 clear hK K
 refine norm_ (a' := ?_) ?_ ?_
 rotate_left
 {
 show Act.put _ (some 37) _ = _
 exact sp_}
 refine pu_ 5 (some 38) (B_ 13 63) HT_ ?_
 refine pu_ 6 (some 39) (B_ 13 127) HT_ ?_
 refine pu_ 7 (some 40) (B_ 13 255) HT_ ?_
 refine pu_ 8 (some 41) (B_ 13 511) HT_ ?_
 refine pu_ 9 (some 42) (B_ 13 1023) HT_ ?_
 refine one_ (i := 10) (N := some 43) (B_ 13 2047) rfl rfl (one_of HT_.out kf_) (by decide) (fun K hK => ?_)
 refine goes_ Try.func28 kf_ rfl #[] (by rfl) rfl rfl ar_ ?_
 with_reducible refine (psalterylaw17_knows.calls k  t879 _ A21.out).mono ?_
 rintro e w45 ⟨rfl, hb⟩
 refine ⟨_, rfl, ?_⟩
 replace HO867 := FV_ HO867 hb
 replace HO872 := FS_ HO872 hb
 replace HO875 := FS_ HO875 hb
 replace BK861 := FB_ BK861 hb
 replace BK862 := FB_ BK862 hb
 replace BK877 := FB_ BK877 hb
 replace HB := BS_ HB hb
 (try clear hb)
 (try clear hk)
 refine hK.out _ _ ⟨ce_ BK862 0, ce_ BK862 1, ce_ BK877 0, ce_ BK877 1⟩ (fun hHeld => ?_)
 clear hK K
 refine norm_ (a' := ?_) ?_ ?_
 rotate_left
 {
 show Act.put _ (some 43) _ = _
 exact sp_}
 refine pu_ 11 (some 44) (B_ 13 4095) HT_ ?_
 refine pu_ 12 (some 4) (B_ 13 8191) HT_ ?_
 refine done_ (done_of HT_.out kf_) ?_
 try go_wp2
 go_ret
 exact ⟨by first | rfl | (simp [errW_none, errW_some] <;> rfl) | (simp [*, errW_none, errW_some] <;> rfl), bl_ HB⟩}
 {
 rw [if_neg c20] at H
 have c20b0 : (t876 == 0) = false := beq_eq_false_iff_ne.mpr c20
 have c20b1 : (t876 != 0) = true := bne_iff_ne.mpr c20
 exact absurd ((Option.some.inj H).trans HT.out) (by decide)}}
 {
 replace c19 := Bool.eq_false_iff.mpr c19
 subst c19
 rw [if_neg (show ¬ (false = true) by decide)] at H
 exact absurd ((Option.some.inj H).trans HT.out) (by decide)}}
 {
 rw [if_neg c14] at H
 have c14b0 : (t868 == 0) = false := beq_eq_false_iff_ne.mpr c14
 have c14b1 : (t868 != 0) = true := bne_iff_ne.mpr c14
 by_cases c46 : (t865.length : Int) = 0
 {
 rw [if_pos c46] at H
 have c46b0 : ((t865.length : Int) == 0) = true := beq_iff_eq.mpr c46
 have c46b1 : ((t865.length : Int) != 0) = false := bne_eq_false_iff_eq.mpr c46
 clear c46
 replace H := Option.bind_eq_some_iff.mp H
 obtain ⟨t869, A470, H⟩ := H
 replace H : (some t869) = some r := H
 have A47 := Aside0.mk A470
 clear A470
 obtain rfl := Option.some.inj H
 go_enter Try.func12, Try.ntmps12
 go_wp2_with (first | ((with_reducible refine gate_dst (N := 2) rfl ?_); refine bx_ HB 2 #[.int .i64 a0_0, .int .i64 a0_1, .slice A0_2 l0_2.length c0_2, .slice A0_3 l0_3.length c0_3] 24 ?_; clear HB; intro gb861 hg w48 hb BK861 GE861 HB; have GW861 := GE861; clear hb hg) | ((with_reducible refine gate_dst (N := 3) rfl ?_); refine bx_ HB 3 #[.slice A1_0 l1_0.length c1_0, .slice A1_1 l1_1.length c1_1] 48 ?_; clear HB; intro gb862 hg w49 hb BK862 GE862 HB; have GW862 := GE862; obtain ⟨NB861_862, NB862_861⟩ := NN_ BK861 hg; replace BK861 := FB_ BK861 hb; clear hb hg; have hnb50 := NB861_862.out; have hnc50 := NB862_861.out; obtain ⟨hcz51_0, hcz51_1, hcz51_2, hcz51_3, hfz51_0, hfz51_1, hfz51_2, hfz51_3⟩ := e4_ BK861; obtain ⟨hcz52_0, hcz52_1, hfz52_0, hfz52_1⟩ := e2_ BK862) | ((with_reducible refine gate_callee (f := 27) rfl ?_); refine gL_ (some 11) Try.func27 #[.agg #[.int .i64 a0_0, .int .i64 a0_1, .slice A0_2 l0_2.length c0_2, .slice A0_3 l0_3.length c0_3], .agg #[.slice A1_0 l1_0.length c1_0, .slice A1_1 l1_1.length c1_1]] ?_; (with_reducible refine (psalterylaw17_great.calls k a0_0 a0_1 _ _ l0_2 _ _ l0_3 _ _ l1_0 _ _ l1_1 false _ ?side1 ?side2 ?side3 ?side4 ?side5 ?side6 ?side7 ?side8 A3.out).mono ?_); (case side1 => exact kC_ HR0_2 HB); (case side2 => exact HC0_2.out); (case side3 => exact kC_ HR0_3 HB); (case side4 => exact HC0_3.out); (case side5 => exact kC_ HR1_0 HB); (case side6 => exact HC1_0.out); (case side7 => exact kC_ HR1_1 HB); (case side8 => exact HC1_1.out); rintro e w53 ⟨rfl, hb⟩; refine ⟨_, rfl, ?_⟩; replace BK861 := FB_ BK861 hb; replace BK862 := FB_ BK862 hb; replace HB := BS_ HB hb; (try clear hb); obtain ⟨hcz54_0, hcz54_1, hcz54_2, hcz54_3, hfz54_0, hfz54_1, hfz54_2, hfz54_3⟩ := e4_ BK861; obtain ⟨hcz55_0, hcz55_1, hfz55_0, hfz55_1⟩ := e2_ BK862) | ((with_reducible refine gate_callee (f := 32) rfl ?_); refine gL_ (some 16) Try.func32 #[.agg #[.int .i64 a0_0, .int .i64 a0_1, .slice A0_2 l0_2.length c0_2, .slice A0_3 l0_3.length c0_3], .agg #[.slice A1_0 l1_0.length c1_0, .slice A1_1 l1_1.length c1_1]] ?_; (with_reducible refine (vpack_Write.calls k a0_0 a0_1 _ _ l0_2 _ _ l0_3 _ _ l1_0 _ _ l1_1 t865 t868 _ ?side1 ?side2 ?side3 ?side4 ?side5 ?side6 ?side7 ?side8 A13.out).mono ?_); (case side1 => exact kC_ HR0_2 HB); (case side2 => exact HC0_2.out); (case side3 => exact kC_ HR0_3 HB); (case side4 => exact HC0_3.out); (case side5 => exact kC_ HR1_0 HB); (case side6 => exact HC1_0.out); (case side7 => exact kC_ HR1_1 HB); (case side8 => exact HC1_1.out); rintro e w56 ⟨v866, rfl, ho0, hb⟩; refine ⟨_, rfl, ?_⟩; have HO867 := Aside0.mk (Kd.V_lower (Kd.V_mono (ok' := fun k_ => k_ ≠ gb861 ∧ k_ ≠ gb862) ho0 (fun k_ hk_ => ⟨(Kd.freshB (g := gb861) (o := .cells #[.int .i64 a0_0, .int .i64 a0_1, .slice A0_2 l0_2.length c0_2, .slice A0_3 l0_3.length c0_3] 24 (0, 0)) (bk_ BK861) k_ hk_), (Kd.freshB (g := gb862) (o := .cells #[.slice A1_0 l1_0.length c1_0, .slice A1_1 l1_1.length c1_1] 48 (0, 0)) (bk_ BK862) k_ hk_)⟩)) (bs_ HB)); replace BK861 := FB_ BK861 hb; replace BK862 := FB_ BK862 hb; replace HB := BS_ HB hb; (try clear hb); (try clear ho0); obtain ⟨Ao57, co57, eo57⟩ := Kd.V_slice HO867.out; subst eo57) | (go_at_call 28; (with_reducible refine (psalterylaw17_knows.calls k  t869 _ A47.out).mono ?_); rintro e w58 ⟨rfl, hb⟩; replace HO867 := FV_ HO867 hb; replace BK861 := FB_ BK861 hb; replace BK862 := FB_ BK862 hb; replace HB := BS_ HB hb; (try clear hb)))
 go_ret
 exact ⟨by first | rfl | (simp [errW_none, errW_some] <;> rfl) | (simp [*, errW_none, errW_some] <;> rfl), bl_ HB⟩}
 {
 rw [if_neg c46] at H
 have c46b0 : ((t865.length : Int) == 0) = false := beq_eq_false_iff_ne.mpr c46
 have c46b1 : ((t865.length : Int) != 0) = true := bne_iff_ne.mpr c46
 have c46b2 : ¬ (t865 = []) := fun h_ => c46 (by rw [h_]; rfl)
 exact absurd ((Option.some.inj H).trans HT.out) (by decide)}}}
def psalterylaw17_BodyBack.Pure : Prop := ∀ (a0_0 : Int) (a0_1 : Int) (l0_2 : List Int) (l0_3 : List Int) (l1_0 : List (List Int)) (l1_1 : List (List Int)), (Lit.int .i64 a0_0).wf = true → (Lit.int .i64 a0_1).wf = true → (l0_2.length ≤ maxLen ∧ ∀ x0_ ∈ l0_2, (Lit.int .i64 x0_).wf = true) → (l0_3.length ≤ maxLen ∧ ∀ x0_ ∈ l0_3, (Lit.int .i64 x0_).wf = true) → (l1_0.length ≤ maxLen ∧ ∀ x0_ ∈ l1_0, (x0_.length ≤ maxLen ∧ ∀ x1_ ∈ x0_, (Lit.int .i64 x1_).wf = true)) → (l1_1.length ≤ maxLen ∧ ∀ x0_ ∈ l1_1, (x0_.length ≤ maxLen ∧ ∀ x1_ ∈ x0_, (Lit.int .i64 x1_).wf = true)) → ∃ k, psalterylaw17_BodyBack.f k a0_0 a0_1 l0_2 l0_3 l1_0 l1_1 = some true
theorem psalterylaw17_BodyBack.walk (P : psalterylaw17_BodyBack.Pure) (a0_0 : Int) (a0_1 : Int) (A0_2 : Option Addr) (c0_2 : Nat) (l0_2 : List Int) (A0_3 : Option Addr) (c0_3 : Nat) (l0_3 : List Int) (A1_0 : Option Addr) (c1_0 : Nat) (l1_0 : List (List Int)) (A1_1 : Option Addr) (c1_1 : Nat) (l1_1 : List (List Int)) (w : World) (hr0_2 : Kd.C (Kd.int .i64) w A0_2 l0_2.length l0_2) (hc0_2 : l0_2.length ≤ c0_2) (hr0_3 : Kd.C (Kd.int .i64) w A0_3 l0_3.length l0_3) (hc0_3 : l0_3.length ≤ c0_3) (hr1_0 : Kd.C (Kd.slice 3 (Kd.int .i64)) w A1_0 l1_0.length l1_0) (hc1_0 : l1_0.length ≤ c1_0) (hr1_1 : Kd.C (Kd.slice 2 (Kd.int .i64)) w A1_1 l1_1.length l1_1) (hc1_1 : l1_1.length ≤ c1_1) (w0_0 : (Lit.int .i64 a0_0).wf = true) (w0_1 : (Lit.int .i64 a0_1).wf = true) (w0_2 : (l0_2.length ≤ maxLen ∧ ∀ x0_ ∈ l0_2, (Lit.int .i64 x0_).wf = true)) (w0_3 : (l0_3.length ≤ maxLen ∧ ∀ x0_ ∈ l0_3, (Lit.int .i64 x0_).wf = true)) (w1_0 : (l1_0.length ≤ maxLen ∧ ∀ x0_ ∈ l1_0, (x0_.length ≤ maxLen ∧ ∀ x1_ ∈ x0_, (Lit.int .i64 x1_).wf = true))) (w1_1 : (l1_1.length ≤ maxLen ∧ ∀ x0_ ∈ l1_1, (x0_.length ≤ maxLen ∧ ∀ x1_ ∈ x0_, (Lit.int .i64 x1_).wf = true))) :
    Calls Try.prog 12 #[.agg #[.int .i64 a0_0, .int .i64 a0_1, .slice A0_2 l0_2.length c0_2, .slice A0_3 l0_3.length c0_3], .agg #[.slice A1_0 l1_0.length c1_0, .slice A1_1 l1_1.length c1_1]] w fun e w' => e = .returned (.bool true) ∧ Below w.heap.size w w' := by
  obtain ⟨k, h⟩ := P a0_0 a0_1 l0_2 l0_3 l1_0 l1_1 w0_0 w0_1 w0_2 w0_3 w1_0 w1_1
  refine (psalterylaw17_BodyBack.calls k a0_0 a0_1 _ _ l0_2 _ _ l0_3 _ _ l1_0 _ _ l1_1 true w hr0_2 hc0_2 hr0_3 hc0_3 hr1_0 hc1_0 hr1_1 hc1_1 h rfl).mono ?_
  rintro e w' ⟨rfl, hd⟩
  exact ⟨rfl, hd⟩

end Go.Proofs.Ytpdfdaoohknfoaa.P
