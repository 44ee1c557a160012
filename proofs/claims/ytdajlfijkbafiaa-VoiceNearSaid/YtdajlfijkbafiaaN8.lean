/- Words, walks and what they compute, as the law's proof needs them. -/
import Derived.Test.YtdajlfijkbafiaaN3
import Derived.Test.YtdajlfijkbafiaaN4
import Derived.Test.YtdajlfijkbafiaaN6
import Derived.Test.YtdajlfijkbafiaaN7
import Derived.Test.YtdajlfijkbafiaaN2
import Derived.Laws.BitsAllLaws
set_option linter.unusedVariables false
set_option linter.unusedSimpArgs false
namespace Go.Proofs.Ytdajlfijkbafiaa.P
open Go.RowKit Go.Proofs.YtdajlfijkbafiaaW.PrintWords Go.Proofs.YtdajlfijkbafiaaW.PrintLast Go.Proofs.YtdajlfijkbafiaaW.PrintMore
attribute [local go_sem] max2_int min2_int max_two min_two max_three min_three max_four min_four
mutual
def psalterylaw22_VoiceNear.j0 : Nat → Bool → Int → Int → List Int → List Int → List (List Int) → List (List Int) → Option (Bool)
  | 0, _, _, _, _, _, _, _ => none
  | k + 1, x57, x951000, x951001, x951002, x951003, x952000, x968000 => if x57 = true then (some false) else (psalterylaw22_VoiceNear.l0 k 0 x951000 x951001 x951002 x951003 x952000 x968000)
def psalterylaw22_VoiceNear.l0 : Nat → Int → Int → Int → List Int → List Int → List (List Int) → List (List Int) → Option (Bool)
  | 0, _, _, _, _, _, _, _ => none
  | k + 1, x9, x951000, x951001, x951002, x951003, x952000, x968000 => if x9 < (x952000.length : Int) then ((psalterylaw16_As.f x951000 x951001 x951002 x951003).bind fun bt969 => (if 0 ≤ x9 then ((psalteryref22_Posts.f k bt969.1 bt969.2 x951002 x951003 (rd_L2 x952000 x9)).bind fun t972 => ((psalteryref22_Floors.f k t972).bind fun t975 => (if x9 < (x968000.length : Int) then (if ((rd_L2 x968000 x9).length : Int) = 16 then (psalterylaw22_VoiceNear.l1 k x9 t975 0 x951000 x951001 x951002 x951003 x952000 x968000) else (some false)) else (none)))) else (none))) else ((psalterylaw22_knows.f k).bind fun t968 => (some t968))
def psalterylaw22_VoiceNear.l1 : Nat → Int → List Int → Int → Int → Int → List Int → List Int → List (List Int) → List (List Int) → Option (Bool)
  | 0, _, _, _, _, _, _, _, _, _ => none
  | k + 1, x9, x10, x11, x951000, x951001, x951002, x951003, x952000, x968000 => if x11 < 16 then (if 0 ≤ x9 then (if x9 < (x968000.length : Int) then (if 0 ≤ x11 then (if x11 < ((rd_L2 x968000 x9).length : Int) then (if x9 < (x952000.length : Int) then (if x11 < ((rd_L2 x952000 x9).length : Int) then (if (wrap64 ((rd (rd_L2 x968000 x9) x11) - (rd (rd_L2 x952000 x9) x11))) < 0 then (if x11 < (x10.length : Int) then (if (wrap64 (2 * (wrap64 (-(wrap64 ((rd (rd_L2 x968000 x9) x11) - (rd (rd_L2 x952000 x9) x11))))))) > (rd x10 x11) then (some false) else (psalterylaw22_VoiceNear.l1 k x9 x10 (wrap64 (x11 + 1)) x951000 x951001 x951002 x951003 x952000 x968000)) else (none)) else (if x11 < (x10.length : Int) then (if (wrap64 (2 * (wrap64 ((rd (rd_L2 x968000 x9) x11) - (rd (rd_L2 x952000 x9) x11))))) > (rd x10 x11) then (some false) else (psalterylaw22_VoiceNear.l1 k x9 x10 (wrap64 (x11 + 1)) x951000 x951001 x951002 x951003 x952000 x968000)) else (none))) else (none)) else (none)) else (none)) else (none)) else (none)) else (none)) else (psalterylaw22_VoiceNear.l0 k (wrap64 (x9 + 1)) x951000 x951001 x951002 x951003 x952000 x968000)
end
def psalterylaw22_VoiceNear.f (k : Nat) (a0_0 : Int) (a0_1 : Int) (l0_2 : List Int) (l0_3 : List Int) (l1_0 : List (List Int)) : Option (Bool) := (psalterylaw22_great.f k a0_0 a0_1 l0_2 l0_3 l1_0).bind fun t952 => (if t952 = true then ((psalterylaw22_knows.f k).bind fun t953 => (some t953)) else ((vcodec_Encode.f k a0_0 a0_1 l0_2 l0_3 l1_0).bind fun bt954 => (if bt954.2.2 = 0 then ((vcodec_Decode.f k a0_0 a0_1 l0_2 l0_3 bt954.1 bt954.2.1).bind fun bt963 => (if bt963.2 = 0 then (if (bt963.1.length : Int) = (l1_0.length : Int) then (psalterylaw22_VoiceNear.j0 k ((bt954.1.length : Int) != (l1_0.length : Int)) a0_0 a0_1 l0_2 l0_3 l1_0 bt963.1) else (psalterylaw22_VoiceNear.j0 k true a0_0 a0_1 l0_2 l0_3 l1_0 bt963.1)) else (psalterylaw22_VoiceNear.j0 k true a0_0 a0_1 l0_2 l0_3 l1_0 bt963.1))) else (if (bt954.1.length : Int) = 0 then ((psalterylaw22_knows.f k).bind fun t962 => (some t962)) else (some false)))))
theorem psalterylaw22_VoiceNear.mono_l : ∀ k, (∀ y0 y1 y2 y3 y4 y5 y6, LeO (psalterylaw22_VoiceNear.j0 k y0 y1 y2 y3 y4 y5 y6) (psalterylaw22_VoiceNear.j0 (k + 1) y0 y1 y2 y3 y4 y5 y6)) ∧ (∀ y0 y1 y2 y3 y4 y5 y6, LeO (psalterylaw22_VoiceNear.l0 k y0 y1 y2 y3 y4 y5 y6) (psalterylaw22_VoiceNear.l0 (k + 1) y0 y1 y2 y3 y4 y5 y6)) ∧ (∀ y0 y1 y2 y3 y4 y5 y6 y7 y8, LeO (psalterylaw22_VoiceNear.l1 k y0 y1 y2 y3 y4 y5 y6 y7 y8) (psalterylaw22_VoiceNear.l1 (k + 1) y0 y1 y2 y3 y4 y5 y6 y7 y8))
  | 0 => ⟨fun _ _ _ _ _ _ _ r h => by simp [psalterylaw22_VoiceNear.j0] at h, fun _ _ _ _ _ _ _ r h => by simp [psalterylaw22_VoiceNear.l0] at h, fun _ _ _ _ _ _ _ _ _ r h => by simp [psalterylaw22_VoiceNear.l1] at h⟩
  | k + 1 => by
    obtain ⟨ih0, ih1, ih2⟩ := psalterylaw22_VoiceNear.mono_l k
    refine ⟨?_, ?_, ?_⟩
    all_goals (intros; first | unfold psalterylaw22_VoiceNear.j0 | unfold psalterylaw22_VoiceNear.l0 | unfold psalterylaw22_VoiceNear.l1)
    all_goals with_reducible repeat' first
     | exact ih0 _ _ _ _ _ _ _
     | exact ih1 _ _ _ _ _ _ _
     | exact ih2 _ _ _ _ _ _ _ _ _
     | exact psalterylaw22_great.mono _ _ _ _ _ _
     | exact psalterylaw22_knows.mono _
     | exact psalteryref22_Floors.mono _ _
     | exact psalteryref22_Posts.mono _ _ _ _ _ _
     | exact vcodec_Decode.mono _ _ _ _ _ _ _
     | exact vcodec_Encode.mono _ _ _ _ _ _
     | exact LeO.refl _
     | exact LeO.none _
     | refine LeO.ite ?_ ?_
     | refine LeO.bind ?_ (fun _ => ?_)
theorem psalterylaw22_VoiceNear.mono : ∀ a0 a1 a2 a3 a4 k, LeO (psalterylaw22_VoiceNear.f k a0 a1 a2 a3 a4) (psalterylaw22_VoiceNear.f (k + 1) a0 a1 a2 a3 a4) := by
  intro a0 a1 a2 a3 a4 k
  obtain ⟨ih0, ih1, ih2⟩ := psalterylaw22_VoiceNear.mono_l k
  unfold psalterylaw22_VoiceNear.f
  with_reducible repeat' first
   | exact ih0 _ _ _ _ _ _ _
   | exact ih1 _ _ _ _ _ _ _
   | exact ih2 _ _ _ _ _ _ _ _ _
   | exact psalterylaw22_great.mono _ _ _ _ _ _
   | exact psalterylaw22_knows.mono _
   | exact psalteryref22_Floors.mono _ _
   | exact psalteryref22_Posts.mono _ _ _ _ _ _
   | exact vcodec_Decode.mono _ _ _ _ _ _ _
   | exact vcodec_Encode.mono _ _ _ _ _ _
   | exact LeO.refl _
   | exact LeO.none _
   | refine LeO.ite ?_ ?_
   | refine LeO.bind ?_ (fun _ => ?_)
def psalterylaw22_VoiceNear.T12 : Bool × List (List Nat × List Nat) := (true, [([], []), ([0], [0]), ([], []), ([2], [2]), ([], []), ([3, 4], [3, 4]), ([5], [5]), ([1, 6, 1], [1, 6]), ([7, 7], [7]), ([8, 8, 0, 1, 2, 3, 4, 5, 6, 7, 8], [8])])
def psalterylaw22_VoiceNear.B12 : List Nat := [0, 1, 0, 4, 0, 28, 60, 127, 255, 511]
theorem psalterylaw22_VoiceNear.tab12 : rtab .any (opsOf Try.f7 12) = psalterylaw22_VoiceNear.T12 := by kernel_rfl
theorem psalterylaw22_VoiceNear.bits12 : waitsOk psalterylaw22_VoiceNear.T12.2 psalterylaw22_VoiceNear.B12 = true := by kernel_rfl
def psalterylaw22_VoiceNear.T18 : Bool × List (List Nat × List Nat) := (true, [([], []), ([0], [0]), ([], []), ([1, 2], [1, 2]), ([3], [3]), ([], []), ([4, 5], [4, 5]), ([6], [6]), ([], []), ([8], [8]), ([], []), ([9, 10], [9, 10]), ([11], [11]), ([], []), ([12, 13], [12, 13]), ([14], [14]), ([7, 15], [7, 15]), ([16, 0, 1, 2, 3, 4, 5, 6, 7, 8, 9, 10, 11, 12, 13, 14, 15, 16], [16])])
def psalterylaw22_VoiceNear.B18 : List Nat := [0, 1, 0, 7, 15, 0, 63, 127, 0, 256, 0, 1792, 3840, 0, 16128, 32512, 65535, 131071]
theorem psalterylaw22_VoiceNear.tab18 : rtab .any (opsOf Try.f7 18) = psalterylaw22_VoiceNear.T18 := by kernel_rfl
theorem psalterylaw22_VoiceNear.bits18 : waitsOk psalterylaw22_VoiceNear.T18.2 psalterylaw22_VoiceNear.B18 = true := by kernel_rfl
set_option maxHeartbeats 8000000 in
set_option maxRecDepth 100000 in
theorem psalterylaw22_VoiceNear.calls (k : Nat) (a0_0 : Int) (a0_1 : Int) (A0_2 : Option Addr) (c0_2 : Nat) (l0_2 : List Int) (A0_3 : Option Addr) (c0_3 : Nat) (l0_3 : List Int) (A1_0 : Option Addr) (c1_0 : Nat) (l1_0 : List (List Int)) (r : Bool) (w : World) (hr0_2 : Kd.C (Kd.int .i64) w A0_2 l0_2.length l0_2) (hc0_2 : l0_2.length ≤ c0_2) (hr0_3 : Kd.C (Kd.int .i64) w A0_3 l0_3.length l0_3) (hc0_3 : l0_3.length ≤ c0_3) (hr1_0 : Kd.C (Kd.slice 2 (Kd.int .i64)) w A1_0 l1_0.length l1_0) (hc1_0 : l1_0.length ≤ c1_0) (h : psalterylaw22_VoiceNear.f k a0_0 a0_1 l0_2 l0_3 l1_0 = some r) (hT : r = true) :
    Calls Try.prog 7 #[.agg #[.int .i64 a0_0, .int .i64 a0_1, .slice A0_2 l0_2.length c0_2, .slice A0_3 l0_3.length c0_3], .agg #[.slice A1_0 l1_0.length c1_0]] w fun e w' => e = .returned (.bool r) ∧ Below w.heap.size w w' := by
 have hu24 := Try.underlying24
 have hu37 := Try.underlying37
 have hu28 := Try.underlying28
 have HR0_2 := Aside0.mk hr0_2
 have HC0_2 := Aside0.mk hc0_2
 clear hr0_2 hc0_2
 have HR0_3 := Aside0.mk hr0_3
 have HC0_3 := Aside0.mk hc0_3
 clear hr0_3 hc0_3
 have HR1_0 := Aside0.mk hr1_0
 have HC1_0 := Aside0.mk hc1_0
 clear hr1_0 hc1_0
 have HB := Aside0.mk (Below.refl w.heap.size w)
 have H : ((psalterylaw22_great.f k a0_0 a0_1 l0_2 l0_3 l1_0).bind fun t952 => (if t952 = true then ((psalterylaw22_knows.f k).bind fun t953 => (some t953)) else ((vcodec_Encode.f k a0_0 a0_1 l0_2 l0_3 l1_0).bind fun bt954 => (if bt954.2.2 = 0 then ((vcodec_Decode.f k a0_0 a0_1 l0_2 l0_3 bt954.1 bt954.2.1).bind fun bt963 => (if bt963.2 = 0 then (if (bt963.1.length : Int) = (l1_0.length : Int) then (psalterylaw22_VoiceNear.j0 k ((bt954.1.length : Int) != (l1_0.length : Int)) a0_0 a0_1 l0_2 l0_3 l1_0 bt963.1) else (psalterylaw22_VoiceNear.j0 k true a0_0 a0_1 l0_2 l0_3 l1_0 bt963.1)) else (psalterylaw22_VoiceNear.j0 k true a0_0 a0_1 l0_2 l0_3 l1_0 bt963.1))) else (if (bt954.1.length : Int) = 0 then ((psalterylaw22_knows.f k).bind fun t962 => (some t962)) else (some false)))))) = some r := h
 clear h
 have HT := Aside0.mk hT
 clear hT
 obtain ⟨t952, A3, H⟩ := ob_ H
 (try dsimp only at H)
 by_cases c4 : t952 = true
 {
 subst c4
 rw [if_pos rfl] at H
 replace H := Option.bind_eq_some_iff.mp H
 obtain ⟨t953, A50, H⟩ := H
 replace H : (some t953) = some r := H
 have A5 := Aside0.mk A50
 clear A50
 obtain rfl := Option.some.inj H
 go_enter Try.func7, Try.ntmps7
 go_wp2_with (first | ((with_reducible refine gate_dst (N := 2) rfl ?_); (try (refine gate_guard (by rfl) ?_; dsimp only)); refine bx_ HB 2 #[.int .i64 a0_0, .int .i64 a0_1, .slice A0_2 l0_2.length c0_2, .slice A0_3 l0_3.length c0_3] 24 ?_; clear HB; intro gb950 hg w6 hb BK950 GE950 HB; have GW950 := GE950; clear hb hg) | ((with_reducible refine gate_dst (N := 3) rfl ?_); (try (refine gate_guard (by rfl) ?_; dsimp only)); refine bx_ HB 3 #[.slice A1_0 l1_0.length c1_0] 37 ?_; clear HB; intro gb951 hg w7 hb BK951 GE951 HB; have GW951 := GE951; obtain ⟨NB950_951, NB951_950⟩ := NN_ BK950 hg; replace BK950 := FB_ BK950 hb; clear hb hg; have hnb8 := NB950_951.out; have hnc8 := NB951_950.out; obtain ⟨hcz9_0, hcz9_1, hcz9_2, hcz9_3, hfz9_0, hfz9_1, hfz9_2, hfz9_3⟩ := e4_ BK950; obtain ⟨hcz10_0, hfz10_0⟩ := e1_ BK951) | ((with_reducible refine gate_callee (f := 18) rfl ?_); refine gL_ (some 15) Try.func18 #[.agg #[.int .i64 a0_0, .int .i64 a0_1, .slice A0_2 l0_2.length c0_2, .slice A0_3 l0_3.length c0_3], .agg #[.slice A1_0 l1_0.length c1_0]] ?_; (with_reducible refine (psalterylaw22_great.calls k a0_0 a0_1 _ _ l0_2 _ _ l0_3 _ _ l1_0 true _ ?side1 ?side2 ?side3 ?side4 ?side5 ?side6 A3.out).mono ?_); (case side1 => exact kC_ HR0_2 HB); (case side2 => exact HC0_2.out); (case side3 => exact kC_ HR0_3 HB); (case side4 => exact HC0_3.out); (case side5 => exact kC_ HR1_0 HB); (case side6 => exact HC1_0.out); rintro e w11 ⟨rfl, hb⟩; refine ⟨_, rfl, ?_⟩; replace BK950 := FB_ BK950 hb; replace BK951 := FB_ BK951 hb; replace HB := BS_ HB hb; (try clear hb)) | ((with_reducible refine gate_callee (f := 13) rfl ?_); refine gL_ (some 16) Try.func13 #[] ?_; (with_reducible refine (psalterylaw22_knows.calls k  t953 _ A5.out).mono ?_); rintro e w12 ⟨rfl, hb⟩; refine ⟨_, rfl, ?_⟩; replace BK950 := FB_ BK950 hb; replace BK951 := FB_ BK951 hb; replace HB := BS_ HB hb; (try clear hb)))
 go_ret
 exact ⟨by first | rfl | (simp [errW_none, errW_some] <;> rfl) | (simp [*, errW_none, errW_some] <;> rfl), bl_ HB⟩}
 {
 replace c4 := Bool.eq_false_iff.mpr c4
 subst c4
 rw [if_neg (show ¬ (false = true) by decide)] at H
 obtain ⟨⟨t954, t957, t960⟩, A13, H⟩ := ob_ H
 (try dsimp only at H)
 by_cases c14 : t960 = 0
 {
 rw [if_pos c14] at H
 have c14b0 : (t960 == 0) = true := beq_iff_eq.mpr c14
 have c14b1 : (t960 != 0) = false := bne_eq_false_iff_eq.mpr c14
 clear c14
 obtain ⟨⟨t963, t966⟩, A15, H⟩ := ob_ H
 (try dsimp only at H)
 have HC16 := Aside0.mk H
 clear H
 go_enter Try.func7, Try.ntmps7
 go_upto_region 7 with (first | ((with_reducible refine gate_dst (N := 2) rfl ?_); (try (refine gate_guard (by rfl) ?_; dsimp only)); refine bx_ HB 2 #[.int .i64 a0_0, .int .i64 a0_1, .slice A0_2 l0_2.length c0_2, .slice A0_3 l0_3.length c0_3] 24 ?_; clear HB; intro gb950 hg w17 hb BK950 GE950 HB; have GW950 := GE950; clear hb hg) | ((with_reducible refine gate_dst (N := 3) rfl ?_); (try (refine gate_guard (by rfl) ?_; dsimp only)); refine bx_ HB 3 #[.slice A1_0 l1_0.length c1_0] 37 ?_; clear HB; intro gb951 hg w18 hb BK951 GE951 HB; have GW951 := GE951; obtain ⟨NB950_951, NB951_950⟩ := NN_ BK950 hg; replace BK950 := FB_ BK950 hb; clear hb hg; have hnb19 := NB950_951.out; have hnc19 := NB951_950.out; obtain ⟨hcz20_0, hcz20_1, hcz20_2, hcz20_3, hfz20_0, hfz20_1, hfz20_2, hfz20_3⟩ := e4_ BK950; obtain ⟨hcz21_0, hfz21_0⟩ := e1_ BK951) | ((with_reducible refine gate_callee (f := 18) rfl ?_); refine gL_ (some 15) Try.func18 #[.agg #[.int .i64 a0_0, .int .i64 a0_1, .slice A0_2 l0_2.length c0_2, .slice A0_3 l0_3.length c0_3], .agg #[.slice A1_0 l1_0.length c1_0]] ?_; (with_reducible refine (psalterylaw22_great.calls k a0_0 a0_1 _ _ l0_2 _ _ l0_3 _ _ l1_0 false _ ?side1 ?side2 ?side3 ?side4 ?side5 ?side6 A3.out).mono ?_); (case side1 => exact kC_ HR0_2 HB); (case side2 => exact HC0_2.out); (case side3 => exact kC_ HR0_3 HB); (case side4 => exact HC0_3.out); (case side5 => exact kC_ HR1_0 HB); (case side6 => exact HC1_0.out); rintro e w22 ⟨rfl, hb⟩; refine ⟨_, rfl, ?_⟩; replace BK950 := FB_ BK950 hb; replace BK951 := FB_ BK951 hb; replace HB := BS_ HB hb; (try clear hb); (try clear hk); obtain ⟨hcz23_0, hcz23_1, hcz23_2, hcz23_3, hfz23_0, hfz23_1, hfz23_2, hfz23_3⟩ := e4_ BK950; obtain ⟨hcz24_0, hfz24_0⟩ := e1_ BK951) | ((with_reducible refine gate_callee (f := 15) rfl ?_); refine gL_ (some 20) Try.func15 #[.agg #[.int .i64 a0_0, .int .i64 a0_1, .slice A0_2 l0_2.length c0_2, .slice A0_3 l0_3.length c0_3], .agg #[.slice A1_0 l1_0.length c1_0]] ?_; (with_reducible refine (vcodec_Encode.calls k a0_0 a0_1 _ _ l0_2 _ _ l0_3 _ _ l1_0 t954 t957 t960 _ ?side1 ?side2 ?side3 ?side4 ?side5 ?side6 A13.out).mono ?_); (case side1 => exact kC_ HR0_2 HB); (case side2 => exact HC0_2.out); (case side3 => exact kC_ HR0_3 HB); (case side4 => exact HC0_3.out); (case side5 => exact kC_ HR1_0 HB); (case side6 => exact HC1_0.out); rintro e w25 ⟨v955, v958, rfl, ho0, ho1, hb⟩; refine ⟨_, rfl, ?_⟩; have HO956 := Aside0.mk (Kd.N_lower (Kd.N_mono (ok' := fun k_ => some k_ ≠ (v958 : Value).ownBlock ∧ k_ ≠ gb950 ∧ k_ ≠ gb951) ho0 (fun k_ hk_ => ⟨hk_.2, (Kd.freshB (g := gb950) (o := .cells #[.int .i64 a0_0, .int .i64 a0_1, .slice A0_2 l0_2.length c0_2, .slice A0_3 l0_3.length c0_3] 24 (0, 0)) (bk_ BK950) k_ hk_.1), (Kd.freshB (g := gb951) (o := .cells #[.slice A1_0 l1_0.length c1_0] 37 (0, 0)) (bk_ BK951) k_ hk_.1)⟩)) (bs_ HB)); have HO959 := Aside0.mk (Kd.N_lower (Kd.N_mono (ok' := fun k_ => some k_ ≠ (v955 : Value).ownBlock ∧ k_ ≠ gb950 ∧ k_ ≠ gb951) ho1 (fun k_ hk_ => ⟨hk_.2, (Kd.freshB (g := gb950) (o := .cells #[.int .i64 a0_0, .int .i64 a0_1, .slice A0_2 l0_2.length c0_2, .slice A0_3 l0_3.length c0_3] 24 (0, 0)) (bk_ BK950) k_ hk_.1), (Kd.freshB (g := gb951) (o := .cells #[.slice A1_0 l1_0.length c1_0] 37 (0, 0)) (bk_ BK951) k_ hk_.1)⟩)) (bs_ HB)); replace BK950 := FB_ BK950 hb; replace BK951 := FB_ BK951 hb; replace HB := BS_ HB hb; (try clear hb); (try clear hk); (try clear ho0); (try clear ho1)) | ((with_reducible refine gate_dst (N := 5) rfl ?_); (try (refine gate_guard (by rfl) ?_; dsimp only)); refine box_ 5 #[.slice none 0 0, .slice none 0 0] 28 ?_; intro gb961 hg w26 hbox hb; replace HO956 := Aside0.mk (Kd.N_below (Kd.N_elderB (kN_ HO956) gb961 (Nat.le_of_eq hg.symm)) hb); replace HO959 := Aside0.mk (Kd.N_below (Kd.N_elderB (kN_ HO959) gb961 (Nat.le_of_eq hg.symm)) hb); have BK961 := Aside0.mk (hbox); have GW961 := GE_ HB hg; have GE961 := GE_ HB hg; replace HB := BS_ HB hb; obtain ⟨NB950_961, NB961_950⟩ := NN_ BK950 hg; replace BK950 := FB_ BK950 hb; obtain ⟨NB951_961, NB961_951⟩ := NN_ BK951 hg; replace BK951 := FB_ BK951 hb; clear hb hbox hg; obtain ⟨Ao27, co27, eo27⟩ := Kd.N_slice HO956.out; subst eo27; have hnb28 := NB961_950.out; have hnc28 := NB950_961.out; have hnb29 := NB961_951.out; have hnc29 := NB951_961.out; obtain ⟨hcz30_0, hcz30_1, hfz30_0, hfz30_1⟩ := e2_ BK961; obtain ⟨Ao31, co31, eo31⟩ := Kd.N_slice HO959.out; subst eo31) | ((with_reducible refine gate_store (t := 28) (p := 5) rfl ?_); refine store_event (t := 28) (p := 5) (v := ?vo_w32) (w1 := ((w26.setCell ⟨gb961, 0, none⟩ (.slice Ao27 t954.length co27)).setCell ⟨gb961, 1, none⟩ (.slice Ao31 t957.length co31))) ?hg ?ho ?hn ?hr ?_; (case ho => rfl); (case hg => rfl); (case hn => rfl); (case hr => first | (go_simp; done) | (go_simp; rfl)); intro w32 hw; have n0_ : Aside0 (Kd.N (Kd.slice 3 (Kd.int .i64)) 22 w32 w.heap.size (fun k_ => some k_ ≠ (.slice Ao31 t957.length co31 : Value).ownBlock ∧ k_ ≠ gb950 ∧ k_ ≠ gb951 ∧ k_ ≠ gb961) (.slice Ao27 t954.length co27) t954) := ⟨(by rw [hw]; exact (by (with_reducible repeat (first | apply Kd.N_alloc | apply Kd.N_drewN | apply Kd.N_drew)); exact Kd.N_mono (Kd.N_far (p := ⟨gb961, 1, none⟩) (Kd.N_far (p := ⟨gb961, 0, none⟩) (Kd.N_mono HO956.out (fun k_ hk => (⟨hk, hk.2⟩ : _ ∧ k_ ≠ gb961))) (fun _ hk => hk.2) (.slice Ao27 t954.length co27)) (fun _ hk => hk.2) (.slice Ao31 t957.length co31)) (fun _ hk => ⟨hk.1.1.1, ⟨hk.1.1.2.1, ⟨hk.1.1.2.2, hk.1.2⟩⟩⟩)))⟩; have n1_ : Aside0 (Kd.N (Kd.slice 2 (Kd.int .i64)) 53 w32 w.heap.size (fun k_ => some k_ ≠ (.slice Ao27 t954.length co27 : Value).ownBlock ∧ k_ ≠ gb950 ∧ k_ ≠ gb951 ∧ k_ ≠ gb961) (.slice Ao31 t957.length co31) t957) := ⟨(by rw [hw]; exact (by (with_reducible repeat (first | apply Kd.N_alloc | apply Kd.N_drewN | apply Kd.N_drew)); exact Kd.N_mono (Kd.N_far (p := ⟨gb961, 1, none⟩) (Kd.N_far (p := ⟨gb961, 0, none⟩) (Kd.N_mono HO959.out (fun k_ hk => (⟨hk, hk.2⟩ : _ ∧ k_ ≠ gb961))) (fun _ hk => hk.2) (.slice Ao27 t954.length co27)) (fun _ hk => hk.2) (.slice Ao31 t957.length co31)) (fun _ hk => ⟨hk.1.1.1, ⟨hk.1.1.2.1, ⟨hk.1.1.2.2, hk.1.2⟩⟩⟩)))⟩; have n2_ : Aside0 (w32.heap[gb950]? = some (.cells #[.int .i64 a0_0, .int .i64 a0_1, .slice A0_2 l0_2.length c0_2, .slice A0_3 l0_3.length c0_3] 24 (0, 0))) := ⟨(by rw [hw]; exact (bk_ BK950))⟩; have n3_ : Aside0 (w32.heap[gb951]? = some (.cells #[.slice A1_0 l1_0.length c1_0] 37 (0, 0))) := ⟨(by rw [hw]; exact (bk_ BK951))⟩; have n4_ : Aside0 (w32.heap[gb961]? = some (.cells #[.slice Ao27 t954.length co27, .slice Ao31 t957.length co31] 28 (0, 0))) := ⟨(by rw [hw]; exact (bp_ BK961))⟩; have n5_ : Aside0 (Below w.heap.size w w32) := ⟨(by rw [hw]; exact (bl_ HB))⟩; clear hw; clear HO956; clear HO959; clear BK950; clear BK951; clear BK961; clear HB; have HO956 := n0_; have HO959 := n1_; have BK950 := n2_; have BK951 := n3_; have BK961 := n4_; have HB := n5_; clear n0_ n1_ n2_ n3_ n4_ n5_; obtain ⟨hcz33_0, hcz33_1, hcz33_2, hcz33_3, hfz33_0, hfz33_1, hfz33_2, hfz33_3⟩ := e4_ BK950; obtain ⟨hcz34_0, hcz34_1, hfz34_0, hfz34_1⟩ := e2_ BK961) | ((with_reducible refine gate_callee (f := 14) rfl ?_); refine gL_ (some 35) Try.func14 #[.agg #[.int .i64 a0_0, .int .i64 a0_1, .slice A0_2 l0_2.length c0_2, .slice A0_3 l0_3.length c0_3], .agg #[.slice Ao27 t954.length co27, .slice Ao31 t957.length co31]] ?_; (with_reducible refine (vcodec_Decode.calls k a0_0 a0_1 _ _ l0_2 _ _ l0_3 _ _ t954 (fun k_ => (some k_ ≠ (.slice Ao27 t954.length co27 : Value).ownBlock ∧ (k_ ≠ gb950 ∧ (k_ ≠ gb951 ∧ k_ ≠ gb961)))) _ _ t957 t963 t966 _ ?side1 ?side2 ?side3 ?side4 ?side5 ?side6 ?side7 A15.out).mono ?_); (case side1 => exact kC_ HR0_2 HB); (case side2 => exact HC0_2.out); (case side3 => exact kC_ HR0_3 HB); (case side4 => exact HC0_3.out); (case side5 => repeat (first | exact (Kd.N_reads' HO956.out).2.2 | (with_reducible refine Kd.C_alloc ?_ _) | (with_reducible refine Kd.C_drewN ?_ _) | (with_reducible refine Kd.C_drew ?_))); (case side6 => exact (Kd.N_reads' HO956.out).2.1); (case side7 => exact Kd.N_V (HO959.out)); rintro e w35 ⟨v964, rfl, ho0, hb⟩; refine ⟨_, rfl, ?_⟩; replace HO959 := Aside0.mk (Kd.N_elder' (kN_ HO959) (Kd.N_base ho0) hb); have HO965 := Aside0.mk (Kd.N_lower (Kd.N_mono (ok' := fun k_ => some k_ ≠ (.slice Ao27 t954.length co27 : Value).ownBlock ∧ k_ ≠ gb950 ∧ k_ ≠ gb951 ∧ k_ ≠ gb961) ho0 (fun k_ hk_ => ⟨Or.elim hk_ (fun hs_ => hs_.1) (fun hn_ => (Kd.fresh' (Kd.N_lt (kN_ HO956)) k_ hn_)), Or.elim hk_ (fun hs_ => hs_.2.1) (fun hn_ => (Kd.freshB (g := gb950) (o := .cells #[.int .i64 a0_0, .int .i64 a0_1, .slice A0_2 l0_2.length c0_2, .slice A0_3 l0_3.length c0_3] 24 (0, 0)) (bk_ BK950) k_ hn_)), Or.elim hk_ (fun hs_ => hs_.2.2.1) (fun hn_ => (Kd.freshB (g := gb951) (o := .cells #[.slice A1_0 l1_0.length c1_0] 37 (0, 0)) (bk_ BK951) k_ hn_)), Or.elim hk_ (fun hs_ => hs_.2.2.2) (fun hn_ => (Kd.freshB (g := gb961) (o := .cells #[.slice Ao27 t954.length co27, .slice Ao31 t957.length co31] 28 (0, 0)) (bk_ BK961) k_ hn_))⟩)) (bs_ HB)); replace HO956 := Aside0.mk (Kd.N_elder' (kN_ HO956) (Kd.N_base ho0) hb); replace BK950 := FB_ BK950 hb; replace BK951 := FB_ BK951 hb; replace BK961 := FB_ BK961 hb; replace HB := BS_ HB hb; (try clear hb); (try clear hk); (try clear ho0)) | ((with_reducible refine gate_dst (N := 7) rfl ?_); (try (refine gate_guard (by rfl) ?_; dsimp only)); refine box_ 7 #[.slice none 0 0] 37 ?_; intro gb967 hg w36 hbox hb; replace HO956 := Aside0.mk (Kd.N_below (Kd.N_elderB (kN_ HO956) gb967 (Nat.le_of_eq hg.symm)) hb); replace HO959 := Aside0.mk (Kd.N_below (Kd.N_elderB (kN_ HO959) gb967 (Nat.le_of_eq hg.symm)) hb); replace HO965 := Aside0.mk (Kd.N_below (Kd.N_elderB (kN_ HO965) gb967 (Nat.le_of_eq hg.symm)) hb); have BK967 := Aside0.mk (hbox); have GW967 := GE_ HB hg; have GE967 := GE_ HB hg; replace HB := BS_ HB hb; obtain ⟨NB950_967, NB967_950⟩ := NN_ BK950 hg; replace BK950 := FB_ BK950 hb; obtain ⟨NB951_967, NB967_951⟩ := NN_ BK951 hg; replace BK951 := FB_ BK951 hb; obtain ⟨NB961_967, NB967_961⟩ := NN_ BK961 hg; replace BK961 := FB_ BK961 hb; clear hb hbox hg; obtain ⟨Ao37, co37, eo37⟩ := Kd.N_slice HO965.out; subst eo37; have hnb38 := NB967_950.out; have hnc38 := NB950_967.out; have hnb39 := NB967_951.out; have hnc39 := NB951_967.out; have hnb40 := NB967_961.out; have hnc40 := NB961_967.out; obtain ⟨hcz41_0, hfz41_0⟩ := e1_ BK967))
 (try simp only [Act.put, List.setIfInBounds_toArray, List.set_cons_zero, List.set_cons_succ])
 go_cut [57] (fun v57 wc => ∃ (kq : Nat) (x57_15 : Bool), v57 = .bool x57_15 ∧ Aside0 (psalterylaw22_VoiceNear.j0 kq x57_15 a0_0 a0_1 l0_2 l0_3 l1_0 t963 = some r) ∧ Aside0 (kq ≤ k) ∧ Aside0 (Kd.N (Kd.slice 3 (Kd.int .i64)) 22 wc w.heap.size (fun k_ => some k_ ≠ ((.slice Ao31 t957.length co31) : Value).ownBlock ∧ some k_ ≠ ((.slice Ao37 t963.length co37) : Value).ownBlock ∧ k_ ≠ gb950 ∧ k_ ≠ gb951 ∧ k_ ≠ gb961 ∧ k_ ≠ gb967) (.slice Ao27 t954.length co27) t954) ∧ Aside0 (Kd.N (Kd.slice 2 (Kd.int .i64)) 53 wc w.heap.size (fun k_ => some k_ ≠ ((.slice Ao27 t954.length co27) : Value).ownBlock ∧ some k_ ≠ ((.slice Ao37 t963.length co37) : Value).ownBlock ∧ k_ ≠ gb950 ∧ k_ ≠ gb951 ∧ k_ ≠ gb961 ∧ k_ ≠ gb967) (.slice Ao31 t957.length co31) t957) ∧ Aside0 (Kd.N (Kd.slice 2 (Kd.int .i64)) 53 wc w.heap.size (fun k_ => some k_ ≠ ((.slice Ao27 t954.length co27) : Value).ownBlock ∧ k_ ≠ gb950 ∧ k_ ≠ gb951 ∧ k_ ≠ gb961 ∧ k_ ≠ gb967) (.slice Ao37 t963.length co37) t963) ∧ Aside0 (wc.heap[gb950]? = some (.cells #[.int .i64 a0_0, .int .i64 a0_1, (.slice A0_2 l0_2.length c0_2), (.slice A0_3 l0_3.length c0_3)] 24 (0, 0))) ∧ Aside0 (wc.heap[gb951]? = some (.cells #[(.slice A1_0 l1_0.length c1_0)] 37 (0, 0))) ∧ Aside0 (wc.heap[gb961]? = some (.cells #[(.slice Ao27 t954.length co27), (.slice Ao31 t957.length co31)] 28 (0, 0))) ∧ Aside0 (wc.heap[gb967]? = some (.cells #[(.slice Ao37 t963.length co37)] 37 (0, 0))) ∧ Aside0 (Below w.heap.size w wc))
 case first => (
 have H := HC16.out
 clear HC16
 by_cases c42 : t966 = 0
 {
 rw [if_pos c42] at H
 have c42b0 : (t966 == 0) = true := beq_iff_eq.mpr c42
 have c42b1 : (t966 != 0) = false := bne_eq_false_iff_eq.mpr c42
 clear c42
 (first | rw [c42b0] | (simp only [i64_w, i32_w]; rw [c42b0]) | skip)
 by_cases c43 : (t963.length : Int) = (l1_0.length : Int)
 {
 rw [if_pos c43] at H
 have c43b0 : ((t963.length : Int) == (l1_0.length : Int)) = true := beq_iff_eq.mpr c43
 have c43b1 : ((t963.length : Int) != (l1_0.length : Int)) = false := bne_eq_false_iff_eq.mpr c43
 have c43b2 : (t963.length == l1_0.length) = true := by first | simpa using c43 | (simp at c43 ⊢; omega)
 clear c43
 have H' := Aside0.mk H
 clear H
 have hnb44 := NB967_950.out
 have hnc44 := NB950_967.out
 have hnb45 := NB967_951.out
 have hnc45 := NB951_967.out
 have hnb46 := NB967_961.out
 have hnc46 := NB961_967.out
 obtain ⟨hcz47_0, hfz47_0⟩ := e1_ BK967
 have hnb48 := NB951_950.out
 have hnc48 := NB950_951.out
 have hnb49 := NB951_961.out
 have hnc49 := NB961_951.out
 obtain ⟨hcz50_0, hfz50_0⟩ := e1_ BK951
 have hnb51 := NB961_950.out
 have hnc51 := NB950_961.out
 obtain ⟨hcz52_0, hcz52_1, hfz52_0, hfz52_1⟩ := e2_ BK961
 go_wp2
 go_meet
 case rel => exact ⟨_, (((t954.length : Int) != (l1_0.length : Int))), rs_, H', ⟨ol_⟩, ⟨by (with_reducible repeat (first | apply Kd.N_alloc | apply Kd.N_drewN | apply Kd.N_drew)); exact Kd.N_mono (Kd.N_far (p := ⟨gb967, 0, none⟩) (Kd.N_mono HO956.out (fun k_ hk => (⟨hk, hk.2⟩ : _ ∧ k_ ≠ gb967))) (fun _ hk => hk.2) (.slice Ao37 t963.length co37)) (fun _ hk => ⟨hk.1.1.1.1, ⟨hk.1.1.2, ⟨hk.1.1.1.2.1, ⟨hk.1.1.1.2.2.1, ⟨hk.1.1.1.2.2.2, hk.1.2⟩⟩⟩⟩⟩)⟩, ⟨by (with_reducible repeat (first | apply Kd.N_alloc | apply Kd.N_drewN | apply Kd.N_drew)); exact Kd.N_mono (Kd.N_far (p := ⟨gb967, 0, none⟩) (Kd.N_mono HO959.out (fun k_ hk => (⟨hk, hk.2⟩ : _ ∧ k_ ≠ gb967))) (fun _ hk => hk.2) (.slice Ao37 t963.length co37)) (fun _ hk => ⟨hk.1.1.1.1, ⟨hk.1.1.2, ⟨hk.1.1.1.2.1, ⟨hk.1.1.1.2.2.1, ⟨hk.1.1.1.2.2.2, hk.1.2⟩⟩⟩⟩⟩)⟩, ⟨by (with_reducible repeat (first | apply Kd.N_alloc | apply Kd.N_drewN | apply Kd.N_drew)); exact Kd.N_mono (Kd.N_far (p := ⟨gb967, 0, none⟩) (Kd.N_mono HO965.out (fun k_ hk => (⟨hk, hk.2⟩ : _ ∧ k_ ≠ gb967))) (fun _ hk => hk.2) (.slice Ao37 t963.length co37)) (fun _ hk => ⟨hk.1.1.1, ⟨hk.1.1.2.1, ⟨hk.1.1.2.2.1, ⟨hk.1.1.2.2.2, hk.1.2⟩⟩⟩⟩)⟩, ⟨bk_ BK950⟩, ⟨bk_ BK951⟩, ⟨bk_ BK961⟩, ⟨bp_ BK967⟩, ⟨bl_ HB⟩⟩}
 {
 rw [if_neg c43] at H
 have c43b0 : ((t963.length : Int) == (l1_0.length : Int)) = false := beq_eq_false_iff_ne.mpr c43
 have c43b1 : ((t963.length : Int) != (l1_0.length : Int)) = true := bne_iff_ne.mpr c43
 have c43b2 : (t963.length == l1_0.length) = false := by first | simpa using c43 | (simp at c43 ⊢; omega)
 have H' := Aside0.mk H
 clear H
 have hnb53 := NB967_950.out
 have hnc53 := NB950_967.out
 have hnb54 := NB967_951.out
 have hnc54 := NB951_967.out
 have hnb55 := NB967_961.out
 have hnc55 := NB961_967.out
 obtain ⟨hcz56_0, hfz56_0⟩ := e1_ BK967
 have hnb57 := NB951_950.out
 have hnc57 := NB950_951.out
 have hnb58 := NB951_961.out
 have hnc58 := NB961_951.out
 obtain ⟨hcz59_0, hfz59_0⟩ := e1_ BK951
 go_wp2
 go_meet
 case rel => exact ⟨_, (true), rs_, H', ⟨ol_⟩, ⟨by (with_reducible repeat (first | apply Kd.N_alloc | apply Kd.N_drewN | apply Kd.N_drew)); exact Kd.N_mono (Kd.N_far (p := ⟨gb967, 0, none⟩) (Kd.N_mono HO956.out (fun k_ hk => (⟨hk, hk.2⟩ : _ ∧ k_ ≠ gb967))) (fun _ hk => hk.2) (.slice Ao37 t963.length co37)) (fun _ hk => ⟨hk.1.1.1.1, ⟨hk.1.1.2, ⟨hk.1.1.1.2.1, ⟨hk.1.1.1.2.2.1, ⟨hk.1.1.1.2.2.2, hk.1.2⟩⟩⟩⟩⟩)⟩, ⟨by (with_reducible repeat (first | apply Kd.N_alloc | apply Kd.N_drewN | apply Kd.N_drew)); exact Kd.N_mono (Kd.N_far (p := ⟨gb967, 0, none⟩) (Kd.N_mono HO959.out (fun k_ hk => (⟨hk, hk.2⟩ : _ ∧ k_ ≠ gb967))) (fun _ hk => hk.2) (.slice Ao37 t963.length co37)) (fun _ hk => ⟨hk.1.1.1.1, ⟨hk.1.1.2, ⟨hk.1.1.1.2.1, ⟨hk.1.1.1.2.2.1, ⟨hk.1.1.1.2.2.2, hk.1.2⟩⟩⟩⟩⟩)⟩, ⟨by (with_reducible repeat (first | apply Kd.N_alloc | apply Kd.N_drewN | apply Kd.N_drew)); exact Kd.N_mono (Kd.N_far (p := ⟨gb967, 0, none⟩) (Kd.N_mono HO965.out (fun k_ hk => (⟨hk, hk.2⟩ : _ ∧ k_ ≠ gb967))) (fun _ hk => hk.2) (.slice Ao37 t963.length co37)) (fun _ hk => ⟨hk.1.1.1, ⟨hk.1.1.2.1, ⟨hk.1.1.2.2.1, ⟨hk.1.1.2.2.2, hk.1.2⟩⟩⟩⟩)⟩, ⟨bk_ BK950⟩, ⟨bk_ BK951⟩, ⟨bk_ BK961⟩, ⟨bp_ BK967⟩, ⟨bl_ HB⟩⟩}}
 {
 rw [if_neg c42] at H
 have c42b0 : (t966 == 0) = false := beq_eq_false_iff_ne.mpr c42
 have c42b1 : (t966 != 0) = true := bne_iff_ne.mpr c42
 (first | rw [c42b0] | (simp only [i64_w, i32_w]; rw [c42b0]) | skip)
 have H' := Aside0.mk H
 clear H
 go_wp2
 go_meet
 case rel => exact ⟨_, (true), rs_, H', ⟨ol_⟩, ⟨by (with_reducible repeat (first | apply Kd.N_alloc | apply Kd.N_drewN | apply Kd.N_drew)); exact Kd.N_mono (Kd.N_far (p := ⟨gb967, 0, none⟩) (Kd.N_mono HO956.out (fun k_ hk => (⟨hk, hk.2⟩ : _ ∧ k_ ≠ gb967))) (fun _ hk => hk.2) (.slice Ao37 t963.length co37)) (fun _ hk => ⟨hk.1.1.1.1, ⟨hk.1.1.2, ⟨hk.1.1.1.2.1, ⟨hk.1.1.1.2.2.1, ⟨hk.1.1.1.2.2.2, hk.1.2⟩⟩⟩⟩⟩)⟩, ⟨by (with_reducible repeat (first | apply Kd.N_alloc | apply Kd.N_drewN | apply Kd.N_drew)); exact Kd.N_mono (Kd.N_far (p := ⟨gb967, 0, none⟩) (Kd.N_mono HO959.out (fun k_ hk => (⟨hk, hk.2⟩ : _ ∧ k_ ≠ gb967))) (fun _ hk => hk.2) (.slice Ao37 t963.length co37)) (fun _ hk => ⟨hk.1.1.1.1, ⟨hk.1.1.2, ⟨hk.1.1.1.2.1, ⟨hk.1.1.1.2.2.1, ⟨hk.1.1.1.2.2.2, hk.1.2⟩⟩⟩⟩⟩)⟩, ⟨by (with_reducible repeat (first | apply Kd.N_alloc | apply Kd.N_drewN | apply Kd.N_drew)); exact Kd.N_mono (Kd.N_far (p := ⟨gb967, 0, none⟩) (Kd.N_mono HO965.out (fun k_ hk => (⟨hk, hk.2⟩ : _ ∧ k_ ≠ gb967))) (fun _ hk => hk.2) (.slice Ao37 t963.length co37)) (fun _ hk => ⟨hk.1.1.1, ⟨hk.1.1.2.1, ⟨hk.1.1.2.2.1, ⟨hk.1.1.2.2.2, hk.1.2⟩⟩⟩⟩)⟩, ⟨bk_ BK950⟩, ⟨bk_ BK951⟩, ⟨bk_ BK961⟩, ⟨bp_ BK967⟩, ⟨bl_ HB⟩⟩})
 case rest => (
 clear HC16
 try clear c4
 try clear c14
 try clear c14b0
 try clear c14b1
 try clear hcz20_0
 try clear hcz20_1
 try clear hcz20_2
 try clear hcz20_3
 try clear hcz21_0
 try clear hcz23_0
 try clear hcz23_1
 try clear hcz23_2
 try clear hcz23_3
 try clear hcz24_0
 try clear hcz30_0
 try clear hcz30_1
 try clear hcz33_0
 try clear hcz33_1
 try clear hcz33_2
 try clear hcz33_3
 try clear hcz34_0
 try clear hcz34_1
 try clear hcz41_0
 try clear hfz20_0
 try clear hfz20_1
 try clear hfz20_2
 try clear hfz20_3
 try clear hfz21_0
 try clear hfz23_0
 try clear hfz23_1
 try clear hfz23_2
 try clear hfz23_3
 try clear hfz24_0
 try clear hfz30_0
 try clear hfz30_1
 try clear hfz33_0
 try clear hfz33_1
 try clear hfz33_2
 try clear hfz33_3
 try clear hfz34_0
 try clear hfz34_1
 try clear hfz41_0
 obtain ⟨kq, x57_15, rfl, HA, HJ15, HO_962000, HO_962001, HO_968000, BK950, BK951, BK961, BK967, HB⟩ := hcut
 cases kq with
 | zero => exact absurd HA.out (by simp [psalterylaw22_VoiceNear.j0])
 | succ kj15 => (
 have H := HA.out
 clear HA
 simp only [psalterylaw22_VoiceNear.j0] at H
 by_cases c60 : x57_15 = true
 {
 subst c60
 rw [if_pos rfl] at H
 exact absurd ((Option.some.inj H).trans HT.out) (by decide)}
 {
 replace c60 := Bool.eq_false_iff.mpr c60
 subst c60
 rw [if_neg (show ¬ (false = true) by decide)] at H
 have H' := Aside0.mk H
 clear H
 go_wp2
 go_loopg [9] kj15 (fun kq v9 w' => ∃ (x9_2 : Int), v9 = .int .i64 x9_2 ∧ Aside0 (psalterylaw22_VoiceNear.l0 kq x9_2 a0_0 a0_1 l0_2 l0_3 l1_0 t963 = some r) ∧ Aside0 (kq ≤ kj15) ∧ Aside0 (Kd.N (Kd.slice 3 (Kd.int .i64)) 22 w' w.heap.size (fun k_ => some k_ ≠ ((.slice Ao31 t957.length co31) : Value).ownBlock ∧ some k_ ≠ ((.slice Ao37 t963.length co37) : Value).ownBlock ∧ k_ ≠ gb950 ∧ k_ ≠ gb951 ∧ k_ ≠ gb961 ∧ k_ ≠ gb967) (.slice Ao27 t954.length co27) t954) ∧ Aside0 (Kd.N (Kd.slice 2 (Kd.int .i64)) 53 w' w.heap.size (fun k_ => some k_ ≠ ((.slice Ao27 t954.length co27) : Value).ownBlock ∧ some k_ ≠ ((.slice Ao37 t963.length co37) : Value).ownBlock ∧ k_ ≠ gb950 ∧ k_ ≠ gb951 ∧ k_ ≠ gb961 ∧ k_ ≠ gb967) (.slice Ao31 t957.length co31) t957) ∧ Aside0 (Kd.N (Kd.slice 2 (Kd.int .i64)) 53 w' w.heap.size (fun k_ => some k_ ≠ ((.slice Ao27 t954.length co27) : Value).ownBlock ∧ k_ ≠ gb950 ∧ k_ ≠ gb951 ∧ k_ ≠ gb961 ∧ k_ ≠ gb967) (.slice Ao37 t963.length co37) t963) ∧ Aside0 (w'.heap[gb950]? = some (.cells #[.int .i64 a0_0, .int .i64 a0_1, (.slice A0_2 l0_2.length c0_2), (.slice A0_3 l0_3.length c0_3)] 24 (0, 0))) ∧ Aside0 (w'.heap[gb951]? = some (.cells #[(.slice A1_0 l1_0.length c1_0)] 37 (0, 0))) ∧ Aside0 (w'.heap[gb961]? = some (.cells #[(.slice Ao27 t954.length co27), (.slice Ao31 t957.length co31)] 28 (0, 0))) ∧ Aside0 (w'.heap[gb967]? = some (.cells #[(.slice Ao37 t963.length co37)] 37 (0, 0))) ∧ Aside0 (Below w.heap.size w w'))
 case atStart => exact ⟨(0), rs_, H', ⟨Nat.le_refl _⟩, ⟨kN_ HO_962000⟩, ⟨kN_ HO_962001⟩, ⟨kN_ HO_968000⟩, ⟨bk_ BK950⟩, ⟨bk_ BK951⟩, ⟨bk_ BK961⟩, ⟨bk_ BK967⟩, ⟨bl_ HB⟩⟩
 case round => (
 clear H'
 try clear c4
 try clear c14
 try clear c14b0
 try clear c14b1
 try clear c60
 try clear hcz20_0
 try clear hcz20_1
 try clear hcz20_2
 try clear hcz20_3
 try clear hcz21_0
 try clear hcz23_0
 try clear hcz23_1
 try clear hcz23_2
 try clear hcz23_3
 try clear hcz24_0
 try clear hcz30_0
 try clear hcz30_1
 try clear hcz33_0
 try clear hcz33_1
 try clear hcz33_2
 try clear hcz33_3
 try clear hcz34_0
 try clear hcz34_1
 try clear hcz41_0
 try clear hfz20_0
 try clear hfz20_1
 try clear hfz20_2
 try clear hfz20_3
 try clear hfz21_0
 try clear hfz23_0
 try clear hfz23_1
 try clear hfz23_2
 try clear hfz23_3
 try clear hfz24_0
 try clear hfz30_0
 try clear hfz30_1
 try clear hfz33_0
 try clear hfz33_1
 try clear hfz33_2
 try clear hfz33_3
 try clear hfz34_0
 try clear hfz34_1
 try clear hfz41_0
 obtain ⟨x9_2, rfl, HA, HK2, HO_962000, HO_962001, HO_968000, BK950, BK951, BK961, BK967, HB⟩ := hrel
 cases gk with
 | zero => exact absurd HA.out (by simp [psalterylaw22_VoiceNear.l0])
 | succ k2 => (
 have H := HA.out
 clear HA
 simp only [psalterylaw22_VoiceNear.l0] at H
 by_cases c61 : x9_2 < (l1_0.length : Int)
 {
 rw [if_pos c61] at H
 have c61b0 : decide (x9_2 < (l1_0.length : Int)) = true := decide_eq_true c61
 clear c61
 obtain ⟨⟨t969, t970⟩, A62, H⟩ := ob_ H
 (try dsimp only at H)
 by_cases c63 : 0 ≤ x9_2
 {
 rw [if_pos c63] at H
 have c63b0 : decide (0 ≤ x9_2) = true := decide_eq_true c63
 clear c63
 obtain ⟨t972, A64, H⟩ := ob_ H
 (try dsimp only at H)
 obtain ⟨t975, A65, H⟩ := ob_ H
 (try dsimp only at H)
 by_cases c66 : x9_2 < (t963.length : Int)
 {
 rw [if_pos c66] at H
 have c66b0 : decide (x9_2 < (t963.length : Int)) = true := decide_eq_true c66
 clear c66
 by_cases c67 : ((rd_L2 t963 x9_2).length : Int) = 16
 {
 rw [if_pos c67] at H
 have c67b0 : (((rd_L2 t963 x9_2).length : Int) == 16) = true := beq_iff_eq.mpr c67
 have c67b1 : (((rd_L2 t963 x9_2).length : Int) != 16) = false := bne_eq_false_iff_eq.mpr c67
 clear c67
 have H' := Aside0.mk H
 clear H
 have hnb68 := NB951_950.out
 have hnc68 := NB950_951.out
 have hnb69 := NB951_961.out
 have hnc69 := NB961_951.out
 have hnb70 := NB951_967.out
 have hnc70 := NB967_951.out
 obtain ⟨hcz71_0, hfz71_0⟩ := e1_ BK951
 try go_wp2
 replace HO_962000 := Aside0.mk (Kd.N_drew HO_962000.out)
 replace HO_962001 := Aside0.mk (Kd.N_drew HO_962001.out)
 replace HO_968000 := Aside0.mk (Kd.N_drew HO_968000.out)
 replace BK950 := Aside0.mk (blk_drew BK950.out)
 replace BK951 := Aside0.mk (blk_drew BK951.out)
 replace BK961 := Aside0.mk (blk_drew BK961.out)
 replace BK967 := Aside0.mk (blk_drew BK967.out)
 replace HB := Aside0.mk (below_drew1 HB.out)
 have p971 : 0 ≤ (x9_2 : Int) := of_decide_eq_true am_
 have q971 : x9_2 < (l1_0.length : Int) := of_decide_eq_true am_
 obtain ⟨ad971, A971_0, c971_0, e971, hx971_0, hl971_0, hi971_0⟩ := at_L2 HR1_0.out x9_2 p971 q971
 have hw971_0 := hx971_0
 cases e971
 replace hx971_0 := (HB.out.cell (World.block_lt_of_cell? w _ hx971_0)).trans hx971_0
 have HR971_0 := Aside0.mk hi971_0
 have HC971_0 := Aside0.mk hl971_0
 clear hi971_0 hl971_0
 replace p971 := eq_true p971
 replace q971 := eq_true q971
 refine start_ (n := 10) (S := fun w' => w'.cell? ⟨gb950, 0, none⟩ = some (.int .i64 a0_0) ∧ w'.cell? ⟨gb950, 1, none⟩ = some (.int .i64 a0_1) ∧ w'.cell? ⟨gb950, 2, none⟩ = some (.slice A0_2 l0_2.length c0_2) ∧ w'.cell? ⟨gb950, 3, none⟩ = some (.slice A0_3 l0_3.length c0_3) ∧ w'.cell? ⟨gb951, 0, none⟩ = some (.slice (some ad971) l1_0.length c1_0) ∧ w'.cell? (ad971.add (x9_2).toNat) = some (.slice A971_0 (rd_L2 l1_0 x9_2).length c971_0)) (ds := []) (B_ 10 0) kf_ rfl rfl ⟨ce_ BK950 0, ce_ BK950 1, ce_ BK950 2, ce_ BK950 3, ce_ BK951 0, ((HB.out.cell (World.block_lt_of_cell? w _ hw971_0)).trans hw971_0)⟩ (fun hHeld => ?_); refine with_tabW psalterylaw22_VoiceNear.tab12 psalterylaw22_VoiceNear.bits12 (fun HT_ HW_ => ?_)
 generalize wr.drew = w72 at HO_962000 HO_962001 HO_968000 BK950 BK951 BK961 BK967 HB HR971_0 hx971_0 hHeld ⊢
 refine pu_ 2 (some 67) (B_ 10 4) HT_ ?_
 refine pu_ 4 (some 69) (B_ 10 20) HT_ ?_
 refine take_ (i := 0) (N := some 65) (v := ?_) (a' := ?_) (B_ 10 21) rfl rfl (take_ofW HT_.out HW_.out kf_) (fun _ _ _ h => h) (Or.inl ⟨by rfl, ?_⟩) hHeld ?_ ?_
 rotate_left
 {
 rintro w' ⟨s0, s1, s2, s3, s4, s5⟩
 go_simp
 with_reducible rfl}
 rotate_left
 {
 exact sp_}
 refine take_ (i := 3) (N := some 68) (v := ?_) (a' := ?_) (B_ 10 29) rfl rfl (take_ofW HT_.out HW_.out kf_) (fun _ _ _ h => h) (Or.inl ⟨by rfl, ?_⟩) hHeld ?_ ?_
 rotate_left
 {
 rintro w' ⟨s0, s1, s2, s3, s4, s5⟩
 go_simp
 with_reducible rfl}
 rotate_left
 {
 exact sp_}
 refine pu_ 5 (some 70) (B_ 10 61) HT_ ?_
 refine take_ (i := 6) (N := some 71) (v := ?_) (a' := ?_) (B_ 10 125) rfl rfl (take_ofW HT_.out HW_.out kf_) (fun _ _ _ h => h) (Or.inl ⟨by rfl, ?_⟩) hHeld ?_ ?_
 rotate_left
 {
 rintro w' ⟨s0, s1, s2, s3, s4, s5⟩
 go_simp
 with_reducible rfl}
 rotate_left
 {
 exact sp_}
 refine one_ (i := 1) (N := some 66) (B_ 10 127) rfl rfl (one_of HT_.out kf_) (by decide) (fun K hK => ?_)
 refine goes_ Try.func11 kf_ rfl #[.agg #[.int .i64 a0_0, .int .i64 a0_1, .slice A0_2 l0_2.length c0_2, .slice A0_3 l0_3.length c0_3]] (by rfl) rfl rfl ar_ ?_
 with_reducible refine (psalterylaw16_As.calls a0_0 a0_1 _ _ l0_2 _ _ l0_3 t969 t970 _ ?side1 ?side2 ?side3 ?side4 A62.out).mono ?_
 (case side1 => exact kC_ HR0_2 HB)
 (case side2 => exact HC0_2.out)
 (case side3 => exact kC_ HR0_3 HB)
 (case side4 => exact HC0_3.out)
 rintro e w73 ⟨rfl, hb⟩
 refine ⟨_, rfl, ?_⟩
 replace HO_962000 := FN_ HO_962000 hb
 replace HO_962001 := FN_ HO_962001 hb
 replace HO_968000 := FN_ HO_968000 hb
 replace BK950 := FB_ BK950 hb
 replace BK951 := FB_ BK951 hb
 replace BK961 := FB_ BK961 hb
 replace BK967 := FB_ BK967 hb
 replace HB := BS_ HB hb
 (try clear hb)
 (try clear hk)
 refine hK.out _ _ ⟨ce_ BK950 0, ce_ BK950 1, ce_ BK950 2, ce_ BK950 3, ce_ BK951 0, ((HB.out.cell (World.block_lt_of_cell? w _ hw971_0)).trans hw971_0)⟩ (fun hHeld => ?_)
 clear hK K
 refine norm_ (a' := ?_) ?_ ?_
 rotate_left
 {
 show Act.put _ (some 66) _ = _
 exact sp_}
 refine one_ (i := 7) (N := some 72) (B_ 10 255) rfl rfl (one_of HT_.out kf_) (by decide) (fun K hK => ?_)
 refine goes_ Try.func27 kf_ rfl #[.agg #[.int .i64 t969, .int .i64 t970, .slice A0_2 l0_2.length c0_2, .slice A0_3 l0_3.length c0_3], .slice A971_0 (rd_L2 l1_0 x9_2).length c971_0] (by rfl) rfl rfl ar_ ?_
 with_reducible refine (psalteryref22_Posts.calls k2 t969 t970 _ _ l0_2 _ _ l0_3 _ _ (rd_L2 l1_0 x9_2) t972 _ ?side1 ?side2 ?side3 ?side4 ?side5 ?side6 A64.out).mono ?_
 (case side1 => exact kC_ HR0_2 HB)
 (case side2 => exact HC0_2.out)
 (case side3 => exact kC_ HR0_3 HB)
 (case side4 => exact HC0_3.out)
 (case side5 => exact kC_ HR971_0 HB)
 (case side6 => exact HC971_0.out)
 rintro e w74 ⟨v973, rfl, ho0, hb⟩
 refine ⟨_, rfl, ?_⟩
 replace HO_962000 := Aside0.mk (Kd.N_elder' (kN_ HO_962000) (Kd.R_base ho0) hb)
 replace HO_962001 := Aside0.mk (Kd.N_elder' (kN_ HO_962001) (Kd.R_base ho0) hb)
 replace HO_968000 := Aside0.mk (Kd.N_elder' (kN_ HO_968000) (Kd.R_base ho0) hb)
 have HO974 := Aside0.mk (Kd.R_lower ho0 (bs_ HB))
 replace BK950 := FB_ BK950 hb
 replace BK951 := FB_ BK951 hb
 replace BK961 := FB_ BK961 hb
 replace BK967 := FB_ BK967 hb
 replace HB := BS_ HB hb
 (try clear hb)
 (try clear hk)
 (try clear ho0)
 obtain ⟨Ao75, co75, eo75⟩ := Kd.R_slice HO974.out
 (first | subst eo75 | (injection eo75 with f1_ f2_ f3_; have f4_ := f1_.symm; have f5_ := f3_.symm; clear f1_ f2_ f3_; subst f4_; subst f5_))
 refine hK.out _ _ ⟨ce_ BK950 0, ce_ BK950 1, ce_ BK950 2, ce_ BK950 3, ce_ BK951 0, ((HB.out.cell (World.block_lt_of_cell? w _ hw971_0)).trans hw971_0)⟩ (fun hHeld => ?_)
 clear hK K
 refine norm_ (a' := ?_) ?_ ?_
 rotate_left
 {
 show Act.put _ (some 72) _ = _
 exact sp_}
 refine one_ (i := 8) (N := some 73) (B_ 10 511) rfl rfl (one_of HT_.out kf_) (by decide) (fun K hK => ?_)
 refine goes_ Try.func26 kf_ rfl #[.slice Ao75 t972.length co75] (by rfl) rfl rfl ar_ ?_
 with_reducible refine (psalteryref22_Floors.calls k2 _ _ t972 t975 _ ?side1 ?side2 A65.out).mono ?_
 (case side1 => exact kCt_ (Kd.R_reads' HO974.out).2.2)
 (case side2 => exact (Kd.R_reads' HO974.out).2.1)
 rintro e w76 ⟨v976, rfl, ho0, hb⟩
 refine ⟨_, rfl, ?_⟩
 replace HO_962000 := Aside0.mk (Kd.N_elder' (kN_ HO_962000) (Kd.R_base ho0) hb)
 replace HO_962001 := Aside0.mk (Kd.N_elder' (kN_ HO_962001) (Kd.R_base ho0) hb)
 replace HO_968000 := Aside0.mk (Kd.N_elder' (kN_ HO_968000) (Kd.R_base ho0) hb)
 replace HO974 := FR_ HO974 hb
 have HO977 := Aside0.mk (Kd.R_lower ho0 (bs_ HB))
 replace BK950 := FB_ BK950 hb
 replace BK951 := FB_ BK951 hb
 replace BK961 := FB_ BK961 hb
 replace BK967 := FB_ BK967 hb
 replace HB := BS_ HB hb
 (try clear hb)
 (try clear hk)
 (try clear ho0)
 refine hK.out _ _ ⟨ce_ BK950 0, ce_ BK950 1, ce_ BK950 2, ce_ BK950 3, ce_ BK951 0, ((HB.out.cell (World.block_lt_of_cell? w _ hw971_0)).trans hw971_0)⟩ (fun hHeld => ?_)
 clear hK K
 refine norm_ (a' := ?_) ?_ ?_
 rotate_left
 {
 show Act.put _ (some 73) _ = _
 exact sp_}
 refine pu_ 9 (some 10) (B_ 10 1023) HT_ ?_
 refine done_ (done_of HT_.out kf_) ?_
 have hnb77 := NB967_950.out
 have hnc77 := NB950_967.out
 have hnb78 := NB967_961.out
 have hnc78 := NB961_967.out
 obtain ⟨hcz79_0, hfz79_0⟩ := e1_ BK967
 have p978 : 0 ≤ (x9_2 : Int) := of_decide_eq_true am_
 have q978 : x9_2 < (t963.length : Int) := of_decide_eq_true am_
 obtain ⟨ad978, A978_0, c978_0, e978, hx978_0, hl978_0, hi978_0⟩ := at_L2 (Kd.N_reads' HO_968000.out).2.2 x9_2 p978 q978
 cases e978
 obtain ⟨ce978, hce978, hMe978, hcc978⟩ := Kd.N_get HO_968000.out [] x9_2 p978 (by first | exact q978 | exact of_decide_eq_true am_ | (have e_ := (Kd.N_reads' HO_968000.out).1; omega))
 obtain ⟨ua978_0, uc978_0, rfl, ul978_0, ge978_0⟩ := Kd.FK_slice_open hMe978
 have hv978_0 := hcc978 0 _ rfl
 rw [Nat.add_zero, show ((Kd.slice 2 (Kd.int .i64))).sz = 1 from rfl, Nat.mul_one] at hv978_0
 replace hv978_0 := Option.some.inj (hv978_0.symm.trans hx978_0)
 injection hv978_0 with hva_ hvn_ hvc_
 rw [hva_] at ge978_0
 rw [hvc_] at ul978_0
 have HL978_0 := Aside0.mk (show Kd.V (Kd.int .i64) 2 _ w.heap.size _ _ (rd_L2 t963 x9_2) from Kd.V_mk ul978_0 ge978_0)
 clear hva_ hvn_ hvc_ ge978_0 ul978_0
 clear hcc978 hce978
 have HR978_0 := Aside0.mk hi978_0
 have HC978_0 := Aside0.mk hl978_0
 clear hi978_0 hl978_0
 replace p978 := eq_true p978
 replace q978 := eq_true q978
 try go_wp2
 go_loopg [11] k2 (fun kq v11 w' => ∃ (x11_3 : Int), v11 = .int .i64 x11_3 ∧ Aside0 (psalterylaw22_VoiceNear.l1 kq x9_2 t975 x11_3 a0_0 a0_1 l0_2 l0_3 l1_0 t963 = some r) ∧ Aside0 (kq ≤ k2) ∧ Aside0 (Kd.R (Kd.int .i64) 2 w' w.heap.size (fun _ => True) v976 t975) ∧ Aside0 (Kd.N (Kd.slice 3 (Kd.int .i64)) 22 w' w.heap.size (fun k_ => some k_ ≠ (v976 : Value).ownBlock ∧ some k_ ≠ ((.slice Ao31 t957.length co31) : Value).ownBlock ∧ some k_ ≠ ((.slice (some ad978) t963.length co37) : Value).ownBlock ∧ k_ ≠ gb950 ∧ k_ ≠ gb951 ∧ k_ ≠ gb961 ∧ k_ ≠ gb967) (.slice Ao27 t954.length co27) t954) ∧ Aside0 (Kd.N (Kd.slice 2 (Kd.int .i64)) 53 w' w.heap.size (fun k_ => some k_ ≠ (v976 : Value).ownBlock ∧ some k_ ≠ ((.slice Ao27 t954.length co27) : Value).ownBlock ∧ some k_ ≠ ((.slice (some ad978) t963.length co37) : Value).ownBlock ∧ k_ ≠ gb950 ∧ k_ ≠ gb951 ∧ k_ ≠ gb961 ∧ k_ ≠ gb967) (.slice Ao31 t957.length co31) t957) ∧ Aside0 (Kd.N (Kd.slice 2 (Kd.int .i64)) 53 w' w.heap.size (fun k_ => some k_ ≠ (v976 : Value).ownBlock ∧ some k_ ≠ ((.slice Ao27 t954.length co27) : Value).ownBlock ∧ k_ ≠ gb950 ∧ k_ ≠ gb951 ∧ k_ ≠ gb961 ∧ k_ ≠ gb967) (.slice (some ad978) t963.length co37) t963) ∧ Aside0 (w'.heap[gb950]? = some (.cells #[.int .i64 a0_0, .int .i64 a0_1, (.slice A0_2 l0_2.length c0_2), (.slice A0_3 l0_3.length c0_3)] 24 (0, 0))) ∧ Aside0 (w'.heap[gb951]? = some (.cells #[(.slice (some ad971) l1_0.length c1_0)] 37 (0, 0))) ∧ Aside0 (w'.heap[gb961]? = some (.cells #[(.slice Ao27 t954.length co27), (.slice Ao31 t957.length co31)] 28 (0, 0))) ∧ Aside0 (w'.heap[gb967]? = some (.cells #[(.slice (some ad978) t963.length co37)] 37 (0, 0))) ∧ Aside0 (Kd.C (Kd.int .i64) w' A978_0 (rd_L2 t963 x9_2).length (rd_L2 t963 x9_2)) ∧ Aside0 (Below w.heap.size w w'))
 case atStart => exact ⟨(0), rs_, H', ⟨Nat.le_refl _⟩, ⟨kR_ HO977⟩, ⟨by (with_reducible repeat (first | apply Kd.N_alloc | apply Kd.N_drewN | apply Kd.N_drew)); exact Kd.N_mono HO_962000.out (fun _ hk => ⟨hk.2, ⟨hk.1.1.1, ⟨hk.1.1.2.1, ⟨hk.1.1.2.2.1, ⟨hk.1.1.2.2.2.1, ⟨hk.1.1.2.2.2.2.1, hk.1.1.2.2.2.2.2⟩⟩⟩⟩⟩⟩)⟩, ⟨by (with_reducible repeat (first | apply Kd.N_alloc | apply Kd.N_drewN | apply Kd.N_drew)); exact Kd.N_mono HO_962001.out (fun _ hk => ⟨hk.2, ⟨hk.1.1.1, ⟨hk.1.1.2.1, ⟨hk.1.1.2.2.1, ⟨hk.1.1.2.2.2.1, ⟨hk.1.1.2.2.2.2.1, hk.1.1.2.2.2.2.2⟩⟩⟩⟩⟩⟩)⟩, ⟨by (with_reducible repeat (first | apply Kd.N_alloc | apply Kd.N_drewN | apply Kd.N_drew)); exact Kd.N_mono HO_968000.out (fun _ hk => ⟨hk.2, ⟨hk.1.1.1, ⟨hk.1.1.2.1, ⟨hk.1.1.2.2.1, ⟨hk.1.1.2.2.2.1, hk.1.1.2.2.2.2⟩⟩⟩⟩⟩)⟩, ⟨bk_ BK950⟩, ⟨bk_ BK951⟩, ⟨bk_ BK961⟩, ⟨bk_ BK967⟩, ⟨by repeat (first | (with_reducible exact HR978_0.out) | (with_reducible refine Kd.C_alloc ?_ _) | (with_reducible refine Kd.C_drewN ?_ _) | (with_reducible refine Kd.C_drew ?_) | exact HR978_0.out)⟩, ⟨bl_ HB⟩⟩
 case round => (
 clear H'
 try clear c4
 try clear c14
 try clear c14b0
 try clear c14b1
 try clear c60
 try clear c61
 try clear c61b0
 try clear c63
 try clear c63b0
 try clear c66
 try clear c66b0
 try clear c67
 try clear c67b0
 try clear c67b1
 try clear hcz20_0
 try clear hcz20_1
 try clear hcz20_2
 try clear hcz20_3
 try clear hcz21_0
 try clear hcz23_0
 try clear hcz23_1
 try clear hcz23_2
 try clear hcz23_3
 try clear hcz24_0
 try clear hcz30_0
 try clear hcz30_1
 try clear hcz33_0
 try clear hcz33_1
 try clear hcz33_2
 try clear hcz33_3
 try clear hcz34_0
 try clear hcz34_1
 try clear hcz41_0
 try clear hcz71_0
 try clear hcz79_0
 try clear hfz20_0
 try clear hfz20_1
 try clear hfz20_2
 try clear hfz20_3
 try clear hfz21_0
 try clear hfz23_0
 try clear hfz23_1
 try clear hfz23_2
 try clear hfz23_3
 try clear hfz24_0
 try clear hfz30_0
 try clear hfz30_1
 try clear hfz33_0
 try clear hfz33_1
 try clear hfz33_2
 try clear hfz33_3
 try clear hfz34_0
 try clear hfz34_1
 try clear hfz41_0
 try clear hfz71_0
 try clear hfz79_0
 try clear hx971_0
 try clear hx978_0
 try clear p971
 try clear p978
 try clear q971
 try clear q978
 obtain ⟨x11_3, rfl, HA, HK3, HO_10, HO_962000, HO_962001, HO_968000, BK950, BK951, BK961, BK967, HR978_0, HB⟩ := hrel
 cases gk with
 | zero => exact absurd HA.out (by simp [psalterylaw22_VoiceNear.l1])
 | succ k3 => (
 have H := HA.out
 clear HA
 simp only [psalterylaw22_VoiceNear.l1] at H
 by_cases c80 : x11_3 < 16
 {
 rw [if_pos c80] at H
 have c80b0 : decide (x11_3 < 16) = true := decide_eq_true c80
 clear c80
 by_cases c81 : 0 ≤ x9_2
 {
 rw [if_pos c81] at H
 have c81b0 : decide (0 ≤ x9_2) = true := decide_eq_true c81
 clear c81
 by_cases c82 : x9_2 < (t963.length : Int)
 {
 rw [if_pos c82] at H
 have c82b0 : decide (x9_2 < (t963.length : Int)) = true := decide_eq_true c82
 clear c82
 by_cases c83 : 0 ≤ x11_3
 {
 rw [if_pos c83] at H
 have c83b0 : decide (0 ≤ x11_3) = true := decide_eq_true c83
 clear c83
 by_cases c84 : x11_3 < ((rd_L2 t963 x9_2).length : Int)
 {
 rw [if_pos c84] at H
 have c84b0 : decide (x11_3 < ((rd_L2 t963 x9_2).length : Int)) = true := decide_eq_true c84
 clear c84
 by_cases c85 : x9_2 < (l1_0.length : Int)
 {
 rw [if_pos c85] at H
 have c85b0 : decide (x9_2 < (l1_0.length : Int)) = true := decide_eq_true c85
 clear c85
 by_cases c86 : x11_3 < ((rd_L2 l1_0 x9_2).length : Int)
 {
 rw [if_pos c86] at H
 have c86b0 : decide (x11_3 < ((rd_L2 l1_0 x9_2).length : Int)) = true := decide_eq_true c86
 clear c86
 by_cases c87 : (wrap64 ((rd (rd_L2 t963 x9_2) x11_3) - (rd (rd_L2 l1_0 x9_2) x11_3))) < 0
 {
 rw [if_pos c87] at H
 have c87b0 : decide ((wrap64 ((rd (rd_L2 t963 x9_2) x11_3) - (rd (rd_L2 l1_0 x9_2) x11_3))) < 0) = true := decide_eq_true c87
 clear c87
 by_cases c88 : x11_3 < (t975.length : Int)
 {
 rw [if_pos c88] at H
 have c88b0 : decide (x11_3 < (t975.length : Int)) = true := decide_eq_true c88
 clear c88
 by_cases c89 : (wrap64 (2 * (wrap64 (-(wrap64 ((rd (rd_L2 t963 x9_2) x11_3) - (rd (rd_L2 l1_0 x9_2) x11_3))))))) > (rd t975 x11_3)
 {
 rw [if_pos c89] at H
 have c89b0 : decide ((rd t975 x11_3) < (wrap64 (2 * (wrap64 (-(wrap64 ((rd (rd_L2 t963 x9_2) x11_3) - (rd (rd_L2 l1_0 x9_2) x11_3)))))))) = true := decide_eq_true c89
 clear c89
 exact absurd ((Option.some.inj H).trans HT.out) (by decide)}
 {
 rw [if_neg c89] at H
 have c89b0 : decide ((rd t975 x11_3) < (wrap64 (2 * (wrap64 (-(wrap64 ((rd (rd_L2 t963 x9_2) x11_3) - (rd (rd_L2 l1_0 x9_2) x11_3)))))))) = false := decide_eq_false c89
 clear c89
 have H' := Aside0.mk H
 clear H
 try go_wp2
 replace HO_10 := Aside0.mk (Kd.R_drew HO_10.out)
 replace HO_962000 := Aside0.mk (Kd.N_drew HO_962000.out)
 replace HO_962001 := Aside0.mk (Kd.N_drew HO_962001.out)
 replace HO_968000 := Aside0.mk (Kd.N_drew HO_968000.out)
 replace BK950 := Aside0.mk (blk_drew BK950.out)
 replace BK951 := Aside0.mk (blk_drew BK951.out)
 replace BK961 := Aside0.mk (blk_drew BK961.out)
 replace BK967 := Aside0.mk (blk_drew BK967.out)
 replace HR978_0 := Aside0.mk (Kd.C_drew HR978_0.out)
 replace HB := Aside0.mk (below_drew1 HB.out)
 have p979 : 0 ≤ (x9_2 : Int) := of_decide_eq_true am_
 have q979 : x9_2 < (t963.length : Int) := of_decide_eq_true am_
 obtain ⟨ad979, A979_0, c979_0, e979, hx979_0, hl979_0, hi979_0⟩ := at_L2 (Kd.N_reads' HO_968000.out).2.2 x9_2 p979 q979
 obtain rfl : ad978 = ad979 := (by injection e979)
 obtain ⟨ce979, hce979, hMe979, hcc979⟩ := Kd.N_get HO_968000.out [] x9_2 p979 (by first | exact q979 | exact of_decide_eq_true am_ | (have e_ := (Kd.N_reads' HO_968000.out).1; omega))
 obtain ⟨ua979_0, uc979_0, rfl, ul979_0, ge979_0⟩ := Kd.FK_slice_open hMe979
 have hv979_0 := hcc979 0 _ rfl
 rw [Nat.add_zero, show ((Kd.slice 2 (Kd.int .i64))).sz = 1 from rfl, Nat.mul_one] at hv979_0
 replace hv979_0 := Option.some.inj (hv979_0.symm.trans hx979_0)
 injection hv979_0 with hva_ hvn_ hvc_
 rw [hva_] at ge979_0
 rw [hvc_] at ul979_0
 have HL979_0 := Aside0.mk (show Kd.V (Kd.int .i64) 2 _ w.heap.size _ _ (rd_L2 t963 x9_2) from Kd.V_mk ul979_0 ge979_0)
 clear hva_ hvn_ hvc_ ge979_0 ul979_0
 clear hcc979 hce979
 have HR979_0 := Aside0.mk hi979_0
 have HC979_0 := Aside0.mk hl979_0
 clear hi979_0 hl979_0
 replace p979 := eq_true p979
 replace q979 := eq_true q979
 have p980 : 0 ≤ (x11_3 : Int) := of_decide_eq_true am_
 have q980 : x11_3 < ((rd_L2 t963 x9_2).length : Int) := of_decide_eq_true am_
 obtain ⟨ad980, e980, hx980_0⟩ := Kd.at_int (by repeat (first | (with_reducible exact HR979_0.out) | (with_reducible refine Kd.C_alloc ?_ _) | (with_reducible refine Kd.C_drewN ?_ _) | (with_reducible refine Kd.C_drew ?_) | exact HR979_0.out)) x11_3 p980 q980
 cases e980
 replace p980 := eq_true p980
 replace q980 := eq_true q980
 have p981 : 0 ≤ (x9_2 : Int) := of_decide_eq_true am_
 have q981 : x9_2 < (l1_0.length : Int) := of_decide_eq_true am_
 obtain ⟨ad981, A981_0, c981_0, e981, hx981_0, hl981_0, hi981_0⟩ := at_L2 HR1_0.out x9_2 p981 q981
 have hw981_0 := hx981_0
 obtain rfl : ad971 = ad981 := (by injection e981)
 replace hx981_0 := (HB.out.cell (World.block_lt_of_cell? w _ hx981_0)).trans hx981_0
 have HR981_0 := Aside0.mk hi981_0
 have HC981_0 := Aside0.mk hl981_0
 clear hi981_0 hl981_0
 replace p981 := eq_true p981
 replace q981 := eq_true q981
 have p982 : 0 ≤ (x11_3 : Int) := of_decide_eq_true am_
 have q982 : x11_3 < ((rd_L2 l1_0 x9_2).length : Int) := of_decide_eq_true am_
 obtain ⟨ad982, e982, hx982_0⟩ := Kd.at_int HR981_0.out x11_3 p982 q982
 have hw982_0 := hx982_0
 cases e982
 replace hx982_0 := (HB.out.cell (World.block_lt_of_cell? w _ hx982_0)).trans hx982_0
 replace p982 := eq_true p982
 replace q982 := eq_true q982
 refine start_ (n := 18) (S := fun w' => w'.cell? ⟨gb967, 0, none⟩ = some (.slice (some ad978) t963.length co37) ∧ w'.cell? ⟨gb951, 0, none⟩ = some (.slice (some ad971) l1_0.length c1_0) ∧ w'.cell? (ad978.add (x9_2).toNat) = some (.slice (some ad980) (rd_L2 t963 x9_2).length c979_0) ∧ w'.cell? (ad980.add (x11_3).toNat) = some (.int .i64 (rd (rd_L2 t963 x9_2) x11_3)) ∧ w'.cell? (ad971.add (x9_2).toNat) = some (.slice (some ad982) (rd_L2 l1_0 x9_2).length c981_0) ∧ w'.cell? (ad982.add (x11_3).toNat) = some (.int .i64 (rd (rd_L2 l1_0 x9_2) x11_3))) (ds := []) (B_ 18 0) kf_ rfl rfl ⟨ce_ BK967 0, ce_ BK951 0, hx979_0, hx980_0, ((HB.out.cell (World.block_lt_of_cell? w _ hw981_0)).trans hw981_0), ((HB.out.cell (World.block_lt_of_cell? w _ hw982_0)).trans hw982_0)⟩ (fun hHeld => ?_); refine with_tabW psalterylaw22_VoiceNear.tab18 psalterylaw22_VoiceNear.bits18 (fun HT_ HW_ => ?_)
 generalize wr.drew = w90 at HO_10 HO_962000 HO_962001 HO_968000 BK950 BK951 BK961 BK967 HR978_0 HB HL979_0 HR979_0 HR981_0 hx979_0 hx980_0 hx981_0 hx982_0 hHeld ⊢
 refine pu_ 0 (some 85) (B_ 18 1) HT_ ?_
 refine pu_ 2 (some 87) (B_ 18 5) HT_ ?_
 refine pu_ 5 (some 90) (B_ 18 37) HT_ ?_
 refine pu_ 8 (some 93) (B_ 18 293) HT_ ?_
 refine pu_ 10 (some 95) (B_ 18 1317) HT_ ?_
 refine pu_ 13 (some 98) (B_ 18 9509) HT_ ?_
 refine take_ (i := 1) (N := some 86) (v := ?_) (a' := ?_) (B_ 18 9511) rfl rfl (take_ofW HT_.out HW_.out kf_) (fun _ _ _ h => h) (Or.inl ⟨by rfl, ?_⟩) hHeld ?_ ?_
 rotate_left
 {
 rintro w' ⟨s0, s1, s2, s3, s4, s5⟩
 go_simp
 with_reducible rfl}
 rotate_left
 {
 exact sp_}
 refine pu_ 3 (some 88) (B_ 18 9519) HT_ ?_
 refine take_ (i := 4) (N := some 89) (v := ?_) (a' := ?_) (B_ 18 9535) rfl rfl (take_ofW HT_.out HW_.out kf_) (fun _ _ _ h => h) (Or.inl ⟨by rfl, ?_⟩) hHeld ?_ ?_
 rotate_left
 {
 rintro w' ⟨s0, s1, s2, s3, s4, s5⟩
 go_simp
 with_reducible rfl}
 rotate_left
 {
 exact sp_}
 refine pu_ 6 (some 91) (B_ 18 9599) HT_ ?_
 refine take_ (i := 7) (N := some 92) (v := ?_) (a' := ?_) (B_ 18 9727) rfl rfl (take_ofW HT_.out HW_.out kf_) (fun _ _ _ h => h) (Or.inl ⟨by rfl, ?_⟩) hHeld ?_ ?_
 rotate_left
 {
 rintro w' ⟨s0, s1, s2, s3, s4, s5⟩
 go_simp
 with_reducible rfl}
 rotate_left
 {
 exact sp_}
 refine take_ (i := 9) (N := some 94) (v := ?_) (a' := ?_) (B_ 18 10239) rfl rfl (take_ofW HT_.out HW_.out kf_) (fun _ _ _ h => h) (Or.inl ⟨by rfl, ?_⟩) hHeld ?_ ?_
 rotate_left
 {
 rintro w' ⟨s0, s1, s2, s3, s4, s5⟩
 go_simp
 with_reducible rfl}
 rotate_left
 {
 exact sp_}
 refine pu_ 11 (some 96) (B_ 18 12287) HT_ ?_
 refine take_ (i := 12) (N := some 97) (v := ?_) (a' := ?_) (B_ 18 16383) rfl rfl (take_ofW HT_.out HW_.out kf_) (fun _ _ _ h => h) (Or.inl ⟨by rfl, ?_⟩) hHeld ?_ ?_
 rotate_left
 {
 rintro w' ⟨s0, s1, s2, s3, s4, s5⟩
 go_simp
 with_reducible rfl}
 rotate_left
 {
 exact sp_}
 refine pu_ 14 (some 99) (B_ 18 32767) HT_ ?_
 refine take_ (i := 15) (N := some 100) (v := ?_) (a' := ?_) (B_ 18 65535) rfl rfl (take_ofW HT_.out HW_.out kf_) (fun _ _ _ h => h) (Or.inl ⟨by rfl, ?_⟩) hHeld ?_ ?_
 rotate_left
 {
 rintro w' ⟨s0, s1, s2, s3, s4, s5⟩
 go_simp
 with_reducible rfl}
 rotate_left
 {
 exact sp_}
 refine pu_ 16 (some 101) (B_ 18 131071) HT_ ?_
 refine pu_ 17 (some 12) (B_ 18 262143) HT_ ?_
 refine done_ (done_of HT_.out kf_) ?_
 obtain ⟨Ao91, co91, eo91⟩ := Kd.R_slice HO_10.out
 subst eo91
 have p983 : 0 ≤ (x11_3 : Int) := of_decide_eq_true am_
 have q983 : x11_3 < (t975.length : Int) := of_decide_eq_true am_
 obtain ⟨ad983, e983, hx983_0⟩ := Kd.at_int (Kd.R_reads' HO_10.out).2.2 x11_3 p983 q983
 cases e983
 replace p983 := eq_true p983
 replace q983 := eq_true q983
 try go_wp2
 go_roundg k3
 case measure => have := HJ15.out; have := HK2.out; have := HK3.out; omega
 case rel => exact ⟨(wrap64 (x11_3 + 1)), rs_, H', ⟨by have := HJ15.out; have := HK2.out; have := HK3.out; omega⟩, ⟨kR_ HO_10⟩, ⟨kN_ HO_962000⟩, ⟨kN_ HO_962001⟩, ⟨kN_ HO_968000⟩, ⟨bk_ BK950⟩, ⟨bk_ BK951⟩, ⟨bk_ BK961⟩, ⟨bk_ BK967⟩, ⟨by repeat (first | (with_reducible exact HR978_0.out) | (with_reducible refine Kd.C_alloc ?_ _) | (with_reducible refine Kd.C_drewN ?_ _) | (with_reducible refine Kd.C_drew ?_) | exact HR978_0.out)⟩, ⟨bl_ HB⟩⟩}}
 {
 rw [if_neg c88] at H
 exact absurd H (by simp)}}
 {
 rw [if_neg c87] at H
 have c87b0 : decide ((wrap64 ((rd (rd_L2 t963 x9_2) x11_3) - (rd (rd_L2 l1_0 x9_2) x11_3))) < 0) = false := decide_eq_false c87
 clear c87
 by_cases c92 : x11_3 < (t975.length : Int)
 {
 rw [if_pos c92] at H
 have c92b0 : decide (x11_3 < (t975.length : Int)) = true := decide_eq_true c92
 clear c92
 by_cases c93 : (wrap64 (2 * (wrap64 ((rd (rd_L2 t963 x9_2) x11_3) - (rd (rd_L2 l1_0 x9_2) x11_3))))) > (rd t975 x11_3)
 {
 rw [if_pos c93] at H
 have c93b0 : decide ((rd t975 x11_3) < (wrap64 (2 * (wrap64 ((rd (rd_L2 t963 x9_2) x11_3) - (rd (rd_L2 l1_0 x9_2) x11_3)))))) = true := decide_eq_true c93
 clear c93
 exact absurd ((Option.some.inj H).trans HT.out) (by decide)}
 {
 rw [if_neg c93] at H
 have c93b0 : decide ((rd t975 x11_3) < (wrap64 (2 * (wrap64 ((rd (rd_L2 t963 x9_2) x11_3) - (rd (rd_L2 l1_0 x9_2) x11_3)))))) = false := decide_eq_false c93
 clear c93
 have H' := Aside0.mk H
 clear H
 try go_wp2
 replace HO_10 := Aside0.mk (Kd.R_drew HO_10.out)
 replace HO_962000 := Aside0.mk (Kd.N_drew HO_962000.out)
 replace HO_962001 := Aside0.mk (Kd.N_drew HO_962001.out)
 replace HO_968000 := Aside0.mk (Kd.N_drew HO_968000.out)
 replace BK950 := Aside0.mk (blk_drew BK950.out)
 replace BK951 := Aside0.mk (blk_drew BK951.out)
 replace BK961 := Aside0.mk (blk_drew BK961.out)
 replace BK967 := Aside0.mk (blk_drew BK967.out)
 replace HR978_0 := Aside0.mk (Kd.C_drew HR978_0.out)
 replace HB := Aside0.mk (below_drew1 HB.out)
 have p979 : 0 ≤ (x9_2 : Int) := of_decide_eq_true am_
 have q979 : x9_2 < (t963.length : Int) := of_decide_eq_true am_
 obtain ⟨ad979, A979_0, c979_0, e979, hx979_0, hl979_0, hi979_0⟩ := at_L2 (Kd.N_reads' HO_968000.out).2.2 x9_2 p979 q979
 obtain rfl : ad978 = ad979 := (by injection e979)
 obtain ⟨ce979, hce979, hMe979, hcc979⟩ := Kd.N_get HO_968000.out [] x9_2 p979 (by first | exact q979 | exact of_decide_eq_true am_ | (have e_ := (Kd.N_reads' HO_968000.out).1; omega))
 obtain ⟨ua979_0, uc979_0, rfl, ul979_0, ge979_0⟩ := Kd.FK_slice_open hMe979
 have hv979_0 := hcc979 0 _ rfl
 rw [Nat.add_zero, show ((Kd.slice 2 (Kd.int .i64))).sz = 1 from rfl, Nat.mul_one] at hv979_0
 replace hv979_0 := Option.some.inj (hv979_0.symm.trans hx979_0)
 injection hv979_0 with hva_ hvn_ hvc_
 rw [hva_] at ge979_0
 rw [hvc_] at ul979_0
 have HL979_0 := Aside0.mk (show Kd.V (Kd.int .i64) 2 _ w.heap.size _ _ (rd_L2 t963 x9_2) from Kd.V_mk ul979_0 ge979_0)
 clear hva_ hvn_ hvc_ ge979_0 ul979_0
 clear hcc979 hce979
 have HR979_0 := Aside0.mk hi979_0
 have HC979_0 := Aside0.mk hl979_0
 clear hi979_0 hl979_0
 replace p979 := eq_true p979
 replace q979 := eq_true q979
 have p980 : 0 ≤ (x11_3 : Int) := of_decide_eq_true am_
 have q980 : x11_3 < ((rd_L2 t963 x9_2).length : Int) := of_decide_eq_true am_
 obtain ⟨ad980, e980, hx980_0⟩ := Kd.at_int (by repeat (first | (with_reducible exact HR979_0.out) | (with_reducible refine Kd.C_alloc ?_ _) | (with_reducible refine Kd.C_drewN ?_ _) | (with_reducible refine Kd.C_drew ?_) | exact HR979_0.out)) x11_3 p980 q980
 cases e980
 replace p980 := eq_true p980
 replace q980 := eq_true q980
 have p981 : 0 ≤ (x9_2 : Int) := of_decide_eq_true am_
 have q981 : x9_2 < (l1_0.length : Int) := of_decide_eq_true am_
 obtain ⟨ad981, A981_0, c981_0, e981, hx981_0, hl981_0, hi981_0⟩ := at_L2 HR1_0.out x9_2 p981 q981
 have hw981_0 := hx981_0
 obtain rfl : ad971 = ad981 := (by injection e981)
 replace hx981_0 := (HB.out.cell (World.block_lt_of_cell? w _ hx981_0)).trans hx981_0
 have HR981_0 := Aside0.mk hi981_0
 have HC981_0 := Aside0.mk hl981_0
 clear hi981_0 hl981_0
 replace p981 := eq_true p981
 replace q981 := eq_true q981
 have p982 : 0 ≤ (x11_3 : Int) := of_decide_eq_true am_
 have q982 : x11_3 < ((rd_L2 l1_0 x9_2).length : Int) := of_decide_eq_true am_
 obtain ⟨ad982, e982, hx982_0⟩ := Kd.at_int HR981_0.out x11_3 p982 q982
 have hw982_0 := hx982_0
 cases e982
 replace hx982_0 := (HB.out.cell (World.block_lt_of_cell? w _ hx982_0)).trans hx982_0
 replace p982 := eq_true p982
 replace q982 := eq_true q982
 refine start_ (n := 18) (S := fun w' => w'.cell? ⟨gb967, 0, none⟩ = some (.slice (some ad978) t963.length co37) ∧ w'.cell? ⟨gb951, 0, none⟩ = some (.slice (some ad971) l1_0.length c1_0) ∧ w'.cell? (ad978.add (x9_2).toNat) = some (.slice (some ad980) (rd_L2 t963 x9_2).length c979_0) ∧ w'.cell? (ad980.add (x11_3).toNat) = some (.int .i64 (rd (rd_L2 t963 x9_2) x11_3)) ∧ w'.cell? (ad971.add (x9_2).toNat) = some (.slice (some ad982) (rd_L2 l1_0 x9_2).length c981_0) ∧ w'.cell? (ad982.add (x11_3).toNat) = some (.int .i64 (rd (rd_L2 l1_0 x9_2) x11_3))) (ds := []) (B_ 18 0) kf_ rfl rfl ⟨ce_ BK967 0, ce_ BK951 0, hx979_0, hx980_0, ((HB.out.cell (World.block_lt_of_cell? w _ hw981_0)).trans hw981_0), ((HB.out.cell (World.block_lt_of_cell? w _ hw982_0)).trans hw982_0)⟩ (fun hHeld => ?_); refine with_tabW psalterylaw22_VoiceNear.tab18 psalterylaw22_VoiceNear.bits18 (fun HT_ HW_ => ?_)
 generalize wr.drew = w94 at HO_10 HO_962000 HO_962001 HO_968000 BK950 BK951 BK961 BK967 HR978_0 HB HL979_0 HR979_0 HR981_0 hx979_0 hx980_0 hx981_0 hx982_0 hHeld ⊢
 refine pu_ 0 (some 85) (B_ 18 1) HT_ ?_
 refine pu_ 2 (some 87) (B_ 18 5) HT_ ?_
 refine pu_ 5 (some 90) (B_ 18 37) HT_ ?_
 refine pu_ 8 (some 93) (B_ 18 293) HT_ ?_
 refine pu_ 10 (some 95) (B_ 18 1317) HT_ ?_
 refine pu_ 13 (some 98) (B_ 18 9509) HT_ ?_
 refine take_ (i := 1) (N := some 86) (v := ?_) (a' := ?_) (B_ 18 9511) rfl rfl (take_ofW HT_.out HW_.out kf_) (fun _ _ _ h => h) (Or.inl ⟨by rfl, ?_⟩) hHeld ?_ ?_
 rotate_left
 {
 rintro w' ⟨s0, s1, s2, s3, s4, s5⟩
 go_simp
 with_reducible rfl}
 rotate_left
 {
 exact sp_}
 refine pu_ 3 (some 88) (B_ 18 9519) HT_ ?_
 refine take_ (i := 4) (N := some 89) (v := ?_) (a' := ?_) (B_ 18 9535) rfl rfl (take_ofW HT_.out HW_.out kf_) (fun _ _ _ h => h) (Or.inl ⟨by rfl, ?_⟩) hHeld ?_ ?_
 rotate_left
 {
 rintro w' ⟨s0, s1, s2, s3, s4, s5⟩
 go_simp
 with_reducible rfl}
 rotate_left
 {
 exact sp_}
 refine pu_ 6 (some 91) (B_ 18 9599) HT_ ?_
 refine take_ (i := 7) (N := some 92) (v := ?_) (a' := ?_) (B_ 18 9727) rfl rfl (take_ofW HT_.out HW_.out kf_) (fun _ _ _ h => h) (Or.inl ⟨by rfl, ?_⟩) hHeld ?_ ?_
 rotate_left
 {
 rintro w' ⟨s0, s1, s2, s3, s4, s5⟩
 go_simp
 with_reducible rfl}
 rotate_left
 {
 exact sp_}
 refine take_ (i := 9) (N := some 94) (v := ?_) (a' := ?_) (B_ 18 10239) rfl rfl (take_ofW HT_.out HW_.out kf_) (fun _ _ _ h => h) (Or.inl ⟨by rfl, ?_⟩) hHeld ?_ ?_
 rotate_left
 {
 rintro w' ⟨s0, s1, s2, s3, s4, s5⟩
 go_simp
 with_reducible rfl}
 rotate_left
 {
 exact sp_}
 refine pu_ 11 (some 96) (B_ 18 12287) HT_ ?_
 refine take_ (i := 12) (N := some 97) (v := ?_) (a' := ?_) (B_ 18 16383) rfl rfl (take_ofW HT_.out HW_.out kf_) (fun _ _ _ h => h) (Or.inl ⟨by rfl, ?_⟩) hHeld ?_ ?_
 rotate_left
 {
 rintro w' ⟨s0, s1, s2, s3, s4, s5⟩
 go_simp
 with_reducible rfl}
 rotate_left
 {
 exact sp_}
 refine pu_ 14 (some 99) (B_ 18 32767) HT_ ?_
 refine take_ (i := 15) (N := some 100) (v := ?_) (a' := ?_) (B_ 18 65535) rfl rfl (take_ofW HT_.out HW_.out kf_) (fun _ _ _ h => h) (Or.inl ⟨by rfl, ?_⟩) hHeld ?_ ?_
 rotate_left
 {
 rintro w' ⟨s0, s1, s2, s3, s4, s5⟩
 go_simp
 with_reducible rfl}
 rotate_left
 {
 exact sp_}
 refine pu_ 16 (some 101) (B_ 18 131071) HT_ ?_
 refine pu_ 17 (some 12) (B_ 18 262143) HT_ ?_
 refine done_ (done_of HT_.out kf_) ?_
 obtain ⟨Ao95, co95, eo95⟩ := Kd.R_slice HO_10.out
 subst eo95
 have p984 : 0 ≤ (x11_3 : Int) := of_decide_eq_true am_
 have q984 : x11_3 < (t975.length : Int) := of_decide_eq_true am_
 obtain ⟨ad984, e984, hx984_0⟩ := Kd.at_int (Kd.R_reads' HO_10.out).2.2 x11_3 p984 q984
 cases e984
 replace p984 := eq_true p984
 replace q984 := eq_true q984
 try go_wp2
 go_roundg k3
 case measure => have := HJ15.out; have := HK2.out; have := HK3.out; omega
 case rel => exact ⟨(wrap64 (x11_3 + 1)), rs_, H', ⟨by have := HJ15.out; have := HK2.out; have := HK3.out; omega⟩, ⟨kR_ HO_10⟩, ⟨kN_ HO_962000⟩, ⟨kN_ HO_962001⟩, ⟨kN_ HO_968000⟩, ⟨bk_ BK950⟩, ⟨bk_ BK951⟩, ⟨bk_ BK961⟩, ⟨bk_ BK967⟩, ⟨by repeat (first | (with_reducible exact HR978_0.out) | (with_reducible refine Kd.C_alloc ?_ _) | (with_reducible refine Kd.C_drewN ?_ _) | (with_reducible refine Kd.C_drew ?_) | exact HR978_0.out)⟩, ⟨bl_ HB⟩⟩}}
 {
 rw [if_neg c92] at H
 exact absurd H (by simp)}}}
 {
 rw [if_neg c86] at H
 exact absurd H (by simp)}}
 {
 rw [if_neg c85] at H
 exact absurd H (by simp)}}
 {
 rw [if_neg c84] at H
 exact absurd H (by simp)}}
 {
 rw [if_neg c83] at H
 exact absurd H (by simp)}}
 {
 rw [if_neg c82] at H
 exact absurd H (by simp)}}
 {
 rw [if_neg c81] at H
 exact absurd H (by simp)}}
 {
 rw [if_neg c80] at H
 have c80b0 : decide (x11_3 < 16) = false := decide_eq_false c80
 clear c80
 have H' := Aside0.mk H
 clear H
 go_wp2
 go_roundg k3
 case measure => have := HJ15.out; have := HK2.out; have := HK3.out; omega
 case rel => exact ⟨(wrap64 (x9_2 + 1)), rs_, H', ⟨by have := HJ15.out; have := HK2.out; have := HK3.out; omega⟩, ⟨by (with_reducible repeat (first | apply Kd.N_alloc | apply Kd.N_drewN | apply Kd.N_drew)); exact Kd.N_mono HO_962000.out (fun _ hk => ⟨hk.2.1, ⟨hk.2.2.1, ⟨hk.2.2.2.1, ⟨hk.2.2.2.2.1, ⟨hk.2.2.2.2.2.1, hk.2.2.2.2.2.2⟩⟩⟩⟩⟩)⟩, ⟨by (with_reducible repeat (first | apply Kd.N_alloc | apply Kd.N_drewN | apply Kd.N_drew)); exact Kd.N_mono HO_962001.out (fun _ hk => ⟨hk.2.1, ⟨hk.2.2.1, ⟨hk.2.2.2.1, ⟨hk.2.2.2.2.1, ⟨hk.2.2.2.2.2.1, hk.2.2.2.2.2.2⟩⟩⟩⟩⟩)⟩, ⟨by (with_reducible repeat (first | apply Kd.N_alloc | apply Kd.N_drewN | apply Kd.N_drew)); exact Kd.N_mono HO_968000.out (fun _ hk => ⟨hk.2.1, ⟨hk.2.2.1, ⟨hk.2.2.2.1, ⟨hk.2.2.2.2.1, hk.2.2.2.2.2⟩⟩⟩⟩)⟩, ⟨bk_ BK950⟩, ⟨bk_ BK951⟩, ⟨bk_ BK961⟩, ⟨bk_ BK967⟩, ⟨bl_ HB⟩⟩}))}
 {
 rw [if_neg c67] at H
 have c67b0 : (((rd_L2 t963 x9_2).length : Int) == 16) = false := beq_eq_false_iff_ne.mpr c67
 have c67b1 : (((rd_L2 t963 x9_2).length : Int) != 16) = true := bne_iff_ne.mpr c67
 exact absurd ((Option.some.inj H).trans HT.out) (by decide)}}
 {
 rw [if_neg c66] at H
 exact absurd H (by simp)}}
 {
 rw [if_neg c63] at H
 exact absurd H (by simp)}}
 {
 rw [if_neg c61] at H
 have c61b0 : decide (x9_2 < (l1_0.length : Int)) = false := decide_eq_false c61
 clear c61
 replace H := Option.bind_eq_some_iff.mp H
 obtain ⟨t968, A960, H⟩ := H
 replace H : (some t968) = some r := H
 have A96 := Aside0.mk A960
 clear A960
 obtain rfl := Option.some.inj H
 have hnb97 := NB951_950.out
 have hnc97 := NB950_951.out
 have hnb98 := NB951_961.out
 have hnc98 := NB961_951.out
 have hnb99 := NB951_967.out
 have hnc99 := NB967_951.out
 obtain ⟨hcz100_0, hfz100_0⟩ := e1_ BK951
 go_wp2_with (first | ((with_reducible refine gate_callee (f := 13) rfl ?_); refine gL_ (some 113) Try.func13 #[] ?_; (with_reducible refine (psalterylaw22_knows.calls k2  t968 _ A96.out).mono ?_); rintro e w101 ⟨rfl, hb⟩; refine ⟨_, rfl, ?_⟩; replace HO_962000 := FN_ HO_962000 hb; replace HO_962001 := FN_ HO_962001 hb; replace HO_968000 := FN_ HO_968000 hb; replace BK950 := FB_ BK950 hb; replace BK951 := FB_ BK951 hb; replace BK961 := FB_ BK961 hb; replace BK967 := FB_ BK967 hb; replace HB := BS_ HB hb; (try clear hb)))
 go_ret
 exact ⟨by first | rfl | (simp [errW_none, errW_some] <;> rfl) | (simp [*, errW_none, errW_some] <;> rfl), bl_ HB⟩}))}))}
 {
 rw [if_neg c14] at H
 have c14b0 : (t960 == 0) = false := beq_eq_false_iff_ne.mpr c14
 have c14b1 : (t960 != 0) = true := bne_iff_ne.mpr c14
 by_cases c102 : (t954.length : Int) = 0
 {
 rw [if_pos c102] at H
 have c102b0 : ((t954.length : Int) == 0) = true := beq_iff_eq.mpr c102
 have c102b1 : ((t954.length : Int) != 0) = false := bne_eq_false_iff_eq.mpr c102
 clear c102
 replace H := Option.bind_eq_some_iff.mp H
 obtain ⟨t962, A1030, H⟩ := H
 replace H : (some t962) = some r := H
 have A103 := Aside0.mk A1030
 clear A1030
 obtain rfl := Option.some.inj H
 go_enter Try.func7, Try.ntmps7
 go_wp2_with (first | ((with_reducible refine gate_dst (N := 2) rfl ?_); (try (refine gate_guard (by rfl) ?_; dsimp only)); refine bx_ HB 2 #[.int .i64 a0_0, .int .i64 a0_1, .slice A0_2 l0_2.length c0_2, .slice A0_3 l0_3.length c0_3] 24 ?_; clear HB; intro gb950 hg w104 hb BK950 GE950 HB; have GW950 := GE950; clear hb hg) | ((with_reducible refine gate_dst (N := 3) rfl ?_); (try (refine gate_guard (by rfl) ?_; dsimp only)); refine bx_ HB 3 #[.slice A1_0 l1_0.length c1_0] 37 ?_; clear HB; intro gb951 hg w105 hb BK951 GE951 HB; have GW951 := GE951; obtain ⟨NB950_951, NB951_950⟩ := NN_ BK950 hg; replace BK950 := FB_ BK950 hb; clear hb hg; have hnb106 := NB950_951.out; have hnc106 := NB951_950.out; obtain ⟨hcz107_0, hcz107_1, hcz107_2, hcz107_3, hfz107_0, hfz107_1, hfz107_2, hfz107_3⟩ := e4_ BK950; obtain ⟨hcz108_0, hfz108_0⟩ := e1_ BK951) | ((with_reducible refine gate_callee (f := 18) rfl ?_); refine gL_ (some 15) Try.func18 #[.agg #[.int .i64 a0_0, .int .i64 a0_1, .slice A0_2 l0_2.length c0_2, .slice A0_3 l0_3.length c0_3], .agg #[.slice A1_0 l1_0.length c1_0]] ?_; (with_reducible refine (psalterylaw22_great.calls k a0_0 a0_1 _ _ l0_2 _ _ l0_3 _ _ l1_0 false _ ?side1 ?side2 ?side3 ?side4 ?side5 ?side6 A3.out).mono ?_); (case side1 => exact kC_ HR0_2 HB); (case side2 => exact HC0_2.out); (case side3 => exact kC_ HR0_3 HB); (case side4 => exact HC0_3.out); (case side5 => exact kC_ HR1_0 HB); (case side6 => exact HC1_0.out); rintro e w109 ⟨rfl, hb⟩; refine ⟨_, rfl, ?_⟩; replace BK950 := FB_ BK950 hb; replace BK951 := FB_ BK951 hb; replace HB := BS_ HB hb; (try clear hb); (try clear hk); obtain ⟨hcz110_0, hcz110_1, hcz110_2, hcz110_3, hfz110_0, hfz110_1, hfz110_2, hfz110_3⟩ := e4_ BK950; obtain ⟨hcz111_0, hfz111_0⟩ := e1_ BK951) | ((with_reducible refine gate_callee (f := 15) rfl ?_); refine gL_ (some 20) Try.func15 #[.agg #[.int .i64 a0_0, .int .i64 a0_1, .slice A0_2 l0_2.length c0_2, .slice A0_3 l0_3.length c0_3], .agg #[.slice A1_0 l1_0.length c1_0]] ?_; (with_reducible refine (vcodec_Encode.calls k a0_0 a0_1 _ _ l0_2 _ _ l0_3 _ _ l1_0 t954 t957 t960 _ ?side1 ?side2 ?side3 ?side4 ?side5 ?side6 A13.out).mono ?_); (case side1 => exact kC_ HR0_2 HB); (case side2 => exact HC0_2.out); (case side3 => exact kC_ HR0_3 HB); (case side4 => exact HC0_3.out); (case side5 => exact kC_ HR1_0 HB); (case side6 => exact HC1_0.out); rintro e w112 ⟨v955, v958, rfl, ho0, ho1, hb⟩; refine ⟨_, rfl, ?_⟩; have HO956 := Aside0.mk (Kd.N_lower (Kd.N_mono (ok' := fun k_ => some k_ ≠ (v958 : Value).ownBlock ∧ k_ ≠ gb950 ∧ k_ ≠ gb951) ho0 (fun k_ hk_ => ⟨hk_.2, (Kd.freshB (g := gb950) (o := .cells #[.int .i64 a0_0, .int .i64 a0_1, .slice A0_2 l0_2.length c0_2, .slice A0_3 l0_3.length c0_3] 24 (0, 0)) (bk_ BK950) k_ hk_.1), (Kd.freshB (g := gb951) (o := .cells #[.slice A1_0 l1_0.length c1_0] 37 (0, 0)) (bk_ BK951) k_ hk_.1)⟩)) (bs_ HB)); have HO959 := Aside0.mk (Kd.N_lower (Kd.N_mono (ok' := fun k_ => some k_ ≠ (v955 : Value).ownBlock ∧ k_ ≠ gb950 ∧ k_ ≠ gb951) ho1 (fun k_ hk_ => ⟨hk_.2, (Kd.freshB (g := gb950) (o := .cells #[.int .i64 a0_0, .int .i64 a0_1, .slice A0_2 l0_2.length c0_2, .slice A0_3 l0_3.length c0_3] 24 (0, 0)) (bk_ BK950) k_ hk_.1), (Kd.freshB (g := gb951) (o := .cells #[.slice A1_0 l1_0.length c1_0] 37 (0, 0)) (bk_ BK951) k_ hk_.1)⟩)) (bs_ HB)); replace BK950 := FB_ BK950 hb; replace BK951 := FB_ BK951 hb; replace HB := BS_ HB hb; (try clear hb); (try clear hk); (try clear ho0); (try clear ho1)) | ((with_reducible refine gate_dst (N := 5) rfl ?_); (try (refine gate_guard (by rfl) ?_; dsimp only)); refine box_ 5 #[.slice none 0 0, .slice none 0 0] 28 ?_; intro gb961 hg w113 hbox hb; replace HO956 := Aside0.mk (Kd.N_below (Kd.N_elderB (kN_ HO956) gb961 (Nat.le_of_eq hg.symm)) hb); replace HO959 := Aside0.mk (Kd.N_below (Kd.N_elderB (kN_ HO959) gb961 (Nat.le_of_eq hg.symm)) hb); have BK961 := Aside0.mk (hbox); have GW961 := GE_ HB hg; have GE961 := GE_ HB hg; replace HB := BS_ HB hb; obtain ⟨NB950_961, NB961_950⟩ := NN_ BK950 hg; replace BK950 := FB_ BK950 hb; obtain ⟨NB951_961, NB961_951⟩ := NN_ BK951 hg; replace BK951 := FB_ BK951 hb; clear hb hbox hg; obtain ⟨Ao114, co114, eo114⟩ := Kd.N_slice HO956.out; subst eo114; have hnb115 := NB961_950.out; have hnc115 := NB950_961.out; have hnb116 := NB961_951.out; have hnc116 := NB951_961.out; obtain ⟨hcz117_0, hcz117_1, hfz117_0, hfz117_1⟩ := e2_ BK961; obtain ⟨Ao118, co118, eo118⟩ := Kd.N_slice HO959.out; subst eo118) | (go_at_call 13; (with_reducible refine (psalterylaw22_knows.calls k  t962 _ A103.out).mono ?_); rintro e w119 ⟨rfl, hb⟩; replace HO956 := Aside0.mk (Kd.N_below (by (with_reducible repeat (first | apply Kd.N_alloc | apply Kd.N_drewN | apply Kd.N_drew)); exact (Kd.N_mono (Kd.N_far (p := ⟨gb961, 1, none⟩) (Kd.N_far (p := ⟨gb961, 0, none⟩) (Kd.N_mono HO956.out (fun k_ hk => (⟨hk, hk.2⟩ : _ ∧ k_ ≠ gb961))) (fun _ hk => hk.2) (.slice Ao114 t954.length co114)) (fun _ hk => hk.2) (.slice Ao118 t957.length co118)) (fun _ h_ => h_.1))) hb); replace HO959 := Aside0.mk (Kd.N_below (by (with_reducible repeat (first | apply Kd.N_alloc | apply Kd.N_drewN | apply Kd.N_drew)); exact (Kd.N_mono (Kd.N_far (p := ⟨gb961, 1, none⟩) (Kd.N_far (p := ⟨gb961, 0, none⟩) (Kd.N_mono HO959.out (fun k_ hk => (⟨hk, hk.2⟩ : _ ∧ k_ ≠ gb961))) (fun _ hk => hk.2) (.slice Ao114 t954.length co114)) (fun _ hk => hk.2) (.slice Ao118 t957.length co118)) (fun _ h_ => h_.1))) hb); replace BK950 := FB_ BK950 hb; replace BK951 := FB_ BK951 hb; replace BK961 := Aside0.mk (blk_below (g := gb961) (o := .cells #[.slice Ao114 t954.length co114, .slice Ao118 t957.length co118] 28 (0, 0)) (bp_ BK961) hb); replace HB := BS_ HB hb; (try clear hb); (try clear hk)))
 go_ret
 exact ⟨by first | rfl | (simp [errW_none, errW_some] <;> rfl) | (simp [*, errW_none, errW_some] <;> rfl), bl_ HB⟩}
 {
 rw [if_neg c102] at H
 have c102b0 : ((t954.length : Int) == 0) = false := beq_eq_false_iff_ne.mpr c102
 have c102b1 : ((t954.length : Int) != 0) = true := bne_iff_ne.mpr c102
 have c102b2 : ¬ (t954 = []) := fun h_ => c102 (by rw [h_]; rfl)
 exact absurd ((Option.some.inj H).trans HT.out) (by decide)}}}
def psalterylaw22_VoiceNear.Pure : Prop := ∀ (a0_0 : Int) (a0_1 : Int) (l0_2 : List Int) (l0_3 : List Int) (l1_0 : List (List Int)), (Lit.int .i64 a0_0).wf = true → (Lit.int .i64 a0_1).wf = true → (l0_2.length ≤ maxLen ∧ ∀ x0_ ∈ l0_2, (Lit.int .i64 x0_).wf = true) → (l0_3.length ≤ maxLen ∧ ∀ x0_ ∈ l0_3, (Lit.int .i64 x0_).wf = true) → (l1_0.length ≤ maxLen ∧ ∀ x0_ ∈ l1_0, (x0_.length ≤ maxLen ∧ ∀ x1_ ∈ x0_, (Lit.int .i64 x1_).wf = true)) → ∃ k, psalterylaw22_VoiceNear.f k a0_0 a0_1 l0_2 l0_3 l1_0 = some true
theorem psalterylaw22_VoiceNear.walk (P : psalterylaw22_VoiceNear.Pure) (a0_0 : Int) (a0_1 : Int) (A0_2 : Option Addr) (c0_2 : Nat) (l0_2 : List Int) (A0_3 : Option Addr) (c0_3 : Nat) (l0_3 : List Int) (A1_0 : Option Addr) (c1_0 : Nat) (l1_0 : List (List Int)) (w : World) (hr0_2 : Kd.C (Kd.int .i64) w A0_2 l0_2.length l0_2) (hc0_2 : l0_2.length ≤ c0_2) (hr0_3 : Kd.C (Kd.int .i64) w A0_3 l0_3.length l0_3) (hc0_3 : l0_3.length ≤ c0_3) (hr1_0 : Kd.C (Kd.slice 2 (Kd.int .i64)) w A1_0 l1_0.length l1_0) (hc1_0 : l1_0.length ≤ c1_0) (w0_0 : (Lit.int .i64 a0_0).wf = true) (w0_1 : (Lit.int .i64 a0_1).wf = true) (w0_2 : (l0_2.length ≤ maxLen ∧ ∀ x0_ ∈ l0_2, (Lit.int .i64 x0_).wf = true)) (w0_3 : (l0_3.length ≤ maxLen ∧ ∀ x0_ ∈ l0_3, (Lit.int .i64 x0_).wf = true)) (w1_0 : (l1_0.length ≤ maxLen ∧ ∀ x0_ ∈ l1_0, (x0_.length ≤ maxLen ∧ ∀ x1_ ∈ x0_, (Lit.int .i64 x1_).wf = true))) :
    Calls Try.prog 7 #[.agg #[.int .i64 a0_0, .int .i64 a0_1, .slice A0_2 l0_2.length c0_2, .slice A0_3 l0_3.length c0_3], .agg #[.slice A1_0 l1_0.length c1_0]] w fun e w' => e = .returned (.bool true) ∧ Below w.heap.size w w' := by
  obtain ⟨k, h⟩ := P a0_0 a0_1 l0_2 l0_3 l1_0 w0_0 w0_1 w0_2 w0_3 w1_0
  refine (psalterylaw22_VoiceNear.calls k a0_0 a0_1 _ _ l0_2 _ _ l0_3 _ _ l1_0 true w hr0_2 hc0_2 hr0_3 hc0_3 hr1_0 hc1_0 h rfl).mono ?_
  rintro e w' ⟨rfl, hd⟩
  exact ⟨rfl, hd⟩
mutual
def psalterylaw22_wide.l0 : Nat → Int → Int → Int → List Int → List Int → List (List Int) → List (List Int) → Option (Bool)
  | 0, _, _, _, _, _, _, _ => none
  | k + 1, x5, x103000, x103001, x103002, x103003, x104000, x104001 => if x5 < (x104000.length : Int) then (if 0 ≤ x5 then (if ((rd_L1 x104000 x5).length : Int) > 100 then (some true) else (psalterylaw22_wide.l0 k (wrap64 (x5 + 1)) x103000 x103001 x103002 x103003 x104000 x104001)) else (none)) else (psalterylaw22_wide.l1 k 0 x103000 x103001 x103002 x103003 x104000 x104001)
def psalterylaw22_wide.l1 : Nat → Int → Int → Int → List Int → List Int → List (List Int) → List (List Int) → Option (Bool)
  | 0, _, _, _, _, _, _, _ => none
  | k + 1, x6, x103000, x103001, x103002, x103003, x104000, x104001 => if x6 < (x104001.length : Int) then (if 0 ≤ x6 then (if ((rd_L2 x104001 x6).length : Int) > 100 then (some true) else (psalterylaw22_wide.l1 k (wrap64 (x6 + 1)) x103000 x103001 x103002 x103003 x104000 x104001)) else (none)) else ((psalterylaw16_Great.f x103000 x103001 x103002 x103003).bind fun t106 => (if t106 = true then (some true) else (if (x104000.length : Int) > 10 then (some true) else (some (decide ((x104001.length : Int) > 10))))))
end
def psalterylaw22_wide.f (k : Nat) (a0_0 : Int) (a0_1 : Int) (l0_2 : List Int) (l0_3 : List Int) (l1_0 : List (List Int)) (l1_1 : List (List Int)) : Option (Bool) := psalterylaw22_wide.l0 k 0 a0_0 a0_1 l0_2 l0_3 l1_0 l1_1
theorem psalterylaw22_wide.mono_l : ∀ k, (∀ y0 y1 y2 y3 y4 y5 y6, LeO (psalterylaw22_wide.l0 k y0 y1 y2 y3 y4 y5 y6) (psalterylaw22_wide.l0 (k + 1) y0 y1 y2 y3 y4 y5 y6)) ∧ (∀ y0 y1 y2 y3 y4 y5 y6, LeO (psalterylaw22_wide.l1 k y0 y1 y2 y3 y4 y5 y6) (psalterylaw22_wide.l1 (k + 1) y0 y1 y2 y3 y4 y5 y6))
  | 0 => ⟨fun _ _ _ _ _ _ _ r h => by simp [psalterylaw22_wide.l0] at h, fun _ _ _ _ _ _ _ r h => by simp [psalterylaw22_wide.l1] at h⟩
  | k + 1 => by
    obtain ⟨ih0, ih1⟩ := psalterylaw22_wide.mono_l k
    refine ⟨?_, ?_⟩
    all_goals (intros; first | unfold psalterylaw22_wide.l0 | unfold psalterylaw22_wide.l1)
    all_goals with_reducible repeat' first
     | exact ih0 _ _ _ _ _ _ _
     | exact ih1 _ _ _ _ _ _ _
     | exact LeO.refl _
     | exact LeO.none _
     | refine LeO.ite ?_ ?_
     | refine LeO.bind ?_ (fun _ => ?_)
theorem psalterylaw22_wide.mono : ∀ a0 a1 a2 a3 a4 a5 k, LeO (psalterylaw22_wide.f k a0 a1 a2 a3 a4 a5) (psalterylaw22_wide.f (k + 1) a0 a1 a2 a3 a4 a5) := by
  intro a0 a1 a2 a3 a4 a5 k
  obtain ⟨ih0, ih1⟩ := psalterylaw22_wide.mono_l k
  unfold psalterylaw22_wide.f
  with_reducible repeat' first
   | exact ih0 _ _ _ _ _ _ _
   | exact ih1 _ _ _ _ _ _ _
   | exact LeO.refl _
   | exact LeO.none _
   | refine LeO.ite ?_ ?_
   | refine LeO.bind ?_ (fun _ => ?_)
def psalterylaw17_As.f (l0_0 : List (List Int)) (l0_1 : List (List Int)) : Option (Unit) := some ()
def psalteryref03_Div.j0 : Nat → Int → Int → Int → Bool → Option (Int)
  | 0, _, _, _, _ => none
  | k + 1, x1, x5, x6, x23 => if x23 = true then (some (wrap64 (x5 + 1))) else (if x6 < 0 then (if (wrap64 (-x6)) ≥ (wrap64 (x1 + x6)) then (some (wrap64 (x5 - 1))) else (some x5)) else (some x5))
def psalteryref03_Div.f (k : Nat) (a0 : Int) (a1 : Int) : Option (Int) := if a1 = 0 then (none) else (if (wrap64 (a0 - (wrap64 ((wrap64 (Int.tdiv a0 a1)) * a1)))) ≥ 0 then (psalteryref03_Div.j0 k a1 (wrap64 (Int.tdiv a0 a1)) (wrap64 (a0 - (wrap64 ((wrap64 (Int.tdiv a0 a1)) * a1)))) (decide ((wrap64 (a0 - (wrap64 ((wrap64 (Int.tdiv a0 a1)) * a1)))) ≥ (wrap64 (a1 - (wrap64 (a0 - (wrap64 ((wrap64 (Int.tdiv a0 a1)) * a1))))))))) else (psalteryref03_Div.j0 k a1 (wrap64 (Int.tdiv a0 a1)) (wrap64 (a0 - (wrap64 ((wrap64 (Int.tdiv a0 a1)) * a1)))) false))
theorem psalteryref03_Div.mono_l : ∀ k, (∀ y0 y1 y2 y3, LeO (psalteryref03_Div.j0 k y0 y1 y2 y3) (psalteryref03_Div.j0 (k + 1) y0 y1 y2 y3))
  | 0 => fun _ _ _ _ r h => by simp [psalteryref03_Div.j0] at h
  | k + 1 => by
    have ih0 := psalteryref03_Div.mono_l k
    · intro y0 y1 y2 y3
      unfold psalteryref03_Div.j0
      with_reducible repeat' first
   | exact ih0 _ _ _ _
   | exact LeO.refl _
   | exact LeO.none _
   | refine LeO.ite ?_ ?_
   | refine LeO.bind ?_ (fun _ => ?_)
theorem psalteryref03_Div.mono : ∀ a0 a1 k, LeO (psalteryref03_Div.f k a0 a1) (psalteryref03_Div.f (k + 1) a0 a1) := by
  intro a0 a1 k
  have ih0 := psalteryref03_Div.mono_l k
  unfold psalteryref03_Div.f
  with_reducible repeat' first
   | exact ih0 _ _ _ _
   | exact LeO.refl _
   | exact LeO.none _
   | refine LeO.ite ?_ ?_
   | refine LeO.bind ?_ (fun _ => ?_)
def psalteryref21_Quantize.l0 : Nat → List Int → List Int → List Int → Int → Option (List Int)
  | 0, _, _, _, _ => none
  | k + 1, x0, x1, x5, x6 => if x6 < 16 then (if 0 ≤ x6 then (if x6 < (x0.length : Int) then (if x6 < (x1.length : Int) then ((psalteryref03_Div.f k (rd x0 x6) (rd x1 x6)).bind fun t798 => (if x5.length < 17592186044416 then (psalteryref21_Quantize.l0 k x0 x1 (x5 ++ [t798]) (wrap64 (x6 + 1))) else (none))) else (none)) else (none)) else (none)) else (some x5)
def psalteryref21_Quantize.f (k : Nat) (l0 : List Int) (l1 : List Int) : Option (List Int) := psalteryref21_Quantize.l0 k l0 l1 ([] : List Int) 0
theorem psalteryref21_Quantize.mono_l : ∀ k, (∀ y0 y1 y2 y3, LeO (psalteryref21_Quantize.l0 k y0 y1 y2 y3) (psalteryref21_Quantize.l0 (k + 1) y0 y1 y2 y3))
  | 0 => fun _ _ _ _ r h => by simp [psalteryref21_Quantize.l0] at h
  | k + 1 => by
    have ih0 := psalteryref21_Quantize.mono_l k
    · intro y0 y1 y2 y3
      unfold psalteryref21_Quantize.l0
      with_reducible repeat' first
   | exact ih0 _ _ _ _
   | exact psalteryref03_Div.mono _ _ _
   | exact LeO.refl _
   | exact LeO.none _
   | refine LeO.ite ?_ ?_
   | refine LeO.bind ?_ (fun _ => ?_)
theorem psalteryref21_Quantize.mono : ∀ a0 a1 k, LeO (psalteryref21_Quantize.f k a0 a1) (psalteryref21_Quantize.f (k + 1) a0 a1) := by
  intro a0 a1 k
  have ih0 := psalteryref21_Quantize.mono_l k
  unfold psalteryref21_Quantize.f
  with_reducible repeat' first
   | exact ih0 _ _ _ _
   | exact psalteryref03_Div.mono _ _ _
   | exact LeO.refl _
   | exact LeO.none _
   | refine LeO.ite ?_ ?_
   | refine LeO.bind ?_ (fun _ => ?_)
def psalteryref22_noughts.l0 : Nat → List Int → Int → Option (Bool)
  | 0, _, _ => none
  | k + 1, x0, x3 => if x3 < (x0.length : Int) then (if 0 ≤ x3 then (if (rd x0 x3) = 0 then (psalteryref22_noughts.l0 k x0 (wrap64 (x3 + 1))) else (some false)) else (none)) else (some true)
def psalteryref22_noughts.f (k : Nat) (l0 : List Int) : Option (Bool) := psalteryref22_noughts.l0 k l0 0
theorem psalteryref22_noughts.mono_l : ∀ k, (∀ y0 y1, LeO (psalteryref22_noughts.l0 k y0 y1) (psalteryref22_noughts.l0 (k + 1) y0 y1))
  | 0 => fun _ _ r h => by simp [psalteryref22_noughts.l0] at h
  | k + 1 => by
    have ih0 := psalteryref22_noughts.mono_l k
    · intro y0 y1
      unfold psalteryref22_noughts.l0
      with_reducible repeat' first
   | exact ih0 _ _
   | exact LeO.refl _
   | exact LeO.none _
   | refine LeO.ite ?_ ?_
   | refine LeO.bind ?_ (fun _ => ?_)
theorem psalteryref22_noughts.mono : ∀ a0 k, LeO (psalteryref22_noughts.f k a0) (psalteryref22_noughts.f (k + 1) a0) := by
  intro a0 k
  have ih0 := psalteryref22_noughts.mono_l k
  unfold psalteryref22_noughts.f
  with_reducible repeat' first
   | exact ih0 _ _
   | exact LeO.refl _
   | exact LeO.none _
   | refine LeO.ite ?_ ?_
   | refine LeO.bind ?_ (fun _ => ?_)
def psalteryref15_size.f (a0 : Int) : Option (Int) := if a0 < 0 then (some (wrap64 (-a0))) else (some a0)
def psalteryref15_Couple.f (a0 : Int) (a1 : Int) : Option (Int × Int) := (psalteryref15_size.f a0).bind fun t803 => ((psalteryref15_size.f a1).bind fun t804 => (if t803 > t804 then (if a0 > 0 then (some (a0, wrap64 (a0 - a1))) else (some (a0, wrap64 (a1 - a0)))) else (if a1 > 0 then (some (a1, wrap64 (a0 - a1))) else (some (a1, wrap64 (a1 - a0))))))
mutual
def psalteryref22_Encode.l0 : Nat → Int → Int → Int → Int → List Int → List Int → List (List Int) → List (List Int) → List (List Int) → Option ((List (List Int)) × (List (List Int)))
  | 0, _, _, _, _, _, _, _, _, _ => none
  | k + 1, x6, x7, x806000, x806001, x806002, x806003, x807000, x809000, x809001 => if x7 < x806000 then (if 0 ≤ x7 then (if x7 < (x807000.length : Int) then ((psalteryref22_Posts.f k x806000 x806001 x806002 x806003 (rd_L2 x807000 x7)).bind fun t810 => ((psalteryref22_Floors.f k t810).bind fun t814 => ((psalteryref21_Quantize.f k (rd_L2 x807000 x7) t814).bind fun t817 => ((psalteryref22_noughts.f k t817).bind fun t820 => (if t820 = true then (if x809000.length < 5864062014805 then (if x809001.length < 5864062014805 then (psalteryref22_Encode.l0 k x6 (wrap64 (x7 + 1)) x806000 x806001 x806002 x806003 x807000 (x809000 ++ [[]]) (x809001 ++ [[]])) else (none)) else (none)) else (if x809000.length < 5864062014805 then (if x809001.length < 5864062014805 then (psalteryref22_Encode.l0 k (wrap64 (x6 + 1)) (wrap64 (x7 + 1)) x806000 x806001 x806002 x806003 x807000 (x809000 ++ [t810]) (x809001 ++ [t817])) else (none)) else (none))))))) else (none)) else (none)) else (if x6 = 2 then (psalteryref22_Encode.l1 k ([] : List Int) ([] : List Int) 0 x809000 x809001) else (some (x809000, x809001)))
def psalteryref22_Encode.l1 : Nat → List Int → List Int → Int → List (List Int) → List (List Int) → Option ((List (List Int)) × (List (List Int)))
  | 0, _, _, _, _, _ => none
  | k + 1, x10, x11, x12, x809000, x809001 => if x12 < 16 then (if 0 < (x809001.length : Int) then (if 0 ≤ x12 then (if x12 < ((rd_L2 x809001 0).length : Int) then (if 1 < (x809001.length : Int) then (if x12 < ((rd_L2 x809001 1).length : Int) then ((psalteryref15_Couple.f (rd (rd_L2 x809001 0) x12) (rd (rd_L2 x809001 1) x12)).bind fun bt837 => (if x10.length < 17592186044416 then (if x11.length < 17592186044416 then (psalteryref22_Encode.l1 k (x10 ++ [bt837.1]) (x11 ++ [bt837.2]) (wrap64 (x12 + 1)) x809000 x809001) else (none)) else (none))) else (none)) else (none)) else (none)) else (none)) else (none)) else (some (x809000, (([x10, x11] : List (List Int)))))
end
def psalteryref22_Encode.f (k : Nat) (a0_0 : Int) (a0_1 : Int) (l0_2 : List Int) (l0_3 : List Int) (l1_0 : List (List Int)) : Option ((List (List Int)) × (List (List Int))) := psalteryref22_Encode.l0 k 0 0 a0_0 a0_1 l0_2 l0_3 l1_0 ([] : List (List Int)) ([] : List (List Int))
theorem psalteryref22_Encode.mono_l : ∀ k, (∀ y0 y1 y2 y3 y4 y5 y6 y7 y8, LeO (psalteryref22_Encode.l0 k y0 y1 y2 y3 y4 y5 y6 y7 y8) (psalteryref22_Encode.l0 (k + 1) y0 y1 y2 y3 y4 y5 y6 y7 y8)) ∧ (∀ y0 y1 y2 y3 y4, LeO (psalteryref22_Encode.l1 k y0 y1 y2 y3 y4) (psalteryref22_Encode.l1 (k + 1) y0 y1 y2 y3 y4))
  | 0 => ⟨fun _ _ _ _ _ _ _ _ _ r h => by simp [psalteryref22_Encode.l0] at h, fun _ _ _ _ _ r h => by simp [psalteryref22_Encode.l1] at h⟩
  | k + 1 => by
    obtain ⟨ih0, ih1⟩ := psalteryref22_Encode.mono_l k
    refine ⟨?_, ?_⟩
    all_goals (intros; first | unfold psalteryref22_Encode.l0 | unfold psalteryref22_Encode.l1)
    all_goals with_reducible repeat' first
     | exact ih0 _ _ _ _ _ _ _ _ _
     | exact ih1 _ _ _ _ _
     | exact psalteryref21_Quantize.mono _ _ _
     | exact psalteryref22_Floors.mono _ _
     | exact psalteryref22_Posts.mono _ _ _ _ _ _
     | exact psalteryref22_noughts.mono _ _
     | exact LeO.refl _
     | exact LeO.none _
     | refine LeO.ite ?_ ?_
     | refine LeO.bind ?_ (fun _ => ?_)
theorem psalteryref22_Encode.mono : ∀ a0 a1 a2 a3 a4 k, LeO (psalteryref22_Encode.f k a0 a1 a2 a3 a4) (psalteryref22_Encode.f (k + 1) a0 a1 a2 a3 a4) := by
  intro a0 a1 a2 a3 a4 k
  obtain ⟨ih0, ih1⟩ := psalteryref22_Encode.mono_l k
  unfold psalteryref22_Encode.f
  with_reducible repeat' first
   | exact ih0 _ _ _ _ _ _ _ _ _
   | exact ih1 _ _ _ _ _
   | exact psalteryref21_Quantize.mono _ _ _
   | exact psalteryref22_Floors.mono _ _
   | exact psalteryref22_Posts.mono _ _ _ _ _ _
   | exact psalteryref22_noughts.mono _ _
   | exact LeO.refl _
   | exact LeO.none _
   | refine LeO.ite ?_ ?_
   | refine LeO.bind ?_ (fun _ => ?_)
mutual
def psalteryref04_Right.j0 : Nat → List Int → Bool → Option (Bool)
  | 0, _, _ => none
  | k + 1, x0, x15 => if x15 = true then (some false) else (psalteryref04_Right.l0 k x0 0 0 0)
def psalteryref04_Right.l0 : Nat → List Int → Int → Int → Int → Option (Bool)
  | 0, _, _, _, _ => none
  | k + 1, x0, x3, x4, x5 => if x5 < (x0.length : Int) then (if 0 ≤ x5 then (if (rd x0 x5) < 0 then (psalteryref04_Right.j2 k x0 x3 x4 x5 true) else (psalteryref04_Right.j2 k x0 x3 x4 x5 (decide ((rd x0 x5) > 16)))) else (none)) else (if x4 = 1 then (some (x3 == 32768)) else (if x4 > 1 then (some (x3 == 65536)) else (some false)))
def psalteryref04_Right.j2 : Nat → List Int → Int → Int → Int → Bool → Option (Bool)
  | 0, _, _, _, _, _ => none
  | k + 1, x0, x3, x4, x5, x33 => if x33 = true then (some false) else (if 0 ≤ x5 then (if x5 < (x0.length : Int) then (if (rd x0 x5) > 0 then (psalteryref04_Right.l1 k x0 x3 (wrap64 (x4 + 1)) x5 65536 0) else (psalteryref04_Right.l0 k x0 x3 x4 (wrap64 (x5 + 1)))) else (none)) else (none))
def psalteryref04_Right.l1 : Nat → List Int → Int → Int → Int → Int → Int → Option (Bool)
  | 0, _, _, _, _, _, _ => none
  | k + 1, x0, x3, x4, x5, x6, x7 => if 0 ≤ x5 then (if x5 < (x0.length : Int) then (if x7 < (rd x0 x5) then (psalteryref04_Right.l1 k x0 x3 x4 x5 (wrap64 (Int.tdiv x6 2)) (wrap64 (x7 + 1))) else (psalteryref04_Right.l0 k x0 (wrap64 (x3 + x6)) x4 (wrap64 (x5 + 1)))) else (none)) else (none)
end
def psalteryref04_Right.f (k : Nat) (l0 : List Int) : Option (Bool) := if (l0.length : Int) < 2 then (psalteryref04_Right.j0 k l0 true) else (psalteryref04_Right.j0 k l0 (decide ((l0.length : Int) > 64)))
theorem psalteryref04_Right.mono_l : ∀ k, (∀ y0 y1, LeO (psalteryref04_Right.j0 k y0 y1) (psalteryref04_Right.j0 (k + 1) y0 y1)) ∧ (∀ y0 y1 y2 y3, LeO (psalteryref04_Right.l0 k y0 y1 y2 y3) (psalteryref04_Right.l0 (k + 1) y0 y1 y2 y3)) ∧ (∀ y0 y1 y2 y3 y4, LeO (psalteryref04_Right.j2 k y0 y1 y2 y3 y4) (psalteryref04_Right.j2 (k + 1) y0 y1 y2 y3 y4)) ∧ (∀ y0 y1 y2 y3 y4 y5, LeO (psalteryref04_Right.l1 k y0 y1 y2 y3 y4 y5) (psalteryref04_Right.l1 (k + 1) y0 y1 y2 y3 y4 y5))
  | 0 => ⟨fun _ _ r h => by simp [psalteryref04_Right.j0] at h, fun _ _ _ _ r h => by simp [psalteryref04_Right.l0] at h, fun _ _ _ _ _ r h => by simp [psalteryref04_Right.j2] at h, fun _ _ _ _ _ _ r h => by simp [psalteryref04_Right.l1] at h⟩
  | k + 1 => by
    obtain ⟨ih0, ih1, ih2, ih3⟩ := psalteryref04_Right.mono_l k
    refine ⟨?_, ?_, ?_, ?_⟩
    all_goals (intros; first | unfold psalteryref04_Right.j0 | unfold psalteryref04_Right.l0 | unfold psalteryref04_Right.j2 | unfold psalteryref04_Right.l1)
    all_goals with_reducible repeat' first
     | exact ih0 _ _
     | exact ih1 _ _ _ _
     | exact ih2 _ _ _ _ _
     | exact ih3 _ _ _ _ _ _
     | exact LeO.refl _
     | exact LeO.none _
     | refine LeO.ite ?_ ?_
     | refine LeO.bind ?_ (fun _ => ?_)
theorem psalteryref04_Right.mono : ∀ a0 k, LeO (psalteryref04_Right.f k a0) (psalteryref04_Right.f (k + 1) a0) := by
  intro a0 k
  obtain ⟨ih0, ih1, ih2, ih3⟩ := psalteryref04_Right.mono_l k
  unfold psalteryref04_Right.f
  with_reducible repeat' first
   | exact ih0 _ _
   | exact ih1 _ _ _ _
   | exact ih2 _ _ _ _ _
   | exact ih3 _ _ _ _ _ _
   | exact LeO.refl _
   | exact LeO.none _
   | refine LeO.ite ?_ ?_
   | refine LeO.bind ?_ (fun _ => ?_)
mutual
def psalteryref16_Right.j0 : Nat → Bool → Int → Int → List Int → List Int → Option (Bool)
  | 0, _, _, _, _, _ => none
  | k + 1, x20, x112000, x112001, x112002, x112003 => if x20 = true then (some false) else (if (x112002.length : Int) = 45 then (psalteryref16_Right.j1 k ((x112003.length : Int) != 16) x112000 x112001 x112002 x112003) else (psalteryref16_Right.j1 k true x112000 x112001 x112002 x112003))
def psalteryref16_Right.j1 : Nat → Bool → Int → Int → List Int → List Int → Option (Bool)
  | 0, _, _, _, _, _ => none
  | k + 1, x30, x112000, x112001, x112002, x112003 => if x30 = true then (some false) else ((psalteryref04_Right.f k x112002).bind fun t112 => (if t112 = true then ((psalteryref04_Right.f k x112003).bind fun t113 => (if t113 = true then (if 15 < (x112003.length : Int) then (some ((rd x112003 15) != 0)) else (none)) else (some false))) else (some false)))
end
def psalteryref16_Right.f (k : Nat) (a0_0 : Int) (a0_1 : Int) (l0_2 : List Int) (l0_3 : List Int) : Option (Bool) := if a0_0 = 1 then (if a0_1 < 0 then (psalteryref16_Right.j0 k true a0_0 a0_1 l0_2 l0_3) else (psalteryref16_Right.j0 k (decide (a0_1 > 12)) a0_0 a0_1 l0_2 l0_3)) else (if a0_0 = 2 then (if a0_1 < 0 then (psalteryref16_Right.j0 k true a0_0 a0_1 l0_2 l0_3) else (psalteryref16_Right.j0 k (decide (a0_1 > 12)) a0_0 a0_1 l0_2 l0_3)) else (psalteryref16_Right.j0 k true a0_0 a0_1 l0_2 l0_3))
theorem psalteryref16_Right.mono_l : ∀ k, (∀ y0 y1 y2 y3 y4, LeO (psalteryref16_Right.j0 k y0 y1 y2 y3 y4) (psalteryref16_Right.j0 (k + 1) y0 y1 y2 y3 y4)) ∧ (∀ y0 y1 y2 y3 y4, LeO (psalteryref16_Right.j1 k y0 y1 y2 y3 y4) (psalteryref16_Right.j1 (k + 1) y0 y1 y2 y3 y4))
  | 0 => ⟨fun _ _ _ _ _ r h => by simp [psalteryref16_Right.j0] at h, fun _ _ _ _ _ r h => by simp [psalteryref16_Right.j1] at h⟩
  | k + 1 => by
    obtain ⟨ih0, ih1⟩ := psalteryref16_Right.mono_l k
    refine ⟨?_, ?_⟩
    all_goals (intros; first | unfold psalteryref16_Right.j0 | unfold psalteryref16_Right.j1)
    all_goals with_reducible repeat' first
     | exact ih0 _ _ _ _ _
     | exact ih1 _ _ _ _ _
     | exact psalteryref04_Right.mono _ _
     | exact LeO.refl _
     | exact LeO.none _
     | refine LeO.ite ?_ ?_
     | refine LeO.bind ?_ (fun _ => ?_)
theorem psalteryref16_Right.mono : ∀ a0 a1 a2 a3 k, LeO (psalteryref16_Right.f k a0 a1 a2 a3) (psalteryref16_Right.f (k + 1) a0 a1 a2 a3) := by
  intro a0 a1 a2 a3 k
  obtain ⟨ih0, ih1⟩ := psalteryref16_Right.mono_l k
  unfold psalteryref16_Right.f
  with_reducible repeat' first
   | exact ih0 _ _ _ _ _
   | exact ih1 _ _ _ _ _
   | exact psalteryref04_Right.mono _ _
   | exact LeO.refl _
   | exact LeO.none _
   | refine LeO.ite ?_ ?_
   | refine LeO.bind ?_ (fun _ => ?_)
mutual
def psalteryref07_Fair.j0 : Nat → List Int → Bool → Option (Bool)
  | 0, _, _ => none
  | k + 1, x0, x3 => psalteryref07_Fair.l0 k x0 x3 0
def psalteryref07_Fair.l0 : Nat → List Int → Bool → Int → Option (Bool)
  | 0, _, _, _ => none
  | k + 1, x0, x3, x4 => if x4 < (x0.length : Int) then (if x3 = true then (if 0 ≤ x4 then (if (rd x0 x4) ≥ (-1048576) then (psalteryref07_Fair.l0 k x0 (decide ((rd x0 x4) ≤ 1048576)) (wrap64 (x4 + 1))) else (psalteryref07_Fair.l0 k x0 false (wrap64 (x4 + 1)))) else (none)) else (psalteryref07_Fair.l0 k x0 false (wrap64 (x4 + 1)))) else (some x3)
end
def psalteryref07_Fair.f (k : Nat) (l0 : List Int) : Option (Bool) := if (l0.length : Int) > 0 then (psalteryref07_Fair.j0 k l0 (decide ((l0.length : Int) ≤ 16))) else (psalteryref07_Fair.j0 k l0 false)
theorem psalteryref07_Fair.mono_l : ∀ k, (∀ y0 y1, LeO (psalteryref07_Fair.j0 k y0 y1) (psalteryref07_Fair.j0 (k + 1) y0 y1)) ∧ (∀ y0 y1 y2, LeO (psalteryref07_Fair.l0 k y0 y1 y2) (psalteryref07_Fair.l0 (k + 1) y0 y1 y2))
  | 0 => ⟨fun _ _ r h => by simp [psalteryref07_Fair.j0] at h, fun _ _ _ r h => by simp [psalteryref07_Fair.l0] at h⟩
  | k + 1 => by
    obtain ⟨ih0, ih1⟩ := psalteryref07_Fair.mono_l k
    refine ⟨?_, ?_⟩
    all_goals (intros; first | unfold psalteryref07_Fair.j0 | unfold psalteryref07_Fair.l0)
    all_goals with_reducible repeat' first
     | exact ih0 _ _
     | exact ih1 _ _ _
     | exact LeO.refl _
     | exact LeO.none _
     | refine LeO.ite ?_ ?_
     | refine LeO.bind ?_ (fun _ => ?_)
theorem psalteryref07_Fair.mono : ∀ a0 k, LeO (psalteryref07_Fair.f k a0) (psalteryref07_Fair.f (k + 1) a0) := by
  intro a0 k
  obtain ⟨ih0, ih1⟩ := psalteryref07_Fair.mono_l k
  unfold psalteryref07_Fair.f
  with_reducible repeat' first
   | exact ih0 _ _
   | exact ih1 _ _ _
   | exact LeO.refl _
   | exact LeO.none _
   | refine LeO.ite ?_ ?_
   | refine LeO.bind ?_ (fun _ => ?_)
def psalteryref10_Fair.f (k : Nat) (l0 : List Int) : Option (Bool) := if (l0.length : Int) = 16 then ((psalteryref07_Fair.f k l0).bind fun t502 => (some t502)) else (some false)
theorem psalteryref10_Fair.mono : ∀ a0 k, LeO (psalteryref10_Fair.f k a0) (psalteryref10_Fair.f (k + 1) a0) := by
  intro a0 k
  unfold psalteryref10_Fair.f
  with_reducible repeat' first
   | exact psalteryref07_Fair.mono _ _
   | exact LeO.refl _
   | exact LeO.none _
   | refine LeO.ite ?_ ?_
   | refine LeO.bind ?_ (fun _ => ?_)
mutual
def psalteryref22_Right.j0 : Nat → Bool → List (List Int) → Option (Bool)
  | 0, _, _ => none
  | k + 1, x16, x505000 => if x16 = true then (some false) else (psalteryref22_Right.l0 k 0 x505000)
def psalteryref22_Right.l0 : Nat → Int → List (List Int) → Option (Bool)
  | 0, _, _ => none
  | k + 1, x5, x505000 => if x5 < (x505000.length : Int) then (if 0 ≤ x5 then ((psalteryref10_Fair.f k (rd_L2 x505000 x5)).bind fun t507 => (if t507 = true then (psalteryref22_Right.l0 k (wrap64 (x5 + 1)) x505000) else (some false))) else (none)) else (some true)
end
def psalteryref22_Right.f (k : Nat) (a0_0 : Int) (a0_1 : Int) (l0_2 : List Int) (l0_3 : List Int) (l1_0 : List (List Int)) : Option (Bool) := (psalteryref16_Right.f k a0_0 a0_1 l0_2 l0_3).bind fun t505 => (if t505 = true then (psalteryref22_Right.j0 k ((l1_0.length : Int) != a0_0) l1_0) else (psalteryref22_Right.j0 k true l1_0))
theorem psalteryref22_Right.mono_l : ∀ k, (∀ y0 y1, LeO (psalteryref22_Right.j0 k y0 y1) (psalteryref22_Right.j0 (k + 1) y0 y1)) ∧ (∀ y0 y1, LeO (psalteryref22_Right.l0 k y0 y1) (psalteryref22_Right.l0 (k + 1) y0 y1))
  | 0 => ⟨fun _ _ r h => by simp [psalteryref22_Right.j0] at h, fun _ _ r h => by simp [psalteryref22_Right.l0] at h⟩
  | k + 1 => by
    obtain ⟨ih0, ih1⟩ := psalteryref22_Right.mono_l k
    refine ⟨?_, ?_⟩
    all_goals (intros; first | unfold psalteryref22_Right.j0 | unfold psalteryref22_Right.l0)
    all_goals with_reducible repeat' first
     | exact ih0 _ _
     | exact ih1 _ _
     | exact psalteryref10_Fair.mono _ _
     | exact psalteryref16_Right.mono _ _ _ _ _
     | exact LeO.refl _
     | exact LeO.none _
     | refine LeO.ite ?_ ?_
     | refine LeO.bind ?_ (fun _ => ?_)
theorem psalteryref22_Right.mono : ∀ a0 a1 a2 a3 a4 k, LeO (psalteryref22_Right.f k a0 a1 a2 a3 a4) (psalteryref22_Right.f (k + 1) a0 a1 a2 a3 a4) := by
  intro a0 a1 a2 a3 a4 k
  obtain ⟨ih0, ih1⟩ := psalteryref22_Right.mono_l k
  unfold psalteryref22_Right.f
  with_reducible repeat' first
   | exact ih0 _ _
   | exact ih1 _ _
   | exact psalteryref10_Fair.mono _ _
   | exact psalteryref16_Right.mono _ _ _ _ _
   | exact LeO.refl _
   | exact LeO.none _
   | refine LeO.ite ?_ ?_
   | refine LeO.bind ?_ (fun _ => ?_)
end Go.Proofs.Ytdajlfijkbafiaa.P
namespace Go.Proofs.Ytdajlfijkbafiaa.LB
open Go.RowKit Go.Proofs.YtdajlfijkbafiaaW.PrintWords Go.Proofs.YtdajlfijkbafiaaW.PrintLast
theorem w64 {x : Int} (h : -9223372036854775808 ≤ x) (h' : x ≤ 9223372036854775807) : wrap64 x = x := by unfold wrap64; omega
theorem u64w {x : Int} (h : 0 ≤ x) (h' : x < 18446744073709551616) : IntKind.u64.wrap x = x := by
  simp only [IntKind.wrap, IntKind.bits, IntKind.signed]; simp; omega
theorem tdiv_nn {a : Int} (b : Int) (h : 0 ≤ a) : Int.tdiv a b = a / b := Int.tdiv_eq_ediv_of_nonneg h
theorem tmod_nn {a : Int} (b : Int) (h : 0 ≤ a) : Int.tmod a b = a % b := Int.tmod_eq_emod_of_nonneg h
theorem u64_eq (x : Int) : IntKind.u64.wrap x = x % 18446744073709551616 := by simp [IntKind.wrap, IntKind.bits, IntKind.signed]
theorem wrap64_eq (x : Int) : wrap64 x = (x + 9223372036854775808) % 18446744073709551616 - 9223372036854775808 := by unfold wrap64; omega
theorem or_join {x y : Int} {i : Nat} (hx : 0 ≤ x) (hx' : x < 18446744073709551616) (hm : x % 2 ^ i = 0) (hy : 0 ≤ y) (hy' : y < 2 ^ i) (hy2 : y < 18446744073709551616) : Go.bits .or .u64 x y = x + y := by
  have hc : ((2 : Int) ^ i) = ((2 ^ i : Nat) : Int) := by simp
  have hp : 0 < 2 ^ i := Nat.pow_pos (n := i) (by omega : 0 < 2)
  rw [u64_or x y hx hx' hy hy2]
  rw [hc] at hm hy'
  have h0 : ((x.toNat % 2 ^ i : Nat) : Int) = 0 := by rw [Int.natCast_emod, Int.toNat_of_nonneg hx]; exact hm
  rw [nat_join i _ _ (by omega) (by omega), Int.natCast_add]; omega
end Go.Proofs.Ytdajlfijkbafiaa.LB
namespace Go.Proofs.Ytdajlfijkbafiaa.LW
open Go.RowKit Go.Proofs.YtdajlfijkbafiaaW.PrintWords Go.Proofs.YtdajlfijkbafiaaW.PrintLast Go.Proofs.YtdajlfijkbafiaaW.PrintMore Go.Proofs.Ytdajlfijkbafiaa.P Go.Proofs.Ytdajlfijkbafiaa.LB
def IsSet (fl : List Int) (g s : Int) : Prop := 0 ≤ s ∧ s < (fl.length : Int) ∧ 0 < rd fl s ∧ ((s ≤ g ∧ ∀ t : Int, s < t → t ≤ g → t < (fl.length : Int) → ¬ 0 < rd fl t) ∨ (g < s ∧ ∀ t : Int, 0 ≤ t → t < s → ¬ 0 < rd fl t))
theorem isSet_unique {fl : List Int} {g s t : Int} (h : IsSet fl g s) (h' : IsSet fl g t) : s = t := by
  obtain ⟨a1, a2, a3, a4⟩ := h
  obtain ⟨b1, b2, b3, b4⟩ := h'
  rcases Int.lt_trichotomy s t with c | c | c
  · exfalso
    rcases a4 with ⟨a4, a5⟩ | ⟨a4, a5⟩
    · rcases b4 with ⟨b4, b5⟩ | ⟨b4, b5⟩
      · exact a5 t c b4 b2 b3
      · exact b5 s a1 c a3
    · rcases b4 with ⟨b4, b5⟩ | ⟨b4, b5⟩
      · omega
      · exact b5 s a1 c a3
  · exact c
  · exfalso
    rcases b4 with ⟨b4, b5⟩ | ⟨b4, b5⟩
    · rcases a4 with ⟨a4, a5⟩ | ⟨a4, a5⟩
      · exact b5 s c a4 a2 a3
      · exact a5 t b1 c b3
    · rcases a4 with ⟨a4, a5⟩ | ⟨a4, a5⟩
      · omega
      · exact a5 t b1 c b3
def Way (fl : List Int) (g i out : Int) : Prop := (out = -1 ∧ ∀ t : Int, 0 ≤ t → t < i → ¬ 0 < rd fl t) ∨ (0 ≤ out ∧ out < i ∧ 0 < rd fl out ∧ ((out ≤ g ∧ ∀ t : Int, out < t → t ≤ g → t < i → ¬ 0 < rd fl t) ∨ (g < out ∧ ∀ t : Int, 0 ≤ t → t < out → ¬ 0 < rd fl t)))
theorem settled_loop (fl : List Int) (g : Int) (hl : fl.length ≤ 1000) (d : Nat) : ∀ (i k : Nat) (out : Int), i + d = fl.length → d < k → Way fl g i out → ∃ s, vcodec_codec_settled.l0 k g out fl (fl.length : Int) (i : Int) = some s ∧ Way fl g (fl.length : Int) s := by
  induction d with
  | zero =>
    intro i k out hi hk hw
    obtain ⟨k, rfl⟩ : ∃ j, k = j + 1 := ⟨k - 1, by omega⟩
    refine ⟨out, ?_, by rwa [show (fl.length : Int) = (i : Int) by omega]⟩
    simp only [vcodec_codec_settled.l0]
    rw [if_neg (by omega)]
  | succ d ih =>
    intro i k out hi hk hw
    obtain ⟨k, rfl⟩ : ∃ j, k = j + 1 := ⟨k - 1, by omega⟩
    have nx := fun out => ih (i + 1) k out (by omega) (by omega)
    simp only [vcodec_codec_settled.l0]
    rw [if_pos (by omega), if_pos (by omega), if_pos (by omega), w64 (x := (i : Int) + 1) (by omega) (by omega), show (i : Int) + 1 = ((i + 1 : Nat) : Int) by omega]
    by_cases c : rd fl (i : Int) > 0
    · rw [if_pos c]
      rcases hw with ⟨h1, h2⟩ | ⟨h0, h1, h2, h3⟩
      · rw [if_pos (by omega)]
        refine nx (i : Int) (.inr ⟨by omega, by omega, c, ?_⟩)
        by_cases e : (i : Int) ≤ g
        · exact .inl ⟨e, fun t ht _ ht' => by omega⟩
        · exact .inr ⟨by omega, h2⟩
      · rw [if_neg (by omega)]
        by_cases e : (i : Int) ≤ g
        · rw [if_pos e]
          exact nx (i : Int) (.inr ⟨by omega, by omega, c, .inl ⟨e, fun t ht _ ht' => by omega⟩⟩)
        · rw [if_neg e]
          refine nx out (.inr ⟨h0, by omega, h2, ?_⟩)
          rcases h3 with ⟨h3, h4⟩ | h3
          · exact .inl ⟨h3, fun t ht ht' _ => h4 t ht ht' (by omega)⟩
          · exact .inr h3
    · rw [if_neg c]
      have hz : ∀ t : Int, t = (i : Int) → ¬ 0 < rd fl t := fun t e => by rw [e]; exact c
      refine nx out ?_
      rcases hw with ⟨h1, h2⟩ | ⟨h0, h1, h2, h3⟩
      · refine .inl ⟨h1, fun t ht ht' => ?_⟩
        by_cases e : t = (i : Int)
        · exact hz t e
        · exact h2 t ht (by omega)
      · refine .inr ⟨h0, by omega, h2, ?_⟩
        rcases h3 with ⟨h3, h4⟩ | h3
        · refine .inl ⟨h3, fun t ht ht' ht2 => ?_⟩
          by_cases e : t = (i : Int)
          · exact hz t e
          · exact h4 t ht ht' (by omega)
        · exact .inr h3
theorem settled_is (c q : Int) (fl rs : List Int) (g : Int) (hl : fl.length ≤ 1000) (hu : ∃ u : Nat, u < fl.length ∧ 0 < rd fl (u : Int)) (k : Nat) (hk : fl.length < k) : ∃ s, vcodec_codec_settled.f k c q fl rs g = some s ∧ IsSet fl g s := by
  unfold vcodec_codec_settled.f
  obtain ⟨s, h1, h2⟩ := settled_loop fl g hl fl.length 0 k (-1) (by omega) hk (.inl ⟨rfl, fun t ht ht' => by omega⟩)
  refine ⟨s, h1, ?_⟩
  obtain ⟨u, u1, u2⟩ := hu
  rcases h2 with ⟨_, h2⟩ | ⟨a, b, c, d⟩
  · exact absurd u2 (h2 (u : Int) (by omega) (by omega))
  · exact ⟨a, b, c, d⟩
theorem refSettled_l1 (fl : List Int) (g : Int) (hl : fl.length ≤ 1000) (hg : ∀ t : Int, 0 ≤ t → t ≤ g → ¬ 0 < rd fl t) (hu : ∃ u : Nat, u < fl.length ∧ 0 < rd fl (u : Int)) (d : Nat) : ∀ (i k : Nat), i + d = fl.length → d < k → (∀ t : Int, 0 ≤ t → t < (i : Int) → ¬ 0 < rd fl t) → ∃ s, psalteryref22_Settled.l1 k fl (i : Int) = some s ∧ IsSet fl g s := by
  obtain ⟨u, u1, u2⟩ := hu
  induction d with
  | zero =>
    intro i k hi hk hn
    exact absurd u2 (hn (u : Int) (by omega) (by omega))
  | succ d ih =>
    intro i k hi hk hn
    obtain ⟨k, rfl⟩ : ∃ j, k = j + 1 := ⟨k - 1, by omega⟩
    simp only [psalteryref22_Settled.l1]
    rw [if_pos (by omega), if_pos (by omega), w64 (x := (i : Int) + 1) (by omega) (by omega), show (i : Int) + 1 = ((i + 1 : Nat) : Int) by omega]
    by_cases c : rd fl (i : Int) > 0
    · rw [if_pos c]
      refine ⟨(i : Int), rfl, by omega, by omega, c, .inr ⟨?_, hn⟩⟩
      by_cases e : (i : Int) ≤ g
      · exact absurd c (hg (i : Int) (by omega) e)
      · omega
    · rw [if_neg c]
      refine ih (i + 1) k (by omega) (by omega) (fun t ht ht' => ?_)
      by_cases e : t = (i : Int)
      · rw [e]; exact c
      · exact hn t ht (by omega)
theorem refSettled_l0 (fl : List Int) (g : Int) (hl : fl.length ≤ 1000) (hg : g < (fl.length : Int)) (hu : ∃ u : Nat, u < fl.length ∧ 0 < rd fl (u : Int)) (d : Nat) : ∀ (i : Int) (k : Nat), i + 1 = (d : Int) → i ≤ g → d + fl.length + 2 < k → (∀ t : Int, i < t → t ≤ g → ¬ 0 < rd fl t) → ∃ s, psalteryref22_Settled.l0 k fl i = some s ∧ IsSet fl g s := by
  induction d with
  | zero =>
    intro i k hi hig hk hn
    obtain ⟨k, rfl⟩ : ∃ j, k = j + 1 := ⟨k - 1, by omega⟩
    simp only [psalteryref22_Settled.l0]
    rw [if_neg (by omega)]
    exact refSettled_l1 fl g hl (fun t ht ht' => hn t (by omega) ht') hu fl.length 0 k (by omega) (by omega) (fun t ht ht' => by omega)
  | succ d ih =>
    intro i k hi hig hk hn
    obtain ⟨k, rfl⟩ : ∃ j, k = j + 1 := ⟨k - 1, by omega⟩
    simp only [psalteryref22_Settled.l0]
    rw [if_pos (by omega), if_pos (by omega), if_pos (by omega), w64 (x := i - 1) (by omega) (by omega)]
    by_cases c : rd fl i > 0
    · rw [if_pos c]
      exact ⟨i, rfl, by omega, by omega, c, .inl ⟨hig, fun t ht ht' _ => hn t ht ht'⟩⟩
    · rw [if_neg c]
      refine ih (i - 1) k (by omega) (by omega) (by omega) (fun t ht ht' => ?_)
      by_cases e : t = i
      · rw [e]; exact c
      · exact hn t (by omega) ht'
theorem refSettled_is (fl : List Int) (g : Int) (hl : fl.length ≤ 1000) (h0 : 0 ≤ g) (hg : g < (fl.length : Int)) (hu : ∃ u : Nat, u < fl.length ∧ 0 < rd fl (u : Int)) (k : Nat) (hk : 2 * fl.length + 5 < k) : ∃ s, psalteryref22_Settled.f k fl g = some s ∧ IsSet fl g s :=
  refSettled_l0 fl g hl hg hu (g + 1).toNat g k (by omega) (Int.le_refl _) (by omega) (fun t ht ht' => by omega)
def setl (fl : List Int) (g : Int) : Int := (vcodec_codec_settled.f 2000 0 0 fl [] g).getD 0
theorem setl_is {fl : List Int} (g : Int) (hl : fl.length ≤ 1000) (hu : ∃ u : Nat, u < fl.length ∧ 0 < rd fl (u : Int)) : IsSet fl g (setl fl g) := by
  obtain ⟨s, h1, h2⟩ := settled_is 0 0 fl [] g hl hu 2000 (by omega)
  unfold setl
  rw [h1]; exact h2
theorem settled_eq (c q : Int) (fl rs : List Int) (g : Int) (hl : fl.length ≤ 1000) (hu : ∃ u : Nat, u < fl.length ∧ 0 < rd fl (u : Int)) (k : Nat) (hk : fl.length < k) : vcodec_codec_settled.f k c q fl rs g = some (setl fl g) := by
  obtain ⟨s, h1, h2⟩ := settled_is c q fl rs g hl hu k hk
  rw [h1, isSet_unique h2 (setl_is g hl hu)]
theorem refSettled_eq (fl : List Int) (g : Int) (hl : fl.length ≤ 1000) (h0 : 0 ≤ g) (hg : g < (fl.length : Int)) (hu : ∃ u : Nat, u < fl.length ∧ 0 < rd fl (u : Int)) (k : Nat) (hk : 2 * fl.length + 5 < k) : psalteryref22_Settled.f k fl g = some (setl fl g) := by
  obtain ⟨s, h1, h2⟩ := refSettled_is fl g hl h0 hg hu k hk
  rw [h1, isSet_unique h2 (setl_is g hl hu)]
end Go.Proofs.Ytdajlfijkbafiaa.LW
namespace Go.Proofs.Ytdajlfijkbafiaa.NT
def IsRoot (n s : Int) : Prop := 0 ≤ s ∧ s * s ≤ n ∧ n < (s + 1) * (s + 1)
theorem sq_mono {x y : Int} (h0 : 0 ≤ x) (h : x ≤ y) : x * x ≤ y * y := Int.mul_le_mul h h h0 (by omega)
theorem root_mono {n m s t : Int} (hs : IsRoot n s) (ht : IsRoot m t) (h : n ≤ m) : s ≤ t := by
  apply Decidable.byContradiction; intro hc
  have := sq_mono (x := t + 1) (y := s) (by have := ht.1; omega) (by omega)
  have h1 := hs.2.1; have h2 := ht.2.2; omega
theorem root_unique {n s t : Int} (hs : IsRoot n s) (ht : IsRoot n t) : s = t :=
  Int.le_antisymm (root_mono hs ht (Int.le_refl _)) (root_mono ht hs (Int.le_refl _))
theorem le_div_iff {t n : Int} (h : 0 < t) : t ≤ n / t ↔ t * t ≤ n := by
  rw [Int.le_ediv_iff_mul_le h]
def lg (n : Nat) : Int := if h : n = 0 then -1 else 1 + lg (n / 2)
theorem lg_zero : lg 0 = -1 := by rw [lg]; simp
theorem lg_pos {n : Nat} (h : 0 < n) : lg n = 1 + lg (n / 2) := by rw [lg, dif_neg (by omega)]
theorem lg_mono (n : Nat) : ∀ m, n ≤ m → lg n ≤ lg m := by
  induction n using Nat.strongRecOn with
  | _ n ih =>
    intro m h
    have hm1 : ∀ m : Nat, -1 ≤ lg m := by
      intro m
      induction m using Nat.strongRecOn with
      | _ m ihm =>
        by_cases e : m = 0
        · subst e; rw [lg_zero]; omega
        · rw [lg_pos (by omega)]; have := ihm (m / 2) (by omega); omega
    by_cases e : n = 0
    · subst e; rw [lg_zero]; exact hm1 m
    · rw [lg_pos (by omega), lg_pos (n := m) (by omega)]
      have := ih (n / 2) (by omega) (m / 2) (by omega); omega
theorem lg_lower (n : Nat) : -1 ≤ lg n := by have := lg_mono 0 n (by omega); rwa [lg_zero] at this
def near (a b : Int) : Int := if 0 ≤ a then (2 * a + b) / (2 * b) else -((2 * (-a) + b) / (2 * b))
theorem fl {x y : Int} (h : 0 < y) : y * (x / y) ≤ x ∧ x < y * (x / y) + y := by
  have h1 := Int.mul_ediv_add_emod x y
  have h2 := Int.emod_nonneg x (show y ≠ 0 by omega)
  have h3 := Int.emod_lt_of_pos x h
  omega
theorem near_pos {a b : Int} (hb : 0 < b) (ha : 0 ≤ a) : near a b = if a % b ≥ b - a % b then a / b + 1 else a / b := by
  unfold near; rw [if_pos ha]
  have h1 := Int.mul_ediv_add_emod a b
  have h2 := Int.emod_nonneg a (show b ≠ 0 by omega)
  have h3 := Int.emod_lt_of_pos a hb
  split
  · apply Int.le_antisymm
    · apply Int.le_of_lt_add_one
      apply Int.ediv_lt_of_lt_mul (by omega)
      rw [show (a / b + 1 + 1) * (2 * b) = 2 * (b * (a / b)) + 4 * b by rw [Int.add_mul, Int.add_mul]; rw [show a / b * (2 * b) = 2 * (b * (a / b)) by rw [Int.mul_comm (a / b), Int.mul_assoc]]; omega]
      omega
    · rw [Int.le_ediv_iff_mul_le (by omega)]
      rw [show (a / b + 1) * (2 * b) = 2 * (b * (a / b)) + 2 * b by rw [Int.add_mul]; rw [show a / b * (2 * b) = 2 * (b * (a / b)) by rw [Int.mul_comm (a / b), Int.mul_assoc]]; omega]
      omega
  · apply Int.le_antisymm
    · apply Int.le_of_lt_add_one
      apply Int.ediv_lt_of_lt_mul (by omega)
      rw [show (a / b + 1) * (2 * b) = 2 * (b * (a / b)) + 2 * b by rw [Int.add_mul]; rw [show a / b * (2 * b) = 2 * (b * (a / b)) by rw [Int.mul_comm (a / b), Int.mul_assoc]]; omega]
      omega
    · rw [Int.le_ediv_iff_mul_le (by omega)]
      rw [show a / b * (2 * b) = 2 * (b * (a / b)) by rw [Int.mul_comm (a / b), Int.mul_assoc]]
      omega
theorem near_neg {a b : Int} (ha : a < 0) : near a b = - near (-a) b := by
  unfold near; rw [if_neg (by omega), if_pos (by omega)]
theorem near_close {a b : Int} (hb : 0 < b) : 2 * (a - near a b * b) ≤ b ∧ 2 * (near a b * b - a) ≤ b := by
  unfold near
  split
  · have h := fl (x := 2 * a + b) (y := 2 * b) (by omega)
    rw [Int.mul_assoc] at h
    generalize (2 * a + b) / (2 * b) = q at *
    rw [Int.mul_comm q b]; omega
  · have h := fl (x := 2 * (-a) + b) (y := 2 * b) (by omega)
    rw [Int.mul_assoc] at h
    generalize (2 * (-a) + b) / (2 * b) = q at *
    rw [Int.neg_mul, Int.mul_comm q b]; omega
theorem near_bound {a b : Int} (hb : 0 < b) : (0 ≤ a → 0 ≤ near a b ∧ near a b ≤ a) ∧ (a ≤ 0 → near a b ≤ 0 ∧ a ≤ near a b) := by
  have hp : ∀ x : Int, 0 ≤ x → 0 ≤ (2 * x + b) / (2 * b) ∧ (2 * x + b) / (2 * b) ≤ x := by
    intro x hx
    refine ⟨Int.ediv_nonneg (by omega) (by omega), ?_⟩
    apply Int.le_of_lt_add_one
    apply Int.ediv_lt_of_lt_mul (by omega)
    have : x * 1 ≤ x * b := Int.mul_le_mul_of_nonneg_left (by omega) hx
    rw [show (x + 1) * (2 * b) = 2 * (x * b) + 2 * b by rw [Int.add_mul]; rw [show x * (2 * b) = 2 * (x * b) by rw [Int.mul_left_comm]]; omega]
    omega
  unfold near
  constructor
  · intro h; rw [if_pos h]; exact hp a h
  · intro h; split
    · have : a = 0 := by omega
      subst this; have := hp 0 (by omega); omega
    · have := hp (-a) (by omega); omega
end Go.Proofs.Ytdajlfijkbafiaa.NT
namespace Go.Proofs.Ytdajlfijkbafiaa.LB
open Go.RowKit Go.Proofs.YtdajlfijkbafiaaW.PrintWords Go.Proofs.YtdajlfijkbafiaaW.PrintLast Go.Proofs.Ytdajlfijkbafiaa.P Go.Proofs.Ytdajlfijkbafiaa.NT
theorem pow_succ' (m : Nat) : (2 : Int) ^ (m + 1) = 2 * 2 ^ m := by rw [Int.pow_succ, Int.mul_comm]
theorem sqrt_loop (n : Int) (h0 : 0 ≤ n) (hn : n < 18446744073709551616) (m : Nat) : ∀ (k : Nat) (r a : Int), r = a * 2 ^ m → 0 ≤ a → r * r ≤ n → n < (r + 2 ^ m) * (r + 2 ^ m) → r + 2 ^ m ≤ 4294967296 → m < k →
    ∃ s, num_Sqrt.l0 k n r (if m = 0 then 0 else 2 ^ (m - 1)) = some s ∧ IsRoot n s := by
  induction m with
  | zero =>
    intro k r a hr ha h1 h2 h3 hk
    obtain ⟨k, rfl⟩ : ∃ m, k = m + 1 := ⟨k - 1, by omega⟩
    simp only [num_Sqrt.l0]
    exact ⟨r, by rw [if_neg (by simp)], by simp at hr; omega, h1, by simpa using h2⟩
  | succ m ih =>
    intro k r a hr ha h1 h2 h3 hk
    obtain ⟨k, rfl⟩ : ∃ m, k = m + 1 := ⟨k - 1, by omega⟩
    simp only [num_Sqrt.l0]
    have hq : (0 : Int) < 2 ^ m := Int.pow_pos (by omega)
    have hp := pow_succ' m
    rw [hp] at hr h2 h3
    have hr' : r = (2 * a) * 2 ^ m := by rw [hr, Int.mul_left_comm, ← Int.mul_assoc]
    have hr0 : 0 ≤ r := by rw [hr']; exact Int.mul_nonneg (by omega) (by omega)
    have hor : Go.bits .or .u64 r (2 ^ m) = r + 2 ^ m := by
      refine or_join (i := m + 1) hr0 (by omega) ?_ (by omega) (by omega) (by omega)
      rw [hp, hr]; exact Int.mul_emod_left _ _
    rw [if_neg (Nat.succ_ne_zero m), Nat.add_sub_cancel, if_pos hq, hor, if_neg (by omega), tdiv_nn _ h0]
    have hd0 : 0 ≤ n / (r + 2 ^ m) := Int.ediv_nonneg h0 (by omega)
    have hd1 : n / (r + 2 ^ m) ≤ n := Int.ediv_le_self _ h0
    have hbit : (2 : Int) ^ m / 2 = if m = 0 then 0 else 2 ^ (m - 1) := by
      cases m with
      | zero => simp
      | succ m => rw [if_neg (Nat.succ_ne_zero m), pow_succ' m, Nat.add_sub_cancel]; omega
    rw [u64w hd0 (by omega), hbit]
    by_cases hc : r + 2 ^ m ≤ n / (r + 2 ^ m)
    · rw [if_pos hc]
      rw [le_div_iff (by omega)] at hc
      refine ih k (r + 2 ^ m) (2 * a + 1) (by rw [Int.add_mul, ← hr', Int.one_mul]) (by omega) hc ?_ (by omega) (by omega)
      rwa [show r + 2 ^ m + 2 ^ m = r + 2 * 2 ^ m by omega]
    · rw [if_neg hc]
      rw [le_div_iff (by omega)] at hc
      exact ih k r (2 * a) hr' (by omega) h1 (by omega) (by omega) (by omega)
theorem sqrt_eq {n : Int} (h0 : 0 ≤ n) (hn : n < 18446744073709551616) (k : Nat) (hk : 32 < k) : ∃ s, num_Sqrt.f k n = some s ∧ IsRoot n s := by
  have := sqrt_loop n h0 hn 32 k 0 0 (by simp) (by omega) (by omega) (by simp; omega) (by simp) hk
  unfold num_Sqrt.f
  simpa using this
theorem refSqrt_loop (n : Int) (hn : n < 18446744073709551616) (m : Nat) : ∀ (k : Nat) (low high : Int), 0 ≤ low → low < high → high ≤ 4294967296 → low * low ≤ n → n < high * high → high - low ≤ 2 ^ m → m < k →
    ∃ s, psalteryref03_Sqrt.l0 k n low high = some s ∧ IsRoot n s := by
  have stop : ∀ (low high : Int), 0 ≤ low → low < high → ¬ high - low > 1 → low * low ≤ n → n < high * high → IsRoot n low := by
    intro low high h0 h1 h2 h3 h4
    have : high = low + 1 := by omega
    subst this; exact ⟨h0, h3, h4⟩
  induction m with
  | zero =>
    intro k low high h0 h1 h2 h3 h4 h5 hk
    obtain ⟨k, rfl⟩ : ∃ m, k = m + 1 := ⟨k - 1, by omega⟩
    simp only [psalteryref03_Sqrt.l0]
    simp only [Int.pow_zero] at h5
    rw [u64w (x := high - low) (by omega) (by omega), if_neg (by omega)]
    exact ⟨low, rfl, stop low high h0 h1 (by omega) h3 h4⟩
  | succ m ih =>
    intro k low high h0 h1 h2 h3 h4 h5 hk
    obtain ⟨k, rfl⟩ : ∃ m, k = m + 1 := ⟨k - 1, by omega⟩
    simp only [psalteryref03_Sqrt.l0]
    rw [u64w (x := high - low) (by omega) (by omega)]
    by_cases hc : high - low > 1
    · have hp := pow_succ' m
      rw [if_pos hc, u64w (x := low + high) (by omega) (by omega), tdiv_nn 2 (by omega), u64w (x := (low + high) / 2) (by omega) (by omega)]
      have hmm : (low + high) / 2 * ((low + high) / 2) ≤ 4294967295 * 4294967295 := Int.mul_le_mul (by omega) (by omega) (by omega) (by omega)
      have hm0 : 0 ≤ (low + high) / 2 * ((low + high) / 2) := Int.mul_nonneg (by omega) (by omega)
      rw [u64w hm0 (by omega)]
      by_cases hle : (low + high) / 2 * ((low + high) / 2) ≤ n
      · rw [if_pos hle]; exact ih k _ high (by omega) (by omega) h2 hle h4 (by omega) (by omega)
      · rw [if_neg hle]; exact ih k low _ h0 (by omega) (by omega) h3 (by omega) (by omega) (by omega)
    · rw [if_neg hc]; exact ⟨low, rfl, stop low high h0 h1 hc h3 h4⟩
theorem refSqrt_eq {n : Int} (h0 : 0 ≤ n) (hn : n < 18446744073709551616) (k : Nat) (hk : 32 < k) : ∃ s, psalteryref03_Sqrt.f k n = some s ∧ IsRoot n s :=
  refSqrt_loop n hn 32 k 0 4294967296 (by omega) (by omega) (by omega) (by omega) (by omega) (by simp) hk
end Go.Proofs.Ytdajlfijkbafiaa.LB
namespace Go.Proofs.Ytdajlfijkbafiaa.LF
open Go.RowKit Go.Proofs.YtdajlfijkbafiaaW.PrintWords Go.Proofs.YtdajlfijkbafiaaW.PrintLast Go.Proofs.Ytdajlfijkbafiaa.P Go.Proofs.Ytdajlfijkbafiaa.LB Go.Proofs.Ytdajlfijkbafiaa.NT
theorem pow_lt44 {n : Nat} (h : n ≤ 43) : (2 : Int) ^ n ≤ 8796093022208 ∧ (0 : Int) < 2 ^ n := by
  have h1 : (2 : Nat) ^ n ≤ 2 ^ 43 := Nat.pow_le_pow_right (by omega) h
  have h2 : (0 : Nat) < 2 ^ n := Nat.pow_pos (by omega)
  have e : (2 : Int) ^ n = ((2 ^ n : Nat) : Int) := by rw [Int.natCast_pow]; rfl
  rw [e]; omega
theorem root_le {n s : Int} (h : IsRoot n s) : s ≤ n := by
  obtain ⟨h0, h1, _⟩ := h
  by_cases c : s = 0
  · subst c; omega
  · have : s * 1 ≤ s * s := Int.mul_le_mul_of_nonneg_left (by omega) h0
    omega
theorem value_root (g : Int) (h : 1 ≤ g ∧ g ≤ 44) (k : Nat) (hk : 40 < k) : ∃ s, band_Value.f k g = some s ∧ IsRoot (2 ^ (g - 1).toNat) s := by
  have hp := pow_lt44 (n := (g - 1).toNat) (by omega)
  obtain ⟨s, h1, h2⟩ := sqrt_eq (n := 2 ^ (g - 1).toNat) (by omega) (by omega) k (by omega)
  have h3 := root_le h2
  refine ⟨s, ?_, h2⟩
  unfold band_Value.f
  rw [if_neg (by omega), if_neg (by omega), w64 (x := g - 1) (by omega) (by omega), if_pos (by omega)]
  have e : shl .u64 1 (g - 1) = 2 ^ (g - 1).toNat := by
    unfold shl
    rw [Nat.min_eq_left (by simp [IntKind.bits]; omega), Int.one_mul, u64w (by omega) (by omega)]
  rw [e, h1]
  simp only [Option.bind_some]
  rw [w64 (by have := h2.1; omega) (by omega)]
theorem refValue_loop (g : Int) (h : 1 ≤ g ∧ g ≤ 44) (d : Nat) : ∀ (i : Int) (k : Nat), 1 ≤ i → i + d = g → d + 40 < k → psalteryref10_Value.l0 k g (2 ^ (i - 1).toNat) i = psalteryref10_Value.l0 (k - d) g (2 ^ (g - 1).toNat) g := by
  induction d with
  | zero => intro i k h0 h1 hk; rw [show i = g by omega]; rfl
  | succ d ih =>
    intro i k h0 h1 hk
    obtain ⟨k, rfl⟩ : ∃ j, k = j + 1 := ⟨k - 1, by omega⟩
    have hp := pow_lt44 (n := (i - 1).toNat) (by omega)
    have e := ih (i + 1) k (by omega) (by omega) (by omega)
    have e2 : (2 : Int) ^ (i + 1 - 1).toNat = 2 ^ (i - 1).toNat * 2 := by
      rw [show (i + 1 - 1).toNat = (i - 1).toNat + 1 by omega, Int.pow_succ]
    conv => lhs; unfold psalteryref10_Value.l0
    rw [if_pos (by omega), u64w (by omega) (by omega), w64 (by omega) (by omega), ← e2, e, show k + 1 - (d + 1) = k - d by omega]
theorem refValue_root (g : Int) (h : 1 ≤ g ∧ g ≤ 44) (k : Nat) (hk : 100 < k) : ∃ s, psalteryref10_Value.f k g = some s ∧ IsRoot (2 ^ (g - 1).toNat) s := by
  obtain ⟨k, rfl⟩ : ∃ j, k = j + 1 := ⟨k - 1, by omega⟩
  have hp := pow_lt44 (n := (g - 1).toNat) (by omega)
  obtain ⟨m, hm⟩ : ∃ m, k - (g - 1).toNat = m + 1 := ⟨k - (g - 1).toNat - 1, by omega⟩
  obtain ⟨s, h1, h2⟩ := refSqrt_eq (n := 2 ^ (g - 1).toNat) (by omega) (by omega) m (by omega)
  have h3 := root_le h2
  refine ⟨s, ?_, h2⟩
  unfold psalteryref10_Value.f
  rw [if_neg (by omega), decide_eq_false (by omega)]
  simp only [psalteryref10_Value.j0, Bool.false_eq_true, if_false]
  have e := refValue_loop g h (g - 1).toNat 1 k (by omega) (by omega) (by omega)
  rw [show ((1 : Int) - 1).toNat = 0 from rfl, Int.pow_zero, hm] at e
  rw [e]
  simp only [psalteryref10_Value.l0]
  rw [if_neg (by omega), h1]
  simp only [Option.bind_some]
  rw [w64 (by have := h2.1; omega) (by omega)]
def val (g : Int) : Int := (band_Value.f 100 g).getD 0
theorem val_eq (g : Int) (k : Nat) (hk : 40 < k) : band_Value.f k g = some (val g) := by
  unfold val
  by_cases h : 1 ≤ g ∧ g ≤ 44
  · obtain ⟨s, h1, h2⟩ := value_root g h k hk
    obtain ⟨t, h3, h4⟩ := value_root g h 100 (by omega)
    rw [h1, h3, root_unique h2 h4]; rfl
  · unfold band_Value.f
    by_cases c : g < 1
    · rw [if_pos c, if_pos c]; rfl
    · rw [if_neg c, if_neg c, if_pos (by omega), if_pos (by omega)]; rfl
theorem refVal_eq (g : Int) (k : Nat) (hk : 100 < k) : psalteryref10_Value.f k g = some (val g) := by
  by_cases h : 1 ≤ g ∧ g ≤ 44
  · obtain ⟨s, h1, h2⟩ := refValue_root g h k hk
    obtain ⟨t, h3, h4⟩ := value_root g h 101 (by omega)
    rw [val_eq g 101 (by omega)] at h3
    rw [h1, Option.some.inj h3, root_unique h2 h4]
  · have e := val_eq g 100 (by omega)
    have z : band_Value.f 100 g = some 0 := by
      unfold band_Value.f
      by_cases c : g < 1
      · rw [if_pos c]
      · rw [if_neg c, if_pos (by omega)]
    rw [z] at e
    obtain ⟨k, rfl⟩ : ∃ j, k = j + 1 := ⟨k - 1, by omega⟩
    rw [← e]
    unfold psalteryref10_Value.f
    simp only [psalteryref10_Value.j0, if_true]
    by_cases c : g < 1
    · rw [if_pos c]
    · rw [if_neg c, decide_eq_true (by omega), if_pos rfl]
theorem val_zero (g : Int) (h : g < 1) : val g = 0 := by unfold val band_Value.f; rw [if_pos h]; rfl
theorem val_nonneg (g : Int) : 0 ≤ val g := by
  by_cases h : 1 ≤ g ∧ g ≤ 44
  · obtain ⟨t, h3, h4⟩ := value_root g h 101 (by omega)
    rw [val_eq g 101 (by omega)] at h3
    rw [Option.some.inj h3]; exact h4.1
  · unfold val band_Value.f
    by_cases c : g < 1
    · rw [if_pos c]; exact Int.le_refl _
    · rw [if_neg c, if_pos (by omega)]; exact Int.le_refl _
theorem val_mono {g h : Int} (h0 : g ≤ h) (h1 : h ≤ 44) : val g ≤ val h := by
  by_cases c : g < 1
  · rw [val_zero g c]; exact val_nonneg h
  obtain ⟨s, a1, a2⟩ := value_root g (by omega) 101 (by omega)
  obtain ⟨t, b1, b2⟩ := value_root h (by omega) 101 (by omega)
  rw [val_eq g 101 (by omega)] at a1
  rw [val_eq h 101 (by omega)] at b1
  rw [Option.some.inj a1, Option.some.inj b1]
  refine root_mono a2 b2 ?_
  have : (2 : Nat) ^ (g - 1).toNat ≤ 2 ^ (h - 1).toNat := Nat.pow_le_pow_right (by omega) (by omega)
  have e : ∀ n : Nat, (2 : Int) ^ n = ((2 ^ n : Nat) : Int) := fun n => by rw [Int.natCast_pow]; rfl
  rw [e, e]; omega
end Go.Proofs.Ytdajlfijkbafiaa.LF
namespace Go.Proofs.Ytdajlfijkbafiaa.LB
open Go.RowKit Go.Proofs.YtdajlfijkbafiaaW.PrintWords Go.Proofs.YtdajlfijkbafiaaW.PrintLast Go.Proofs.Ytdajlfijkbafiaa.P Go.Proofs.Ytdajlfijkbafiaa.NT
theorem log_loop (m : Nat) : ∀ (k : Nat) (n c : Int), 0 ≤ n → n < 2 ^ m → -1 ≤ c → c + m ≤ 1000 → m < k → num_Log2.l0 k n c = some (c + 1 + lg n.toNat) := by
  induction m with
  | zero =>
    intro k n c h0 h1 h2 h3 hk
    obtain ⟨k, rfl⟩ : ∃ m, k = m + 1 := ⟨k - 1, by omega⟩
    simp only [num_Log2.l0]
    simp only [Int.pow_zero] at h1
    rw [if_neg (by omega), show n.toNat = 0 by omega, lg_zero]; congr 1; omega
  | succ m ih =>
    intro k n c h0 h1 h2 h3 hk
    obtain ⟨k, rfl⟩ : ∃ m, k = m + 1 := ⟨k - 1, by omega⟩
    simp only [num_Log2.l0]
    rw [pow_succ'] at h1
    by_cases h : n > 0
    · rw [if_pos h, w64 (by omega) (by omega), ih k (n / 2) (c + 1) (by omega) (by omega) (by omega) (by omega) (by omega), lg_pos (n := n.toNat) (by omega), show (n / 2).toNat = n.toNat / 2 by omega]
      congr 1; omega
    · rw [if_neg h, show n.toNat = 0 by omega, lg_zero]; congr 1; omega
theorem log_eq {n : Int} (h0 : 0 ≤ n) (hn : n < 18446744073709551616) (k : Nat) (hk : 64 < k) : num_Log2.f k n = some (lg n.toNat) := by
  unfold num_Log2.f
  rw [log_loop 64 k n (-1) h0 (by simpa using hn) (by omega) (by omega) hk]; congr 1; omega
theorem lg_upper (m : Nat) : ∀ n : Nat, n < 2 ^ m → lg n < m := by
  induction m with
  | zero => intro n h; simp at h; subst h; rw [lg_zero]; omega
  | succ m ih =>
    intro n h
    by_cases e : n = 0
    · subst e; rw [lg_zero]; omega
    · rw [lg_pos (by omega)]; rw [Nat.pow_succ] at h; have := ih (n / 2) (by omega); omega
end Go.Proofs.Ytdajlfijkbafiaa.LB
namespace Go.Proofs.Ytdajlfijkbafiaa.LQ
open Go.RowKit Go.Proofs.YtdajlfijkbafiaaW.PrintWords Go.Proofs.YtdajlfijkbafiaaW.PrintLast Go.Proofs.YtdajlfijkbafiaaW.PrintMore Go.Proofs.Ytdajlfijkbafiaa.P Go.Proofs.Ytdajlfijkbafiaa.LB Go.Proofs.Ytdajlfijkbafiaa.NT Go.Proofs.Ytdajlfijkbafiaa.LF
theorem rd_mid (l r : List Int) (x : Int) : rd (l ++ x :: r) (l.length : Int) = x := by simp [rd]
def inc : List Int → Bool
  | [] => true
  | v :: l => decide (-1048576 ≤ v ∧ v ≤ 1048576) && inc l
theorem inc_mem : ∀ {l : List Int}, inc l = true → ∀ x ∈ l, -1048576 ≤ x ∧ x ≤ 1048576
  | [], _, x, hx => by cases hx
  | v :: l, h, x, hx => by
    simp only [inc, Bool.and_eq_true, decide_eq_true_eq] at h
    rcases List.mem_cons.1 hx with rfl | hx
    · exact h.1
    · exact inc_mem h.2 x hx
theorem inc_of : ∀ {l : List Int}, (∀ x ∈ l, -1048576 ≤ x ∧ x ≤ 1048576) → inc l = true
  | [], _ => rfl
  | v :: l, h => by
    simp only [inc, Bool.and_eq_true, decide_eq_true_eq]
    exact ⟨h v (List.mem_cons_self ..), inc_of fun x hx => h x (List.mem_cons_of_mem _ hx)⟩
def fairL (l : List Int) : Bool := inc l && decide (1 ≤ l.length ∧ l.length ≤ 16)
def sq : List Int → Int
  | [] => 0
  | v :: l => v * v + sq l
theorem sq_one {v : Int} (h : -1048576 ≤ v ∧ v ≤ 1048576) : 0 ≤ v * v ∧ v * v ≤ 1099511627776 := by
  constructor
  · rcases Int.le_total 0 v with c | c
    · exact Int.mul_nonneg c c
    · rw [← Int.neg_mul_neg]; exact Int.mul_nonneg (by omega) (by omega)
  · rcases Int.le_total 0 v with c | c
    · have := sq_mono (x := v) (y := 1048576) c h.2; omega
    · have := sq_mono (x := -v) (y := 1048576) (by omega) (by omega); rw [Int.neg_mul_neg] at this; omega
theorem sq_bound : ∀ {l : List Int}, inc l = true → 0 ≤ sq l ∧ sq l ≤ 1099511627776 * (l.length : Int)
  | [], _ => ⟨Int.le_refl _, Int.le_refl _⟩
  | v :: l, h => by
    simp only [inc, Bool.and_eq_true, decide_eq_true_eq] at h
    have h1 := sq_one h.1
    have h2 := sq_bound h.2
    simp only [sq, List.length_cons]; omega
theorem fair_loop (whole : List Int) : ∀ (s p : List Int) (k : Nat), p.length + s.length ≤ maxLen → s.length < k →
    pvq_fair.l0 k whole (p ++ s) ((p ++ s).length : Int) (p.length : Int) = some (inc s && decide (1 ≤ whole.length ∧ whole.length ≤ 16))
  | [], p, k, hn, hk => by
    obtain ⟨k, rfl⟩ : ∃ j, k = j + 1 := ⟨k - 1, by omega⟩
    simp only [pvq_fair.l0, List.append_nil, inc, Bool.true_and]
    rw [if_neg (by omega)]
    by_cases c : 1 ≤ whole.length
    · rw [if_pos (by omega)]; congr 1; rw [decide_eq_decide]; omega
    · rw [if_neg (by omega), decide_eq_false (by omega)]
  | v :: s, p, k, hn, hk => by
    have hM : (maxLen : Int) = 9223372036854775807 := rfl
    obtain ⟨k, rfl⟩ : ∃ j, k = j + 1 := ⟨k - 1, by omega⟩
    simp only [List.length_cons] at hn hk
    have hlen : ((p ++ v :: s).length : Int) = p.length + s.length + 1 := by simp only [List.length_append, List.length_cons]; omega
    simp only [pvq_fair.l0]
    rw [if_pos (by omega), if_pos (by omega), if_pos (by omega), rd_mid]
    unfold num_Clamp.f
    by_cases c : -1048576 ≤ v ∧ v ≤ 1048576
    · rw [if_neg (by omega), if_neg (by omega), show inc (v :: s) = inc s by simp only [inc, decide_eq_true c, Bool.true_and]]
      simp only [Option.bind_some, if_true]
      rw [w64 (by omega) (by omega)]
      have ih := fair_loop whole s (p ++ [v]) k (by simp only [List.length_append, List.length_cons, List.length_nil]; omega) (by omega)
      simp only [List.append_assoc, List.singleton_append] at ih
      rw [show (((p ++ [v]).length : Nat) : Int) = (p.length : Int) + 1 by simp only [List.length_append, List.length_cons, List.length_nil]; omega] at ih
      exact ih
    · rw [show inc (v :: s) = false by simp only [inc, decide_eq_false c, Bool.false_and], Bool.false_and]
      by_cases c1 : v < -1048576
      · rw [if_pos c1]; simp only [Option.bind_some]; rw [if_neg (by omega)]
      · rw [if_neg c1, if_pos (by omega)]; simp only [Option.bind_some]; rw [if_neg (by omega)]
theorem fair_eq (l : List Int) (hl : l.length ≤ maxLen) (k : Nat) (hk : l.length < k) : pvq_fair.f k l = some (fairL l) := by
  unfold pvq_fair.f
  have := fair_loop l l [] k (by simpa using hl) hk
  simp only [List.nil_append, List.length_nil] at this
  rw [show ((0 : Nat) : Int) = 0 from rfl] at this
  exact this
theorem square_loop : ∀ (s p : List Int) (a : Int) (k : Nat), inc s = true → p.length + s.length ≤ 16 → 0 ≤ a → a ≤ 1099511627776 * (p.length : Int) → s.length < k →
    pvq_Square.l0 k a (p ++ s) ((p ++ s).length : Int) (p.length : Int) = some (a + sq s, 0)
  | [], p, a, k, hc, hn, h0, h1, hk => by
    obtain ⟨k, rfl⟩ : ∃ j, k = j + 1 := ⟨k - 1, by omega⟩
    simp only [pvq_Square.l0, List.append_nil, sq]
    rw [if_neg (by omega), Int.add_zero]
  | v :: s, p, a, k, hc, hn, h0, h1, hk => by
    obtain ⟨k, rfl⟩ : ∃ j, k = j + 1 := ⟨k - 1, by omega⟩
    simp only [List.length_cons] at hn hk
    simp only [inc, Bool.and_eq_true, decide_eq_true_eq] at hc
    have hv := sq_one hc.1
    have hlen : ((p ++ v :: s).length : Int) = p.length + s.length + 1 := by simp only [List.length_append, List.length_cons]; omega
    simp only [pvq_Square.l0]
    rw [if_pos (by omega), if_pos (by omega), if_pos (by omega), rd_mid, w64 (x := v * v) (by omega) (by omega), u64w (x := v * v) (by omega) (by omega), u64w (by omega) (by omega), w64 (by omega) (by omega)]
    have ih := square_loop s (p ++ [v]) (a + v * v) k hc.2 (by simp only [List.length_append, List.length_cons, List.length_nil]; omega) (by omega) (by simp only [List.length_append, List.length_cons, List.length_nil]; omega) (by omega)
    simp only [List.append_assoc, List.singleton_append] at ih
    rw [show (((p ++ [v]).length : Nat) : Int) = (p.length : Int) + 1 by simp only [List.length_append, List.length_cons, List.length_nil]; omega] at ih
    rw [ih, sq, Int.add_assoc]
theorem square_eq (l : List Int) (hl : l.length ≤ maxLen) (k : Nat) (hk : l.length < k) : pvq_Square.f k l = some (if fairL l = true then (sq l, 0) else (0, 1)) := by
  unfold pvq_Square.f
  rw [fair_eq l hl k hk]
  simp only [Option.bind_some]
  by_cases c : fairL l = true
  · rw [if_pos c, if_pos c]
    have c' := c
    simp only [fairL, Bool.and_eq_true, decide_eq_true_eq] at c'
    have := square_loop l [] 0 k c'.1 (by simp only [List.length_nil]; omega) (Int.le_refl _) (by simp) hk
    simp only [List.nil_append, List.length_nil, Int.zero_add] at this
    rw [show ((0 : Nat) : Int) = 0 from rfl] at this
    exact this
  · rw [if_neg c, if_neg c]
theorem refSize (v : Int) (h : -1048576 ≤ v ∧ v ≤ 1048576) : ∃ n, psalteryref07_size.f v = some n ∧ 0 ≤ n ∧ n * n = v * v ∧ n ≤ 1048576 := by
  unfold psalteryref07_size.f
  by_cases c : v < 0
  · rw [if_pos c, w64 (by omega) (by omega)]; exact ⟨_, rfl, by omega, Int.neg_mul_neg _ _, by omega⟩
  · rw [if_neg c]; exact ⟨_, rfl, by omega, rfl, h.2⟩
theorem refSquare_loop : ∀ (s p : List Int) (a : Int) (k : Nat), inc s = true → p.length + s.length ≤ 16 → 0 ≤ a → a ≤ 1099511627776 * (p.length : Int) → s.length < k →
    psalteryref07_Square.l0 k (p ++ s) a (p.length : Int) = some (a + sq s)
  | [], p, a, k, hc, hn, h0, h1, hk => by
    obtain ⟨k, rfl⟩ : ∃ j, k = j + 1 := ⟨k - 1, by omega⟩
    simp only [psalteryref07_Square.l0, List.append_nil, sq]
    rw [if_neg (by omega), Int.add_zero]
  | v :: s, p, a, k, hc, hn, h0, h1, hk => by
    obtain ⟨k, rfl⟩ : ∃ j, k = j + 1 := ⟨k - 1, by omega⟩
    simp only [List.length_cons] at hn hk
    simp only [inc, Bool.and_eq_true, decide_eq_true_eq] at hc
    have hv := sq_one hc.1
    obtain ⟨n, hn1, hn2, hn3, hn4⟩ := refSize v hc.1
    have hlen : ((p ++ v :: s).length : Int) = p.length + s.length + 1 := by simp only [List.length_append, List.length_cons]; omega
    simp only [psalteryref07_Square.l0]
    rw [if_pos (by omega), if_pos (by omega), rd_mid, hn1]
    simp only [Option.bind_some]
    rw [u64w (x := n) (by omega) (by omega), hn3, u64w (x := v * v) (by omega) (by omega), u64w (by omega) (by omega), w64 (by omega) (by omega)]
    have ih := refSquare_loop s (p ++ [v]) (a + v * v) k hc.2 (by simp only [List.length_append, List.length_cons, List.length_nil]; omega) (by omega) (by simp only [List.length_append, List.length_cons, List.length_nil]; omega) (by omega)
    simp only [List.append_assoc, List.singleton_append] at ih
    rw [show (((p ++ [v]).length : Nat) : Int) = (p.length : Int) + 1 by simp only [List.length_append, List.length_cons, List.length_nil]; omega] at ih
    rw [ih, sq, Int.add_assoc]
theorem refSquare_eq (l : List Int) (h : inc l = true) (hl : l.length ≤ 16) (k : Nat) (hk : 16 < k) : psalteryref07_Square.f k l = some (sq l) := by
  unfold psalteryref07_Square.f
  have := refSquare_loop l [] 0 k h (by simp only [List.length_nil]; omega) (Int.le_refl _) (by simp) (by omega)
  simp only [List.nil_append, List.length_nil, Int.zero_add] at this
  rw [show ((0 : Nat) : Int) = 0 from rfl] at this
  exact this
def gn (l : List Int) : Int := lg (sq l).toNat + 1
theorem gn_bound (l : List Int) (h : inc l = true) (hl : l.length ≤ 8) : 0 ≤ gn l ∧ gn l ≤ 44 := by
  have h1 := sq_bound h
  have h2 := lg_lower (sq l).toNat
  have h3 := lg_upper 44 (sq l).toNat (by have : (2 : Nat) ^ 44 = 17592186044416 := by decide
                                          omega)
  unfold gn; omega
theorem gain_eq (l : List Int) (hl : l.length ≤ maxLen) (k : Nat) (hk : l.length + 100 < k) : band_Gain.f k l = some (if fairL l = true ∧ l.length ≤ 8 then (gn l, 0) else (0, 1)) := by
  unfold band_Gain.f
  rw [square_eq l hl k (by omega)]
  simp only [Option.bind_some]
  by_cases c : fairL l = true
  · rw [if_pos c]
    simp only [if_true]
    by_cases c1 : l.length ≤ 8
    · rw [if_neg (by omega), if_pos ⟨c, c1⟩]
      have c' := c
      simp only [fairL, Bool.and_eq_true, decide_eq_true_eq] at c'
      have hb := sq_bound c'.1
      have hg := gn_bound l c'.1 c1
      unfold band_gain.f
      rw [log_eq hb.1 (by omega) k (by omega)]
      simp only [Option.bind_some]
      unfold gn at hg ⊢
      rw [w64 (by omega) (by omega)]
    · rw [if_pos (by omega), if_neg (fun h => c1 h.2)]
  · rw [if_neg c]
    rw [if_neg (show ¬ ((0 : Int), (1 : Int)).2 = 0 by decide), if_neg (fun h => c h.1)]
theorem refGain_loop (m : Nat) : ∀ (k : Nat) (n c : Int), 0 ≤ n → n < 2 ^ m → 0 ≤ c → c + m ≤ 1000 → m ≤ 64 → m < k → psalteryref10_Gain.l0 k n c = some (c + 1 + lg n.toNat) := by
  induction m with
  | zero =>
    intro k n c h0 h1 h2 h3 hm hk
    obtain ⟨k, rfl⟩ : ∃ m, k = m + 1 := ⟨k - 1, by omega⟩
    simp only [psalteryref10_Gain.l0]
    simp only [Int.pow_zero] at h1
    rw [if_neg (by omega), show n.toNat = 0 by omega, lg_zero]; congr 1; omega
  | succ m ih =>
    intro k n c h0 h1 h2 h3 hm hk
    obtain ⟨k, rfl⟩ : ∃ m, k = m + 1 := ⟨k - 1, by omega⟩
    have hb : (2 : Int) ^ (m + 1) ≤ 18446744073709551616 := by
      have : (2 : Nat) ^ (m + 1) ≤ 2 ^ 64 := Nat.pow_le_pow_right (by omega) hm
      have := Int.ofNat_le.2 this; simpa using this
    simp only [psalteryref10_Gain.l0]
    by_cases h : n > 0
    · rw [if_pos h, tdiv_nn 2 h0, u64w (by omega) (by omega), w64 (by omega) (by omega), ih k (n / 2) (c + 1) (by omega) (by rw [pow_succ'] at h1; omega) (by omega) (by omega) (by omega) (by omega), lg_pos (n := n.toNat) (by omega), show (n / 2).toNat = n.toNat / 2 by omega]
      congr 1; omega
    · rw [if_neg h, show n.toNat = 0 by omega, lg_zero]; congr 1; omega
theorem refGain_eq (l : List Int) (h : inc l = true) (hl : l.length ≤ 16) (k : Nat) (hk : 100 < k) : psalteryref10_Gain.f k l = some (gn l) := by
  unfold psalteryref10_Gain.f
  have hb := sq_bound h
  rw [refSquare_eq l h hl k (by omega)]
  simp only [Option.bind_some]
  have e : (2 : Int) ^ 50 = 1125899906842624 := by decide
  rw [refGain_loop 50 k (sq l) 0 hb.1 (by omega) (Int.le_refl _) (by omega) (by omega) (by omega)]
  unfold gn; congr 1; omega
def frm (b : Int) : Int := if b = 1 then 1 else if b = 2 then 2 else if b = 3 then 4 else if b = 4 then 8 else 0
def wid (b : Int) : Int := if b = 0 then 1 else if b = 1 then 1 else if b = 2 then 2 else if b = 3 then 4 else if b = 4 then 8 else 0
theorem refFrom_eq (b : Int) : psalteryref10_From.f b = some (frm b) := by
  unfold psalteryref10_From.f frm; repeat' split
  all_goals first | rfl | omega
theorem refWidth_eq (b : Int) (k : Nat) (hk : 0 < k) : psalteryref10_Width.f k b = some (wid b) := by
  obtain ⟨k, rfl⟩ : ∃ j, k = j + 1 := ⟨k - 1, by omega⟩
  unfold psalteryref10_Width.f wid
  simp only [psalteryref10_Width.j0]
  by_cases h0 : b = 0
  · subst h0; rfl
  by_cases h1 : b = 1
  · subst h1; rfl
  rw [if_neg h0, if_neg h0, if_neg h1, if_neg (by simpa using h1)]
  repeat' split
  all_goals first | rfl | omega
theorem there_eq (b : Int) : band_there.f b = some (decide (0 ≤ b ∧ b < 5)) := by
  unfold band_there.f
  by_cases c : b ≥ 0
  · rw [if_pos c]; congr 1; rw [decide_eq_decide]; omega
  · rw [if_neg c]; congr 1; rw [decide_eq_false (by omega)]
theorem from_eq (b : Int) : band_From.f b = some (frm b) := by
  by_cases c : 0 ≤ b ∧ b < 5
  · have : b = 0 ∨ b = 1 ∨ b = 2 ∨ b = 3 ∨ b = 4 := by omega
    rcases this with rfl | rfl | rfl | rfl | rfl <;> decide +kernel
  · unfold band_From.f frm
    rw [there_eq, decide_eq_false c]
    simp only [Option.bind_some]
    rw [if_neg (by simp), if_neg (by omega), if_neg (by omega), if_neg (by omega), if_neg (by omega)]
theorem width_eq (b : Int) : band_Width.f b = some (wid b) := by
  by_cases c : 0 ≤ b ∧ b < 5
  · have : b = 0 ∨ b = 1 ∨ b = 2 ∨ b = 3 ∨ b = 4 := by omega
    rcases this with rfl | rfl | rfl | rfl | rfl <;> decide +kernel
  · unfold band_Width.f wid
    rw [there_eq, decide_eq_false c]
    simp only [Option.bind_some]
    rw [if_neg (by simp), if_neg (by omega), if_neg (by omega), if_neg (by omega), if_neg (by omega), if_neg (by omega)]
end Go.Proofs.Ytdajlfijkbafiaa.LQ
namespace Go.Proofs.Ytdajlfijkbafiaa.LQ
open Go.RowKit Go.Proofs.YtdajlfijkbafiaaW.PrintWords Go.Proofs.YtdajlfijkbafiaaW.PrintLast Go.Proofs.YtdajlfijkbafiaaW.PrintMore Go.Proofs.Ytdajlfijkbafiaa.P Go.Proofs.Ytdajlfijkbafiaa.LB Go.Proofs.Ytdajlfijkbafiaa.LF
def fN (b : Nat) : Nat := if b = 0 then 0 else if b = 1 then 1 else if b = 2 then 2 else if b = 3 then 4 else 8
def wN (b : Nat) : Nat := if b = 0 then 1 else if b = 1 then 1 else if b = 2 then 2 else if b = 3 then 4 else 8
def bnd (l : List Int) (b : Nat) : List Int := (l.drop (fN b)).take (wN b)
theorem fw_facts (b : Nat) (h : b < 5) : frm (b : Int) = (fN b : Int) ∧ wid (b : Int) = (wN b : Int) ∧ fN b + wN b ≤ 16 ∧ 1 ≤ wN b ∧ wN b ≤ 8 := by
  have : b = 0 ∨ b = 1 ∨ b = 2 ∨ b = 3 ∨ b = 4 := by omega
  rcases this with rfl | rfl | rfl | rfl | rfl <;> decide
theorem bnd_length (l : List Int) (hl : l.length = 16) (b : Nat) (h : b < 5) : (bnd l b).length = wN b := by
  have := fw_facts b h
  unfold bnd; rw [List.length_take, List.length_drop]; omega
theorem bnd_inc {l : List Int} (h : inc l = true) (b : Nat) : inc (bnd l b) = true :=
  inc_of fun x hx => inc_mem h x (List.mem_of_mem_drop (List.mem_of_mem_take hx))
theorem split_step (l : List Int) (hl : l.length = 16) (b : Nat) (h : b < 5) (acc : List (List Int)) (ha : acc.length ≤ 10) (k : Nat) :
    band_Split.l0 (k + 1) l acc (b : Int) = band_Split.l0 k l (acc ++ [bnd l b]) ((b + 1 : Nat) : Int) := by
  obtain ⟨e1, e2, e3, e4, e5⟩ := fw_facts b h
  conv => lhs; unfold band_Split.l0
  rw [if_pos (by omega), from_eq, width_eq]
  simp only [Option.bind_some]
  rw [e1, e2, w64 (x := (fN b : Int) + (wN b : Int)) (by omega) (by omega), if_pos (by omega), if_pos (by omega), if_pos (by omega), if_pos (by omega), w64 (by omega) (by omega), show (b : Int) + 1 = ((b + 1 : Nat) : Int) by omega]
  congr 2
  unfold bnd
  rw [show ((fN b : Int) + (wN b : Int)).toNat = fN b + wN b by omega, Int.toNat_natCast, List.drop_take, show fN b + wN b - fN b = wN b by omega]
def bands (l : List Int) : List (List Int) := [bnd l 0, bnd l 1, bnd l 2, bnd l 3, bnd l 4]
theorem split_all (l : List Int) (hl : l.length = 16) (k : Nat) : band_Split.l0 (k + 6) l [] 0 = some (bands l, 0) := by
  have s0 := split_step l hl 0 (by omega) [] (by simp) (k + 5)
  have s1 := split_step l hl 1 (by omega) [bnd l 0] (by simp) (k + 4)
  have s2 := split_step l hl 2 (by omega) [bnd l 0, bnd l 1] (by simp) (k + 3)
  have s3 := split_step l hl 3 (by omega) [bnd l 0, bnd l 1, bnd l 2] (by simp) (k + 2)
  have s4 := split_step l hl 4 (by omega) [bnd l 0, bnd l 1, bnd l 2, bnd l 3] (by simp) (k + 1)
  simp only [List.nil_append, List.cons_append] at s0 s1 s2 s3 s4
  refine s0.trans (s1.trans (s2.trans (s3.trans (s4.trans ?_))))
  simp only [band_Split.l0]
  rw [if_neg (by omega)]; rfl
theorem split_eq (l : List Int) (hl : l.length ≤ maxLen) (hm : l.length * 8 ≤ 140737488351232) (k : Nat) (hk : l.length + 100 < k) : band_Split.f k l = some (if fairL l = true ∧ l.length = 16 then (bands l, 0) else ([], 1)) := by
  obtain ⟨k, rfl⟩ : ∃ j, k = j + 7 := ⟨k - 7, by omega⟩
  unfold band_Split.f
  rw [square_eq l hl (k + 7) (by omega)]
  simp only [Option.bind_some]
  have bad : band_Split.j0 (k + 7) l true = some ([], 1) := by simp only [band_Split.j0, if_true]
  by_cases c : fairL l = true
  · rw [if_pos c]
    simp only [if_true]
    by_cases c1 : l.length = 16
    · rw [if_pos ⟨c, c1⟩, show ((l.length : Int) != 16) = false by rw [c1]; rfl]
      simp only [band_Split.j0, Bool.false_eq_true, if_false, Option.bind_some, List.nil_append, List.length_nil]
      rw [if_pos (by omega)]
      exact split_all l c1 k
    · rw [if_neg (fun h => c1 h.2), show ((l.length : Int) != 16) = true by rw [bne_iff_ne]; omega]; exact bad
  · rw [if_neg c, if_neg (show ¬ ((0 : Int), (1 : Int)).2 = 0 by decide), if_neg (fun h => c h.1)]; exact bad
def gns (l : List Int) : List Int := [gn (bnd l 0), gn (bnd l 1), gn (bnd l 2), gn (bnd l 3), gn (bnd l 4)]
theorem gain_band {l : List Int} (h : inc l = true) (hl : l.length = 16) (b : Nat) (hb : b < 5) (k : Nat) (hk : 200 < k) : band_Gain.f k (bnd l b) = some (gn (bnd l b), 0) := by
  obtain ⟨e1, e2, e3, e4, e5⟩ := fw_facts b hb
  have e6 := bnd_length l hl b hb
  rw [gain_eq _ (by rw [e6]; unfold maxLen; omega) k (by omega), if_pos ⟨by simp only [fairL, Bool.and_eq_true, decide_eq_true_eq]; exact ⟨bnd_inc h b, by omega⟩, by omega⟩]
theorem gains_step {l : List Int} (h : inc l = true) (hl : l.length = 16) (b : Nat) (hb : b < 5) (acc : List Int) (ha : acc.length ≤ 10) (k : Nat) (hk : 200 < k) :
    band_Gains.l0 (k + 1) acc (bands l) 5 (b : Int) = band_Gains.l0 k (acc ++ [gn (bnd l b)]) (bands l) 5 ((b + 1 : Nat) : Int) := by
  conv => lhs; unfold band_Gains.l0
  have e : rd_L2 (bands l) (b : Int) = bnd l b := by
    have : b = 0 ∨ b = 1 ∨ b = 2 ∨ b = 3 ∨ b = 4 := by omega
    rcases this with rfl | rfl | rfl | rfl | rfl <;> rfl
  rw [if_pos (by omega), if_pos (by omega), if_pos (by simp only [bands, List.length_cons, List.length_nil]; omega), e, gain_band h hl b hb k hk]
  simp only [Option.bind_some]
  rw [if_pos (by omega), w64 (by omega) (by omega), show (b : Int) + 1 = ((b + 1 : Nat) : Int) by omega]
theorem gains_all {l : List Int} (h : inc l = true) (hl : l.length = 16) (k : Nat) (hk : 200 < k) : band_Gains.l0 (k + 6) [] (bands l) 5 0 = some (gns l, 0) := by
  have s0 := gains_step h hl 0 (by omega) [] (by simp) (k + 5) (by omega)
  have s1 := gains_step h hl 1 (by omega) [gn (bnd l 0)] (by simp) (k + 4) (by omega)
  have s2 := gains_step h hl 2 (by omega) [gn (bnd l 0), gn (bnd l 1)] (by simp) (k + 3) (by omega)
  have s3 := gains_step h hl 3 (by omega) [gn (bnd l 0), gn (bnd l 1), gn (bnd l 2)] (by simp) (k + 2) (by omega)
  have s4 := gains_step h hl 4 (by omega) [gn (bnd l 0), gn (bnd l 1), gn (bnd l 2), gn (bnd l 3)] (by simp) (k + 1) (by omega)
  simp only [List.nil_append, List.cons_append] at s0 s1 s2 s3 s4
  refine s0.trans (s1.trans (s2.trans (s3.trans (s4.trans ?_))))
  simp only [band_Gains.l0]
  rw [if_neg (by omega)]; rfl
theorem gains_pos {l : List Int} (h : inc l = true) (hl : l.length = 16) (k : Nat) (hk : 400 < k) (e : band_Split.f (k + 6) l = some (bands l, 0)) : band_Gains.f (k + 6) l = some (gns l, 0) := by
  unfold band_Gains.f
  rw [e, Option.bind_some]
  generalize hb : bands l = bl
  have h5 : (bl.length : Int) = 5 := by rw [← hb]; rfl
  show (if (0 : Int) = 0 then band_Gains.l0 (k + 6) [] bl (bl.length : Int) 0 else _) = _
  rw [if_pos rfl, h5, ← hb]
  exact gains_all h hl k (by omega)
theorem gains_neg {l : List Int} (k : Nat) (e : band_Split.f k l = some ([], 1)) : band_Gains.f k l = some ([], 1) := by
  unfold band_Gains.f
  rw [e, Option.bind_some]
  rw [if_neg (show ¬ (([] : List (List Int)), (1 : Int)).2 = 0 by decide)]
theorem gains_eq (l : List Int) (hl : l.length ≤ maxLen) (hm : l.length * 8 ≤ 140737488351232) (k : Nat) (hk : l.length + 500 < k) : band_Gains.f k l = some (if fairL l = true ∧ l.length = 16 then (gns l, 0) else ([], 1)) := by
  have e := split_eq l hl hm k (by omega)
  by_cases c : fairL l = true ∧ l.length = 16
  · rw [if_pos c] at e ⊢
    have c' := c.1
    simp only [fairL, Bool.and_eq_true, decide_eq_true_eq] at c'
    obtain ⟨k, rfl⟩ : ∃ j, k = j + 6 := ⟨k - 6, by omega⟩
    exact gains_pos c'.1 c.2 k (by omega) e
  · rw [if_neg c] at e ⊢
    exact gains_neg k e
theorem band_loop (l : List Int) (hl : l.length = 16) (b : Nat) (hb : b < 5) (d : Nat) : ∀ (i k : Nat), i + d = wN b → d + 1 < k → psalteryref10_Band.l0 k l (b : Int) ((l.drop (fN b)).take i) (i : Int) = some (bnd l b) := by
  obtain ⟨e1, e2, e3, e4, e5⟩ := fw_facts b hb
  induction d with
  | zero =>
    intro i k hi hk
    obtain ⟨k, rfl⟩ : ∃ j, k = j + 1 := ⟨k - 1, by omega⟩
    conv => lhs; unfold psalteryref10_Band.l0
    rw [refWidth_eq _ k (by omega), e2]
    simp only [Option.bind_some]
    rw [if_neg (by omega), show i = wN b by omega]; rfl
  | succ d ih =>
    intro i k hi hk
    obtain ⟨k, rfl⟩ : ∃ j, k = j + 1 := ⟨k - 1, by omega⟩
    have nx := ih (i + 1) k (by omega) (by omega)
    conv => lhs; unfold psalteryref10_Band.l0
    rw [refWidth_eq _ k (by omega), e2, Option.bind_some, refFrom_eq, e1, Option.bind_some]
    have ht : ((l.drop (fN b)).take i).length = i := by rw [List.length_take, List.length_drop]; omega
    have hs : (l.drop (fN b)).take (i + 1) = (l.drop (fN b)).take i ++ [rd l ((fN b : Int) + (i : Int))] := by
      have h1 : i < (l.drop (fN b)).length := by rw [List.length_drop]; omega
      have h2 : fN b + i < l.length := by omega
      rw [List.take_succ_eq_append_getElem h1]
      have h3 : rd l ((fN b : Int) + (i : Int)) = l[fN b + i] := by
        rw [show ((fN b : Int) + (i : Int)) = ((fN b + i : Nat) : Int) by omega]
        simp only [rd, List.getD_eq_getElem?_getD, Int.toNat_natCast]
        rw [List.getElem?_eq_getElem h2]; rfl
      rw [h3, List.getElem_drop]
    rw [if_pos (by omega), w64 (x := (fN b : Int) + (i : Int)) (by omega) (by omega), if_pos (by omega), if_pos (by omega), if_pos (by omega), w64 (by omega) (by omega), ← hs, show (i : Int) + 1 = ((i + 1 : Nat) : Int) by omega]
    exact nx
theorem band_eq (l : List Int) (hl : l.length = 16) (b : Nat) (hb : b < 5) (k : Nat) (hk : 20 < k) : psalteryref10_Band.f k l (b : Int) = some (bnd l b) := by
  obtain ⟨e1, e2, e3, e4, e5⟩ := fw_facts b hb
  have := band_loop l hl b hb (wN b) 0 k (by omega) (by omega)
  simpa [psalteryref10_Band.f] using this
theorem refGains_step {l : List Int} (h : inc l = true) (hl : l.length = 16) (b : Nat) (hb : b < 5) (acc : List Int) (ha : acc.length ≤ 10) (k : Nat) (hk : 200 < k) :
    psalteryref10_Gains.l0 (k + 1) l acc (b : Int) = psalteryref10_Gains.l0 k l (acc ++ [gn (bnd l b)]) ((b + 1 : Nat) : Int) := by
  obtain ⟨e1, e2, e3, e4, e5⟩ := fw_facts b hb
  conv => lhs; unfold psalteryref10_Gains.l0
  rw [if_pos (by omega), band_eq l hl b hb k (by omega)]
  simp only [Option.bind_some]
  rw [refGain_eq _ (bnd_inc h b) (by rw [bnd_length l hl b hb]; omega) k (by omega)]
  simp only [Option.bind_some]
  rw [if_pos (by omega), w64 (by omega) (by omega), show (b : Int) + 1 = ((b + 1 : Nat) : Int) by omega]
theorem refGains_eq {l : List Int} (h : inc l = true) (hl : l.length = 16) (k : Nat) (hk : 300 < k) : psalteryref10_Gains.f k l = some (gns l) := by
  obtain ⟨k, rfl⟩ : ∃ j, k = j + 6 := ⟨k - 6, by omega⟩
  have s0 := refGains_step h hl 0 (by omega) [] (by simp) (k + 5) (by omega)
  have s1 := refGains_step h hl 1 (by omega) [gn (bnd l 0)] (by simp) (k + 4) (by omega)
  have s2 := refGains_step h hl 2 (by omega) [gn (bnd l 0), gn (bnd l 1)] (by simp) (k + 3) (by omega)
  have s3 := refGains_step h hl 3 (by omega) [gn (bnd l 0), gn (bnd l 1), gn (bnd l 2)] (by simp) (k + 2) (by omega)
  have s4 := refGains_step h hl 4 (by omega) [gn (bnd l 0), gn (bnd l 1), gn (bnd l 2), gn (bnd l 3)] (by simp) (k + 1) (by omega)
  simp only [List.nil_append, List.cons_append] at s0 s1 s2 s3 s4
  unfold psalteryref10_Gains.f
  refine s0.trans (s1.trans (s2.trans (s3.trans (s4.trans ?_))))
  simp only [psalteryref10_Gains.l0]
  rw [if_neg (by omega)]; rfl
end Go.Proofs.Ytdajlfijkbafiaa.LQ
namespace Go.Proofs.Ytdajlfijkbafiaa.P
open Go.RowKit Go.Proofs.YtdajlfijkbafiaaW.PrintWords Go.Proofs.YtdajlfijkbafiaaW.PrintLast Go.Proofs.YtdajlfijkbafiaaW.PrintMore
attribute [local go_sem] max2_int min2_int max_two min_two max_three min_three max_four min_four
def psalteryref14_Right.l0 : Nat → List Int → Bool → Int → Option (Bool)
  | 0, _, _, _ => none
  | k + 1, x0, x3, x4 => if x4 < (x0.length : Int) then (if x3 = true then (if 0 ≤ x4 then (if (rd x0 x4) ≥ 0 then (psalteryref14_Right.l0 k x0 (decide ((rd x0 x4) ≤ 44)) (wrap64 (x4 + 1))) else (psalteryref14_Right.l0 k x0 false (wrap64 (x4 + 1)))) else (none)) else (psalteryref14_Right.l0 k x0 false (wrap64 (x4 + 1)))) else (some x3)
def psalteryref14_Right.f (k : Nat) (l0 : List Int) : Option (Bool) := psalteryref14_Right.l0 k l0 ((l0.length : Int) == 6) 0
theorem psalteryref14_Right.mono_l : ∀ k, (∀ y0 y1 y2, LeO (psalteryref14_Right.l0 k y0 y1 y2) (psalteryref14_Right.l0 (k + 1) y0 y1 y2))
  | 0 => fun _ _ _ r h => by simp [psalteryref14_Right.l0] at h
  | k + 1 => by
    have ih0 := psalteryref14_Right.mono_l k
    · intro y0 y1 y2
      unfold psalteryref14_Right.l0
      with_reducible repeat' first
   | exact ih0 _ _ _
   | exact LeO.refl _
   | exact LeO.none _
   | refine LeO.ite ?_ ?_
   | refine LeO.bind ?_ (fun _ => ?_)
theorem psalteryref14_Right.mono : ∀ a0 k, LeO (psalteryref14_Right.f k a0) (psalteryref14_Right.f (k + 1) a0) := by
  intro a0 k
  have ih0 := psalteryref14_Right.mono_l k
  unfold psalteryref14_Right.f
  with_reducible repeat' first
   | exact ih0 _ _ _
   | exact LeO.refl _
   | exact LeO.none _
   | refine LeO.ite ?_ ?_
   | refine LeO.bind ?_ (fun _ => ?_)
end Go.Proofs.Ytdajlfijkbafiaa.P
namespace Go.Proofs.Ytdajlfijkbafiaa.LF
open Go.RowKit Go.Proofs.YtdajlfijkbafiaaW.PrintWords Go.Proofs.YtdajlfijkbafiaaW.PrintLast Go.Proofs.YtdajlfijkbafiaaW.PrintMore Go.Proofs.Ytdajlfijkbafiaa.P Go.Proofs.Ytdajlfijkbafiaa.LB
def inr (lo hi : Int) : List Int → Bool
  | [] => true
  | v :: l => decide (lo ≤ v ∧ v ≤ hi) && inr lo hi l
def okl (n : Nat) (l : List Int) : Bool := inr 0 44 l && l.length == n
theorem inr_mem {lo hi : Int} : ∀ {l : List Int}, inr lo hi l = true → ∀ x ∈ l, lo ≤ x ∧ x ≤ hi
  | [], _, x, hx => by cases hx
  | v :: l, h, x, hx => by
    simp only [inr, Bool.and_eq_true, decide_eq_true_eq] at h
    rcases List.mem_cons.1 hx with rfl | hx
    · exact h.1
    · exact inr_mem h.2 x hx
theorem inr_of {lo hi : Int} : ∀ {l : List Int}, (∀ x ∈ l, lo ≤ x ∧ x ≤ hi) → inr lo hi l = true
  | [], _ => rfl
  | v :: l, h => by
    simp only [inr, Bool.and_eq_true, decide_eq_true_eq]
    exact ⟨h v (List.mem_cons_self ..), inr_of fun x hx => h x (List.mem_cons_of_mem _ hx)⟩
theorem rd_in {lo hi : Int} {l : List Int} (h : inr lo hi l = true) (i : Nat) (hi' : i < l.length) : lo ≤ rd l i ∧ rd l i ≤ hi := by
  have : rd l i ∈ l := by simp [rd, List.getD_eq_getElem?_getD, hi']
  exact inr_mem h _ this
theorem rd_in' {lo hi : Int} {l : List Int} (h : inr lo hi l = true) (i : Int) (h0 : 0 ≤ i) (hi' : i < l.length) : lo ≤ rd l i ∧ rd l i ≤ hi := by
  have := rd_in h i.toNat (by omega); rwa [show ((i.toNat : Nat) : Int) = i by omega] at this
theorem rd_mid (l r : List Int) (x : Int) : rd (l ++ x :: r) (l.length : Int) = x := by simp [rd]
theorem rd_set (l : List Int) (i : Int) (h0 : 0 ≤ i) (h1 : i < l.length) (v : Int) (j : Nat) : rd (l.set i.toNat v) j = if (j : Int) = i then v else rd l j := by
  by_cases h : (j : Int) = i
  · rw [if_pos h]
    obtain ⟨n, rfl⟩ : ∃ n : Nat, i = n := ⟨i.toNat, by omega⟩
    obtain rfl : j = n := by omega
    have : j < l.length := by omega
    simp [rd, List.getD_eq_getElem?_getD, this]
  · rw [if_neg h]
    have : i.toNat ≠ j := by omega
    simp [rd, List.getD_eq_getElem?_getD, List.getElem?_set_ne this]
def at14 (p : Int) : Int := if p = 0 then 0 else if p = 1 then 1 else if p = 2 then 2 else if p = 3 then 4 else if p = 4 then 8 else if p = 5 then 15 else -1
theorem at_eq (p : Int) : floor_At.f p = some (at14 p) := rfl
theorem refAt_eq (p : Int) (k : Nat) (hk : 0 < k) : psalteryref14_At.f k p = some (at14 p) := by
  obtain ⟨k, rfl⟩ : ∃ j, k = j + 1 := ⟨k - 1, by omega⟩
  unfold psalteryref14_At.f at14
  simp only [psalteryref14_At.j0]
  by_cases h0 : p = 0
  · subst h0; rfl
  by_cases h1 : p = 1
  · subst h1; rfl
  rw [if_neg h0, if_neg h1, if_neg h0, if_neg h1]
  by_cases h2 : p = 2
  · subst h2; rfl
  rw [if_neg h2, if_neg (by simpa using h2)]
  repeat' split
  all_goals rfl
theorem gains_loop (whole : List Int) (many : Int) : ∀ (s p : List Int) (k : Nat), p.length + s.length ≤ maxLen → s.length < k →
    floor_gains.l0 k whole many (p ++ s) ((p ++ s).length : Int) (p.length : Int) = some (if inr 0 44 s = true then ((whole.length : Int) == many) else false)
  | [], p, k, hn, hk => by
    obtain ⟨k, rfl⟩ : ∃ j, k = j + 1 := ⟨k - 1, by omega⟩
    simp only [floor_gains.l0, List.append_nil]
    rw [if_neg (by omega)]; simp [inr]
  | v :: s, p, k, hn, hk => by
    have hM : (maxLen : Int) = 9223372036854775807 := rfl
    obtain ⟨k, rfl⟩ : ∃ j, k = j + 1 := ⟨k - 1, by omega⟩
    simp only [List.length_cons] at hn hk
    have hlen : ((p ++ v :: s).length : Int) = p.length + s.length + 1 := by simp only [List.length_append, List.length_cons]; omega
    simp only [floor_gains.l0]
    rw [if_pos (by omega), if_pos (by omega), if_pos (by omega), rd_mid]
    by_cases c : 0 ≤ v ∧ v ≤ 44
    · rw [if_neg (by omega), if_neg (by omega), w64 (by omega) (by omega), show inr 0 44 (v :: s) = inr 0 44 s by simp only [inr, decide_eq_true c, Bool.true_and]]
      have ih := gains_loop whole many s (p ++ [v]) k (by simp only [List.length_append, List.length_cons, List.length_nil]; omega) (by omega)
      simp only [List.append_assoc, List.singleton_append] at ih
      rw [show (((p ++ [v]).length : Nat) : Int) = (p.length : Int) + 1 by simp only [List.length_append, List.length_cons, List.length_nil]; omega] at ih
      exact ih
    · rw [show inr 0 44 (v :: s) = false by simp only [inr, decide_eq_false c, Bool.false_and]]
      by_cases c1 : v < 0
      · rw [if_pos c1]; rfl
      · rw [if_neg c1, if_pos (by omega)]; rfl
theorem gains_eq (l : List Int) (n : Nat) (hl : l.length ≤ maxLen) (k : Nat) (hk : l.length < k) : floor_gains.f k l (n : Int) = some (okl n l) := by
  unfold floor_gains.f
  have := gains_loop l n l [] k (by simpa using hl) hk
  simp only [List.nil_append, List.length_nil] at this
  rw [show ((0 : Nat) : Int) = 0 from rfl] at this
  rw [this]
  have e : ((l.length : Int) == (n : Int)) = (l.length == n) := by rw [Bool.eq_iff_iff]; simp only [beq_iff_eq]; omega
  unfold okl
  rw [e]; cases inr 0 44 l <;> simp
theorem right_eq (l : List Int) (hl : l.length ≤ maxLen) (k : Nat) (hk : l.length < k) : floor_Right.f k l = some (okl 6 l) := by
  unfold floor_Right.f
  have := gains_eq l 6 hl k hk
  rw [show ((6 : Nat) : Int) = 6 from rfl] at this
  rw [this]; rfl
def fitv (g q : Int) : Int := if q = 0 then 0 else if g - 13 + q < 0 then 0 else if g - 13 + q > 44 then 44 else g - 13 + q
theorem fitv_in (g q : Int) : 0 ≤ fitv g q ∧ fitv g q ≤ 44 := by
  unfold fitv; repeat' split
  all_goals omega
theorem rd_rep (n j : Nat) : rd (List.replicate n 0) (j : Int) = 0 := by
  simp only [rd, List.getD_eq_getElem?_getD, Int.toNat_natCast, List.getElem?_replicate]; split <;> rfl
theorem fit_loop (l : List Int) (q : Int) (hl : okl 5 l = true) (hq : 0 ≤ q ∧ q ≤ 12) (d : Nat) : ∀ (i k : Nat) (out : List Int), i + d = 6 → d < k → out.length = 6 → (∀ j : Nat, i ≤ j → j < 6 → rd out j = 0) →
    ∃ out' : List Int, floor_Fit.l0 k l q out (i : Int) = some (out', 0) ∧ out'.length = 6 ∧ ∀ j : Nat, j < 6 → rd out' j = if j < i then rd out j else fitv (rd l (min (j : Int) 4)) q := by
  simp only [okl, Bool.and_eq_true, beq_iff_eq] at hl
  induction d with
  | zero =>
    intro i k out hi hk ho hz
    obtain ⟨k, rfl⟩ : ∃ j, k = j + 1 := ⟨k - 1, by omega⟩
    refine ⟨out, ?_, ho, fun j hj => by rw [if_pos (by omega)]⟩
    simp only [floor_Fit.l0]; rw [if_neg (by omega)]
  | succ d ih =>
    intro i k out hi hk ho hz
    obtain ⟨k, rfl⟩ : ∃ j, k = j + 1 := ⟨k - 1, by omega⟩
    simp only [floor_Fit.l0]
    rw [if_pos (by omega), w64 (x := (i : Int) + 1) (by omega) (by omega), show (i : Int) + 1 = ((i + 1 : Nat) : Int) by omega]
    by_cases c : q > 0
    · have em : mn (i : Int) 4 = min (i : Int) 4 := by unfold mn; split <;> omega
      have hb := rd_in' hl.1 (min (i : Int) 4) (by omega) (by omega)
      rw [if_pos c, em, if_pos (by omega), if_pos (by omega), if_pos (by omega), if_pos (by omega), w64 (x := rd l (min (i : Int) 4) - 13) (by omega) (by omega), w64 (x := rd l (min (i : Int) 4) - 13 + q) (by omega) (by omega)]
      have ev : mx 0 (mn (rd l (min (i : Int) 4) - 13 + q) 44) = fitv (rd l (min (i : Int) 4)) q := by
        unfold mx mn fitv
        repeat' split
        all_goals omega
      rw [ev]
      have hs := rd_set out (i : Int) (by omega) (by omega) (fitv (rd l (min (i : Int) 4)) q)
      obtain ⟨out', h1, h2, h3⟩ := ih (i + 1) k (out.set (i : Int).toNat (fitv (rd l (min (i : Int) 4)) q)) (by omega) (by omega) (by rw [List.length_set]; exact ho) (fun j hj hj' => by rw [hs, if_neg (by omega)]; exact hz j (by omega) hj')
      refine ⟨out', h1, h2, fun j hj => ?_⟩
      rw [h3 j hj, hs]
      by_cases e : j < i
      · rw [if_pos (by omega), if_neg (by omega), if_pos e]
      · rw [if_neg e]
        by_cases e' : j = i
        · subst e'; rw [if_pos (by omega), if_pos rfl]
        · rw [if_neg (by omega)]
    · rw [if_neg c]
      obtain ⟨out', h1, h2, h3⟩ := ih (i + 1) k out (by omega) (by omega) ho (fun j hj hj' => hz j (by omega) hj')
      refine ⟨out', h1, h2, fun j hj => ?_⟩
      rw [h3 j hj]
      by_cases e : j < i
      · rw [if_pos (by omega), if_pos e]
      · rw [if_neg e]
        by_cases e' : j = i
        · rw [if_pos (by omega), hz j (by omega) hj]; unfold fitv; rw [if_pos (by omega)]
        · rw [if_neg (by omega)]
theorem fit_eq (l : List Int) (q : Int) (hl : l.length ≤ maxLen) (k : Nat) (hk : l.length + 10 < k) :
    (okl 5 l = true ∧ 0 ≤ q ∧ q ≤ 12 ∧ ∃ out : List Int, floor_Fit.f k l q = some (out, 0) ∧ out.length = 6 ∧ ∀ j : Nat, j < 6 → rd out j = fitv (rd l (min (j : Int) 4)) q) ∨
    (¬ (okl 5 l = true ∧ 0 ≤ q ∧ q ≤ 12) ∧ floor_Fit.f k l q = some ([], 1)) := by
  obtain ⟨k, rfl⟩ : ∃ j, k = j + 1 := ⟨k - 1, by omega⟩
  have hg := gains_eq l 5 hl (k + 1) (by omega)
  rw [show ((5 : Nat) : Int) = 5 from rfl] at hg
  unfold floor_Fit.f
  rw [hg]
  simp only [Option.bind_some, floor_Fit.j0, if_true]
  by_cases h : okl 5 l = true
  · rw [if_pos h]
    by_cases h1 : q < 0
    · rw [if_pos h1]; exact .inr ⟨fun x => by omega, rfl⟩
    rw [if_neg h1]
    by_cases h2 : q > 12
    · rw [if_pos (decide_eq_true h2)]; exact .inr ⟨fun x => by omega, rfl⟩
    · rw [decide_eq_false h2, if_neg (by decide), if_pos (by decide)]
      obtain ⟨out, e1, e2, e3⟩ := fit_loop l q h ⟨by omega, by omega⟩ 6 0 k (List.replicate 6 0) rfl (by omega) (by simp) (fun j _ hj => rd_rep 6 j)
      exact .inl ⟨h, by omega, by omega, out, e1, e2, fun j hj => by rw [e3 j hj, if_neg (by omega)]⟩
  · rw [if_neg h]; exact .inr ⟨fun x => h x.1, rfl⟩
theorem refFit_eq (l : List Int) (q : Int) (hl : okl 5 l = true) (hq : 0 ≤ q ∧ q ≤ 12) (p : Nat) (hp : p < 6) (k : Nat) (hk : 0 < k) : psalteryref14_Fit.f k l q (p : Int) = some (fitv (rd l (min (p : Int) 4)) q) := by
  obtain ⟨k, rfl⟩ : ∃ j, k = j + 1 := ⟨k - 1, by omega⟩
  simp only [okl, Bool.and_eq_true, beq_iff_eq] at hl
  have step : ∀ g : Int, 0 ≤ g → g ≤ 44 → q ≠ 0 → psalteryref14_Fit.j0 (k + 1) q g = some (fitv g q) := by
    intro g h0 h1 hz
    simp only [psalteryref14_Fit.j0]
    rw [w64 (x := g - 13) (by omega) (by omega), w64 (x := g - 13 + q) (by omega) (by omega)]
    unfold fitv; rw [if_neg hz]
    repeat' split
    all_goals rfl
  unfold psalteryref14_Fit.f
  by_cases hz : q = 0
  · rw [if_pos hz]; unfold fitv; rw [if_pos hz]
  have hb := rd_in' hl.1 (min (p : Int) 4) (by omega) (by omega)
  rw [if_neg hz, if_pos (by omega)]
  by_cases c : (p : Int) < 4
  · rw [if_pos c, if_pos (by omega), if_pos (by omega), show min (p : Int) 4 = p by omega] at *
    exact step _ hb.1 hb.2 hz
  · rw [if_neg c, show min (p : Int) 4 = 4 by omega] at *
    exact step _ hb.1 hb.2 hz
end Go.Proofs.Ytdajlfijkbafiaa.LF
namespace Go.Proofs.Ytdajlfijkbafiaa.LW
open Go.RowKit Go.Proofs.YtdajlfijkbafiaaW.PrintWords Go.Proofs.YtdajlfijkbafiaaW.PrintLast Go.Proofs.YtdajlfijkbafiaaW.PrintMore Go.Proofs.Ytdajlfijkbafiaa.P Go.Proofs.Ytdajlfijkbafiaa.LB
def fairB (x : List Int) : Bool := decide (LQ.fairL x = true ∧ x.length = 16)
theorem fairB_parts {x : List Int} (h : fairB x = true) : LQ.fairL x = true ∧ LQ.inc x = true ∧ x.length = 16 := by
  have h1 := of_decide_eq_true h
  have h2 := h1.1
  simp only [LQ.fairL, Bool.and_eq_true] at h2
  exact ⟨h1.1, h2.1, h1.2⟩
theorem gn_in {x : List Int} (h : fairB x = true) (b : Nat) (hb : b < 5) : 0 ≤ LQ.gn (LQ.bnd x b) ∧ LQ.gn (LQ.bnd x b) ≤ 44 := by
  obtain ⟨_, h2, h3⟩ := fairB_parts h
  obtain ⟨e1, e2, e3, e4, e5⟩ := LQ.fw_facts b hb
  have e6 := LQ.bnd_length x h3 b hb
  exact LQ.gn_bound _ (LQ.bnd_inc h2 b) (by omega)
theorem gns_okl {x : List Int} (h : fairB x = true) : LF.okl 5 (LQ.gns x) = true := by
  unfold LF.okl
  rw [Bool.and_eq_true]
  refine ⟨LF.inr_of fun v hv => ?_, rfl⟩
  simp only [LQ.gns, List.mem_cons, List.not_mem_nil, or_false] at hv
  rcases hv with rfl | rfl | rfl | rfl | rfl
  · exact gn_in h 0 (by omega)
  · exact gn_in h 1 (by omega)
  · exact gn_in h 2 (by omega)
  · exact gn_in h 3 (by omega)
  · exact gn_in h 4 (by omega)
def pst (fl : List Int) (q : Int) (x : List Int) (p : Int) : Int := setl fl (LF.fitv (rd (LQ.gns x) (min p 4)) q)
def postL (fl : List Int) (q : Int) (x : List Int) : List Int := [pst fl q x 0, pst fl q x 1, pst fl q x 2, pst fl q x 3, pst fl q x 4, pst fl q x 5]
def Uses (fl : List Int) : Prop := fl.length = 45 ∧ ∃ u : Nat, u < fl.length ∧ 0 < rd fl (u : Int)
theorem pst_in {fl : List Int} (hu : Uses fl) (q : Int) (x : List Int) (p : Int) : 0 ≤ pst fl q x p ∧ pst fl q x p ≤ 44 ∧ 0 < rd fl (pst fl q x p) := by
  have h0 := hu.1
  obtain ⟨a, b, c, _⟩ := setl_is (LF.fitv (rd (LQ.gns x) (min p 4)) q) (by omega) hu.2
  unfold pst
  exact ⟨a, by omega, c⟩
theorem postL_in {fl : List Int} (hu : Uses fl) (q : Int) (x : List Int) : ∀ g ∈ postL fl q x, 0 ≤ g ∧ g ≤ 44 ∧ 0 < rd fl g := by
  intro g hg
  simp only [postL, List.mem_cons, List.not_mem_nil, or_false] at hg
  rcases hg with rfl | rfl | rfl | rfl | rfl | rfl <;> exact pst_in hu q x _
theorem postL_okl {fl : List Int} (hu : Uses fl) (q : Int) (x : List Int) : LF.okl 6 (postL fl q x) = true := by
  unfold LF.okl
  rw [Bool.and_eq_true]
  exact ⟨LF.inr_of fun v hv => ⟨(postL_in hu q x v hv).1, (postL_in hu q x v hv).2.1⟩, rfl⟩
theorem list6 {l : List Int} (h : l.length = 6) : l = [rd l 0, rd l 1, rd l 2, rd l 3, rd l 4, rd l 5] := by
  match l, h with
  | [a, b, c, d, e, f], _ => rfl
theorem set_mid (p s : List Int) (v t : Int) : (p ++ v :: s).set (p.length : Int).toNat t = p ++ t :: s := by
  rw [Int.toNat_natCast, List.set_append, if_neg (by omega), Nat.sub_self]; rfl
theorem posts_loop (c q : Int) {fl : List Int} (rs : List Int) (hu : Uses fl) (n : Nat) (hn : n ≤ 1000) : ∀ (s p : List Int) (k : Nat), p.length + s.length = n → s.length + 50 < k →
    vcodec_codec_posts.l0 k (p ++ s) (n : Int) (p.length : Int) c q fl rs = some (p ++ s.map (setl fl))
  | [], p, k, h, hk => by
    obtain ⟨k, rfl⟩ : ∃ j, k = j + 1 := ⟨k - 1, by omega⟩
    simp only [List.length_nil] at h
    simp only [vcodec_codec_posts.l0]
    rw [if_neg (by omega)]; rfl
  | v :: s, p, k, h, hk => by
    obtain ⟨k, rfl⟩ : ∃ j, k = j + 1 := ⟨k - 1, by omega⟩
    simp only [List.length_cons] at h hk
    have hlen : ((p ++ v :: s).length : Int) = p.length + s.length + 1 := by simp only [List.length_append, List.length_cons]; omega
    have h45 := hu.1
    simp only [vcodec_codec_posts.l0]
    rw [if_pos (by omega), if_pos (by omega), if_pos (by omega), LQ.rd_mid, settled_eq c q fl rs v (by omega) hu.2 k (by omega), Option.bind_some, set_mid, w64 (by omega) (by omega)]
    have ih := posts_loop c q rs hu n hn s (p ++ [setl fl v]) k (by simp only [List.length_append, List.length_cons, List.length_nil]; omega) (by omega)
    simp only [List.append_assoc, List.singleton_append] at ih
    rw [show (((p ++ [setl fl v]).length : Nat) : Int) = (p.length : Int) + 1 by simp only [List.length_append, List.length_cons, List.length_nil]; omega] at ih
    rw [ih, List.map_cons]
theorem posts_eq (c q : Int) {fl : List Int} (rs : List Int) (hu : Uses fl) (hq : 0 ≤ q ∧ q ≤ 12) {x : List Int} (h : fairB x = true) (k : Nat) (hk : 1000 < k) : vcodec_codec_posts.f k c q fl rs x = some (postL fl q x) := by
  obtain ⟨h1, h2, h3⟩ := fairB_parts h
  have hM : (maxLen : Int) = 9223372036854775807 := rfl
  unfold vcodec_codec_posts.f
  rw [LQ.gains_eq x (by omega) (by omega) k (by omega), if_pos ⟨h1, h3⟩, Option.bind_some]
  rcases LF.fit_eq (LQ.gns x) q (show (5 : Nat) ≤ maxLen by omega) k (show (5 : Nat) + 10 < k by omega) with ⟨_, _, _, out, e1, e2, e3⟩ | ⟨hn, _⟩
  · show (floor_Fit.f k (LQ.gns x) q).bind _ = _
    rw [e1, Option.bind_some]
    have e := posts_loop c q rs hu 6 (by omega) out [] k (by simpa using e2) (by omega)
    simp only [List.nil_append, List.length_nil] at e
    show vcodec_codec_posts.l0 k out (out.length : Int) 0 c q fl rs = _
    rw [e2]
    refine Eq.trans e ?_
    have f0 : rd out 0 = LF.fitv (rd (LQ.gns x) (min 0 4)) q := e3 0 (by omega)
    have f1 : rd out 1 = LF.fitv (rd (LQ.gns x) (min 1 4)) q := e3 1 (by omega)
    have f2 : rd out 2 = LF.fitv (rd (LQ.gns x) (min 2 4)) q := e3 2 (by omega)
    have f3 : rd out 3 = LF.fitv (rd (LQ.gns x) (min 3 4)) q := e3 3 (by omega)
    have f4 : rd out 4 = LF.fitv (rd (LQ.gns x) (min 4 4)) q := e3 4 (by omega)
    have f5 : rd out 5 = LF.fitv (rd (LQ.gns x) (min 5 4)) q := e3 5 (by omega)
    rw [list6 e2]
    unfold postL pst
    rw [← f0, ← f1, ← f2, ← f3, ← f4, ← f5]; rfl
  · exact absurd ⟨gns_okl h, hq.1, hq.2⟩ hn
theorem refPosts_step (c q : Int) {fl : List Int} (rs : List Int) (hu : Uses fl) (hq : 0 ≤ q ∧ q ≤ 12) {x : List Int} (h : fairB x = true) (p : Nat) (hp : p < 6) (acc : List Int) (ha : acc.length ≤ 100) (k : Nat) (hk : 400 < k) :
    psalteryref22_Posts.l0 (k + 1) x acc (p : Int) c q fl rs = psalteryref22_Posts.l0 k x (acc ++ [pst fl q x (p : Int)]) ((p + 1 : Nat) : Int) c q fl rs := by
  obtain ⟨h1, h2, h3⟩ := fairB_parts h
  have h45 := hu.1
  have hf := LF.fitv_in (rd (LQ.gns x) (min (p : Int) 4)) q
  conv => lhs; unfold psalteryref22_Posts.l0
  rw [if_pos (by omega), LQ.refGains_eq h2 h3 k (by omega), Option.bind_some, LF.refFit_eq (LQ.gns x) q (gns_okl h) hq p hp k (by omega), Option.bind_some, refSettled_eq fl _ (by omega) hf.1 (by omega) hu.2 k (by omega), Option.bind_some, if_pos (by omega), w64 (by omega) (by omega), show (p : Int) + 1 = ((p + 1 : Nat) : Int) by omega]; rfl
theorem refPosts_eq (c q : Int) {fl : List Int} (rs : List Int) (hu : Uses fl) (hq : 0 ≤ q ∧ q ≤ 12) {x : List Int} (h : fairB x = true) (k : Nat) (hk : 1000 < k) : psalteryref22_Posts.f k c q fl rs x = some (postL fl q x) := by
  obtain ⟨k, rfl⟩ : ∃ j, k = j + 7 := ⟨k - 7, by omega⟩
  have s0 := refPosts_step c q rs hu hq h 0 (by omega) [] (by simp) (k + 6) (by omega)
  have s1 := refPosts_step c q rs hu hq h 1 (by omega) [pst fl q x 0] (by simp) (k + 5) (by omega)
  have s2 := refPosts_step c q rs hu hq h 2 (by omega) [pst fl q x 0, pst fl q x 1] (by simp) (k + 4) (by omega)
  have s3 := refPosts_step c q rs hu hq h 3 (by omega) [pst fl q x 0, pst fl q x 1, pst fl q x 2] (by simp) (k + 3) (by omega)
  have s4 := refPosts_step c q rs hu hq h 4 (by omega) [pst fl q x 0, pst fl q x 1, pst fl q x 2, pst fl q x 3] (by simp) (k + 2) (by omega)
  have s5 := refPosts_step c q rs hu hq h 5 (by omega) [pst fl q x 0, pst fl q x 1, pst fl q x 2, pst fl q x 3, pst fl q x 4] (by simp) (k + 1) (by omega)
  simp only [List.nil_append, List.cons_append] at s0 s1 s2 s3 s4 s5
  unfold psalteryref22_Posts.f
  refine s0.trans (s1.trans (s2.trans (s3.trans (s4.trans (s5.trans ?_)))))
  simp only [psalteryref22_Posts.l0]
  rw [if_neg (by omega)]; rfl
end Go.Proofs.Ytdajlfijkbafiaa.LW
namespace Go.Proofs.Ytdajlfijkbafiaa.LF
open Go.RowKit Go.Proofs.YtdajlfijkbafiaaW.PrintWords Go.Proofs.YtdajlfijkbafiaaW.PrintLast Go.Proofs.YtdajlfijkbafiaaW.PrintMore Go.Proofs.Ytdajlfijkbafiaa.P Go.Proofs.Ytdajlfijkbafiaa.LB
theorem tdiv_neg' {a b : Int} (ha : a < 0) : Int.tdiv a b = -((-a) / b) := by
  have := tdiv_nn (a := -a) b (by omega)
  rw [Int.neg_tdiv] at this; omega
theorem tdiv_in {n d : Int} (hd : 0 < d) : (0 ≤ n → 0 ≤ Int.tdiv n d ∧ Int.tdiv n d ≤ n) ∧ (n ≤ 0 → n ≤ Int.tdiv n d ∧ Int.tdiv n d ≤ 0) := by
  constructor
  · intro h
    rw [tdiv_nn d h]
    exact ⟨Int.ediv_nonneg h (by omega), Int.ediv_le_self _ h⟩
  · intro h
    by_cases h0 : n = 0
    · subst h0; simp
    rw [tdiv_neg' (by omega)]
    have h1 : 0 ≤ (-n) / d := Int.ediv_nonneg (by omega) (by omega)
    have h2 : (-n) / d ≤ -n := Int.ediv_le_self _ (by omega)
    omega
theorem tdiv_frac {D t d : Int} (ht : 0 ≤ t) (htd : t ≤ d) (hd : 0 < d) : (0 ≤ D → 0 ≤ Int.tdiv (D * t) d ∧ Int.tdiv (D * t) d ≤ D) ∧ (D ≤ 0 → D ≤ Int.tdiv (D * t) d ∧ Int.tdiv (D * t) d ≤ 0) := by
  constructor
  · intro h
    have h0 : 0 ≤ D * t := Int.mul_nonneg h ht
    rw [tdiv_nn d h0]
    exact ⟨Int.ediv_nonneg h0 (by omega), Int.ediv_le_of_le_mul hd (Int.mul_le_mul_of_nonneg_left htd h)⟩
  · intro h
    have h0 : 0 ≤ (-D) * t := Int.mul_nonneg (by omega) ht
    have e : D * t = -((-D) * t) := by rw [Int.neg_mul, Int.neg_neg]
    rw [e, Int.neg_tdiv, tdiv_nn d h0]
    have h1 : 0 ≤ (-D) * t / d := Int.ediv_nonneg h0 (by omega)
    have h2 : (-D) * t / d ≤ -D := Int.ediv_le_of_le_mul hd (Int.mul_le_mul_of_nonneg_left htd (by omega))
    omega
def V (l : List Int) (p x w j : Int) : Int := rd l p + Int.tdiv ((rd l (p + 1) - rd l p) * (j - x)) (w - x)
theorem V_in (l : List Int) (p : Int) {x w j : Int} (h : x < w) (h0 : x ≤ j) (h1 : j ≤ w) : min (rd l p) (rd l (p + 1)) ≤ V l p x w j ∧ V l p x w j ≤ max (rd l p) (rd l (p + 1)) := by
  have := tdiv_frac (D := rd l (p + 1) - rd l p) (t := j - x) (d := w - x) (by omega) (by omega) (by omega)
  unfold V; omega
theorem V_right (l : List Int) (p : Int) {x w : Int} (h : x < w) : V l p x w w = rd l (p + 1) := by
  unfold V; rw [Int.mul_tdiv_cancel _ (by omega)]; omega
theorem seg_loop (l : List Int) (hl : okl 6 l = true) (p x w : Int) (hp : 0 ≤ p ∧ p < 5) (hx : 0 ≤ x) (hxw : x < w) (hw : w ≤ 15) (d : Nat) : ∀ (j : Int) (k : Nat) (out : List Int), x ≤ j → j + d = w + 1 → d < k → out.length = 16 →
    ∃ (out' : List Int) (k' : Nat), floor_Line.l1 k l out p x w j p = floor_Line.l0 k' l out' (p + 1) ∧ k' + d + 1 = k ∧ out'.length = 16 ∧ ∀ i : Nat, i < 16 → rd out' i = if j ≤ (i : Int) ∧ (i : Int) ≤ w then V l p x w i else rd out i := by
  simp only [okl, Bool.and_eq_true, beq_iff_eq] at hl
  induction d with
  | zero =>
    intro j k out h0 h1 hk ho
    obtain ⟨k, rfl⟩ : ∃ j, k = j + 1 := ⟨k - 1, by omega⟩
    refine ⟨out, k, ?_, by omega, ho, fun i hi => by rw [if_neg (by omega)]⟩
    simp only [floor_Line.l1]; rw [if_neg (by omega), w64 (by omega) (by omega)]
  | succ d ih =>
    intro j k out h0 h1 hk ho
    obtain ⟨k, rfl⟩ : ∃ j, k = j + 1 := ⟨k - 1, by omega⟩
    have b0 := rd_in' hl.1 p (by omega) (by omega)
    have b1 := rd_in' hl.1 (p + 1) (by omega) (by omega)
    have m1 : (rd l (p + 1) - rd l p) * (j - x) ≤ 44 * (j - x) := Int.mul_le_mul_of_nonneg_right (by omega) (by omega)
    have m2 : -44 * (j - x) ≤ (rd l (p + 1) - rd l p) * (j - x) := Int.mul_le_mul_of_nonneg_right (by omega) (by omega)
    have t := tdiv_in (n := (rd l (p + 1) - rd l p) * (j - x)) (d := w - x) (by omega)
    have eV : V l p x w j = rd l p + Int.tdiv ((rd l (p + 1) - rd l p) * (j - x)) (w - x) := rfl
    simp only [floor_Line.l1]
    rw [if_pos (by omega), if_pos (by omega), if_pos (by omega), w64 (x := p + 1) (by omega) (by omega), if_pos (by omega), if_pos (by omega), w64 (x := w - x) (by omega) (by omega), if_neg (by omega), if_pos (by omega), if_pos (by omega),
      w64 (x := rd l (p + 1) - rd l p) (by omega) (by omega), w64 (x := j - x) (by omega) (by omega), w64 (x := (rd l (p + 1) - rd l p) * (j - x)) (by omega) (by omega), w64 (x := Int.tdiv ((rd l (p + 1) - rd l p) * (j - x)) (w - x)) (by omega) (by omega),
      w64 (x := rd l p + Int.tdiv ((rd l (p + 1) - rd l p) * (j - x)) (w - x)) (by omega) (by omega), ← eV, w64 (x := j + 1) (by omega) (by omega)]
    obtain ⟨out', k', e1, e2, e3, e4⟩ := ih (j + 1) k (out.set j.toNat (V l p x w j)) (by omega) (by omega) (by omega) (by rw [List.length_set]; exact ho)
    refine ⟨out', k', e1, by omega, e3, fun i hi => ?_⟩
    rw [e4 i hi, rd_set out j (by omega) (by omega)]
    by_cases c : (i : Int) = j
    · rw [if_neg (by omega), if_pos c, if_pos (by omega), c]
    · rw [if_neg c]
      by_cases c' : j + 1 ≤ (i : Int) ∧ (i : Int) ≤ w
      · rw [if_pos c', if_pos (by omega)]
      · rw [if_neg c', if_neg (by omega)]
theorem l0_step (l : List Int) (hl : okl 6 l = true) (p x w : Int) (hp : 0 ≤ p ∧ p < 5) (ex : at14 p = x) (ew : at14 (p + 1) = w) (hx : 0 ≤ x) (hxw : x < w) (hw : w ≤ 15) (k : Nat) (out : List Int) (hk : 20 < k) (ho : out.length = 16) :
    ∃ (out' : List Int) (k' : Nat), floor_Line.l0 k l out p = floor_Line.l0 k' l out' (p + 1) ∧ k < k' + 20 ∧ out'.length = 16 ∧ ∀ i : Nat, i < 16 → rd out' i = if x ≤ (i : Int) ∧ (i : Int) ≤ w then V l p x w i else rd out i := by
  obtain ⟨k, rfl⟩ : ∃ j, k = j + 1 := ⟨k - 1, by omega⟩
  obtain ⟨out', k', e1, e2, e3, e4⟩ := seg_loop l hl p x w hp hx hxw hw (w + 1 - x).toNat x k out (Int.le_refl _) (by omega) (by omega) ho
  refine ⟨out', k', ?_, by omega, e3, e4⟩
  simp only [floor_Line.l0]
  rw [if_pos (by omega), w64 (x := p + 1) (by omega) (by omega), at_eq, at_eq, ex, ew]
  exact e1
def lineV (l : List Int) (i : Int) : Int := if i < 1 then V l 0 0 1 i else if i < 2 then V l 1 1 2 i else if i < 4 then V l 2 2 4 i else if i < 8 then V l 3 4 8 i else V l 4 8 15 i
theorem line_eq (l : List Int) (hl : l.length ≤ maxLen) (k : Nat) (hk : l.length + 200 < k) :
    (okl 6 l = true ∧ ∃ out : List Int, floor_Line.f k l = some (out, 0) ∧ out.length = 16 ∧ ∀ i : Nat, i < 16 → rd out i = lineV l i) ∨ (okl 6 l = false ∧ floor_Line.f k l = some ([], 1)) := by
  unfold floor_Line.f
  rw [right_eq l hl k (by omega)]
  simp only [Option.bind_some]
  cases h : okl 6 l with
  | false => exact .inr ⟨rfl, rfl⟩
  | true =>
    refine .inl ⟨rfl, ?_⟩
    rw [if_pos rfl, if_pos (by decide)]
    obtain ⟨o1, k1, a1, b1, c1, d1⟩ := l0_step l h 0 0 1 (by omega) rfl rfl (by omega) (by omega) (by omega) k (List.replicate 16 0) (by omega) (by simp)
    obtain ⟨o2, k2, a2, b2, c2, d2⟩ := l0_step l h 1 1 2 (by omega) rfl rfl (by omega) (by omega) (by omega) k1 o1 (by omega) c1
    obtain ⟨o3, k3, a3, b3, c3, d3⟩ := l0_step l h 2 2 4 (by omega) rfl rfl (by omega) (by omega) (by omega) k2 o2 (by omega) c2
    obtain ⟨o4, k4, a4, b4, c4, d4⟩ := l0_step l h 3 4 8 (by omega) rfl rfl (by omega) (by omega) (by omega) k3 o3 (by omega) c3
    obtain ⟨o5, k5, a5, b5, c5, d5⟩ := l0_step l h 4 8 15 (by omega) rfl rfl (by omega) (by omega) (by omega) k4 o4 (by omega) c4
    refine ⟨o5, ?_, c5, fun i hi => ?_⟩
    · obtain ⟨k5, rfl⟩ : ∃ j, k5 = j + 1 := ⟨k5 - 1, by omega⟩
      rw [a1]; erw [a2]; erw [a3]; erw [a4]; erw [a5]
      simp only [floor_Line.l0]; rw [if_neg (by omega)]
    · rw [d5 i hi, d4 i hi, d3 i hi, d2 i hi, d1 i hi]
      unfold lineV
      by_cases q5 : (8 : Int) ≤ i
      · rw [if_pos (by omega), if_neg (by omega), if_neg (by omega), if_neg (by omega), if_neg (by omega)]
      rw [if_neg (by omega)]
      by_cases q4 : (4 : Int) ≤ i
      · rw [if_pos (by omega), if_neg (by omega), if_neg (by omega), if_neg (by omega), if_pos (by omega)]
      rw [if_neg (by omega)]
      by_cases q3 : (2 : Int) ≤ i
      · rw [if_pos (by omega), if_neg (by omega), if_neg (by omega), if_pos (by omega)]
      rw [if_neg (by omega)]
      by_cases q2 : (1 : Int) ≤ i
      · rw [if_pos (by omega), if_neg (by omega), if_pos (by omega)]
      rw [if_neg (by omega), if_pos (by omega), if_pos (by omega)]
end Go.Proofs.Ytdajlfijkbafiaa.LF
namespace Go.Proofs.Ytdajlfijkbafiaa.LF
open Go.RowKit Go.Proofs.YtdajlfijkbafiaaW.PrintWords Go.Proofs.YtdajlfijkbafiaaW.PrintLast Go.Proofs.YtdajlfijkbafiaaW.PrintMore Go.Proofs.Ytdajlfijkbafiaa.P Go.Proofs.Ytdajlfijkbafiaa.LB Go.Proofs.Ytdajlfijkbafiaa.NT
def flv (g : Int) : Int := if val g < 1 then 1 else val g
theorem flv_mx (g : Int) : mx 1 (val g) = flv g := by
  unfold mx flv; repeat' split
  all_goals omega
theorem floor_loop : ∀ (s p out : List Int) (k : Nat), p.length + s.length = 16 → out.length ≤ p.length → s.length + 100 < k →
    floor_Floor.l0 k out (p ++ s) ((p ++ s).length : Int) (p.length : Int) = some (out ++ s.map flv, 0)
  | [], p, out, k, hn, ho, hk => by
    obtain ⟨k, rfl⟩ : ∃ j, k = j + 1 := ⟨k - 1, by omega⟩
    simp only [floor_Floor.l0, List.append_nil]
    rw [if_neg (by omega)]; simp
  | v :: s, p, out, k, hn, ho, hk => by
    obtain ⟨k, rfl⟩ : ∃ j, k = j + 1 := ⟨k - 1, by omega⟩
    simp only [List.length_cons] at hn hk
    have hlen : ((p ++ v :: s).length : Int) = p.length + s.length + 1 := by simp only [List.length_append, List.length_cons]; omega
    simp only [floor_Floor.l0]
    rw [if_pos (by omega), if_pos (by omega), if_pos (by omega), rd_mid, val_eq v k (by omega)]
    simp only [Option.bind_some]
    rw [if_pos (by omega), flv_mx, w64 (by omega) (by omega)]
    have ih := floor_loop s (p ++ [v]) (out ++ [flv v]) k (by simp only [List.length_append, List.length_cons, List.length_nil]; omega) (by simp only [List.length_append, List.length_cons, List.length_nil]; omega) (by omega)
    simp only [List.append_assoc, List.singleton_append] at ih
    rw [show (((p ++ [v]).length : Nat) : Int) = (p.length : Int) + 1 by simp only [List.length_append, List.length_cons, List.length_nil]; omega] at ih
    exact ih
theorem floor_eq (l : List Int) (hl : l.length ≤ maxLen) (k : Nat) (hk : l.length + 300 < k) :
    (okl 6 l = true ∧ ∃ out : List Int, floor_Floor.f k l = some (out, 0) ∧ out.length = 16 ∧ ∀ i : Nat, i < 16 → rd out i = flv (lineV l i)) ∨ (okl 6 l = false ∧ floor_Floor.f k l = some ([], 1)) := by
  unfold floor_Floor.f
  rcases line_eq l hl k (by omega) with ⟨h, out, e1, e2, e3⟩ | ⟨h, e1⟩
  · refine .inl ⟨h, out.map flv, ?_, by rw [List.length_map]; exact e2, fun i hi => ?_⟩
    · rw [e1]
      simp only [Option.bind_some, if_true]
      have := floor_loop out [] [] k (by simpa using e2) (Nat.le_refl _) (by omega)
      simp only [List.nil_append, List.length_nil] at this
      rw [show ((0 : Nat) : Int) = 0 from rfl] at this
      exact this
    · rw [← e3 i hi]
      have : i < out.length := by omega
      simp [rd, List.getD_eq_getElem?_getD, this]
  · refine .inr ⟨h, ?_⟩
    rw [e1]; rfl
theorem post_yes (i p q q' a : Int) (m : Nat) (hm : 0 < m) (h0 : 0 ≤ q) (h1 : q < 6) (hq : q + 1 = q') (ha : at14 q = a) (h : a ≤ i) : psalteryref14_post.l0 (m + 1) i p q = psalteryref14_post.l0 m i q q' := by
  conv => lhs; unfold psalteryref14_post.l0
  rw [if_pos h1, refAt_eq q m hm, ha, w64 (by omega) (by omega), hq]
  simp only [Option.bind_some]
  rw [if_pos h]
theorem post_no (i p q q' a : Int) (m : Nat) (hm : 0 < m) (h0 : 0 ≤ q) (h1 : q < 6) (hq : q + 1 = q') (ha : at14 q = a) (h : ¬ a ≤ i) : psalteryref14_post.l0 (m + 1) i p q = psalteryref14_post.l0 m i p q' := by
  conv => lhs; unfold psalteryref14_post.l0
  rw [if_pos h1, refAt_eq q m hm, ha, w64 (by omega) (by omega), hq]
  simp only [Option.bind_some]
  rw [if_neg h]
theorem post_end (i p : Int) (m : Nat) : psalteryref14_post.l0 (m + 1) i p 6 = some p := by
  conv => lhs; unfold psalteryref14_post.l0
  rw [if_neg (by omega)]
theorem post_eq (i : Int) (hi : 0 ≤ i ∧ i < 16) (k : Nat) (hk : 20 < k) : psalteryref14_post.f k i = some (if i < 1 then 0 else if i < 2 then 1 else if i < 4 then 2 else if i < 8 then 3 else if i < 15 then 4 else 5) := by
  obtain ⟨k, rfl⟩ : ∃ j, k = j + 1 + 1 + 1 + 1 + 1 + 1 + 1 := ⟨k - 7, by omega⟩
  unfold psalteryref14_post.f
  by_cases c0 : i < 1
  · rw [if_pos (show i < 1 by omega), post_yes i 0 0 1 0 _ (by omega) (by omega) (by omega) rfl rfl (by omega), post_no i 0 1 2 1 _ (by omega) (by omega) (by omega) rfl rfl (by omega), post_no i 0 2 3 2 _ (by omega) (by omega) (by omega) rfl rfl (by omega), post_no i 0 3 4 4 _ (by omega) (by omega) (by omega) rfl rfl (by omega), post_no i 0 4 5 8 _ (by omega) (by omega) (by omega) rfl rfl (by omega), post_no i 0 5 6 15 _ (by omega) (by omega) (by omega) rfl rfl (by omega), post_end i 0 _]
  by_cases c1 : i < 2
  · rw [if_neg (show ¬ i < 1 by omega), if_pos (show i < 2 by omega), post_yes i 0 0 1 0 _ (by omega) (by omega) (by omega) rfl rfl (by omega), post_yes i 0 1 2 1 _ (by omega) (by omega) (by omega) rfl rfl (by omega), post_no i 1 2 3 2 _ (by omega) (by omega) (by omega) rfl rfl (by omega), post_no i 1 3 4 4 _ (by omega) (by omega) (by omega) rfl rfl (by omega), post_no i 1 4 5 8 _ (by omega) (by omega) (by omega) rfl rfl (by omega), post_no i 1 5 6 15 _ (by omega) (by omega) (by omega) rfl rfl (by omega), post_end i 1 _]
  by_cases c2 : i < 4
  · rw [if_neg (show ¬ i < 1 by omega), if_neg (show ¬ i < 2 by omega), if_pos (show i < 4 by omega), post_yes i 0 0 1 0 _ (by omega) (by omega) (by omega) rfl rfl (by omega), post_yes i 0 1 2 1 _ (by omega) (by omega) (by omega) rfl rfl (by omega), post_yes i 1 2 3 2 _ (by omega) (by omega) (by omega) rfl rfl (by omega), post_no i 2 3 4 4 _ (by omega) (by omega) (by omega) rfl rfl (by omega), post_no i 2 4 5 8 _ (by omega) (by omega) (by omega) rfl rfl (by omega), post_no i 2 5 6 15 _ (by omega) (by omega) (by omega) rfl rfl (by omega), post_end i 2 _]
  by_cases c3 : i < 8
  · rw [if_neg (show ¬ i < 1 by omega), if_neg (show ¬ i < 2 by omega), if_neg (show ¬ i < 4 by omega), if_pos (show i < 8 by omega), post_yes i 0 0 1 0 _ (by omega) (by omega) (by omega) rfl rfl (by omega), post_yes i 0 1 2 1 _ (by omega) (by omega) (by omega) rfl rfl (by omega), post_yes i 1 2 3 2 _ (by omega) (by omega) (by omega) rfl rfl (by omega), post_yes i 2 3 4 4 _ (by omega) (by omega) (by omega) rfl rfl (by omega), post_no i 3 4 5 8 _ (by omega) (by omega) (by omega) rfl rfl (by omega), post_no i 3 5 6 15 _ (by omega) (by omega) (by omega) rfl rfl (by omega), post_end i 3 _]
  by_cases c4 : i < 15
  · rw [if_neg (show ¬ i < 1 by omega), if_neg (show ¬ i < 2 by omega), if_neg (show ¬ i < 4 by omega), if_neg (show ¬ i < 8 by omega), if_pos (show i < 15 by omega), post_yes i 0 0 1 0 _ (by omega) (by omega) (by omega) rfl rfl (by omega), post_yes i 0 1 2 1 _ (by omega) (by omega) (by omega) rfl rfl (by omega), post_yes i 1 2 3 2 _ (by omega) (by omega) (by omega) rfl rfl (by omega), post_yes i 2 3 4 4 _ (by omega) (by omega) (by omega) rfl rfl (by omega), post_yes i 3 4 5 8 _ (by omega) (by omega) (by omega) rfl rfl (by omega), post_no i 4 5 6 15 _ (by omega) (by omega) (by omega) rfl rfl (by omega), post_end i 4 _]
  rw [if_neg (show ¬ i < 1 by omega), if_neg (show ¬ i < 2 by omega), if_neg (show ¬ i < 4 by omega), if_neg (show ¬ i < 8 by omega), if_neg (show ¬ i < 15 by omega), post_yes i 0 0 1 0 _ (by omega) (by omega) (by omega) rfl rfl (by omega), post_yes i 0 1 2 1 _ (by omega) (by omega) (by omega) rfl rfl (by omega), post_yes i 1 2 3 2 _ (by omega) (by omega) (by omega) rfl rfl (by omega), post_yes i 2 3 4 4 _ (by omega) (by omega) (by omega) rfl rfl (by omega), post_yes i 3 4 5 8 _ (by omega) (by omega) (by omega) rfl rfl (by omega), post_yes i 4 5 6 15 _ (by omega) (by omega) (by omega) rfl rfl (by omega), post_end i 5 _]
theorem seg_eq (l : List Int) (hl : okl 6 l = true) (i : Int) (k : Nat) (hk : 0 < k) (p x w : Int) (hp : 0 ≤ p ∧ p < 5) (ex : at14 p = x) (ew : at14 (p + 1) = w) (hx : 0 ≤ x) (hxw : x < w) (hw : w ≤ 15) (h0 : x ≤ i) (h1 : i ≤ w) (hpost : psalteryref14_post.f k i = some p) :
    psalteryref14_Line.f k l i = some (V l p x w i) := by
  simp only [okl, Bool.and_eq_true, beq_iff_eq] at hl
  have b0 := rd_in' hl.1 p (by omega) (by omega)
  have b1 := rd_in' hl.1 (p + 1) (by omega) (by omega)
  have m1 : (rd l (p + 1) - rd l p) * (i - x) ≤ 44 * (i - x) := Int.mul_le_mul_of_nonneg_right (by omega) (by omega)
  have m2 : -44 * (i - x) ≤ (rd l (p + 1) - rd l p) * (i - x) := Int.mul_le_mul_of_nonneg_right (by omega) (by omega)
  have t := tdiv_in (n := (rd l (p + 1) - rd l p) * (i - x)) (d := w - x) (by omega)
  unfold psalteryref14_Line.f
  rw [hpost]
  simp only [Option.bind_some]
  rw [if_neg (by omega), w64 (x := p + 1) (by omega) (by omega), if_pos (by omega), if_pos (by omega), if_pos (by omega), if_pos (by omega), refAt_eq p k hk, refAt_eq (p + 1) k hk, ex, ew]
  simp only [Option.bind_some]
  rw [w64 (x := rd l (p + 1) - rd l p) (by omega) (by omega), w64 (x := i - x) (by omega) (by omega), w64 (x := w - x) (by omega) (by omega)]
  unfold V
  generalize (rd l (p + 1) - rd l p) * (i - x) = n at *
  rw [w64 (x := n) (by omega) (by omega)]
  by_cases c : n < 0
  · rw [if_pos c, if_neg (by omega), w64 (x := -n) (by omega) (by omega), Int.neg_tdiv]
    generalize Int.tdiv n (w - x) = q at *
    rw [w64 (x := -q) (by omega) (by omega), w64 (by omega) (by omega)]
    congr 1; omega
  · rw [if_neg c, if_neg (by omega)]
    generalize Int.tdiv n (w - x) = q at *
    rw [w64 (x := q) (by omega) (by omega), w64 (by omega) (by omega)]
theorem refLine_eq (l : List Int) (hl : okl 6 l = true) (i : Int) (hi : 0 ≤ i ∧ i < 16) (k : Nat) (hk : 20 < k) : psalteryref14_Line.f k l i = some (lineV l i) := by
  have hpost := post_eq i hi k hk
  unfold lineV
  by_cases c1 : i < 1
  · rw [if_pos c1] at hpost ⊢
    exact seg_eq l hl i k (by omega) 0 0 1 (by omega) rfl rfl (by omega) (by omega) (by omega) (by omega) (by omega) hpost
  rw [if_neg c1] at hpost ⊢
  by_cases c2 : i < 2
  · rw [if_pos c2] at hpost ⊢
    exact seg_eq l hl i k (by omega) 1 1 2 (by omega) rfl rfl (by omega) (by omega) (by omega) (by omega) (by omega) hpost
  rw [if_neg c2] at hpost ⊢
  by_cases c3 : i < 4
  · rw [if_pos c3] at hpost ⊢
    exact seg_eq l hl i k (by omega) 2 2 4 (by omega) rfl rfl (by omega) (by omega) (by omega) (by omega) (by omega) hpost
  rw [if_neg c3] at hpost ⊢
  by_cases c4 : i < 8
  · rw [if_pos c4] at hpost ⊢
    exact seg_eq l hl i k (by omega) 3 4 8 (by omega) rfl rfl (by omega) (by omega) (by omega) (by omega) (by omega) hpost
  rw [if_neg c4] at hpost ⊢
  by_cases c5 : i < 15
  · rw [if_pos c5] at hpost
    exact seg_eq l hl i k (by omega) 4 8 15 (by omega) rfl rfl (by omega) (by omega) (by omega) (by omega) (by omega) hpost
  rw [if_neg c5] at hpost
  obtain rfl : i = 15 := by omega
  simp only [okl, Bool.and_eq_true, beq_iff_eq] at hl
  unfold psalteryref14_Line.f
  rw [hpost]
  simp only [Option.bind_some, if_true]
  rw [if_pos (by omega), V_right l 4 (by omega)]
  rfl
theorem refFloor_eq (l : List Int) (hl : okl 6 l = true) (i : Int) (hi : 0 ≤ i ∧ i < 16) (k : Nat) (hk : 200 < k) : psalteryref14_Floor.f k l i = some (flv (lineV l i)) := by
  unfold psalteryref14_Floor.f
  rw [refLine_eq l hl i hi k (by omega)]
  simp only [Option.bind_some]
  rw [refVal_eq _ k (by omega)]
  simp only [Option.bind_some]
  unfold flv; split <;> rfl
end Go.Proofs.Ytdajlfijkbafiaa.LF
namespace Go.Proofs.Ytdajlfijkbafiaa.P
open Go.RowKit Go.Proofs.YtdajlfijkbafiaaW.PrintWords Go.Proofs.YtdajlfijkbafiaaW.PrintLast Go.Proofs.YtdajlfijkbafiaaW.PrintMore
attribute [local go_sem] max2_int min2_int max_two min_two max_three min_three max_four min_four
def psalteryref03_Clamp.f (a0 : Int) (a1 : Int) (a2 : Int) : Option (Int) := if a0 < a1 then (some a1) else (if a0 > a2 then (some a2) else (some a0))
def psalteryref21_Restore.l0 : Nat → List Int → List Int → List Int → Int → Option (List Int)
  | 0, _, _, _, _ => none
  | k + 1, x0, x1, x5, x6 => if x6 < 16 then (if 0 ≤ x6 then (if x6 < (x0.length : Int) then (if x6 < (x1.length : Int) then ((psalteryref03_Clamp.f (wrap64 ((rd x0 x6) * (rd x1 x6))) (-1048576) 1048576).bind fun t883 => (if x5.length < 17592186044416 then (psalteryref21_Restore.l0 k x0 x1 (x5 ++ [t883]) (wrap64 (x6 + 1))) else (none))) else (none)) else (none)) else (none)) else (some x5)
def psalteryref21_Restore.f (k : Nat) (l0 : List Int) (l1 : List Int) : Option (List Int) := psalteryref21_Restore.l0 k l0 l1 ([] : List Int) 0
theorem psalteryref21_Restore.mono_l : ∀ k, (∀ y0 y1 y2 y3, LeO (psalteryref21_Restore.l0 k y0 y1 y2 y3) (psalteryref21_Restore.l0 (k + 1) y0 y1 y2 y3))
  | 0 => fun _ _ _ _ r h => by simp [psalteryref21_Restore.l0] at h
  | k + 1 => by
    have ih0 := psalteryref21_Restore.mono_l k
    · intro y0 y1 y2 y3
      unfold psalteryref21_Restore.l0
      with_reducible repeat' first
   | exact ih0 _ _ _ _
   | exact LeO.refl _
   | exact LeO.none _
   | refine LeO.ite ?_ ?_
   | refine LeO.bind ?_ (fun _ => ?_)
theorem psalteryref21_Restore.mono : ∀ a0 a1 k, LeO (psalteryref21_Restore.f k a0 a1) (psalteryref21_Restore.f (k + 1) a0 a1) := by
  intro a0 a1 k
  have ih0 := psalteryref21_Restore.mono_l k
  unfold psalteryref21_Restore.f
  with_reducible repeat' first
   | exact ih0 _ _ _ _
   | exact LeO.refl _
   | exact LeO.none _
   | refine LeO.ite ?_ ?_
   | refine LeO.bind ?_ (fun _ => ?_)
def psalteryref07_Same.l0 : Nat → List Int → List Int → Int → Option (Bool)
  | 0, _, _, _ => none
  | k + 1, x0, x1, x5 => if x5 < (x0.length : Int) then (if 0 ≤ x5 then (if x5 < (x1.length : Int) then (if (rd x0 x5) = (rd x1 x5) then (psalteryref07_Same.l0 k x0 x1 (wrap64 (x5 + 1))) else (some false)) else (none)) else (none)) else (some true)
def psalteryref07_Same.f (k : Nat) (l0 : List Int) (l1 : List Int) : Option (Bool) := if (l0.length : Int) = (l1.length : Int) then (psalteryref07_Same.l0 k l0 l1 0) else (some false)
theorem psalteryref07_Same.mono_l : ∀ k, (∀ y0 y1 y2, LeO (psalteryref07_Same.l0 k y0 y1 y2) (psalteryref07_Same.l0 (k + 1) y0 y1 y2))
  | 0 => fun _ _ _ r h => by simp [psalteryref07_Same.l0] at h
  | k + 1 => by
    have ih0 := psalteryref07_Same.mono_l k
    · intro y0 y1 y2
      unfold psalteryref07_Same.l0
      with_reducible repeat' first
   | exact ih0 _ _ _
   | exact LeO.refl _
   | exact LeO.none _
   | refine LeO.ite ?_ ?_
   | refine LeO.bind ?_ (fun _ => ?_)
theorem psalteryref07_Same.mono : ∀ a0 a1 k, LeO (psalteryref07_Same.f k a0 a1) (psalteryref07_Same.f (k + 1) a0 a1) := by
  intro a0 a1 k
  have ih0 := psalteryref07_Same.mono_l k
  unfold psalteryref07_Same.f
  with_reducible repeat' first
   | exact ih0 _ _ _
   | exact LeO.refl _
   | exact LeO.none _
   | refine LeO.ite ?_ ?_
   | refine LeO.bind ?_ (fun _ => ?_)
end Go.Proofs.Ytdajlfijkbafiaa.P
namespace Go.Proofs.Ytdajlfijkbafiaa.LB
open Go.RowKit Go.Proofs.YtdajlfijkbafiaaW.PrintWords Go.Proofs.YtdajlfijkbafiaaW.PrintLast Go.Proofs.Ytdajlfijkbafiaa.P Go.Proofs.Ytdajlfijkbafiaa.NT
theorem size_eq {a : Int} (ha : -9223372036854775808 ≤ a ∧ a ≤ 9223372036854775807) : num_size.f a = some (if a < 0 then -a else a) := by
  unfold num_size.f
  simp only [u64_eq]
  split <;> (congr 1; omega)
theorem div_eq {a b : Int} (ha : -9223372036854775808 ≤ a ∧ a ≤ 9223372036854775807) (hb : b ≤ 9223372036854775807) : num_Div.f a b = some (if b < 1 then (0, 1) else (near a b, 0)) := by
  unfold num_Div.f
  by_cases h1 : b < 1
  · rw [if_pos h1, if_pos h1]
  rw [if_neg h1, if_neg h1, size_eq ha]
  simp only [Option.bind_some]
  rw [u64w (x := b) (by omega) (by omega), if_neg (by omega)]
  have fin : ∀ n : Int, 0 ≤ n → n ≤ 9223372036854775808 → ∃ q, q = near n b ∧ 0 ≤ q ∧ q ≤ n ∧ (if n % b ≥ b - n % b then n / b + 1 else n / b) = q := by
    intro n h0 _
    have := (near_bound (a := n) (b := b) (by omega)).1 h0
    exact ⟨near n b, rfl, this.1, this.2, (near_pos (by omega) h0).symm⟩
  have hn0 : 0 ≤ (if a < 0 then -a else a) := by split <;> omega
  have hn1 : (if a < 0 then -a else a) ≤ 9223372036854775808 := by split <;> omega
  have hn2 : ¬ a < 0 → (if a < 0 then -a else a) ≤ 9223372036854775807 := by intro h; rw [if_neg h]; omega
  have hs : near a b = if a < 0 then - near (if a < 0 then -a else a) b else near (if a < 0 then -a else a) b := by
    split
    · exact near_neg (by assumption)
    · rfl
  rw [hs]
  generalize (if a < 0 then -a else a) = n at *
  obtain ⟨q, hq, q0, q1, q2⟩ := fin n hn0 hn1
  have m0 := Int.emod_nonneg n (show b ≠ 0 by omega)
  have m1 := Int.emod_lt_of_pos n (show 0 < b by omega)
  have d0 : 0 ≤ n / b := Int.ediv_nonneg hn0 (by omega)
  have d1 : n / b ≤ n := Int.ediv_le_self _ hn0
  rw [tmod_nn b hn0, tdiv_nn b hn0, u64w (x := b - n % b) (by omega) (by omega), u64w (x := n / b) d0 (by omega), ← hq]
  by_cases hc : n % b ≥ b - n % b
  · rw [if_pos hc] at q2 ⊢
    rw [q2]
    simp only [u64_eq, wrap64_eq]
    split
    · congr 2; omega
    · have := hn2 (by assumption); congr 2; omega
  · rw [if_neg hc] at q2 ⊢
    rw [q2]
    simp only [u64_eq, wrap64_eq]
    split
    · congr 2; omega
    · have := hn2 (by assumption); congr 2; omega
end Go.Proofs.Ytdajlfijkbafiaa.LB
namespace Go.Proofs.Ytdajlfijkbafiaa.LR
open Go.RowKit Go.Proofs.YtdajlfijkbafiaaW.PrintWords Go.Proofs.YtdajlfijkbafiaaW.PrintLast Go.Proofs.YtdajlfijkbafiaaW.PrintMore Go.Proofs.Ytdajlfijkbafiaa.P Go.Proofs.Ytdajlfijkbafiaa.LB Go.Proofs.Ytdajlfijkbafiaa.NT
def inr (lo hi : Int) : List Int → Bool
  | [] => true
  | v :: l => decide (lo ≤ v ∧ v ≤ hi) && inr lo hi l
def cl (v : Int) : Int := if v < -1048576 then -1048576 else if v > 1048576 then 1048576 else v
def rs (a b : Int) : Int := cl (a * b)
def okq (m : Int) (l r : List Int) : Bool := inr (-m) m l && l.length == 16 && inr 1 4194304 r && r.length == 16
theorem inr_mem {lo hi : Int} : ∀ {l : List Int}, inr lo hi l = true → ∀ x ∈ l, lo ≤ x ∧ x ≤ hi
  | [], _, x, hx => by cases hx
  | v :: l, h, x, hx => by
    simp only [inr, Bool.and_eq_true, decide_eq_true_eq] at h
    rcases List.mem_cons.1 hx with rfl | hx
    · exact h.1
    · exact inr_mem h.2 x hx
theorem inr_of {lo hi : Int} : ∀ {l : List Int}, (∀ x ∈ l, lo ≤ x ∧ x ≤ hi) → inr lo hi l = true
  | [], _ => rfl
  | v :: l, h => by
    simp only [inr, Bool.and_eq_true, decide_eq_true_eq]
    exact ⟨h v (List.mem_cons_self ..), inr_of fun x hx => h x (List.mem_cons_of_mem _ hx)⟩
theorem rd_mid (l r : List Int) (x : Int) : rd (l ++ x :: r) (l.length : Int) = x := by simp [rd]
theorem rd_mid' (l l' r : List Int) (x : Int) (h : l.length = l'.length) : rd (l ++ x :: r) (l'.length : Int) = x := by rw [← h]; exact rd_mid l r x
theorem clamp_eq {v lo hi : Int} (h : lo ≤ hi) : num_Clamp.f v lo hi = some (if lo ≤ v ∧ v ≤ hi then v else if v < lo then lo else hi) := by
  unfold num_Clamp.f; repeat' split
  all_goals (simp only [Option.some.injEq] <;> omega)
theorem row_loop (lo hi : Int) (h : lo ≤ hi) (whole : List Int) : ∀ (s p : List Int) (k : Nat), p.length + s.length ≤ 1000 → s.length < k →
    remap_row.l0 k whole lo hi (p ++ s) ((p ++ s).length : Int) (p.length : Int) = some (if inr lo hi s = true then ((whole.length : Int) == 16) else false)
  | [], p, k, hn, hk => by
    obtain ⟨k, rfl⟩ : ∃ j, k = j + 1 := ⟨k - 1, by omega⟩
    simp only [remap_row.l0, List.append_nil]
    rw [if_neg (by omega)]; simp [inr]
  | v :: s, p, k, hn, hk => by
    obtain ⟨k, rfl⟩ : ∃ j, k = j + 1 := ⟨k - 1, by omega⟩
    simp only [List.length_cons] at hn hk
    have hlen : ((p ++ v :: s).length : Int) = p.length + s.length + 1 := by simp only [List.length_append, List.length_cons]; omega
    simp only [remap_row.l0]
    rw [if_pos (by omega), if_pos (by omega), if_pos (by omega), rd_mid, clamp_eq h]
    simp only [Option.bind_some]
    by_cases c : lo ≤ v ∧ v ≤ hi
    · rw [if_pos c, if_pos rfl, w64 (by omega) (by omega), show inr lo hi (v :: s) = inr lo hi s by simp only [inr, decide_eq_true c, Bool.true_and]]
      have ih := row_loop lo hi h whole s (p ++ [v]) k (by simp only [List.length_append, List.length_cons, List.length_nil]; omega) (by omega)
      simp only [List.append_assoc, List.singleton_append] at ih
      rw [show (((p ++ [v]).length : Nat) : Int) = (p.length : Int) + 1 by simp only [List.length_append, List.length_cons, List.length_nil]; omega] at ih
      exact ih
    · rw [if_neg c, if_neg (by split <;> omega), show inr lo hi (v :: s) = false by simp only [inr, decide_eq_false c, Bool.false_and]]
      rfl
theorem row_eq {lo hi : Int} (h : lo ≤ hi) (l : List Int) (hl : l.length ≤ 1000) (k : Nat) (hk : l.length < k) : remap_row.f k l lo hi = some (inr lo hi l && l.length == 16) := by
  unfold remap_row.f
  have := row_loop lo hi h l l [] k (by simpa using hl) hk
  simp only [List.nil_append, List.length_nil] at this
  rw [show ((0 : Nat) : Int) = 0 from rfl] at this
  rw [this]
  have e : ((l.length : Int) == 16) = (l.length == 16) := by rw [Bool.eq_iff_iff]; simp only [beq_iff_eq]; omega
  rw [e]; cases inr lo hi l <;> simp
theorem quantized_eq {a b : Int} (ha : -1048576 ≤ a ∧ a ≤ 1048576) (hb : 1 ≤ b ∧ b ≤ 4194304) : remap_quantized.f a b = some (near a b) := by
  unfold remap_quantized.f
  rw [div_eq (by omega) (by omega), if_neg (by omega)]; rfl
theorem prod_bound {a b : Int} (ha : -8388608 ≤ a ∧ a ≤ 8388608) (hb : 1 ≤ b ∧ b ≤ 4194304) : -35184372088832 ≤ a * b ∧ a * b ≤ 35184372088832 := by
  have h1 : a * b ≤ 8388608 * b := Int.mul_le_mul_of_nonneg_right ha.2 (by omega)
  have h2 : -8388608 * b ≤ a * b := Int.mul_le_mul_of_nonneg_right ha.1 (by omega)
  omega
theorem restored_eq {a b : Int} (ha : -8388608 ≤ a ∧ a ≤ 8388608) (hb : 1 ≤ b ∧ b ≤ 4194304) : remap_restored.f a b = some (rs a b) := by
  have := prod_bound ha hb
  unfold remap_restored.f rs
  rw [w64 (by omega) (by omega), clamp_eq (by omega)]
  simp only [Option.bind_some]
  unfold cl; repeat' split
  all_goals (simp only [Option.some.injEq] <;> omega)
theorem over_near : ∀ (s t p q out : List Int) (k : Nat), p.length = q.length → s.length = t.length → p.length + s.length ≤ 1000 → out.length ≤ p.length → s.length < k → inr (-1048576) 1048576 s = true → inr 1 4194304 t = true →
    remap_over_int64_by_remap_quantized.l0 k (q ++ t) out (p ++ s) ((p ++ s).length : Int) (p.length : Int) = some (out ++ List.zipWith near s t)
  | [], [], p, q, out, k, hp, _, hn, ho, hk, _, _ => by
    obtain ⟨k, rfl⟩ : ∃ j, k = j + 1 := ⟨k - 1, by omega⟩
    simp only [remap_over_int64_by_remap_quantized.l0, List.append_nil]
    rw [if_neg (by omega)]; simp
  | x :: s, y :: t, p, q, out, k, hp, hl, hn, ho, hk, hs, ht => by
    obtain ⟨k, rfl⟩ : ∃ j, k = j + 1 := ⟨k - 1, by omega⟩
    simp only [List.length_cons] at hl hn hk
    simp only [inr, Bool.and_eq_true, decide_eq_true_eq] at hs ht
    have hlen : ((p ++ x :: s).length : Int) = p.length + s.length + 1 := by simp only [List.length_append, List.length_cons]; omega
    have hlen' : ((q ++ y :: t).length : Int) = q.length + t.length + 1 := by simp only [List.length_append, List.length_cons]; omega
    simp only [remap_over_int64_by_remap_quantized.l0]
    rw [if_pos (by omega), if_pos (by omega), if_pos (by omega), if_pos (by omega), rd_mid, rd_mid' q p t y hp.symm, quantized_eq hs.1 ht.1]
    simp only [Option.bind_some]
    rw [if_pos (by omega), w64 (by omega) (by omega)]
    have ih := over_near s t (p ++ [x]) (q ++ [y]) (out ++ [near x y]) k (by simp [hp]) (by omega) (by simp only [List.length_append, List.length_cons, List.length_nil]; omega) (by simp only [List.length_append, List.length_cons, List.length_nil]; omega) (by omega) hs.2 ht.2
    simp only [List.append_assoc, List.singleton_append] at ih
    rw [show (((p ++ [x]).length : Nat) : Int) = (p.length : Int) + 1 by simp only [List.length_append, List.length_cons, List.length_nil]; omega] at ih
    exact ih
theorem Quantize_eq (l r : List Int) (hl : l.length ≤ 1000) (hr : r.length ≤ 1000) (k : Nat) (hk : 1001 < k) : remap_Quantize.f k l r = some (if okq 1048576 l r = true then (List.zipWith near l r, 0) else ([], 1)) := by
  unfold remap_Quantize.f okq
  rw [row_eq (by omega) l hl k (by omega), row_eq (by omega) r hr k (by omega)]
  simp only [Option.bind_some]
  cases h1 : (inr (-1048576) 1048576 l && l.length == 16) with
  | false => rfl
  | true =>
    cases h2 : (inr 1 4194304 r && r.length == 16) with
    | false => rw [Bool.true_and, h2]; rfl
    | true =>
      rw [Bool.true_and, h2]
      simp only [if_true]
      simp only [Bool.and_eq_true, beq_iff_eq] at h1 h2
      unfold remap_over_int64_by_remap_quantized.f
      have := over_near l r [] [] [] k rfl (by omega) (by simp only [List.length_nil]; omega) (Nat.le_refl _) (by omega) h1.1 h2.1
      simp only [List.nil_append, List.length_nil] at this
      rw [show ((0 : Nat) : Int) = 0 from rfl] at this
      rw [this]; rfl
theorem over_rs : ∀ (s t p q out : List Int) (k : Nat), p.length = q.length → s.length = t.length → p.length + s.length ≤ 1000 → out.length ≤ p.length → s.length < k → inr (-8388608) 8388608 s = true → inr 1 4194304 t = true →
    remap_over_int64_by_remap_restored.l0 k (q ++ t) out (p ++ s) ((p ++ s).length : Int) (p.length : Int) = some (out ++ List.zipWith rs s t)
  | [], [], p, q, out, k, hp, _, hn, ho, hk, _, _ => by
    obtain ⟨k, rfl⟩ : ∃ j, k = j + 1 := ⟨k - 1, by omega⟩
    simp only [remap_over_int64_by_remap_restored.l0, List.append_nil]
    rw [if_neg (by omega)]; simp
  | x :: s, y :: t, p, q, out, k, hp, hl, hn, ho, hk, hs, ht => by
    obtain ⟨k, rfl⟩ : ∃ j, k = j + 1 := ⟨k - 1, by omega⟩
    simp only [List.length_cons] at hl hn hk
    simp only [inr, Bool.and_eq_true, decide_eq_true_eq] at hs ht
    have hlen : ((p ++ x :: s).length : Int) = p.length + s.length + 1 := by simp only [List.length_append, List.length_cons]; omega
    have hlen' : ((q ++ y :: t).length : Int) = q.length + t.length + 1 := by simp only [List.length_append, List.length_cons]; omega
    simp only [remap_over_int64_by_remap_restored.l0]
    rw [if_pos (by omega), if_pos (by omega), if_pos (by omega), if_pos (by omega), rd_mid, rd_mid' q p t y hp.symm, restored_eq hs.1 ht.1]
    simp only [Option.bind_some]
    rw [if_pos (by omega), w64 (by omega) (by omega)]
    have ih := over_rs s t (p ++ [x]) (q ++ [y]) (out ++ [rs x y]) k (by simp [hp]) (by omega) (by simp only [List.length_append, List.length_cons, List.length_nil]; omega) (by simp only [List.length_append, List.length_cons, List.length_nil]; omega) (by omega) hs.2 ht.2
    simp only [List.append_assoc, List.singleton_append] at ih
    rw [show (((p ++ [x]).length : Nat) : Int) = (p.length : Int) + 1 by simp only [List.length_append, List.length_cons, List.length_nil]; omega] at ih
    exact ih
theorem Restore_eq (l r : List Int) (hl : l.length ≤ 1000) (hr : r.length ≤ 1000) (k : Nat) (hk : 1001 < k) : remap_Restore.f k l r = some (if okq 8388608 l r = true then (List.zipWith rs l r, 0) else ([], 1)) := by
  unfold remap_Restore.f okq
  rw [row_eq (by omega) l hl k (by omega), row_eq (by omega) r hr k (by omega)]
  simp only [Option.bind_some]
  cases h1 : (inr (-8388608) 8388608 l && l.length == 16) with
  | false => rfl
  | true =>
    cases h2 : (inr 1 4194304 r && r.length == 16) with
    | false => rw [Bool.true_and, h2]; rfl
    | true =>
      rw [Bool.true_and, h2]
      simp only [if_true]
      simp only [Bool.and_eq_true, beq_iff_eq] at h1 h2
      unfold remap_over_int64_by_remap_restored.f
      have := over_rs l r [] [] [] k rfl (by omega) (by simp only [List.length_nil]; omega) (Nat.le_refl _) (by omega) h1.1 h2.1
      simp only [List.nil_append, List.length_nil] at this
      rw [show ((0 : Nat) : Int) = 0 from rfl] at this
      rw [this]; rfl
theorem rs_in (a b : Int) : -1048576 ≤ rs a b ∧ rs a b ≤ 1048576 := by unfold rs cl; repeat' split
                                                                       all_goals omega
theorem rd_zip (f : Int → Int → Int) (l r : List Int) (i : Nat) (h : i < l.length) (h' : i < r.length) : rd (List.zipWith f l r) (i : Int) = f (rd l i) (rd r i) := by
  simp [rd, List.getD_eq_getElem?_getD, List.getElem?_zipWith, h, h']
theorem rd_in {lo hi : Int} {l : List Int} (h : inr lo hi l = true) (i : Nat) (hi' : i < l.length) : lo ≤ rd l i ∧ rd l i ≤ hi := by
  have : rd l i ∈ l := by simp [rd, List.getD_eq_getElem?_getD, hi']
  exact inr_mem h _ this
theorem near_fair {c f : Int} (hc : -1048576 ≤ c ∧ c ≤ 1048576) (hf : 1 ≤ f ∧ f ≤ 4194304) : (-f ≤ 2 * (rs (near c f) f - c) ∧ 2 * (rs (near c f) f - c) ≤ f) ∧ (rs (near c f) f > 0 → c ≥ 0) ∧ (rs (near c f) f < 0 → c ≤ 0) ∧ (near c f > 0 → c > 0) ∧ (near c f < 0 → c < 0) := by
  have h1 := near_close (a := c) (b := f) (by omega)
  have h2 := near_bound (a := c) (b := f) (by omega)
  have h3 : near c f > 0 → 0 ≤ near c f * f := fun h => Int.mul_nonneg (by omega) (by omega)
  have h4 : near c f < 0 → near c f * f ≤ 0 := fun h => Int.mul_nonpos_of_nonpos_of_nonneg (by omega) (by omega)
  have h5 : near c f = 0 → near c f * f = 0 := fun h => by rw [h, Int.zero_mul]
  unfold rs cl
  generalize near c f * f = p at *
  generalize near c f = r at *
  refine ⟨?_, ?_, ?_, ?_, ?_⟩
  · repeat' split
    all_goals omega
  · repeat' split
    all_goals omega
  · repeat' split
    all_goals omega
  · omega
  · omega
end Go.Proofs.Ytdajlfijkbafiaa.LR
