/- Words, walks and what they compute, as the law's proof needs them. -/
import Derived.Test.YtdajlfijkbafiaaA3
import Derived.Test.YtdajlfijkbafiaaA4
import Derived.Test.YtdajlfijkbafiaaA6
import Derived.Test.YtdajlfijkbafiaaA5
import Derived.Test.YtdajlfijkbafiaaA2
import Derived.Laws.BitsAllLaws
set_option linter.unusedVariables false
set_option linter.unusedSimpArgs false
namespace Go.Proofs.Ytdajlfijkbafiaa.P
open Go.RowKit Go.Proofs.YtdajlfijkbafiaaW.PrintWords Go.Proofs.YtdajlfijkbafiaaW.PrintLast Go.Proofs.YtdajlfijkbafiaaW.PrintMore
attribute [local go_sem] max2_int min2_int max_two min_two max_three min_three max_four min_four
def psalterylaw22_knows.f (k : Nat)  : Option (Bool) := (vhead_Plain.f k 1 0).bind fun bt450 => (if 16 ≤ 35184372088832 then ((some (List.replicate 16 0 : List Int)).bind fun y459 => ((vcodec_Encode.f k bt450.1 bt450.2.1 bt450.2.2.1 bt450.2.2.2 (([y459] : List (List Int)))).bind fun bt465 => (if 0 < (y459.length : Int) then ((vcodec_Encode.f k bt450.1 bt450.2.1 bt450.2.2.1 bt450.2.2.2 (([(y459.set (0 : Int).toNat 5)] : List (List Int)))).bind fun bt477 => ((vcodec_Decode.f k bt450.1 bt450.2.1 bt450.2.2.1 bt450.2.2.2 bt477.1 bt477.2.1).bind fun bt485 => (if bt465.2.2 = 0 then (if (bt465.1.length : Int) = 1 then (if 0 < (bt465.1.length : Int) then (if ((rd_L1 bt465.1 0).length : Int) = 0 then (if bt477.2.2 = 0 then (if (bt477.2.1.length : Int) = 1 then (if 0 < (bt477.2.1.length : Int) then (if ((rd_L2 bt477.2.1 0).length : Int) = 16 then (if 0 < ((rd_L2 bt477.2.1 0).length : Int) then (if (rd (rd_L2 bt477.2.1 0) 0) = 5 then (if 0 < (bt477.1.length : Int) then (if ((rd_L1 bt477.1 0).length : Int) = 6 then (if 0 < ((rd_L1 bt477.1 0).length : Int) then (if (rd (rd_L1 bt477.1 0) 0) = 0 then (if bt485.2 = 0 then (if (bt485.1.length : Int) = 1 then (if 0 < (bt485.1.length : Int) then (if ((rd_L2 bt485.1 0).length : Int) = 16 then (if 0 < ((rd_L2 bt485.1 0).length : Int) then (some ((rd (rd_L2 bt485.1 0) 0) == 5)) else (none)) else (some false)) else (none)) else (some false)) else (some false)) else (some false)) else (none)) else (some false)) else (none)) else (some false)) else (none)) else (some false)) else (none)) else (some false)) else (some false)) else (some false)) else (none)) else (some false)) else (some false)))) else (none)))) else (none))
theorem psalterylaw22_knows.mono : ∀ k, LeO (psalterylaw22_knows.f k ) (psalterylaw22_knows.f (k + 1) ) := by
  intro  k
  unfold psalterylaw22_knows.f
  with_reducible repeat' first
   | exact vcodec_Decode.mono _ _ _ _ _ _ _
   | exact vcodec_Encode.mono _ _ _ _ _ _
   | exact vhead_Plain.mono _ _ _
   | exact LeO.refl _
   | exact LeO.none _
   | refine LeO.ite ?_ ?_
   | refine LeO.bind ?_ (fun _ => ?_)
set_option maxHeartbeats 8000000 in
set_option maxRecDepth 100000 in
theorem psalterylaw22_knows.callsT (k : Nat)  (r : Bool) (w : World) (h : psalterylaw22_knows.f k  = some r) (hT : r = true) :
    Calls Try.prog 13 #[] w fun e w' => e = .returned (.bool r) ∧ Below w.heap.size w w' := by
 have hu24 := Try.underlying24
 have hu37 := Try.underlying37
 have hu28 := Try.underlying28
 have HB := Aside0.mk (Below.refl w.heap.size w)
 have H : ((vhead_Plain.f k 1 0).bind fun bt450 => (if 16 ≤ 35184372088832 then ((some (List.replicate 16 0 : List Int)).bind fun y459 => ((vcodec_Encode.f k bt450.1 bt450.2.1 bt450.2.2.1 bt450.2.2.2 (([y459] : List (List Int)))).bind fun bt465 => (if 0 < (y459.length : Int) then ((vcodec_Encode.f k bt450.1 bt450.2.1 bt450.2.2.1 bt450.2.2.2 (([(y459.set (0 : Int).toNat 5)] : List (List Int)))).bind fun bt477 => ((vcodec_Decode.f k bt450.1 bt450.2.1 bt450.2.2.1 bt450.2.2.2 bt477.1 bt477.2.1).bind fun bt485 => (if bt465.2.2 = 0 then (if (bt465.1.length : Int) = 1 then (if 0 < (bt465.1.length : Int) then (if ((rd_L1 bt465.1 0).length : Int) = 0 then (if bt477.2.2 = 0 then (if (bt477.2.1.length : Int) = 1 then (if 0 < (bt477.2.1.length : Int) then (if ((rd_L2 bt477.2.1 0).length : Int) = 16 then (if 0 < ((rd_L2 bt477.2.1 0).length : Int) then (if (rd (rd_L2 bt477.2.1 0) 0) = 5 then (if 0 < (bt477.1.length : Int) then (if ((rd_L1 bt477.1 0).length : Int) = 6 then (if 0 < ((rd_L1 bt477.1 0).length : Int) then (if (rd (rd_L1 bt477.1 0) 0) = 0 then (if bt485.2 = 0 then (if (bt485.1.length : Int) = 1 then (if 0 < (bt485.1.length : Int) then (if ((rd_L2 bt485.1 0).length : Int) = 16 then (if 0 < ((rd_L2 bt485.1 0).length : Int) then (some ((rd (rd_L2 bt485.1 0) 0) == 5)) else (none)) else (some false)) else (none)) else (some false)) else (some false)) else (some false)) else (none)) else (some false)) else (none)) else (some false)) else (none)) else (some false)) else (none)) else (some false)) else (some false)) else (some false)) else (none)) else (some false)) else (some false)))) else (none)))) else (none))) = some r := h
 clear h
 have HT := Aside0.mk hT
 clear hT
 obtain ⟨⟨t450, t451, t452, t455⟩, A1, H⟩ := ob_ H
 (try dsimp only at H)
 by_cases c2 : 16 ≤ 35184372088832
 {
 rw [if_pos c2] at H
 have c2b0 := eq_true c2
 have c2b1 : decide (16 ≤ 35184372088832) = true := decide_eq_true c2
 clear c2
 obtain ⟨y459, hy459⟩ : ∃ y_ : List Int, y_ = (List.replicate 16 0) := ⟨_, rfl⟩
 replace H : ((vcodec_Encode.f k t450 t451 t452 t455 (([y459] : List (List Int)))).bind fun bt465 => (if 0 < (y459.length : Int) then ((vcodec_Encode.f k t450 t451 t452 t455 (([(y459.set (0 : Int).toNat 5)] : List (List Int)))).bind fun bt477 => ((vcodec_Decode.f k t450 t451 t452 t455 bt477.1 bt477.2.1).bind fun bt485 => (if bt465.2.2 = 0 then (if (bt465.1.length : Int) = 1 then (if 0 < (bt465.1.length : Int) then (if ((rd_L1 bt465.1 0).length : Int) = 0 then (if bt477.2.2 = 0 then (if (bt477.2.1.length : Int) = 1 then (if 0 < (bt477.2.1.length : Int) then (if ((rd_L2 bt477.2.1 0).length : Int) = 16 then (if 0 < ((rd_L2 bt477.2.1 0).length : Int) then (if (rd (rd_L2 bt477.2.1 0) 0) = 5 then (if 0 < (bt477.1.length : Int) then (if ((rd_L1 bt477.1 0).length : Int) = 6 then (if 0 < ((rd_L1 bt477.1 0).length : Int) then (if (rd (rd_L1 bt477.1 0) 0) = 0 then (if bt485.2 = 0 then (if (bt485.1.length : Int) = 1 then (if 0 < (bt485.1.length : Int) then (if ((rd_L2 bt485.1 0).length : Int) = 16 then (if 0 < ((rd_L2 bt485.1 0).length : Int) then (some ((rd (rd_L2 bt485.1 0) 0) == 5)) else (none)) else (some false)) else (none)) else (some false)) else (some false)) else (some false)) else (none)) else (some false)) else (none)) else (some false)) else (none)) else (some false)) else (none)) else (some false)) else (some false)) else (some false)) else (none)) else (some false)) else (some false)))) else (none))) = some r := by first | (rw [hy459]; with_reducible exact H) | (have H2_ := (Option.bind_some _ _).symm.trans H; rw [hy459]; with_reducible exact H2_) | (have H2_ := (Option.bind_some _ _).symm.trans H; with_reducible exact H2_) | with_reducible exact H | (rw [hy459]; exact H) | exact H
 have Ny459 := Aside0.mk hy459
 clear hy459
 obtain ⟨y462, hy462⟩ : ∃ y_ : List (List Int), y_ = (([y459] : List (List Int))) := ⟨_, rfl⟩
 replace H : ((vcodec_Encode.f k t450 t451 t452 t455 y462).bind fun bt465 => (if 0 < (y459.length : Int) then ((vcodec_Encode.f k t450 t451 t452 t455 (([(y459.set (0 : Int).toNat 5)] : List (List Int)))).bind fun bt477 => ((vcodec_Decode.f k t450 t451 t452 t455 bt477.1 bt477.2.1).bind fun bt485 => (if bt465.2.2 = 0 then (if (bt465.1.length : Int) = 1 then (if 0 < (bt465.1.length : Int) then (if ((rd_L1 bt465.1 0).length : Int) = 0 then (if bt477.2.2 = 0 then (if (bt477.2.1.length : Int) = 1 then (if 0 < (bt477.2.1.length : Int) then (if ((rd_L2 bt477.2.1 0).length : Int) = 16 then (if 0 < ((rd_L2 bt477.2.1 0).length : Int) then (if (rd (rd_L2 bt477.2.1 0) 0) = 5 then (if 0 < (bt477.1.length : Int) then (if ((rd_L1 bt477.1 0).length : Int) = 6 then (if 0 < ((rd_L1 bt477.1 0).length : Int) then (if (rd (rd_L1 bt477.1 0) 0) = 0 then (if bt485.2 = 0 then (if (bt485.1.length : Int) = 1 then (if 0 < (bt485.1.length : Int) then (if ((rd_L2 bt485.1 0).length : Int) = 16 then (if 0 < ((rd_L2 bt485.1 0).length : Int) then (some ((rd (rd_L2 bt485.1 0) 0) == 5)) else (none)) else (some false)) else (none)) else (some false)) else (some false)) else (some false)) else (none)) else (some false)) else (none)) else (some false)) else (none)) else (some false)) else (none)) else (some false)) else (some false)) else (some false)) else (none)) else (some false)) else (some false)))) else (none))) = some r := by first | (rw [hy462]; with_reducible exact H) | (have H2_ := (Option.bind_some _ _).symm.trans H; rw [hy462]; with_reducible exact H2_) | (have H2_ := (Option.bind_some _ _).symm.trans H; with_reducible exact H2_) | with_reducible exact H | (rw [hy462]; exact H) | exact H
 have Ny462 := Aside0.mk hy462
 clear hy462
 obtain ⟨⟨t465, t468, t471⟩, A3, H⟩ := ob_ H
 (try dsimp only at H)
 by_cases c4 : 0 < (y459.length : Int)
 {
 rw [if_pos c4] at H
 have c4b0 : decide (0 < (y459.length : Int)) = true := decide_eq_true c4
 have c4b1 : decide (0 < y459.length) = true := decide_eq_true (by omega)
 clear c4
 obtain ⟨y473, hy473⟩ : ∃ y_ : List Int, y_ = (y459.set (0 : Int).toNat 5) := ⟨_, rfl⟩
 replace H : ((vcodec_Encode.f k t450 t451 t452 t455 (([y473] : List (List Int)))).bind fun bt477 => ((vcodec_Decode.f k t450 t451 t452 t455 bt477.1 bt477.2.1).bind fun bt485 => (if t471 = 0 then (if (t465.length : Int) = 1 then (if 0 < (t465.length : Int) then (if ((rd_L1 t465 0).length : Int) = 0 then (if bt477.2.2 = 0 then (if (bt477.2.1.length : Int) = 1 then (if 0 < (bt477.2.1.length : Int) then (if ((rd_L2 bt477.2.1 0).length : Int) = 16 then (if 0 < ((rd_L2 bt477.2.1 0).length : Int) then (if (rd (rd_L2 bt477.2.1 0) 0) = 5 then (if 0 < (bt477.1.length : Int) then (if ((rd_L1 bt477.1 0).length : Int) = 6 then (if 0 < ((rd_L1 bt477.1 0).length : Int) then (if (rd (rd_L1 bt477.1 0) 0) = 0 then (if bt485.2 = 0 then (if (bt485.1.length : Int) = 1 then (if 0 < (bt485.1.length : Int) then (if ((rd_L2 bt485.1 0).length : Int) = 16 then (if 0 < ((rd_L2 bt485.1 0).length : Int) then (some ((rd (rd_L2 bt485.1 0) 0) == 5)) else (none)) else (some false)) else (none)) else (some false)) else (some false)) else (some false)) else (none)) else (some false)) else (none)) else (some false)) else (none)) else (some false)) else (none)) else (some false)) else (some false)) else (some false)) else (none)) else (some false)) else (some false)))) = some r := by first | (rw [hy473]; with_reducible exact H) | (have H2_ := (Option.bind_some _ _).symm.trans H; rw [hy473]; with_reducible exact H2_) | (have H2_ := (Option.bind_some _ _).symm.trans H; with_reducible exact H2_) | with_reducible exact H | (rw [hy473]; exact H) | exact H
 have Ny473 := Aside0.mk hy473
 clear hy473
 obtain ⟨y474, hy474⟩ : ∃ y_ : List (List Int), y_ = (([y473] : List (List Int))) := ⟨_, rfl⟩
 replace H : ((vcodec_Encode.f k t450 t451 t452 t455 y474).bind fun bt477 => ((vcodec_Decode.f k t450 t451 t452 t455 bt477.1 bt477.2.1).bind fun bt485 => (if t471 = 0 then (if (t465.length : Int) = 1 then (if 0 < (t465.length : Int) then (if ((rd_L1 t465 0).length : Int) = 0 then (if bt477.2.2 = 0 then (if (bt477.2.1.length : Int) = 1 then (if 0 < (bt477.2.1.length : Int) then (if ((rd_L2 bt477.2.1 0).length : Int) = 16 then (if 0 < ((rd_L2 bt477.2.1 0).length : Int) then (if (rd (rd_L2 bt477.2.1 0) 0) = 5 then (if 0 < (bt477.1.length : Int) then (if ((rd_L1 bt477.1 0).length : Int) = 6 then (if 0 < ((rd_L1 bt477.1 0).length : Int) then (if (rd (rd_L1 bt477.1 0) 0) = 0 then (if bt485.2 = 0 then (if (bt485.1.length : Int) = 1 then (if 0 < (bt485.1.length : Int) then (if ((rd_L2 bt485.1 0).length : Int) = 16 then (if 0 < ((rd_L2 bt485.1 0).length : Int) then (some ((rd (rd_L2 bt485.1 0) 0) == 5)) else (none)) else (some false)) else (none)) else (some false)) else (some false)) else (some false)) else (none)) else (some false)) else (none)) else (some false)) else (none)) else (some false)) else (none)) else (some false)) else (some false)) else (some false)) else (none)) else (some false)) else (some false)))) = some r := by first | (rw [hy474]; with_reducible exact H) | (have H2_ := (Option.bind_some _ _).symm.trans H; rw [hy474]; with_reducible exact H2_) | (have H2_ := (Option.bind_some _ _).symm.trans H; with_reducible exact H2_) | with_reducible exact H | (rw [hy474]; exact H) | exact H
 have Ny474 := Aside0.mk hy474
 clear hy474
 obtain ⟨⟨t477, t480, t483⟩, A6, H⟩ := ob_ H
 (try dsimp only at H)
 obtain ⟨⟨t485, t488⟩, A7, H⟩ := ob_ H
 (try dsimp only at H)
 by_cases c8 : t471 = 0
 {
 rw [if_pos c8] at H
 have c8b0 : (t471 == 0) = true := beq_iff_eq.mpr c8
 have c8b1 : (t471 != 0) = false := bne_eq_false_iff_eq.mpr c8
 clear c8
 by_cases c9 : (t465.length : Int) = 1
 {
 rw [if_pos c9] at H
 have c9b0 : ((t465.length : Int) == 1) = true := beq_iff_eq.mpr c9
 have c9b1 : ((t465.length : Int) != 1) = false := bne_eq_false_iff_eq.mpr c9
 clear c9
 by_cases c10 : 0 < (t465.length : Int)
 {
 rw [if_pos c10] at H
 have c10b0 : decide (0 < (t465.length : Int)) = true := decide_eq_true c10
 have c10b1 : decide (0 < t465.length) = true := decide_eq_true (by omega)
 clear c10
 by_cases c11 : ((rd_L1 t465 0).length : Int) = 0
 {
 rw [if_pos c11] at H
 have c11b0 : (((rd_L1 t465 0).length : Int) == 0) = true := beq_iff_eq.mpr c11
 have c11b1 : (((rd_L1 t465 0).length : Int) != 0) = false := bne_eq_false_iff_eq.mpr c11
 clear c11
 by_cases c12 : t483 = 0
 {
 rw [if_pos c12] at H
 have c12b0 : (t483 == 0) = true := beq_iff_eq.mpr c12
 have c12b1 : (t483 != 0) = false := bne_eq_false_iff_eq.mpr c12
 clear c12
 by_cases c13 : (t480.length : Int) = 1
 {
 rw [if_pos c13] at H
 have c13b0 : ((t480.length : Int) == 1) = true := beq_iff_eq.mpr c13
 have c13b1 : ((t480.length : Int) != 1) = false := bne_eq_false_iff_eq.mpr c13
 clear c13
 by_cases c14 : 0 < (t480.length : Int)
 {
 rw [if_pos c14] at H
 have c14b0 : decide (0 < (t480.length : Int)) = true := decide_eq_true c14
 have c14b1 : decide (0 < t480.length) = true := decide_eq_true (by omega)
 clear c14
 by_cases c15 : ((rd_L2 t480 0).length : Int) = 16
 {
 rw [if_pos c15] at H
 have c15b0 : (((rd_L2 t480 0).length : Int) == 16) = true := beq_iff_eq.mpr c15
 have c15b1 : (((rd_L2 t480 0).length : Int) != 16) = false := bne_eq_false_iff_eq.mpr c15
 clear c15
 by_cases c16 : 0 < ((rd_L2 t480 0).length : Int)
 {
 rw [if_pos c16] at H
 have c16b0 : decide (0 < ((rd_L2 t480 0).length : Int)) = true := decide_eq_true c16
 have c16b1 : decide (0 < (rd_L2 t480 0).length) = true := decide_eq_true (by omega)
 clear c16
 by_cases c17 : (rd (rd_L2 t480 0) 0) = 5
 {
 rw [if_pos c17] at H
 have c17b0 : ((rd (rd_L2 t480 0) 0) == 5) = true := beq_iff_eq.mpr c17
 have c17b1 : ((rd (rd_L2 t480 0) 0) != 5) = false := bne_eq_false_iff_eq.mpr c17
 clear c17
 by_cases c18 : 0 < (t477.length : Int)
 {
 rw [if_pos c18] at H
 have c18b0 : decide (0 < (t477.length : Int)) = true := decide_eq_true c18
 have c18b1 : decide (0 < t477.length) = true := decide_eq_true (by omega)
 clear c18
 by_cases c19 : ((rd_L1 t477 0).length : Int) = 6
 {
 rw [if_pos c19] at H
 have c19b0 : (((rd_L1 t477 0).length : Int) == 6) = true := beq_iff_eq.mpr c19
 have c19b1 : (((rd_L1 t477 0).length : Int) != 6) = false := bne_eq_false_iff_eq.mpr c19
 clear c19
 by_cases c20 : 0 < ((rd_L1 t477 0).length : Int)
 {
 rw [if_pos c20] at H
 have c20b0 : decide (0 < ((rd_L1 t477 0).length : Int)) = true := decide_eq_true c20
 have c20b1 : decide (0 < (rd_L1 t477 0).length) = true := decide_eq_true (by omega)
 clear c20
 by_cases c21 : (rd (rd_L1 t477 0) 0) = 0
 {
 rw [if_pos c21] at H
 have c21b0 : ((rd (rd_L1 t477 0) 0) == 0) = true := beq_iff_eq.mpr c21
 have c21b1 : ((rd (rd_L1 t477 0) 0) != 0) = false := bne_eq_false_iff_eq.mpr c21
 clear c21
 by_cases c22 : t488 = 0
 {
 rw [if_pos c22] at H
 have c22b0 : (t488 == 0) = true := beq_iff_eq.mpr c22
 have c22b1 : (t488 != 0) = false := bne_eq_false_iff_eq.mpr c22
 clear c22
 by_cases c23 : (t485.length : Int) = 1
 {
 rw [if_pos c23] at H
 have c23b0 : ((t485.length : Int) == 1) = true := beq_iff_eq.mpr c23
 have c23b1 : ((t485.length : Int) != 1) = false := bne_eq_false_iff_eq.mpr c23
 clear c23
 by_cases c24 : 0 < (t485.length : Int)
 {
 rw [if_pos c24] at H
 have c24b0 : decide (0 < (t485.length : Int)) = true := decide_eq_true c24
 have c24b1 : decide (0 < t485.length) = true := decide_eq_true (by omega)
 clear c24
 by_cases c25 : ((rd_L2 t485 0).length : Int) = 16
 {
 rw [if_pos c25] at H
 have c25b0 : (((rd_L2 t485 0).length : Int) == 16) = true := beq_iff_eq.mpr c25
 have c25b1 : (((rd_L2 t485 0).length : Int) != 16) = false := bne_eq_false_iff_eq.mpr c25
 clear c25
 by_cases c26 : 0 < ((rd_L2 t485 0).length : Int)
 {
 rw [if_pos c26] at H
 have c26b0 : decide (0 < ((rd_L2 t485 0).length : Int)) = true := decide_eq_true c26
 have c26b1 : decide (0 < (rd_L2 t485 0).length) = true := decide_eq_true (by omega)
 clear c26
 obtain rfl := Option.some.inj H
 go_enter Try.func13, Try.ntmps13
 go_wp2_with (first | ((with_reducible refine gate_callee (f := 31) rfl ?_); refine gL_ (some 9) Try.func31 #[.int .i64 1, .int .i64 0] ?_; (with_reducible refine (vhead_Plain.calls k 1 0 t450 t451 t452 t455 _ A1.out).mono ?_); rintro e w27 ⟨v453, v456, rfl, ho0, ho1, hb⟩; refine ⟨_, rfl, ?_⟩; have HO454 := Aside0.mk (Kd.R_lower ho0 (bs_ HB)); have HO457 := Aside0.mk (Kd.R_lower ho1 (bs_ HB)); replace HB := BS_ HB hb; (try clear hb); (try clear hk); (try clear ho0); (try clear ho1)) | ((with_reducible refine gate_dst (N := 1) rfl ?_); (try (refine gate_guard (by rfl) ?_; dsimp only)); refine bx_ HB 1 #[.int .i64 0, .int .i64 0, .slice none 0 0, .slice none 0 0] 24 ?_; clear HB; intro gb458 hg w28 hb BK458 GE458 HB; have GW458 := GE458; replace HO454 := FR_ HO454 hb; replace HO457 := FR_ HO457 hb; clear hb hg; obtain ⟨hcz29_0, hcz29_1, hcz29_2, hcz29_3, hfz29_0, hfz29_1, hfz29_2, hfz29_3⟩ := e4_ BK458; obtain ⟨Ao30, co30, eo30⟩ := Kd.R_slice HO454.out; subst eo30; obtain ⟨Ao31, co31, eo31⟩ := Kd.R_slice HO457.out; subst eo31) | ((with_reducible refine gate_dst (N := 10) rfl ?_); (try (refine gate_guard (by rfl) ?_; dsimp only)); refine Kd.R_make (Kd.int .i64) _ 2 rfl (N := 10) rfl 53 _ _ rfl 16 rfl rfl Try.underlying53 (.int .i64 0) 8 info2 rfl (by decide) (by omega) 0 (ok := fun _ => True) (okp := fun _ => True) rfl (fun _ hk => hk) trivial (by omega) (by omega) (Below.refl _ _) (Nat.le_refl _) ?_; intro v460 w32 ho33 hb hg_ hnew_; clear hg_ hnew_; (first | rw [← Ny459.out] at ho33 | (simp only [Int.reduceToNat] at ho33; rw [← Ny459.out] at ho33)); replace HO454 := Aside0.mk (Kd.R_below (kRk_ HO454 BK458) hb); replace HO457 := Aside0.mk (Kd.R_below (kRk_ HO457 BK458) hb); have HO461 := Aside0.mk (Kd.R_lower ho33 (bs_ HB)); replace BK458 := Aside0.mk (blk_below (g := gb458) (o := .cells #[.int .i64 t450, .int .i64 t451, .slice Ao30 t452.length co30, .slice Ao31 t455.length co31] 24 (0, 0)) (bp_ BK458) hb); replace HB := BS_ HB hb; clear hb ho33; obtain ⟨hcz34_0, hcz34_1, hcz34_2, hcz34_3, hfz34_0, hfz34_1, hfz34_2, hfz34_3⟩ := e4_ BK458; obtain ⟨Ao35, co35, eo35⟩ := Kd.R_slice HO461.out; subst eo35) | ((with_reducible refine gate_dst (N := 14) rfl ?_); (try (refine gate_guard (by rfl) ?_; dsimp only)); refine Kd.N_lit (Kd.slice 2 (Kd.int .i64)) _ 53 ?hg (N' := 14) ?hd (xs := ([y459] : List (List Int))) (inner := [.slice Ao35 y459.length co35]) (ok := (fun k_ => some k_ ≠ (.slice Ao30 t452.length co30 : Value).ownBlock ∧ some k_ ≠ (.slice Ao31 t455.length co31 : Value).ownBlock ∧ k_ ≠ gb458)) (okp := (fun k_ => some k_ ≠ (.slice Ao30 t452.length co30 : Value).ownBlock ∧ some k_ ≠ (.slice Ao31 t455.length co31 : Value).ownBlock ∧ k_ ≠ gb458)) ?hr ?hp (fun _ hk => hk) (fr_ (P := (fun k_ => some k_ ≠ (.slice Ao30 t452.length co30 : Value).ownBlock ∧ some k_ ≠ (.slice Ao31 t455.length co31 : Value).ownBlock ∧ k_ ≠ gb458)) (fun k_ hk => ⟨Kd.fresh' (Kd.R_lt (kR_ HO454)) k_ hk, Kd.fresh' (Kd.R_lt (kR_ HO457)) k_ hk, Kd.freshB (g := gb458) (o := .cells #[.int .i64 t450, .int .i64 t451, .slice Ao30 t452.length co30, .slice Ao31 t455.length co31] 24 (0, 0)) (bk_ BK458) k_ hk⟩)) (Below.refl _ _) (Nat.le_refl _) (by simp) ?_; (case hd => rfl); (case hg => rfl); (case hr => first | (go_simp; done) | (go_simp; rfl)); (case hp => exact (Reps.one (show Kd.FK (Kd.slice 2 (Kd.int .i64)) _ _ y459 [.slice Ao35 y459.length co35] from (Kd.FK_slice_mk (Kd.R_reads' (Kd.R_mono (ok' := (fun k_ => some k_ ≠ (.slice Ao30 t452.length co30 : Value).ownBlock ∧ some k_ ≠ (.slice Ao31 t455.length co31 : Value).ownBlock ∧ k_ ≠ gb458)) (Kd.R_types (Kd.R_apart' (Kd.R_apart' (HO461.out) (Kd.R_typed HO454.out) (by decide)) (Kd.R_typed HO457.out) (by decide)) BK458.out (by decide)) (fun k_ hk => ⟨hk.1.1.2, ⟨hk.1.2, hk.2⟩⟩))).2.1 (Kd.R_F (Kd.R_mono (ok' := (fun k_ => some k_ ≠ (.slice Ao30 t452.length co30 : Value).ownBlock ∧ some k_ ≠ (.slice Ao31 t455.length co31 : Value).ownBlock ∧ k_ ≠ gb458)) (Kd.R_types (Kd.R_apart' (Kd.R_apart' (HO461.out) (Kd.R_typed HO454.out) (by decide)) (Kd.R_typed HO457.out) (by decide)) BK458.out (by decide)) (fun k_ hk => ⟨hk.1.1.2, ⟨hk.1.2, hk.2⟩⟩))))) (Reps.none _ _))); intro v463 w36 ho37 hb hg_ hnew_; clear hg_ hnew_; (first | rw [← Ny462.out] at ho37 | (simp only [Int.reduceToNat] at ho37; rw [← Ny462.out] at ho37)); replace HO454 := FR_ HO454 hb; replace HO457 := FR_ HO457 hb; replace HO461 := FR_ HO461 hb; have HO464 := Aside0.mk (Kd.N_lower ho37 (bs_ HB)); replace BK458 := FB_ BK458 hb; replace HB := BS_ HB hb; clear hb ho37; obtain ⟨Ao38, co38, eo38⟩ := Kd.N_slice HO464.out; subst eo38) | ((with_reducible refine gate_callee (f := 15) rfl ?_); refine gL_ (some 16) Try.func15 #[.agg #[.int .i64 t450, .int .i64 t451, .slice Ao30 t452.length co30, .slice Ao31 t455.length co31], .agg #[.slice Ao38 y462.length co38]] ?_; (with_reducible refine (vcodec_Encode.calls k t450 t451 _ _ t452 _ _ t455 _ _ y462 t465 t468 t471 _ ?side1 ?side2 ?side3 ?side4 ?side5 ?side6 A3.out).mono ?_); (case side1 => exact kCt_ (Kd.R_reads' HO454.out).2.2); (case side2 => exact (Kd.R_reads' HO454.out).2.1); (case side3 => exact kCt_ (Kd.R_reads' HO457.out).2.2); (case side4 => exact (Kd.R_reads' HO457.out).2.1); (case side5 => repeat (first | exact (Kd.N_reads' HO464.out).2.2 | (with_reducible refine Kd.C_alloc ?_ _) | (with_reducible refine Kd.C_drewN ?_ _) | (with_reducible refine Kd.C_drew ?_))); (case side6 => exact (Kd.N_reads' HO464.out).2.1); rintro e w39 ⟨v466, v469, rfl, ho0, ho1, hb⟩; refine ⟨_, rfl, ?_⟩; have HO467 := Aside0.mk (Kd.N_lower (Kd.N_mono (ok' := fun k_ => some k_ ≠ (v469 : Value).ownBlock ∧ some k_ ≠ (.slice Ao30 t452.length co30 : Value).ownBlock ∧ some k_ ≠ (.slice Ao31 t455.length co31 : Value).ownBlock ∧ some k_ ≠ (.slice Ao35 y459.length co35 : Value).ownBlock ∧ some k_ ≠ (.slice Ao38 y462.length co38 : Value).ownBlock ∧ k_ ≠ gb458) ho0 (fun k_ hk_ => ⟨hk_.2, (Kd.fresh' (Kd.R_lt (kR_ HO454)) k_ hk_.1), (Kd.fresh' (Kd.R_lt (kR_ HO457)) k_ hk_.1), (Kd.fresh' (Kd.R_lt (kR_ HO461)) k_ hk_.1), (Kd.fresh' (Kd.N_lt (kN_ HO464)) k_ hk_.1), (Kd.freshB (g := gb458) (o := .cells #[.int .i64 t450, .int .i64 t451, .slice Ao30 t452.length co30, .slice Ao31 t455.length co31] 24 (0, 0)) (bk_ BK458) k_ hk_.1)⟩)) (bs_ HB)); have HO470 := Aside0.mk (Kd.N_lower (Kd.N_mono (ok' := fun k_ => some k_ ≠ (v466 : Value).ownBlock ∧ some k_ ≠ (.slice Ao30 t452.length co30 : Value).ownBlock ∧ some k_ ≠ (.slice Ao31 t455.length co31 : Value).ownBlock ∧ some k_ ≠ (.slice Ao35 y459.length co35 : Value).ownBlock ∧ some k_ ≠ (.slice Ao38 y462.length co38 : Value).ownBlock ∧ k_ ≠ gb458) ho1 (fun k_ hk_ => ⟨hk_.2, (Kd.fresh' (Kd.R_lt (kR_ HO454)) k_ hk_.1), (Kd.fresh' (Kd.R_lt (kR_ HO457)) k_ hk_.1), (Kd.fresh' (Kd.R_lt (kR_ HO461)) k_ hk_.1), (Kd.fresh' (Kd.N_lt (kN_ HO464)) k_ hk_.1), (Kd.freshB (g := gb458) (o := .cells #[.int .i64 t450, .int .i64 t451, .slice Ao30 t452.length co30, .slice Ao31 t455.length co31] 24 (0, 0)) (bk_ BK458) k_ hk_.1)⟩)) (bs_ HB)); replace HO454 := FR_ HO454 hb; replace HO457 := FR_ HO457 hb; replace HO461 := FR_ HO461 hb; replace HO464 := Aside0.mk (Kd.N_mono (Kd.N_told (Kd.N_told (Kd.N_old (kN_ HO464) hb) (Kd.N_base ho0)) (Kd.N_base ho1)) (fun _ h_ => h_.1)); replace BK458 := FB_ BK458 hb; replace HB := BS_ HB hb; (try clear hb); (try clear hk); (try clear ho0); (try clear ho1)) | ((with_reducible refine gate_dst (N := 3) rfl ?_); (try (refine gate_guard (by rfl) ?_; dsimp only)); refine box_ 3 #[.slice none 0 0, .slice none 0 0] 28 ?_; intro gb472 hg w40 hbox hb; replace HO454 := FR_ HO454 hb; replace HO457 := FR_ HO457 hb; replace HO461 := FR_ HO461 hb; replace HO464 := Aside0.mk (Kd.N_below (Kd.N_elderB (kN_ HO464) gb472 (Nat.le_of_eq hg.symm)) hb); replace HO467 := Aside0.mk (Kd.N_below (Kd.N_elderB (kN_ HO467) gb472 (Nat.le_of_eq hg.symm)) hb); replace HO470 := Aside0.mk (Kd.N_below (Kd.N_elderB (kN_ HO470) gb472 (Nat.le_of_eq hg.symm)) hb); have BK472 := Aside0.mk (hbox); have GW472 := GE_ HB hg; have GE472 := GE_ HB hg; replace HB := BS_ HB hb; obtain ⟨NB458_472, NB472_458⟩ := NN_ BK458 hg; replace BK458 := FB_ BK458 hb; clear hb hbox hg; obtain ⟨Ao41, co41, eo41⟩ := Kd.N_slice HO467.out; subst eo41; have hnb42 := NB472_458.out; have hnc42 := NB458_472.out; obtain ⟨hcz43_0, hcz43_1, hfz43_0, hfz43_1⟩ := e2_ BK472; obtain ⟨Ao44, co44, eo44⟩ := Kd.N_slice HO470.out; subst eo44) | ((with_reducible refine gate_store (t := 28) (p := 3) rfl ?_); refine store_event (t := 28) (p := 3) (v := ?vo_w45) (w1 := ((w40.setCell ⟨gb472, 0, none⟩ (.slice Ao41 t465.length co41)).setCell ⟨gb472, 1, none⟩ (.slice Ao44 t468.length co44))) ?hg ?ho ?hn ?hr ?_; (case ho => rfl); (case hg => rfl); (case hn => rfl); (case hr => first | (go_simp; done) | (go_simp; rfl)); intro w45 hw; have n0_ : Aside0 (Kd.R (Kd.int .i64) 3 w45 w.heap.size (fun k_ => some k_ ≠ (.slice Ao31 t455.length co31 : Value).ownBlock) (.slice Ao30 t452.length co30) t452) := ⟨(by rw [hw]; exact (kRk_ HO454 BK472))⟩; have n1_ : Aside0 (Kd.R (Kd.int .i64) 3 w45 w.heap.size (fun k_ => some k_ ≠ (.slice Ao30 t452.length co30 : Value).ownBlock) (.slice Ao31 t455.length co31) t455) := ⟨(by rw [hw]; exact (kRk_ HO457 BK472))⟩; have n2_ : Aside0 (Kd.R (Kd.int .i64) 2 w45 w.heap.size (fun _ => True) (.slice Ao35 y459.length co35) y459) := ⟨(by rw [hw]; exact (by (with_reducible repeat (first | apply Kd.R_alloc | apply Kd.R_drewN | apply Kd.R_drew)); exact Kd.R_mono (Kd.R_far (p := ⟨gb472, 1, none⟩) (Kd.R_far (p := ⟨gb472, 0, none⟩) (Kd.R_types HO461.out BK472.out (by decide)) (fun _ hk => hk.2) (.slice Ao41 t465.length co41)) (fun _ hk => hk.2) (.slice Ao44 t468.length co44)) (fun _ hk => trivial)))⟩; have n3_ : Aside0 (Kd.N (Kd.slice 2 (Kd.int .i64)) 53 w45 w.heap.size (fun k_ => some k_ ≠ (.slice Ao30 t452.length co30 : Value).ownBlock ∧ some k_ ≠ (.slice Ao31 t455.length co31 : Value).ownBlock ∧ some k_ ≠ (.slice Ao41 t465.length co41 : Value).ownBlock ∧ some k_ ≠ (.slice Ao44 t468.length co44 : Value).ownBlock ∧ k_ ≠ gb458 ∧ k_ ≠ gb472) (.slice Ao38 y462.length co38) y462) := ⟨(by rw [hw]; exact (by (with_reducible repeat (first | apply Kd.N_alloc | apply Kd.N_drewN | apply Kd.N_drew)); exact Kd.N_mono (Kd.N_far (p := ⟨gb472, 1, none⟩) (Kd.N_far (p := ⟨gb472, 0, none⟩) (Kd.N_mono HO464.out (fun k_ hk => (⟨hk, hk.2⟩ : _ ∧ k_ ≠ gb472))) (fun _ hk => hk.2) (.slice Ao41 t465.length co41)) (fun _ hk => hk.2) (.slice Ao44 t468.length co44)) (fun _ hk => ⟨hk.1.1.1.1.1, ⟨hk.1.1.1.1.2.1, ⟨hk.1.1.1.2, ⟨hk.1.1.2, ⟨hk.1.1.1.1.2.2, hk.1.2⟩⟩⟩⟩⟩)))⟩; have n4_ : Aside0 (Kd.N (Kd.slice 3 (Kd.int .i64)) 22 w45 w.heap.size (fun k_ => some k_ ≠ (.slice Ao30 t452.length co30 : Value).ownBlock ∧ some k_ ≠ (.slice Ao31 t455.length co31 : Value).ownBlock ∧ some k_ ≠ (.slice Ao35 y459.length co35 : Value).ownBlock ∧ some k_ ≠ (.slice Ao38 y462.length co38 : Value).ownBlock ∧ some k_ ≠ (.slice Ao44 t468.length co44 : Value).ownBlock ∧ k_ ≠ gb458 ∧ k_ ≠ gb472) (.slice Ao41 t465.length co41) t465) := ⟨(by rw [hw]; exact (by (with_reducible repeat (first | apply Kd.N_alloc | apply Kd.N_drewN | apply Kd.N_drew)); exact Kd.N_mono (Kd.N_far (p := ⟨gb472, 1, none⟩) (Kd.N_far (p := ⟨gb472, 0, none⟩) (Kd.N_mono HO467.out (fun k_ hk => (⟨hk, hk.2⟩ : _ ∧ k_ ≠ gb472))) (fun _ hk => hk.2) (.slice Ao41 t465.length co41)) (fun _ hk => hk.2) (.slice Ao44 t468.length co44)) (fun _ hk => ⟨hk.1.1.2.1, ⟨hk.1.1.2.2.1, ⟨hk.1.1.2.2.2.1, ⟨hk.1.1.2.2.2.2.1, ⟨hk.1.1.1, ⟨hk.1.1.2.2.2.2.2, hk.1.2⟩⟩⟩⟩⟩⟩)))⟩; have n5_ : Aside0 (Kd.N (Kd.slice 2 (Kd.int .i64)) 53 w45 w.heap.size (fun k_ => some k_ ≠ (.slice Ao30 t452.length co30 : Value).ownBlock ∧ some k_ ≠ (.slice Ao31 t455.length co31 : Value).ownBlock ∧ some k_ ≠ (.slice Ao35 y459.length co35 : Value).ownBlock ∧ some k_ ≠ (.slice Ao38 y462.length co38 : Value).ownBlock ∧ some k_ ≠ (.slice Ao41 t465.length co41 : Value).ownBlock ∧ k_ ≠ gb458 ∧ k_ ≠ gb472) (.slice Ao44 t468.length co44) t468) := ⟨(by rw [hw]; exact (by (with_reducible repeat (first | apply Kd.N_alloc | apply Kd.N_drewN | apply Kd.N_drew)); exact Kd.N_mono (Kd.N_far (p := ⟨gb472, 1, none⟩) (Kd.N_far (p := ⟨gb472, 0, none⟩) (Kd.N_mono HO470.out (fun k_ hk => (⟨hk, hk.2⟩ : _ ∧ k_ ≠ gb472))) (fun _ hk => hk.2) (.slice Ao41 t465.length co41)) (fun _ hk => hk.2) (.slice Ao44 t468.length co44)) (fun _ hk => ⟨hk.1.1.2.1, ⟨hk.1.1.2.2.1, ⟨hk.1.1.2.2.2.1, ⟨hk.1.1.2.2.2.2.1, ⟨hk.1.1.1, ⟨hk.1.1.2.2.2.2.2, hk.1.2⟩⟩⟩⟩⟩⟩)))⟩; have n6_ : Aside0 (w45.heap[gb458]? = some (.cells #[.int .i64 t450, .int .i64 t451, .slice Ao30 t452.length co30, .slice Ao31 t455.length co31] 24 (0, 0))) := ⟨(by rw [hw]; exact (bk_ BK458))⟩; have n7_ : Aside0 (w45.heap[gb472]? = some (.cells #[.slice Ao41 t465.length co41, .slice Ao44 t468.length co44] 28 (0, 0))) := ⟨(by rw [hw]; exact (bp_ BK472))⟩; have n8_ : Aside0 (Below w.heap.size w w45) := ⟨(by rw [hw]; exact (bl_ HB))⟩; clear hw; clear HO454; clear HO457; clear HO461; clear HO464; clear HO467; clear HO470; clear BK458; clear BK472; clear HB; have HO454 := n0_; have HO457 := n1_; have HO461 := n2_; have HO464 := n3_; have HO467 := n4_; have HO470 := n5_; have BK458 := n6_; have BK472 := n7_; have HB := n8_; clear n0_ n1_ n2_ n3_ n4_ n5_ n6_ n7_ n8_; have p5 : 0 ≤ (0 : Int) := (by omega); have q5 : (0 : Int) < ((y459.length : Int) : Int) := of_decide_eq_true am_; have qi5 : (0 < y459.length) = True := eq_true (by omega); obtain ⟨go5, co5, eo5, gb5, gl5, cl5, HG5⟩ := Kd.R_form HO461.out (by omega); (first | cases eo5 | (injection eo5 with ea_ en_ ec_; (first | subst ea_ | (injection ea_ with ea_; subst ea_)); subst ec_; clear en_)); have GB5 := Aside0.mk gb5; have GG5 := Aside0.mk HG5; clear gb5 gl5 HG5; obtain ⟨hx5_0, hf5_0⟩ := Kd.R_celln 0 HO461.out (0 : Int) p5 q5; (try rw [show ((0 : Int)).toNat = 0 from rfl] at hx5_0); (try simp only [Nat.reduceMul, Nat.zero_mul, Nat.zero_add, Nat.reduceAdd] at hx5_0); (try rw [show ((0 : Int)).toNat = 0 from rfl] at hf5_0); (try simp only [Nat.reduceMul, Nat.zero_mul, Nat.zero_add, Nat.reduceAdd] at hf5_0); replace p5 := eq_true p5; replace q5 := eq_true q5; clear HO464; obtain ⟨hy46_, hz46_⟩ := Kd.R_celln 0 HO461.out (0 : Int) (by omega) (of_decide_eq_true am_); (try simp only [Int.reduceToNat, Int.toNat_zero, Int.toNat_ofNat, Nat.reduceMul, Nat.zero_mul, Nat.zero_add] at hy46_ hz46_); (try rw [show ((0 : Int)).toNat = 0 from rfl] at hy46_); (try rw [show ((0 : Int)).toNat = 0 from rfl] at hz46_); have HP46 := Kd.R_putg HO461.out (0 : Int) 5) | ((with_reducible refine gate_store (t := 2) (p := 20) rfl ?_); refine store_event (t := 2) (p := 20) (v := ?vo_w47) (w1 := (w45.setCell ⟨go5, (0 : Int).toNat, none⟩ (.int .i64 5))) ?hg ?ho ?hn ?hr ?_; (case ho => rfl); (case hg => rfl); (case hn => rfl); (case hr => first | (go_simp; done) | (go_simp; rfl)); intro w47 hw; have hg : w45.grownBy w47 (some go5) := (by rw [hw]; exact HP46.2); have hp_ : Kd.R (Kd.int .i64) 2 w47 w.heap.size (fun _ => True) (.slice (some ⟨go5, 0, none⟩) y459.length co35) y473 := (by rw [hw, Ny473.out]; exact HP46.1); clear HP46; replace HO454 := Aside0.mk (Kd.R_over' (v := (.slice (some ⟨go5, 0, none⟩) y459.length co35)) (kR_ HO454) (Kd.R_typed HO461.out) (by decide) hg); replace HO457 := Aside0.mk (Kd.R_over' (v := (.slice (some ⟨go5, 0, none⟩) y459.length co35)) (kR_ HO457) (Kd.R_typed HO461.out) (by decide) hg); replace BK458 := (FG_ BK458 hg (Kd.R_ne HO461.out BK458.out (by decide))); replace HO467 := Aside0.mk (Kd.N_afterv (v := (.slice (some ⟨go5, 0, none⟩) y459.length co35)) (v1 := (.slice (some ⟨go5, 0, none⟩) y459.length co35)) (ok := (fun k_ => some k_ ≠ (.slice Ao30 t452.length co30 : Value).ownBlock ∧ some k_ ≠ (.slice Ao31 t455.length co31 : Value).ownBlock ∧ some k_ ≠ (.slice Ao44 t468.length co44 : Value).ownBlock ∧ k_ ≠ gb458 ∧ k_ ≠ gb472)) (by (with_reducible repeat (first | apply Kd.N_alloc | apply Kd.N_drewN | apply Kd.N_drew)); exact Kd.N_mono HO467.out (fun _ hk => ⟨⟨hk.1, ⟨hk.2.1, ⟨hk.2.2.2.2.1, ⟨hk.2.2.2.2.2.1, hk.2.2.2.2.2.2⟩⟩⟩⟩, hk.2.2.1⟩)) hg (.inl rfl)); replace HO470 := Aside0.mk (Kd.N_afterv (v := (.slice (some ⟨go5, 0, none⟩) y459.length co35)) (v1 := (.slice (some ⟨go5, 0, none⟩) y459.length co35)) (ok := (fun k_ => some k_ ≠ (.slice Ao30 t452.length co30 : Value).ownBlock ∧ some k_ ≠ (.slice Ao31 t455.length co31 : Value).ownBlock ∧ some k_ ≠ (.slice Ao41 t465.length co41 : Value).ownBlock ∧ k_ ≠ gb458 ∧ k_ ≠ gb472)) (by (with_reducible repeat (first | apply Kd.N_alloc | apply Kd.N_drewN | apply Kd.N_drew)); exact Kd.N_mono HO470.out (fun _ hk => ⟨⟨hk.1, ⟨hk.2.1, ⟨hk.2.2.2.2.1, ⟨hk.2.2.2.2.2.1, hk.2.2.2.2.2.2⟩⟩⟩⟩, hk.2.2.1⟩)) hg (.inl rfl)); replace BK472 := (FG_ BK472 hg (Kd.R_ne HO461.out BK472.out (by decide))); replace HO461 := Aside0.mk (hp_); replace HB := Aside0.mk ((by rw [hw]; exact below_set (HB.out) GB5.out : Below w.heap.size w w47)); clear hg hw hp_; have hl_ := (Kd.R_reads' HO461.out).1; rw [hl_] at HO461; (try simp only [hl_]); clear hl_; obtain ⟨hcz48_0, hcz48_1, hcz48_2, hcz48_3, hfz48_0, hfz48_1, hfz48_2, hfz48_3⟩ := e4_ BK458) | ((with_reducible refine gate_dst (N := 24) rfl ?_); (try (refine gate_guard (by rfl) ?_; dsimp only)); refine Kd.N_lit (Kd.slice 2 (Kd.int .i64)) _ 53 ?hg (N' := 24) ?hd (xs := ([y473] : List (List Int))) (inner := [.slice (some ⟨go5, 0, none⟩) y473.length co35]) (ok := (fun k_ => some k_ ≠ (.slice Ao30 t452.length co30 : Value).ownBlock ∧ some k_ ≠ (.slice Ao31 t455.length co31 : Value).ownBlock ∧ some k_ ≠ (.slice Ao41 t465.length co41 : Value).ownBlock ∧ some k_ ≠ (.slice Ao44 t468.length co44 : Value).ownBlock ∧ k_ ≠ gb458 ∧ k_ ≠ gb472)) (okp := (fun k_ => some k_ ≠ (.slice Ao30 t452.length co30 : Value).ownBlock ∧ some k_ ≠ (.slice Ao31 t455.length co31 : Value).ownBlock ∧ some k_ ≠ (.slice Ao41 t465.length co41 : Value).ownBlock ∧ some k_ ≠ (.slice Ao44 t468.length co44 : Value).ownBlock ∧ k_ ≠ gb458 ∧ k_ ≠ gb472)) ?hr ?hp (fun _ hk => hk) (fr_ (P := (fun k_ => some k_ ≠ (.slice Ao30 t452.length co30 : Value).ownBlock ∧ some k_ ≠ (.slice Ao31 t455.length co31 : Value).ownBlock ∧ some k_ ≠ (.slice Ao41 t465.length co41 : Value).ownBlock ∧ some k_ ≠ (.slice Ao44 t468.length co44 : Value).ownBlock ∧ k_ ≠ gb458 ∧ k_ ≠ gb472)) (fun k_ hk => ⟨Kd.fresh' (Kd.R_lt (kR_ HO454)) k_ hk, Kd.fresh' (Kd.R_lt (kR_ HO457)) k_ hk, Kd.fresh' (Kd.N_lt (kN_ HO467)) k_ hk, Kd.fresh' (Kd.N_lt (kN_ HO470)) k_ hk, Kd.freshB (g := gb458) (o := .cells #[.int .i64 t450, .int .i64 t451, .slice Ao30 t452.length co30, .slice Ao31 t455.length co31] 24 (0, 0)) (bk_ BK458) k_ hk, Kd.freshB (g := gb472) (o := .cells #[.slice Ao41 t465.length co41, .slice Ao44 t468.length co44] 28 (0, 0)) (bk_ BK472) k_ hk⟩)) (Below.refl _ _) (Nat.le_refl _) (by simp) ?_; (case hd => rfl); (case hg => rfl); (case hr => first | (go_simp; done) | (go_simp; rfl)); (case hp => exact (Reps.one (show Kd.FK (Kd.slice 2 (Kd.int .i64)) _ _ y473 [.slice (some ⟨go5, 0, none⟩) y473.length co35] from (Kd.FK_slice_mk (Kd.R_reads' (Kd.R_mono (ok' := (fun k_ => some k_ ≠ (.slice Ao30 t452.length co30 : Value).ownBlock ∧ some k_ ≠ (.slice Ao31 t455.length co31 : Value).ownBlock ∧ some k_ ≠ (.slice Ao41 t465.length co41 : Value).ownBlock ∧ some k_ ≠ (.slice Ao44 t468.length co44 : Value).ownBlock ∧ k_ ≠ gb458 ∧ k_ ≠ gb472)) (Kd.R_types (Kd.R_types (Kd.R_apart' (Kd.R_apart' (Kd.R_apart' (Kd.R_apart' (HO461.out) (Kd.R_typed HO454.out) (by decide)) (Kd.R_typed HO457.out) (by decide)) (Kd.N_typed HO467.out) (by decide)) (Kd.N_typed HO470.out) (by decide)) BK458.out (by decide)) BK472.out (by decide)) (fun k_ hk => ⟨hk.1.1.1.1.1.2, ⟨hk.1.1.1.1.2, ⟨hk.1.1.1.2, ⟨hk.1.1.2, ⟨hk.1.2, hk.2⟩⟩⟩⟩⟩))).2.1 (Kd.R_F (Kd.R_mono (ok' := (fun k_ => some k_ ≠ (.slice Ao30 t452.length co30 : Value).ownBlock ∧ some k_ ≠ (.slice Ao31 t455.length co31 : Value).ownBlock ∧ some k_ ≠ (.slice Ao41 t465.length co41 : Value).ownBlock ∧ some k_ ≠ (.slice Ao44 t468.length co44 : Value).ownBlock ∧ k_ ≠ gb458 ∧ k_ ≠ gb472)) (Kd.R_types (Kd.R_types (Kd.R_apart' (Kd.R_apart' (Kd.R_apart' (Kd.R_apart' (HO461.out) (Kd.R_typed HO454.out) (by decide)) (Kd.R_typed HO457.out) (by decide)) (Kd.N_typed HO467.out) (by decide)) (Kd.N_typed HO470.out) (by decide)) BK458.out (by decide)) BK472.out (by decide)) (fun k_ hk => ⟨hk.1.1.1.1.1.2, ⟨hk.1.1.1.1.2, ⟨hk.1.1.1.2, ⟨hk.1.1.2, ⟨hk.1.2, hk.2⟩⟩⟩⟩⟩))))) (Reps.none _ _))); intro v475 w49 ho50 hb hg_ hnew_; clear hg_ hnew_; (first | rw [← Ny474.out] at ho50 | (simp only [Int.reduceToNat] at ho50; rw [← Ny474.out] at ho50)); replace HO454 := FR_ HO454 hb; replace HO457 := FR_ HO457 hb; replace HO467 := Aside0.mk (Kd.N_elder' (kN_ HO467) (Kd.N_base ho50) hb); replace HO470 := Aside0.mk (Kd.N_elder' (kN_ HO470) (Kd.N_base ho50) hb); have HO476 := Aside0.mk (Kd.N_lower ho50 (bs_ HB)); replace BK458 := FB_ BK458 hb; replace BK472 := FB_ BK472 hb; replace HB := BS_ HB hb; clear HO461; clear hb ho50; obtain ⟨Ao51, co51, eo51⟩ := Kd.N_slice HO476.out; subst eo51) | ((with_reducible refine gate_callee (f := 15) rfl ?_); refine gL_ (some 26) Try.func15 #[.agg #[.int .i64 t450, .int .i64 t451, .slice Ao30 t452.length co30, .slice Ao31 t455.length co31], .agg #[.slice Ao51 y474.length co51]] ?_; (with_reducible refine (vcodec_Encode.calls k t450 t451 _ _ t452 _ _ t455 _ _ y474 t477 t480 t483 _ ?side1 ?side2 ?side3 ?side4 ?side5 ?side6 A6.out).mono ?_); (case side1 => exact kCt_ (Kd.R_reads' HO454.out).2.2); (case side2 => exact (Kd.R_reads' HO454.out).2.1); (case side3 => exact kCt_ (Kd.R_reads' HO457.out).2.2); (case side4 => exact (Kd.R_reads' HO457.out).2.1); (case side5 => repeat (first | exact (Kd.N_reads' HO476.out).2.2 | (with_reducible refine Kd.C_alloc ?_ _) | (with_reducible refine Kd.C_drewN ?_ _) | (with_reducible refine Kd.C_drew ?_))); (case side6 => exact (Kd.N_reads' HO476.out).2.1); rintro e w52 ⟨v478, v481, rfl, ho0, ho1, hb⟩; refine ⟨_, rfl, ?_⟩; have HO479 := Aside0.mk (Kd.N_lower (Kd.N_mono (ok' := fun k_ => some k_ ≠ (v481 : Value).ownBlock ∧ some k_ ≠ (.slice Ao30 t452.length co30 : Value).ownBlock ∧ some k_ ≠ (.slice Ao31 t455.length co31 : Value).ownBlock ∧ some k_ ≠ (.slice Ao41 t465.length co41 : Value).ownBlock ∧ some k_ ≠ (.slice Ao44 t468.length co44 : Value).ownBlock ∧ some k_ ≠ (.slice Ao51 y474.length co51 : Value).ownBlock ∧ k_ ≠ gb458 ∧ k_ ≠ gb472) ho0 (fun k_ hk_ => ⟨hk_.2, (Kd.fresh' (Kd.R_lt (kR_ HO454)) k_ hk_.1), (Kd.fresh' (Kd.R_lt (kR_ HO457)) k_ hk_.1), (Kd.fresh' (Kd.N_lt (kN_ HO467)) k_ hk_.1), (Kd.fresh' (Kd.N_lt (kN_ HO470)) k_ hk_.1), (Kd.fresh' (Kd.N_lt (kN_ HO476)) k_ hk_.1), (Kd.freshB (g := gb458) (o := .cells #[.int .i64 t450, .int .i64 t451, .slice Ao30 t452.length co30, .slice Ao31 t455.length co31] 24 (0, 0)) (bk_ BK458) k_ hk_.1), (Kd.freshB (g := gb472) (o := .cells #[.slice Ao41 t465.length co41, .slice Ao44 t468.length co44] 28 (0, 0)) (bk_ BK472) k_ hk_.1)⟩)) (bs_ HB)); have HO482 := Aside0.mk (Kd.N_lower (Kd.N_mono (ok' := fun k_ => some k_ ≠ (v478 : Value).ownBlock ∧ some k_ ≠ (.slice Ao30 t452.length co30 : Value).ownBlock ∧ some k_ ≠ (.slice Ao31 t455.length co31 : Value).ownBlock ∧ some k_ ≠ (.slice Ao41 t465.length co41 : Value).ownBlock ∧ some k_ ≠ (.slice Ao44 t468.length co44 : Value).ownBlock ∧ some k_ ≠ (.slice Ao51 y474.length co51 : Value).ownBlock ∧ k_ ≠ gb458 ∧ k_ ≠ gb472) ho1 (fun k_ hk_ => ⟨hk_.2, (Kd.fresh' (Kd.R_lt (kR_ HO454)) k_ hk_.1), (Kd.fresh' (Kd.R_lt (kR_ HO457)) k_ hk_.1), (Kd.fresh' (Kd.N_lt (kN_ HO467)) k_ hk_.1), (Kd.fresh' (Kd.N_lt (kN_ HO470)) k_ hk_.1), (Kd.fresh' (Kd.N_lt (kN_ HO476)) k_ hk_.1), (Kd.freshB (g := gb458) (o := .cells #[.int .i64 t450, .int .i64 t451, .slice Ao30 t452.length co30, .slice Ao31 t455.length co31] 24 (0, 0)) (bk_ BK458) k_ hk_.1), (Kd.freshB (g := gb472) (o := .cells #[.slice Ao41 t465.length co41, .slice Ao44 t468.length co44] 28 (0, 0)) (bk_ BK472) k_ hk_.1)⟩)) (bs_ HB)); replace HO454 := FR_ HO454 hb; replace HO457 := FR_ HO457 hb; replace HO467 := Aside0.mk (Kd.N_mono (Kd.N_told (Kd.N_told (Kd.N_old (kN_ HO467) hb) (Kd.N_base ho0)) (Kd.N_base ho1)) (fun _ h_ => h_.1)); replace HO470 := Aside0.mk (Kd.N_mono (Kd.N_told (Kd.N_told (Kd.N_old (kN_ HO470) hb) (Kd.N_base ho0)) (Kd.N_base ho1)) (fun _ h_ => h_.1)); replace HO476 := Aside0.mk (Kd.N_mono (Kd.N_told (Kd.N_told (Kd.N_old (kN_ HO476) hb) (Kd.N_base ho0)) (Kd.N_base ho1)) (fun _ h_ => h_.1)); replace BK458 := FB_ BK458 hb; replace BK472 := FB_ BK472 hb; replace HB := BS_ HB hb; (try clear hb); (try clear hk); (try clear ho0); (try clear ho1)) | ((with_reducible refine gate_dst (N := 5) rfl ?_); (try (refine gate_guard (by rfl) ?_; dsimp only)); refine box_ 5 #[.slice none 0 0, .slice none 0 0] 28 ?_; intro gb484 hg w53 hbox hb; replace HO454 := FR_ HO454 hb; replace HO457 := FR_ HO457 hb; replace HO467 := Aside0.mk (Kd.N_below (Kd.N_elderB (kN_ HO467) gb484 (Nat.le_of_eq hg.symm)) hb); replace HO470 := Aside0.mk (Kd.N_below (Kd.N_elderB (kN_ HO470) gb484 (Nat.le_of_eq hg.symm)) hb); replace HO476 := Aside0.mk (Kd.N_below (Kd.N_elderB (kN_ HO476) gb484 (Nat.le_of_eq hg.symm)) hb); replace HO479 := Aside0.mk (Kd.N_below (Kd.N_elderB (kN_ HO479) gb484 (Nat.le_of_eq hg.symm)) hb); replace HO482 := Aside0.mk (Kd.N_below (Kd.N_elderB (kN_ HO482) gb484 (Nat.le_of_eq hg.symm)) hb); have BK484 := Aside0.mk (hbox); have GW484 := GE_ HB hg; have GE484 := GE_ HB hg; replace HB := BS_ HB hb; obtain ⟨NB458_484, NB484_458⟩ := NN_ BK458 hg; replace BK458 := FB_ BK458 hb; obtain ⟨NB472_484, NB484_472⟩ := NN_ BK472 hg; replace BK472 := FB_ BK472 hb; clear hb hbox hg; obtain ⟨Ao54, co54, eo54⟩ := Kd.N_slice HO479.out; subst eo54; have hnb55 := NB484_458.out; have hnc55 := NB458_484.out; have hnb56 := NB484_472.out; have hnc56 := NB472_484.out; obtain ⟨hcz57_0, hcz57_1, hfz57_0, hfz57_1⟩ := e2_ BK484; obtain ⟨Ao58, co58, eo58⟩ := Kd.N_slice HO482.out; subst eo58) | ((with_reducible refine gate_store (t := 28) (p := 5) rfl ?_); refine store_event (t := 28) (p := 5) (v := ?vo_w59) (w1 := ((w53.setCell ⟨gb484, 0, none⟩ (.slice Ao54 t477.length co54)).setCell ⟨gb484, 1, none⟩ (.slice Ao58 t480.length co58))) ?hg ?ho ?hn ?hr ?_; (case ho => rfl); (case hg => rfl); (case hn => rfl); (case hr => first | (go_simp; done) | (go_simp; rfl)); intro w59 hw; have n0_ : Aside0 (Kd.R (Kd.int .i64) 3 w59 w.heap.size (fun k_ => some k_ ≠ (.slice Ao31 t455.length co31 : Value).ownBlock) (.slice Ao30 t452.length co30) t452) := ⟨(by rw [hw]; exact (kRk_ HO454 BK484))⟩; have n1_ : Aside0 (Kd.R (Kd.int .i64) 3 w59 w.heap.size (fun k_ => some k_ ≠ (.slice Ao30 t452.length co30 : Value).ownBlock) (.slice Ao31 t455.length co31) t455) := ⟨(by rw [hw]; exact (kRk_ HO457 BK484))⟩; have n2_ : Aside0 (Kd.N (Kd.slice 3 (Kd.int .i64)) 22 w59 w.heap.size (fun k_ => some k_ ≠ (.slice Ao30 t452.length co30 : Value).ownBlock ∧ some k_ ≠ (.slice Ao31 t455.length co31 : Value).ownBlock ∧ some k_ ≠ (.slice Ao44 t468.length co44 : Value).ownBlock ∧ some k_ ≠ (.slice Ao51 y474.length co51 : Value).ownBlock ∧ some k_ ≠ (.slice Ao54 t477.length co54 : Value).ownBlock ∧ some k_ ≠ (.slice Ao58 t480.length co58 : Value).ownBlock ∧ k_ ≠ gb458 ∧ k_ ≠ gb472 ∧ k_ ≠ gb484) (.slice Ao41 t465.length co41) t465) := ⟨(by rw [hw]; exact (by (with_reducible repeat (first | apply Kd.N_alloc | apply Kd.N_drewN | apply Kd.N_drew)); exact Kd.N_mono (Kd.N_far (p := ⟨gb484, 1, none⟩) (Kd.N_far (p := ⟨gb484, 0, none⟩) (Kd.N_mono HO467.out (fun k_ hk => (⟨hk, hk.2⟩ : _ ∧ k_ ≠ gb484))) (fun _ hk => hk.2) (.slice Ao54 t477.length co54)) (fun _ hk => hk.2) (.slice Ao58 t480.length co58)) (fun _ hk => ⟨hk.1.1.1.1.1.1.1, ⟨hk.1.1.1.1.1.1.2.1, ⟨hk.1.1.1.1.1.1.2.2.1, ⟨hk.1.1.1.1.2, ⟨hk.1.1.1.2, ⟨hk.1.1.2, ⟨hk.1.1.1.1.1.1.2.2.2.1, ⟨hk.1.1.1.1.1.1.2.2.2.2, hk.1.2⟩⟩⟩⟩⟩⟩⟩⟩)))⟩; have n3_ : Aside0 (Kd.N (Kd.slice 2 (Kd.int .i64)) 53 w59 w.heap.size (fun k_ => some k_ ≠ (.slice Ao30 t452.length co30 : Value).ownBlock ∧ some k_ ≠ (.slice Ao31 t455.length co31 : Value).ownBlock ∧ some k_ ≠ (.slice Ao41 t465.length co41 : Value).ownBlock ∧ some k_ ≠ (.slice Ao51 y474.length co51 : Value).ownBlock ∧ some k_ ≠ (.slice Ao54 t477.length co54 : Value).ownBlock ∧ some k_ ≠ (.slice Ao58 t480.length co58 : Value).ownBlock ∧ k_ ≠ gb458 ∧ k_ ≠ gb472 ∧ k_ ≠ gb484) (.slice Ao44 t468.length co44) t468) := ⟨(by rw [hw]; exact (by (with_reducible repeat (first | apply Kd.N_alloc | apply Kd.N_drewN | apply Kd.N_drew)); exact Kd.N_mono (Kd.N_far (p := ⟨gb484, 1, none⟩) (Kd.N_far (p := ⟨gb484, 0, none⟩) (Kd.N_mono HO470.out (fun k_ hk => (⟨hk, hk.2⟩ : _ ∧ k_ ≠ gb484))) (fun _ hk => hk.2) (.slice Ao54 t477.length co54)) (fun _ hk => hk.2) (.slice Ao58 t480.length co58)) (fun _ hk => ⟨hk.1.1.1.1.1.1.1, ⟨hk.1.1.1.1.1.1.2.1, ⟨hk.1.1.1.1.1.1.2.2.1, ⟨hk.1.1.1.1.2, ⟨hk.1.1.1.2, ⟨hk.1.1.2, ⟨hk.1.1.1.1.1.1.2.2.2.1, ⟨hk.1.1.1.1.1.1.2.2.2.2, hk.1.2⟩⟩⟩⟩⟩⟩⟩⟩)))⟩; have n4_ : Aside0 (Kd.N (Kd.slice 2 (Kd.int .i64)) 53 w59 w.heap.size (fun k_ => some k_ ≠ (.slice Ao30 t452.length co30 : Value).ownBlock ∧ some k_ ≠ (.slice Ao31 t455.length co31 : Value).ownBlock ∧ some k_ ≠ (.slice Ao41 t465.length co41 : Value).ownBlock ∧ some k_ ≠ (.slice Ao44 t468.length co44 : Value).ownBlock ∧ some k_ ≠ (.slice Ao54 t477.length co54 : Value).ownBlock ∧ some k_ ≠ (.slice Ao58 t480.length co58 : Value).ownBlock ∧ k_ ≠ gb458 ∧ k_ ≠ gb472 ∧ k_ ≠ gb484) (.slice Ao51 y474.length co51) y474) := ⟨(by rw [hw]; exact (by (with_reducible repeat (first | apply Kd.N_alloc | apply Kd.N_drewN | apply Kd.N_drew)); exact Kd.N_mono (Kd.N_far (p := ⟨gb484, 1, none⟩) (Kd.N_far (p := ⟨gb484, 0, none⟩) (Kd.N_mono HO476.out (fun k_ hk => (⟨hk, hk.2⟩ : _ ∧ k_ ≠ gb484))) (fun _ hk => hk.2) (.slice Ao54 t477.length co54)) (fun _ hk => hk.2) (.slice Ao58 t480.length co58)) (fun _ hk => ⟨hk.1.1.1.1.1, ⟨hk.1.1.1.1.2.1, ⟨hk.1.1.1.1.2.2.1, ⟨hk.1.1.1.1.2.2.2.1, ⟨hk.1.1.1.2, ⟨hk.1.1.2, ⟨hk.1.1.1.1.2.2.2.2.1, ⟨hk.1.1.1.1.2.2.2.2.2, hk.1.2⟩⟩⟩⟩⟩⟩⟩⟩)))⟩; have n5_ : Aside0 (Kd.N (Kd.slice 3 (Kd.int .i64)) 22 w59 w.heap.size (fun k_ => some k_ ≠ (.slice Ao30 t452.length co30 : Value).ownBlock ∧ some k_ ≠ (.slice Ao31 t455.length co31 : Value).ownBlock ∧ some k_ ≠ (.slice Ao41 t465.length co41 : Value).ownBlock ∧ some k_ ≠ (.slice Ao44 t468.length co44 : Value).ownBlock ∧ some k_ ≠ (.slice Ao51 y474.length co51 : Value).ownBlock ∧ some k_ ≠ (.slice Ao58 t480.length co58 : Value).ownBlock ∧ k_ ≠ gb458 ∧ k_ ≠ gb472 ∧ k_ ≠ gb484) (.slice Ao54 t477.length co54) t477) := ⟨(by rw [hw]; exact (by (with_reducible repeat (first | apply Kd.N_alloc | apply Kd.N_drewN | apply Kd.N_drew)); exact Kd.N_mono (Kd.N_far (p := ⟨gb484, 1, none⟩) (Kd.N_far (p := ⟨gb484, 0, none⟩) (Kd.N_mono HO479.out (fun k_ hk => (⟨hk, hk.2⟩ : _ ∧ k_ ≠ gb484))) (fun _ hk => hk.2) (.slice Ao54 t477.length co54)) (fun _ hk => hk.2) (.slice Ao58 t480.length co58)) (fun _ hk => ⟨hk.1.1.2.1, ⟨hk.1.1.2.2.1, ⟨hk.1.1.2.2.2.1, ⟨hk.1.1.2.2.2.2.1, ⟨hk.1.1.2.2.2.2.2.1, ⟨hk.1.1.1, ⟨hk.1.1.2.2.2.2.2.2.1, ⟨hk.1.1.2.2.2.2.2.2.2, hk.1.2⟩⟩⟩⟩⟩⟩⟩⟩)))⟩; have n6_ : Aside0 (Kd.N (Kd.slice 2 (Kd.int .i64)) 53 w59 w.heap.size (fun k_ => some k_ ≠ (.slice Ao30 t452.length co30 : Value).ownBlock ∧ some k_ ≠ (.slice Ao31 t455.length co31 : Value).ownBlock ∧ some k_ ≠ (.slice Ao41 t465.length co41 : Value).ownBlock ∧ some k_ ≠ (.slice Ao44 t468.length co44 : Value).ownBlock ∧ some k_ ≠ (.slice Ao51 y474.length co51 : Value).ownBlock ∧ some k_ ≠ (.slice Ao54 t477.length co54 : Value).ownBlock ∧ k_ ≠ gb458 ∧ k_ ≠ gb472 ∧ k_ ≠ gb484) (.slice Ao58 t480.length co58) t480) := ⟨(by rw [hw]; exact (by (with_reducible repeat (first | apply Kd.N_alloc | apply Kd.N_drewN | apply Kd.N_drew)); exact Kd.N_mono (Kd.N_far (p := ⟨gb484, 1, none⟩) (Kd.N_far (p := ⟨gb484, 0, none⟩) (Kd.N_mono HO482.out (fun k_ hk => (⟨hk, hk.2⟩ : _ ∧ k_ ≠ gb484))) (fun _ hk => hk.2) (.slice Ao54 t477.length co54)) (fun _ hk => hk.2) (.slice Ao58 t480.length co58)) (fun _ hk => ⟨hk.1.1.2.1, ⟨hk.1.1.2.2.1, ⟨hk.1.1.2.2.2.1, ⟨hk.1.1.2.2.2.2.1, ⟨hk.1.1.2.2.2.2.2.1, ⟨hk.1.1.1, ⟨hk.1.1.2.2.2.2.2.2.1, ⟨hk.1.1.2.2.2.2.2.2.2, hk.1.2⟩⟩⟩⟩⟩⟩⟩⟩)))⟩; have n7_ : Aside0 (w59.heap[gb458]? = some (.cells #[.int .i64 t450, .int .i64 t451, .slice Ao30 t452.length co30, .slice Ao31 t455.length co31] 24 (0, 0))) := ⟨(by rw [hw]; exact (bk_ BK458))⟩; have n8_ : Aside0 (w59.heap[gb472]? = some (.cells #[.slice Ao41 t465.length co41, .slice Ao44 t468.length co44] 28 (0, 0))) := ⟨(by rw [hw]; exact (bk_ BK472))⟩; have n9_ : Aside0 (w59.heap[gb484]? = some (.cells #[.slice Ao54 t477.length co54, .slice Ao58 t480.length co58] 28 (0, 0))) := ⟨(by rw [hw]; exact (bp_ BK484))⟩; have n10_ : Aside0 (Below w.heap.size w w59) := ⟨(by rw [hw]; exact (bl_ HB))⟩; clear hw; clear HO454; clear HO457; clear HO467; clear HO470; clear HO476; clear HO479; clear HO482; clear BK458; clear BK472; clear BK484; clear HB; have HO454 := n0_; have HO457 := n1_; have HO467 := n2_; have HO470 := n3_; have HO476 := n4_; have HO479 := n5_; have HO482 := n6_; have BK458 := n7_; have BK472 := n8_; have BK484 := n9_; have HB := n10_; clear n0_ n1_ n2_ n3_ n4_ n5_ n6_ n7_ n8_ n9_ n10_; obtain ⟨hcz60_0, hcz60_1, hcz60_2, hcz60_3, hfz60_0, hfz60_1, hfz60_2, hfz60_3⟩ := e4_ BK458; obtain ⟨hcz61_0, hcz61_1, hfz61_0, hfz61_1⟩ := e2_ BK484) | ((with_reducible refine gate_callee (f := 14) rfl ?_); refine gL_ (some 32) Try.func14 #[.agg #[.int .i64 t450, .int .i64 t451, .slice Ao30 t452.length co30, .slice Ao31 t455.length co31], .agg #[.slice Ao54 t477.length co54, .slice Ao58 t480.length co58]] ?_; (with_reducible refine (vcodec_Decode.calls k t450 t451 _ _ t452 _ _ t455 _ _ t477 (fun k_ => (some k_ ≠ (.slice Ao30 t452.length co30 : Value).ownBlock ∧ (some k_ ≠ (.slice Ao31 t455.length co31 : Value).ownBlock ∧ (some k_ ≠ (.slice Ao41 t465.length co41 : Value).ownBlock ∧ (some k_ ≠ (.slice Ao44 t468.length co44 : Value).ownBlock ∧ (some k_ ≠ (.slice Ao51 y474.length co51 : Value).ownBlock ∧ (some k_ ≠ (.slice Ao54 t477.length co54 : Value).ownBlock ∧ (k_ ≠ gb458 ∧ (k_ ≠ gb472 ∧ k_ ≠ gb484))))))))) _ _ t480 t485 t488 _ ?side1 ?side2 ?side3 ?side4 ?side5 ?side6 ?side7 A7.out).mono ?_); (case side1 => exact kCt_ (Kd.R_reads' HO454.out).2.2); (case side2 => exact (Kd.R_reads' HO454.out).2.1); (case side3 => exact kCt_ (Kd.R_reads' HO457.out).2.2); (case side4 => exact (Kd.R_reads' HO457.out).2.1); (case side5 => repeat (first | exact (Kd.N_reads' HO479.out).2.2 | (with_reducible refine Kd.C_alloc ?_ _) | (with_reducible refine Kd.C_drewN ?_ _) | (with_reducible refine Kd.C_drew ?_))); (case side6 => exact (Kd.N_reads' HO479.out).2.1); (case side7 => exact Kd.N_V (HO482.out)); rintro e w62 ⟨v486, rfl, ho0, hb⟩; refine ⟨_, rfl, ?_⟩; replace HO482 := Aside0.mk (Kd.N_elder' (kN_ HO482) (Kd.N_base ho0) hb); have HO487 := Aside0.mk (Kd.N_lower (Kd.N_mono (ok' := fun k_ => some k_ ≠ (.slice Ao30 t452.length co30 : Value).ownBlock ∧ some k_ ≠ (.slice Ao31 t455.length co31 : Value).ownBlock ∧ some k_ ≠ (.slice Ao41 t465.length co41 : Value).ownBlock ∧ some k_ ≠ (.slice Ao44 t468.length co44 : Value).ownBlock ∧ some k_ ≠ (.slice Ao51 y474.length co51 : Value).ownBlock ∧ some k_ ≠ (.slice Ao54 t477.length co54 : Value).ownBlock ∧ k_ ≠ gb458 ∧ k_ ≠ gb472 ∧ k_ ≠ gb484) ho0 (fun k_ hk_ => ⟨Or.elim hk_ (fun hs_ => hs_.1) (fun hn_ => (Kd.fresh' (Kd.R_lt (kR_ HO454)) k_ hn_)), Or.elim hk_ (fun hs_ => hs_.2.1) (fun hn_ => (Kd.fresh' (Kd.R_lt (kR_ HO457)) k_ hn_)), Or.elim hk_ (fun hs_ => hs_.2.2.1) (fun hn_ => (Kd.fresh' (Kd.N_lt (kN_ HO467)) k_ hn_)), Or.elim hk_ (fun hs_ => hs_.2.2.2.1) (fun hn_ => (Kd.fresh' (Kd.N_lt (kN_ HO470)) k_ hn_)), Or.elim hk_ (fun hs_ => hs_.2.2.2.2.1) (fun hn_ => (Kd.fresh' (Kd.N_lt (kN_ HO476)) k_ hn_)), Or.elim hk_ (fun hs_ => hs_.2.2.2.2.2.1) (fun hn_ => (Kd.fresh' (Kd.N_lt (kN_ HO479)) k_ hn_)), Or.elim hk_ (fun hs_ => hs_.2.2.2.2.2.2.1) (fun hn_ => (Kd.freshB (g := gb458) (o := .cells #[.int .i64 t450, .int .i64 t451, .slice Ao30 t452.length co30, .slice Ao31 t455.length co31] 24 (0, 0)) (bk_ BK458) k_ hn_)), Or.elim hk_ (fun hs_ => hs_.2.2.2.2.2.2.2.1) (fun hn_ => (Kd.freshB (g := gb472) (o := .cells #[.slice Ao41 t465.length co41, .slice Ao44 t468.length co44] 28 (0, 0)) (bk_ BK472) k_ hn_)), Or.elim hk_ (fun hs_ => hs_.2.2.2.2.2.2.2.2) (fun hn_ => (Kd.freshB (g := gb484) (o := .cells #[.slice Ao54 t477.length co54, .slice Ao58 t480.length co58] 28 (0, 0)) (bk_ BK484) k_ hn_))⟩)) (bs_ HB)); replace HO454 := FR_ HO454 hb; replace HO457 := FR_ HO457 hb; replace HO467 := Aside0.mk (Kd.N_elder' (kN_ HO467) (Kd.N_base ho0) hb); replace HO470 := Aside0.mk (Kd.N_elder' (kN_ HO470) (Kd.N_base ho0) hb); replace HO476 := Aside0.mk (Kd.N_elder' (kN_ HO476) (Kd.N_base ho0) hb); replace HO479 := Aside0.mk (Kd.N_elder' (kN_ HO479) (Kd.N_base ho0) hb); replace BK458 := FB_ BK458 hb; replace BK472 := FB_ BK472 hb; replace BK484 := FB_ BK484 hb; replace HB := BS_ HB hb; (try clear hb); (try clear hk); (try clear ho0)) | ((with_reducible refine gate_dst (N := 7) rfl ?_); (try (refine gate_guard (by rfl) ?_; dsimp only)); refine box_ 7 #[.slice none 0 0] 37 ?_; intro gb489 hg w63 hbox hb; replace HO454 := FR_ HO454 hb; replace HO457 := FR_ HO457 hb; replace HO467 := Aside0.mk (Kd.N_below (Kd.N_elderB (kN_ HO467) gb489 (Nat.le_of_eq hg.symm)) hb); replace HO470 := Aside0.mk (Kd.N_below (Kd.N_elderB (kN_ HO470) gb489 (Nat.le_of_eq hg.symm)) hb); replace HO476 := Aside0.mk (Kd.N_below (Kd.N_elderB (kN_ HO476) gb489 (Nat.le_of_eq hg.symm)) hb); replace HO479 := Aside0.mk (Kd.N_below (Kd.N_elderB (kN_ HO479) gb489 (Nat.le_of_eq hg.symm)) hb); replace HO482 := Aside0.mk (Kd.N_below (Kd.N_elderB (kN_ HO482) gb489 (Nat.le_of_eq hg.symm)) hb); replace HO487 := Aside0.mk (Kd.N_below (Kd.N_elderB (kN_ HO487) gb489 (Nat.le_of_eq hg.symm)) hb); have BK489 := Aside0.mk (hbox); have GW489 := GE_ HB hg; have GE489 := GE_ HB hg; replace HB := BS_ HB hb; obtain ⟨NB458_489, NB489_458⟩ := NN_ BK458 hg; replace BK458 := FB_ BK458 hb; obtain ⟨NB472_489, NB489_472⟩ := NN_ BK472 hg; replace BK472 := FB_ BK472 hb; obtain ⟨NB484_489, NB489_484⟩ := NN_ BK484 hg; replace BK484 := FB_ BK484 hb; clear hb hbox hg; obtain ⟨Ao64, co64, eo64⟩ := Kd.N_slice HO487.out; subst eo64; have hnb65 := NB489_458.out; have hnc65 := NB458_489.out; have hnb66 := NB489_472.out; have hnc66 := NB472_489.out; have hnb67 := NB489_484.out; have hnc67 := NB484_489.out; obtain ⟨hcz68_0, hfz68_0⟩ := e1_ BK489) | ((with_reducible refine gate_store (t := 37) (p := 7) rfl ?_); refine store_event (t := 37) (p := 7) (v := ?vo_w69) (w1 := (w63.setCell ⟨gb489, 0, none⟩ (.slice Ao64 t485.length co64))) ?hg ?ho ?hn ?hr ?_; (case ho => rfl); (case hg => rfl); (case hn => rfl); (case hr => first | (go_simp; done) | (go_simp; rfl)); intro w69 hw; have n0_ : Aside0 (Kd.R (Kd.int .i64) 3 w69 w.heap.size (fun k_ => some k_ ≠ (.slice Ao31 t455.length co31 : Value).ownBlock) (.slice Ao30 t452.length co30) t452) := ⟨(by rw [hw]; exact (kRk_ HO454 BK489))⟩; have n1_ : Aside0 (Kd.R (Kd.int .i64) 3 w69 w.heap.size (fun k_ => some k_ ≠ (.slice Ao30 t452.length co30 : Value).ownBlock) (.slice Ao31 t455.length co31) t455) := ⟨(by rw [hw]; exact (kRk_ HO457 BK489))⟩; have n2_ : Aside0 (Kd.N (Kd.slice 3 (Kd.int .i64)) 22 w69 w.heap.size (fun k_ => some k_ ≠ (.slice Ao30 t452.length co30 : Value).ownBlock ∧ some k_ ≠ (.slice Ao31 t455.length co31 : Value).ownBlock ∧ some k_ ≠ (.slice Ao44 t468.length co44 : Value).ownBlock ∧ some k_ ≠ (.slice Ao51 y474.length co51 : Value).ownBlock ∧ some k_ ≠ (.slice Ao54 t477.length co54 : Value).ownBlock ∧ some k_ ≠ (.slice Ao58 t480.length co58 : Value).ownBlock ∧ some k_ ≠ (.slice Ao64 t485.length co64 : Value).ownBlock ∧ k_ ≠ gb458 ∧ k_ ≠ gb472 ∧ k_ ≠ gb484 ∧ k_ ≠ gb489) (.slice Ao41 t465.length co41) t465) := ⟨(by rw [hw]; exact (by (with_reducible repeat (first | apply Kd.N_alloc | apply Kd.N_drewN | apply Kd.N_drew)); exact Kd.N_mono (Kd.N_far (p := ⟨gb489, 0, none⟩) (Kd.N_mono HO467.out (fun k_ hk => (⟨hk, hk.2⟩ : _ ∧ k_ ≠ gb489))) (fun _ hk => hk.2) (.slice Ao64 t485.length co64)) (fun _ hk => ⟨hk.1.1.1.1, ⟨hk.1.1.1.2.1, ⟨hk.1.1.1.2.2.1, ⟨hk.1.1.1.2.2.2.1, ⟨hk.1.1.1.2.2.2.2.1, ⟨hk.1.1.1.2.2.2.2.2.1, ⟨hk.1.1.2, ⟨hk.1.1.1.2.2.2.2.2.2.1, ⟨hk.1.1.1.2.2.2.2.2.2.2.1, ⟨hk.1.1.1.2.2.2.2.2.2.2.2, hk.1.2⟩⟩⟩⟩⟩⟩⟩⟩⟩⟩)))⟩; have n3_ : Aside0 (Kd.N (Kd.slice 2 (Kd.int .i64)) 53 w69 w.heap.size (fun k_ => some k_ ≠ (.slice Ao30 t452.length co30 : Value).ownBlock ∧ some k_ ≠ (.slice Ao31 t455.length co31 : Value).ownBlock ∧ some k_ ≠ (.slice Ao41 t465.length co41 : Value).ownBlock ∧ some k_ ≠ (.slice Ao51 y474.length co51 : Value).ownBlock ∧ some k_ ≠ (.slice Ao54 t477.length co54 : Value).ownBlock ∧ some k_ ≠ (.slice Ao58 t480.length co58 : Value).ownBlock ∧ some k_ ≠ (.slice Ao64 t485.length co64 : Value).ownBlock ∧ k_ ≠ gb458 ∧ k_ ≠ gb472 ∧ k_ ≠ gb484 ∧ k_ ≠ gb489) (.slice Ao44 t468.length co44) t468) := ⟨(by rw [hw]; exact (by (with_reducible repeat (first | apply Kd.N_alloc | apply Kd.N_drewN | apply Kd.N_drew)); exact Kd.N_mono (Kd.N_far (p := ⟨gb489, 0, none⟩) (Kd.N_mono HO470.out (fun k_ hk => (⟨hk, hk.2⟩ : _ ∧ k_ ≠ gb489))) (fun _ hk => hk.2) (.slice Ao64 t485.length co64)) (fun _ hk => ⟨hk.1.1.1.1, ⟨hk.1.1.1.2.1, ⟨hk.1.1.1.2.2.1, ⟨hk.1.1.1.2.2.2.1, ⟨hk.1.1.1.2.2.2.2.1, ⟨hk.1.1.1.2.2.2.2.2.1, ⟨hk.1.1.2, ⟨hk.1.1.1.2.2.2.2.2.2.1, ⟨hk.1.1.1.2.2.2.2.2.2.2.1, ⟨hk.1.1.1.2.2.2.2.2.2.2.2, hk.1.2⟩⟩⟩⟩⟩⟩⟩⟩⟩⟩)))⟩; have n4_ : Aside0 (Kd.N (Kd.slice 2 (Kd.int .i64)) 53 w69 w.heap.size (fun k_ => some k_ ≠ (.slice Ao30 t452.length co30 : Value).ownBlock ∧ some k_ ≠ (.slice Ao31 t455.length co31 : Value).ownBlock ∧ some k_ ≠ (.slice Ao41 t465.length co41 : Value).ownBlock ∧ some k_ ≠ (.slice Ao44 t468.length co44 : Value).ownBlock ∧ some k_ ≠ (.slice Ao54 t477.length co54 : Value).ownBlock ∧ some k_ ≠ (.slice Ao58 t480.length co58 : Value).ownBlock ∧ some k_ ≠ (.slice Ao64 t485.length co64 : Value).ownBlock ∧ k_ ≠ gb458 ∧ k_ ≠ gb472 ∧ k_ ≠ gb484 ∧ k_ ≠ gb489) (.slice Ao51 y474.length co51) y474) := ⟨(by rw [hw]; exact (by (with_reducible repeat (first | apply Kd.N_alloc | apply Kd.N_drewN | apply Kd.N_drew)); exact Kd.N_mono (Kd.N_far (p := ⟨gb489, 0, none⟩) (Kd.N_mono HO476.out (fun k_ hk => (⟨hk, hk.2⟩ : _ ∧ k_ ≠ gb489))) (fun _ hk => hk.2) (.slice Ao64 t485.length co64)) (fun _ hk => ⟨hk.1.1.1.1, ⟨hk.1.1.1.2.1, ⟨hk.1.1.1.2.2.1, ⟨hk.1.1.1.2.2.2.1, ⟨hk.1.1.1.2.2.2.2.1, ⟨hk.1.1.1.2.2.2.2.2.1, ⟨hk.1.1.2, ⟨hk.1.1.1.2.2.2.2.2.2.1, ⟨hk.1.1.1.2.2.2.2.2.2.2.1, ⟨hk.1.1.1.2.2.2.2.2.2.2.2, hk.1.2⟩⟩⟩⟩⟩⟩⟩⟩⟩⟩)))⟩; have n5_ : Aside0 (Kd.N (Kd.slice 3 (Kd.int .i64)) 22 w69 w.heap.size (fun k_ => some k_ ≠ (.slice Ao30 t452.length co30 : Value).ownBlock ∧ some k_ ≠ (.slice Ao31 t455.length co31 : Value).ownBlock ∧ some k_ ≠ (.slice Ao41 t465.length co41 : Value).ownBlock ∧ some k_ ≠ (.slice Ao44 t468.length co44 : Value).ownBlock ∧ some k_ ≠ (.slice Ao51 y474.length co51 : Value).ownBlock ∧ some k_ ≠ (.slice Ao58 t480.length co58 : Value).ownBlock ∧ some k_ ≠ (.slice Ao64 t485.length co64 : Value).ownBlock ∧ k_ ≠ gb458 ∧ k_ ≠ gb472 ∧ k_ ≠ gb484 ∧ k_ ≠ gb489) (.slice Ao54 t477.length co54) t477) := ⟨(by rw [hw]; exact (by (with_reducible repeat (first | apply Kd.N_alloc | apply Kd.N_drewN | apply Kd.N_drew)); exact Kd.N_mono (Kd.N_far (p := ⟨gb489, 0, none⟩) (Kd.N_mono HO479.out (fun k_ hk => (⟨hk, hk.2⟩ : _ ∧ k_ ≠ gb489))) (fun _ hk => hk.2) (.slice Ao64 t485.length co64)) (fun _ hk => ⟨hk.1.1.1.1, ⟨hk.1.1.1.2.1, ⟨hk.1.1.1.2.2.1, ⟨hk.1.1.1.2.2.2.1, ⟨hk.1.1.1.2.2.2.2.1, ⟨hk.1.1.1.2.2.2.2.2.1, ⟨hk.1.1.2, ⟨hk.1.1.1.2.2.2.2.2.2.1, ⟨hk.1.1.1.2.2.2.2.2.2.2.1, ⟨hk.1.1.1.2.2.2.2.2.2.2.2, hk.1.2⟩⟩⟩⟩⟩⟩⟩⟩⟩⟩)))⟩; have n6_ : Aside0 (Kd.N (Kd.slice 2 (Kd.int .i64)) 53 w69 w.heap.size (fun k_ => some k_ ≠ (.slice Ao30 t452.length co30 : Value).ownBlock ∧ some k_ ≠ (.slice Ao31 t455.length co31 : Value).ownBlock ∧ some k_ ≠ (.slice Ao41 t465.length co41 : Value).ownBlock ∧ some k_ ≠ (.slice Ao44 t468.length co44 : Value).ownBlock ∧ some k_ ≠ (.slice Ao51 y474.length co51 : Value).ownBlock ∧ some k_ ≠ (.slice Ao54 t477.length co54 : Value).ownBlock ∧ some k_ ≠ (.slice Ao64 t485.length co64 : Value).ownBlock ∧ k_ ≠ gb458 ∧ k_ ≠ gb472 ∧ k_ ≠ gb484 ∧ k_ ≠ gb489) (.slice Ao58 t480.length co58) t480) := ⟨(by rw [hw]; exact (by (with_reducible repeat (first | apply Kd.N_alloc | apply Kd.N_drewN | apply Kd.N_drew)); exact Kd.N_mono (Kd.N_far (p := ⟨gb489, 0, none⟩) (Kd.N_mono HO482.out (fun k_ hk => (⟨hk, hk.2⟩ : _ ∧ k_ ≠ gb489))) (fun _ hk => hk.2) (.slice Ao64 t485.length co64)) (fun _ hk => ⟨hk.1.1.1.1, ⟨hk.1.1.1.2.1, ⟨hk.1.1.1.2.2.1, ⟨hk.1.1.1.2.2.2.1, ⟨hk.1.1.1.2.2.2.2.1, ⟨hk.1.1.1.2.2.2.2.2.1, ⟨hk.1.1.2, ⟨hk.1.1.1.2.2.2.2.2.2.1, ⟨hk.1.1.1.2.2.2.2.2.2.2.1, ⟨hk.1.1.1.2.2.2.2.2.2.2.2, hk.1.2⟩⟩⟩⟩⟩⟩⟩⟩⟩⟩)))⟩; have n7_ : Aside0 (Kd.N (Kd.slice 2 (Kd.int .i64)) 53 w69 w.heap.size (fun k_ => some k_ ≠ (.slice Ao30 t452.length co30 : Value).ownBlock ∧ some k_ ≠ (.slice Ao31 t455.length co31 : Value).ownBlock ∧ some k_ ≠ (.slice Ao41 t465.length co41 : Value).ownBlock ∧ some k_ ≠ (.slice Ao44 t468.length co44 : Value).ownBlock ∧ some k_ ≠ (.slice Ao51 y474.length co51 : Value).ownBlock ∧ some k_ ≠ (.slice Ao54 t477.length co54 : Value).ownBlock ∧ k_ ≠ gb458 ∧ k_ ≠ gb472 ∧ k_ ≠ gb484 ∧ k_ ≠ gb489) (.slice Ao64 t485.length co64) t485) := ⟨(by rw [hw]; exact (by (with_reducible repeat (first | apply Kd.N_alloc | apply Kd.N_drewN | apply Kd.N_drew)); exact Kd.N_mono (Kd.N_far (p := ⟨gb489, 0, none⟩) (Kd.N_mono HO487.out (fun k_ hk => (⟨hk, hk.2⟩ : _ ∧ k_ ≠ gb489))) (fun _ hk => hk.2) (.slice Ao64 t485.length co64)) (fun _ hk => ⟨hk.1.1.1, ⟨hk.1.1.2.1, ⟨hk.1.1.2.2.1, ⟨hk.1.1.2.2.2.1, ⟨hk.1.1.2.2.2.2.1, ⟨hk.1.1.2.2.2.2.2.1, ⟨hk.1.1.2.2.2.2.2.2.1, ⟨hk.1.1.2.2.2.2.2.2.2.1, ⟨hk.1.1.2.2.2.2.2.2.2.2, hk.1.2⟩⟩⟩⟩⟩⟩⟩⟩⟩)))⟩; have n8_ : Aside0 (w69.heap[gb458]? = some (.cells #[.int .i64 t450, .int .i64 t451, .slice Ao30 t452.length co30, .slice Ao31 t455.length co31] 24 (0, 0))) := ⟨(by rw [hw]; exact (bk_ BK458))⟩; have n9_ : Aside0 (w69.heap[gb472]? = some (.cells #[.slice Ao41 t465.length co41, .slice Ao44 t468.length co44] 28 (0, 0))) := ⟨(by rw [hw]; exact (bk_ BK472))⟩; have n10_ : Aside0 (w69.heap[gb484]? = some (.cells #[.slice Ao54 t477.length co54, .slice Ao58 t480.length co58] 28 (0, 0))) := ⟨(by rw [hw]; exact (bk_ BK484))⟩; have n11_ : Aside0 (w69.heap[gb489]? = some (.cells #[.slice Ao64 t485.length co64] 37 (0, 0))) := ⟨(by rw [hw]; exact (bp_ BK489))⟩; have n12_ : Aside0 (Below w.heap.size w w69) := ⟨(by rw [hw]; exact (bl_ HB))⟩; clear hw; clear HO454; clear HO457; clear HO467; clear HO470; clear HO476; clear HO479; clear HO482; clear HO487; clear BK458; clear BK472; clear BK484; clear BK489; clear HB; have HO454 := n0_; have HO457 := n1_; have HO467 := n2_; have HO470 := n3_; have HO476 := n4_; have HO479 := n5_; have HO482 := n6_; have HO487 := n7_; have BK458 := n8_; have BK472 := n9_; have BK484 := n10_; have BK489 := n11_; have HB := n12_; clear n0_ n1_ n2_ n3_ n4_ n5_ n6_ n7_ n8_ n9_ n10_ n11_ n12_; obtain ⟨hcz70_0, hcz70_1, hfz70_0, hfz70_1⟩ := e2_ BK472; have p490 : 0 ≤ (0 : Int) := (by omega); have q490 : 0 < (t465.length : Int) := of_decide_eq_true am_; obtain ⟨ad490, A490_0, c490_0, e490, hx490_0, hl490_0, hi490_0⟩ := at_L1 (Kd.N_reads' HO467.out).2.2 0 p490 q490; cases e490; obtain ⟨ce490, hce490, hMe490, hcc490⟩ := Kd.N_get HO467.out [] 0 p490 (by first | exact q490 | exact of_decide_eq_true am_ | (have e_ := (Kd.N_reads' HO467.out).1; omega)); obtain ⟨ua490_0, uc490_0, rfl, ul490_0, ge490_0⟩ := Kd.FK_slice_open hMe490; have hv490_0 := hcc490 0 _ rfl; rw [Nat.add_zero, show ((Kd.slice 3 (Kd.int .i64))).sz = 1 from rfl, Nat.mul_one] at hv490_0; replace hv490_0 := Option.some.inj (hv490_0.symm.trans hx490_0); injection hv490_0 with hva_ hvn_ hvc_; rw [hva_] at ge490_0; rw [hvc_] at ul490_0; have HL490_0 := Aside0.mk (show Kd.V (Kd.int .i64) 3 _ w.heap.size _ _ (rd_L1 t465 0) from Kd.V_mk ul490_0 ge490_0); clear hva_ hvn_ hvc_ ge490_0 ul490_0; clear hcc490 hce490; have qi490 : (0 < t465.length) = True := eq_true (by omega); (try rw [show ((0 : Int)).toNat = 0 from rfl] at hx490_0); (try rw [Addr.add_zero'] at hx490_0); have HR490_0 := Aside0.mk hi490_0; have HC490_0 := Aside0.mk hl490_0; clear hi490_0 hl490_0; replace p490 := eq_true p490; replace q490 := eq_true q490; obtain ⟨hcz71_0, hcz71_1, hfz71_0, hfz71_1⟩ := e2_ BK484; have p491 : 0 ≤ (0 : Int) := (by omega); have q491 : 0 < (t480.length : Int) := of_decide_eq_true am_; obtain ⟨ad491, A491_0, c491_0, e491, hx491_0, hl491_0, hi491_0⟩ := at_L2 (Kd.N_reads' HO482.out).2.2 0 p491 q491; cases e491; obtain ⟨ce491, hce491, hMe491, hcc491⟩ := Kd.N_get HO482.out [] 0 p491 (by first | exact q491 | exact of_decide_eq_true am_ | (have e_ := (Kd.N_reads' HO482.out).1; omega)); obtain ⟨ua491_0, uc491_0, rfl, ul491_0, ge491_0⟩ := Kd.FK_slice_open hMe491; have hv491_0 := hcc491 0 _ rfl; rw [Nat.add_zero, show ((Kd.slice 2 (Kd.int .i64))).sz = 1 from rfl, Nat.mul_one] at hv491_0; replace hv491_0 := Option.some.inj (hv491_0.symm.trans hx491_0); injection hv491_0 with hva_ hvn_ hvc_; rw [hva_] at ge491_0; rw [hvc_] at ul491_0; have HL491_0 := Aside0.mk (show Kd.V (Kd.int .i64) 2 _ w.heap.size _ _ (rd_L2 t480 0) from Kd.V_mk ul491_0 ge491_0); clear hva_ hvn_ hvc_ ge491_0 ul491_0; clear hcc491 hce491; have qi491 : (0 < t480.length) = True := eq_true (by omega); (try rw [show ((0 : Int)).toNat = 0 from rfl] at hx491_0); (try rw [Addr.add_zero'] at hx491_0); have HR491_0 := Aside0.mk hi491_0; have HC491_0 := Aside0.mk hl491_0; clear hi491_0 hl491_0; replace p491 := eq_true p491; replace q491 := eq_true q491; have p492 : 0 ≤ (0 : Int) := (by omega); have q492 : 0 < (t480.length : Int) := of_decide_eq_true am_; obtain ⟨ad492, A492_0, c492_0, e492, hx492_0, hl492_0, hi492_0⟩ := at_L2 (Kd.N_reads' HO482.out).2.2 0 p492 q492; obtain rfl : ad491 = ad492 := (by injection e492); obtain ⟨ce492, hce492, hMe492, hcc492⟩ := Kd.N_get HO482.out [] 0 p492 (by first | exact q492 | exact of_decide_eq_true am_ | (have e_ := (Kd.N_reads' HO482.out).1; omega)); obtain ⟨ua492_0, uc492_0, rfl, ul492_0, ge492_0⟩ := Kd.FK_slice_open hMe492; have hv492_0 := hcc492 0 _ rfl; rw [Nat.add_zero, show ((Kd.slice 2 (Kd.int .i64))).sz = 1 from rfl, Nat.mul_one] at hv492_0; replace hv492_0 := Option.some.inj (hv492_0.symm.trans hx492_0); injection hv492_0 with hva_ hvn_ hvc_; rw [hva_] at ge492_0; rw [hvc_] at ul492_0; have HL492_0 := Aside0.mk (show Kd.V (Kd.int .i64) 2 _ w.heap.size _ _ (rd_L2 t480 0) from Kd.V_mk ul492_0 ge492_0); clear hva_ hvn_ hvc_ ge492_0 ul492_0; clear hcc492 hce492; have qi492 : (0 < t480.length) = True := eq_true (by omega); (try rw [show ((0 : Int)).toNat = 0 from rfl] at hx492_0); (try rw [Addr.add_zero'] at hx492_0); have HR492_0 := Aside0.mk hi492_0; have HC492_0 := Aside0.mk hl492_0; clear hi492_0 hl492_0; replace p492 := eq_true p492; replace q492 := eq_true q492; have ea_ := Option.some.inj (hx491_0.symm.trans hx492_0); injection ea_ with ea_ en_ ec_; subst ea_; subst ec_; clear en_; have p493 : 0 ≤ (0 : Int) := (by omega); have q493 : 0 < ((rd_L2 t480 0).length : Int) := of_decide_eq_true am_; obtain ⟨ad493, e493, hx493_0⟩ := Kd.at_int (by repeat (first | (with_reducible exact HR492_0.out) | (with_reducible refine Kd.C_alloc ?_ _) | (with_reducible refine Kd.C_drewN ?_ _) | (with_reducible refine Kd.C_drew ?_) | exact HR492_0.out)) 0 p493 q493; cases e493; have qi493 : (0 < (rd_L2 t480 0).length) = True := eq_true (by omega); (try rw [show ((0 : Int)).toNat = 0 from rfl] at hx493_0); (try rw [Addr.add_zero'] at hx493_0); replace p493 := eq_true p493; replace q493 := eq_true q493; have p494 : 0 ≤ (0 : Int) := (by omega); have q494 : 0 < (t477.length : Int) := of_decide_eq_true am_; obtain ⟨ad494, A494_0, c494_0, e494, hx494_0, hl494_0, hi494_0⟩ := at_L1 (Kd.N_reads' HO479.out).2.2 0 p494 q494; cases e494; obtain ⟨ce494, hce494, hMe494, hcc494⟩ := Kd.N_get HO479.out [] 0 p494 (by first | exact q494 | exact of_decide_eq_true am_ | (have e_ := (Kd.N_reads' HO479.out).1; omega)); obtain ⟨ua494_0, uc494_0, rfl, ul494_0, ge494_0⟩ := Kd.FK_slice_open hMe494; have hv494_0 := hcc494 0 _ rfl; rw [Nat.add_zero, show ((Kd.slice 3 (Kd.int .i64))).sz = 1 from rfl, Nat.mul_one] at hv494_0; replace hv494_0 := Option.some.inj (hv494_0.symm.trans hx494_0); injection hv494_0 with hva_ hvn_ hvc_; rw [hva_] at ge494_0; rw [hvc_] at ul494_0; have HL494_0 := Aside0.mk (show Kd.V (Kd.int .i64) 3 _ w.heap.size _ _ (rd_L1 t477 0) from Kd.V_mk ul494_0 ge494_0); clear hva_ hvn_ hvc_ ge494_0 ul494_0; clear hcc494 hce494; have qi494 : (0 < t477.length) = True := eq_true (by omega); (try rw [show ((0 : Int)).toNat = 0 from rfl] at hx494_0); (try rw [Addr.add_zero'] at hx494_0); have HR494_0 := Aside0.mk hi494_0; have HC494_0 := Aside0.mk hl494_0; clear hi494_0 hl494_0; replace p494 := eq_true p494; replace q494 := eq_true q494; have p495 : 0 ≤ (0 : Int) := (by omega); have q495 : 0 < (t477.length : Int) := of_decide_eq_true am_; obtain ⟨ad495, A495_0, c495_0, e495, hx495_0, hl495_0, hi495_0⟩ := at_L1 (Kd.N_reads' HO479.out).2.2 0 p495 q495; obtain rfl : ad494 = ad495 := (by injection e495); obtain ⟨ce495, hce495, hMe495, hcc495⟩ := Kd.N_get HO479.out [] 0 p495 (by first | exact q495 | exact of_decide_eq_true am_ | (have e_ := (Kd.N_reads' HO479.out).1; omega)); obtain ⟨ua495_0, uc495_0, rfl, ul495_0, ge495_0⟩ := Kd.FK_slice_open hMe495; have hv495_0 := hcc495 0 _ rfl; rw [Nat.add_zero, show ((Kd.slice 3 (Kd.int .i64))).sz = 1 from rfl, Nat.mul_one] at hv495_0; replace hv495_0 := Option.some.inj (hv495_0.symm.trans hx495_0); injection hv495_0 with hva_ hvn_ hvc_; rw [hva_] at ge495_0; rw [hvc_] at ul495_0; have HL495_0 := Aside0.mk (show Kd.V (Kd.int .i64) 3 _ w.heap.size _ _ (rd_L1 t477 0) from Kd.V_mk ul495_0 ge495_0); clear hva_ hvn_ hvc_ ge495_0 ul495_0; clear hcc495 hce495; have qi495 : (0 < t477.length) = True := eq_true (by omega); (try rw [show ((0 : Int)).toNat = 0 from rfl] at hx495_0); (try rw [Addr.add_zero'] at hx495_0); have HR495_0 := Aside0.mk hi495_0; have HC495_0 := Aside0.mk hl495_0; clear hi495_0 hl495_0; replace p495 := eq_true p495; replace q495 := eq_true q495; have ea_ := Option.some.inj (hx494_0.symm.trans hx495_0); injection ea_ with ea_ en_ ec_; subst ea_; subst ec_; clear en_; have p496 : 0 ≤ (0 : Int) := (by omega); have q496 : 0 < ((rd_L1 t477 0).length : Int) := of_decide_eq_true am_; obtain ⟨ad496, e496, hx496_0⟩ := Kd.at_int (by repeat (first | (with_reducible exact HR495_0.out) | (with_reducible refine Kd.C_alloc ?_ _) | (with_reducible refine Kd.C_drewN ?_ _) | (with_reducible refine Kd.C_drew ?_) | exact HR495_0.out)) 0 p496 q496; cases e496; have qi496 : (0 < (rd_L1 t477 0).length) = True := eq_true (by omega); (try rw [show ((0 : Int)).toNat = 0 from rfl] at hx496_0); (try rw [Addr.add_zero'] at hx496_0); replace p496 := eq_true p496; replace q496 := eq_true q496; obtain ⟨hcz72_0, hfz72_0⟩ := e1_ BK489; have p497 : 0 ≤ (0 : Int) := (by omega); have q497 : 0 < (t485.length : Int) := of_decide_eq_true am_; obtain ⟨ad497, A497_0, c497_0, e497, hx497_0, hl497_0, hi497_0⟩ := at_L2 (Kd.N_reads' HO487.out).2.2 0 p497 q497; cases e497; obtain ⟨ce497, hce497, hMe497, hcc497⟩ := Kd.N_get HO487.out [] 0 p497 (by first | exact q497 | exact of_decide_eq_true am_ | (have e_ := (Kd.N_reads' HO487.out).1; omega)); obtain ⟨ua497_0, uc497_0, rfl, ul497_0, ge497_0⟩ := Kd.FK_slice_open hMe497; have hv497_0 := hcc497 0 _ rfl; rw [Nat.add_zero, show ((Kd.slice 2 (Kd.int .i64))).sz = 1 from rfl, Nat.mul_one] at hv497_0; replace hv497_0 := Option.some.inj (hv497_0.symm.trans hx497_0); injection hv497_0 with hva_ hvn_ hvc_; rw [hva_] at ge497_0; rw [hvc_] at ul497_0; have HL497_0 := Aside0.mk (show Kd.V (Kd.int .i64) 2 _ w.heap.size _ _ (rd_L2 t485 0) from Kd.V_mk ul497_0 ge497_0); clear hva_ hvn_ hvc_ ge497_0 ul497_0; clear hcc497 hce497; have qi497 : (0 < t485.length) = True := eq_true (by omega); (try rw [show ((0 : Int)).toNat = 0 from rfl] at hx497_0); (try rw [Addr.add_zero'] at hx497_0); have HR497_0 := Aside0.mk hi497_0; have HC497_0 := Aside0.mk hl497_0; clear hi497_0 hl497_0; replace p497 := eq_true p497; replace q497 := eq_true q497; have p498 : 0 ≤ (0 : Int) := (by omega); have q498 : 0 < (t485.length : Int) := of_decide_eq_true am_; obtain ⟨ad498, A498_0, c498_0, e498, hx498_0, hl498_0, hi498_0⟩ := at_L2 (Kd.N_reads' HO487.out).2.2 0 p498 q498; obtain rfl : ad497 = ad498 := (by injection e498); obtain ⟨ce498, hce498, hMe498, hcc498⟩ := Kd.N_get HO487.out [] 0 p498 (by first | exact q498 | exact of_decide_eq_true am_ | (have e_ := (Kd.N_reads' HO487.out).1; omega)); obtain ⟨ua498_0, uc498_0, rfl, ul498_0, ge498_0⟩ := Kd.FK_slice_open hMe498; have hv498_0 := hcc498 0 _ rfl; rw [Nat.add_zero, show ((Kd.slice 2 (Kd.int .i64))).sz = 1 from rfl, Nat.mul_one] at hv498_0; replace hv498_0 := Option.some.inj (hv498_0.symm.trans hx498_0); injection hv498_0 with hva_ hvn_ hvc_; rw [hva_] at ge498_0; rw [hvc_] at ul498_0; have HL498_0 := Aside0.mk (show Kd.V (Kd.int .i64) 2 _ w.heap.size _ _ (rd_L2 t485 0) from Kd.V_mk ul498_0 ge498_0); clear hva_ hvn_ hvc_ ge498_0 ul498_0; clear hcc498 hce498; have qi498 : (0 < t485.length) = True := eq_true (by omega); (try rw [show ((0 : Int)).toNat = 0 from rfl] at hx498_0); (try rw [Addr.add_zero'] at hx498_0); have HR498_0 := Aside0.mk hi498_0; have HC498_0 := Aside0.mk hl498_0; clear hi498_0 hl498_0; replace p498 := eq_true p498; replace q498 := eq_true q498; have ea_ := Option.some.inj (hx497_0.symm.trans hx498_0); injection ea_ with ea_ en_ ec_; subst ea_; subst ec_; clear en_; have p499 : 0 ≤ (0 : Int) := (by omega); have q499 : 0 < ((rd_L2 t485 0).length : Int) := of_decide_eq_true am_; obtain ⟨ad499, e499, hx499_0⟩ := Kd.at_int (by repeat (first | (with_reducible exact HR498_0.out) | (with_reducible refine Kd.C_alloc ?_ _) | (with_reducible refine Kd.C_drewN ?_ _) | (with_reducible refine Kd.C_drew ?_) | exact HR498_0.out)) 0 p499 q499; cases e499; have qi499 : (0 < (rd_L2 t485 0).length) = True := eq_true (by omega); (try rw [show ((0 : Int)).toNat = 0 from rfl] at hx499_0); (try rw [Addr.add_zero'] at hx499_0); replace p499 := eq_true p499; replace q499 := eq_true q499))
 go_ret
 exact ⟨by first | rfl | (simp [errW_none, errW_some] <;> rfl) | (simp [*, errW_none, errW_some] <;> rfl), bl_ HB⟩}
 {
 rw [if_neg c26] at H
 exact absurd H (by simp)}}
 {
 rw [if_neg c25] at H
 have c25b0 : (((rd_L2 t485 0).length : Int) == 16) = false := beq_eq_false_iff_ne.mpr c25
 have c25b1 : (((rd_L2 t485 0).length : Int) != 16) = true := bne_iff_ne.mpr c25
 exact absurd ((Option.some.inj H).trans HT.out) (by decide)}}
 {
 rw [if_neg c24] at H
 exact absurd H (by simp)}}
 {
 rw [if_neg c23] at H
 have c23b0 : ((t485.length : Int) == 1) = false := beq_eq_false_iff_ne.mpr c23
 have c23b1 : ((t485.length : Int) != 1) = true := bne_iff_ne.mpr c23
 exact absurd ((Option.some.inj H).trans HT.out) (by decide)}}
 {
 rw [if_neg c22] at H
 have c22b0 : (t488 == 0) = false := beq_eq_false_iff_ne.mpr c22
 have c22b1 : (t488 != 0) = true := bne_iff_ne.mpr c22
 exact absurd ((Option.some.inj H).trans HT.out) (by decide)}}
 {
 rw [if_neg c21] at H
 have c21b0 : ((rd (rd_L1 t477 0) 0) == 0) = false := beq_eq_false_iff_ne.mpr c21
 have c21b1 : ((rd (rd_L1 t477 0) 0) != 0) = true := bne_iff_ne.mpr c21
 exact absurd ((Option.some.inj H).trans HT.out) (by decide)}}
 {
 rw [if_neg c20] at H
 exact absurd H (by simp)}}
 {
 rw [if_neg c19] at H
 have c19b0 : (((rd_L1 t477 0).length : Int) == 6) = false := beq_eq_false_iff_ne.mpr c19
 have c19b1 : (((rd_L1 t477 0).length : Int) != 6) = true := bne_iff_ne.mpr c19
 exact absurd ((Option.some.inj H).trans HT.out) (by decide)}}
 {
 rw [if_neg c18] at H
 exact absurd H (by simp)}}
 {
 rw [if_neg c17] at H
 have c17b0 : ((rd (rd_L2 t480 0) 0) == 5) = false := beq_eq_false_iff_ne.mpr c17
 have c17b1 : ((rd (rd_L2 t480 0) 0) != 5) = true := bne_iff_ne.mpr c17
 exact absurd ((Option.some.inj H).trans HT.out) (by decide)}}
 {
 rw [if_neg c16] at H
 exact absurd H (by simp)}}
 {
 rw [if_neg c15] at H
 have c15b0 : (((rd_L2 t480 0).length : Int) == 16) = false := beq_eq_false_iff_ne.mpr c15
 have c15b1 : (((rd_L2 t480 0).length : Int) != 16) = true := bne_iff_ne.mpr c15
 exact absurd ((Option.some.inj H).trans HT.out) (by decide)}}
 {
 rw [if_neg c14] at H
 exact absurd H (by simp)}}
 {
 rw [if_neg c13] at H
 have c13b0 : ((t480.length : Int) == 1) = false := beq_eq_false_iff_ne.mpr c13
 have c13b1 : ((t480.length : Int) != 1) = true := bne_iff_ne.mpr c13
 exact absurd ((Option.some.inj H).trans HT.out) (by decide)}}
 {
 rw [if_neg c12] at H
 have c12b0 : (t483 == 0) = false := beq_eq_false_iff_ne.mpr c12
 have c12b1 : (t483 != 0) = true := bne_iff_ne.mpr c12
 exact absurd ((Option.some.inj H).trans HT.out) (by decide)}}
 {
 rw [if_neg c11] at H
 have c11b0 : (((rd_L1 t465 0).length : Int) == 0) = false := beq_eq_false_iff_ne.mpr c11
 have c11b1 : (((rd_L1 t465 0).length : Int) != 0) = true := bne_iff_ne.mpr c11
 have c11b2 : ¬ ((rd_L1 t465 0) = []) := fun h_ => c11 (by rw [h_]; rfl)
 exact absurd ((Option.some.inj H).trans HT.out) (by decide)}}
 {
 rw [if_neg c10] at H
 exact absurd H (by simp)}}
 {
 rw [if_neg c9] at H
 have c9b0 : ((t465.length : Int) == 1) = false := beq_eq_false_iff_ne.mpr c9
 have c9b1 : ((t465.length : Int) != 1) = true := bne_iff_ne.mpr c9
 exact absurd ((Option.some.inj H).trans HT.out) (by decide)}}
 {
 rw [if_neg c8] at H
 have c8b0 : (t471 == 0) = false := beq_eq_false_iff_ne.mpr c8
 have c8b1 : (t471 != 0) = true := bne_iff_ne.mpr c8
 exact absurd ((Option.some.inj H).trans HT.out) (by decide)}}
 {
 rw [if_neg c4] at H
 exact absurd H (by simp)}}
 {
 rw [if_neg c2] at H
 exact absurd H (by simp)}
theorem psalterylaw22_knows.sure : psalterylaw22_knows.f 2000 = some true := by decide +kernel
theorem psalterylaw22_knows.calls (k : Nat)  (r : Bool) (w : World) (h : psalterylaw22_knows.f k  = some r) :
    Calls Try.prog 13 #[] w fun e w' => e = .returned (.bool r) ∧ Below w.heap.size w w' :=
  psalterylaw22_knows.callsT k r w h (by
    have h1 := at_rounds (g := fun k => psalterylaw22_knows.f k) (fun k => psalterylaw22_knows.mono k) (Nat.le_add_right k 2000) h
    have h2 := at_rounds (g := fun k => psalterylaw22_knows.f k) (fun k => psalterylaw22_knows.mono k) (Nat.le_add_left 2000 k) psalterylaw22_knows.sure
    exact Option.some.inj (h1.symm.trans h2))
mutual
def psalteryref07_Fair.j0 : Nat → List Int → Bool → Option (Bool)
  | 0, _, _ => none
  | k + 1, x0, x3 => psalteryref07_Fair.l0 k x0 x3 0
def psalteryref07_Fair.l0 : Nat → List Int → Bool → Int → Option (Bool)
  | 0, _, _, _ => none
  | k + 1, x0, x3, x4 => if x4 < (x0.length : Int) then (if x3 = true then (if 0 ≤ x4 then (if (rd x0 x4) ≥ (-1048576) then (psalteryref07_Fair.l0 k x0 (decide ((rd x0 x4) ≤ 1048576)) (wrap64 (x4 + 1))) else (psalteryref07_Fair.l0 k x0 false (wrap64 (x4 + 1)))) else (none)) else (psalteryref07_Fair.l0 k x0 false (wrap64 (x4 + 1)))) else (some x3)
end
def psalteryref07_Fair.f (k : Nat) (l0 : List Int) : Option (Bool) := if (l0.length : Int) > 0 then (psalteryref07_Fair.j0 k l0 (decide ((l0.length : Int) ≤ 16))) else (psalteryref07_Fair.j0 k l0 false)
theorem psalteryref07_Fair.mono_l : ∀ k, (∀ y0 y1, LeO (psalteryref07_Fair.j0 k y0 y1) (psalteryref07_Fair.j0 (k + 1) y0 y1)) ∧ (∀ y0 y1 y2, LeO (psalteryref07_Fair.l0 k y0 y1 y2) (psalteryref07_Fair.l0 (k + 1) y0 y1 y2))
  | 0 => ⟨fun _ _ r h => by simp [psalteryref07_Fair.j0] at h, fun _ _ _ r h => by simp [psalteryref07_Fair.l0] at h⟩
  | k + 1 => by
    obtain ⟨ih0, ih1⟩ := psalteryref07_Fair.mono_l k
    refine ⟨?_, ?_⟩
    all_goals (intros; first | unfold psalteryref07_Fair.j0 | unfold psalteryref07_Fair.l0)
    all_goals with_reducible repeat' first
     | exact ih0 _ _
     | exact ih1 _ _ _
     | exact LeO.refl _
     | exact LeO.none _
     | refine LeO.ite ?_ ?_
     | refine LeO.bind ?_ (fun _ => ?_)
theorem psalteryref07_Fair.mono : ∀ a0 k, LeO (psalteryref07_Fair.f k a0) (psalteryref07_Fair.f (k + 1) a0) := by
  intro a0 k
  obtain ⟨ih0, ih1⟩ := psalteryref07_Fair.mono_l k
  unfold psalteryref07_Fair.f
  with_reducible repeat' first
   | exact ih0 _ _
   | exact ih1 _ _ _
   | exact LeO.refl _
   | exact LeO.none _
   | refine LeO.ite ?_ ?_
   | refine LeO.bind ?_ (fun _ => ?_)
set_option maxHeartbeats 8000000 in
set_option maxRecDepth 100000 in
theorem psalteryref07_Fair.calls (k : Nat) (A0 : Option Addr) (c0 : Nat) (l0 : List Int) (r : Bool) (w : World) (hr0 : Kd.C (Kd.int .i64) w A0 l0.length l0) (hc0 : l0.length ≤ c0) (h : psalteryref07_Fair.f k l0 = some r) :
    Calls Try.prog 83 #[.slice A0 l0.length c0] w fun e w' => e = .returned (.bool r) ∧ Drawn0 w w' := by
 have HR0 := Aside0.mk hr0
 have HC0 := Aside0.mk hc0
 clear hr0 hc0
 have H : (if (l0.length : Int) > 0 then (psalteryref07_Fair.j0 k l0 (decide ((l0.length : Int) ≤ 16))) else (psalteryref07_Fair.j0 k l0 false)) = some r := h
 clear h
 have HC2 := Aside0.mk H
 clear H
 go_enter Try.func83, Try.ntmps83
 go_upto_region 1 with (fail)
 go_cut [3] (fun v3 wc => ∃ (kq : Nat) (x3_1 : Bool), v3 = .bool x3_1 ∧ Aside0 (psalteryref07_Fair.j0 kq l0 x3_1 = some r) ∧ Aside0 (kq ≤ k) ∧ Drawn0 w wc)
 case first => (
 have H := HC2.out
 clear HC2
 by_cases c3 : (l0.length : Int) > 0
 {
 rw [if_pos c3] at H
 have c3b0 : decide (0 < (l0.length : Int)) = true := decide_eq_true c3
 have c3b1 : decide (0 < l0.length) = true := decide_eq_true (by omega)
 clear c3
 (first | rw [c3b0] | (simp only [i64_w, i32_w]; rw [c3b0]) | skip)
 have H' := Aside0.mk H
 clear H
 go_wp2
 go_meet
 case rel => exact ⟨_, (decide ((l0.length : Int) ≤ 16)), rs_, H', ⟨ol_⟩, by repeat (first | exact Drawn0.refl _ | apply Drawn0.step)⟩}
 {
 rw [if_neg c3] at H
 have c3b0 : decide (0 < (l0.length : Int)) = false := decide_eq_false c3
 have c3b1 : decide (0 < l0.length) = false := decide_eq_false (by omega)
 clear c3
 (first | rw [c3b0] | (simp only [i64_w, i32_w]; rw [c3b0]) | skip)
 have H' := Aside0.mk H
 clear H
 go_wp2
 go_meet
 case rel => exact ⟨_, (false), rs_, H', ⟨ol_⟩, by repeat (first | exact Drawn0.refl _ | apply Drawn0.step)⟩})
 case rest => (
 clear HC2
 obtain ⟨kq, x3_1, rfl, HA, HJ1, ⟨mc1, rfl⟩⟩ := hcut
 cases kq with
 | zero => exact absurd HA.out (by simp [psalteryref07_Fair.j0])
 | succ kj1 => (
 have H := HA.out
 clear HA
 simp only [psalteryref07_Fair.j0] at H
 have H' := Aside0.mk H
 clear H
 go_wp2
 go_loopg [3, 4] kj1 (fun kq v3 v4 w' => ∃ (x3_2 : Bool) (x4_2 : Int), v3 = .bool x3_2 ∧ v4 = .int .i64 x4_2 ∧ Aside0 (psalteryref07_Fair.l0 kq l0 x3_2 x4_2 = some r) ∧ Aside0 (kq ≤ kj1) ∧ Drawn0 w w')
 case atStart => exact ⟨(x3_1), (0), rs_, rs_, H', ⟨Nat.le_refl _⟩, by repeat (first | exact Drawn0.refl _ | apply Drawn0.step)⟩
 case round => (
 clear H'
 obtain ⟨x3_2, x4_2, rfl, rfl, HA, HK2, ⟨m2, rfl⟩⟩ := hrel
 cases gk with
 | zero => exact absurd HA.out (by simp [psalteryref07_Fair.l0])
 | succ k2 => (
 have H := HA.out
 clear HA
 simp only [psalteryref07_Fair.l0] at H
 by_cases c4 : x4_2 < (l0.length : Int)
 {
 rw [if_pos c4] at H
 have c4b0 : decide (x4_2 < (l0.length : Int)) = true := decide_eq_true c4
 clear c4
 by_cases c5 : x3_2 = true
 {
 subst c5
 rw [if_pos rfl] at H
 by_cases c6 : 0 ≤ x4_2
 {
 rw [if_pos c6] at H
 have c6b0 : decide (0 ≤ x4_2) = true := decide_eq_true c6
 clear c6
 by_cases c7 : (rd l0 x4_2) ≥ (-1048576)
 {
 rw [if_pos c7] at H
 have c7b0 : decide ((-1048576) ≤ (rd l0 x4_2)) = true := decide_eq_true c7
 clear c7
 have H' := Aside0.mk H
 clear H
 have p500 : 0 ≤ (x4_2 : Int) := of_decide_eq_true am_
 have q500 : x4_2 < (l0.length : Int) := of_decide_eq_true am_
 obtain ⟨ad500, e500, hx500_0⟩ := Kd.at_int HR0.out x4_2 p500 q500
 cases e500
 replace p500 := eq_true p500
 replace q500 := eq_true q500
 have p501 : 0 ≤ (x4_2 : Int) := of_decide_eq_true am_
 have q501 : x4_2 < (l0.length : Int) := of_decide_eq_true am_
 obtain ⟨ad501, e501, hx501_0⟩ := Kd.at_int HR0.out x4_2 p501 q501
 obtain rfl : ad500 = ad501 := (by injection e501)
 replace p501 := eq_true p501
 replace q501 := eq_true q501
 go_wp2
 go_roundg k2
 case measure => have := HJ1.out; have := HK2.out; omega
 case rel => exact ⟨(decide ((rd l0 x4_2) ≤ 1048576)), (wrap64 (x4_2 + 1)), rs_, rs_, H', ⟨by have := HJ1.out; have := HK2.out; omega⟩, by repeat (first | exact Drawn0.refl _ | apply Drawn0.step)⟩}
 {
 rw [if_neg c7] at H
 have c7b0 : decide ((-1048576) ≤ (rd l0 x4_2)) = false := decide_eq_false c7
 clear c7
 have H' := Aside0.mk H
 clear H
 have p500 : 0 ≤ (x4_2 : Int) := of_decide_eq_true am_
 have q500 : x4_2 < (l0.length : Int) := of_decide_eq_true am_
 obtain ⟨ad500, e500, hx500_0⟩ := Kd.at_int HR0.out x4_2 p500 q500
 cases e500
 replace p500 := eq_true p500
 replace q500 := eq_true q500
 go_wp2
 go_roundg k2
 case measure => have := HJ1.out; have := HK2.out; omega
 case rel => exact ⟨(false), (wrap64 (x4_2 + 1)), rs_, rs_, H', ⟨by have := HJ1.out; have := HK2.out; omega⟩, by repeat (first | exact Drawn0.refl _ | apply Drawn0.step)⟩}}
 {
 rw [if_neg c6] at H
 exact absurd H (by simp)}}
 {
 replace c5 := Bool.eq_false_iff.mpr c5
 subst c5
 rw [if_neg (show ¬ (false = true) by decide)] at H
 have H' := Aside0.mk H
 clear H
 go_wp2
 go_roundg k2
 case measure => have := HJ1.out; have := HK2.out; omega
 case rel => exact ⟨(false), (wrap64 (x4_2 + 1)), rs_, rs_, H', ⟨by have := HJ1.out; have := HK2.out; omega⟩, by repeat (first | exact Drawn0.refl _ | apply Drawn0.step)⟩}}
 {
 rw [if_neg c4] at H
 have c4b0 : decide (x4_2 < (l0.length : Int)) = false := decide_eq_false c4
 clear c4
 obtain rfl := Option.some.inj H
 go_wp2
 go_ret
 exact ⟨by first | rfl | (simp; done) | (simp [*]; done), by repeat (first | exact Drawn0.refl _ | apply Drawn0.step)⟩}))))
def psalteryref10_Fair.f (k : Nat) (l0 : List Int) : Option (Bool) := if (l0.length : Int) = 16 then ((psalteryref07_Fair.f k l0).bind fun t502 => (some t502)) else (some false)
theorem psalteryref10_Fair.mono : ∀ a0 k, LeO (psalteryref10_Fair.f k a0) (psalteryref10_Fair.f (k + 1) a0) := by
  intro a0 k
  unfold psalteryref10_Fair.f
  with_reducible repeat' first
   | exact psalteryref07_Fair.mono _ _
   | exact LeO.refl _
   | exact LeO.none _
   | refine LeO.ite ?_ ?_
   | refine LeO.bind ?_ (fun _ => ?_)
set_option maxHeartbeats 8000000 in
set_option maxRecDepth 100000 in
theorem psalteryref10_Fair.calls (k : Nat) (A0 : Option Addr) (c0 : Nat) (l0 : List Int) (r : Bool) (w : World) (hr0 : Kd.C (Kd.int .i64) w A0 l0.length l0) (hc0 : l0.length ≤ c0) (h : psalteryref10_Fair.f k l0 = some r) :
    Calls Try.prog 43 #[.slice A0 l0.length c0] w fun e w' => e = .returned (.bool r) ∧ Drawn0 w w' := by
 have HR0 := Aside0.mk hr0
 have HC0 := Aside0.mk hc0
 clear hr0 hc0
 have H : (if (l0.length : Int) = 16 then ((psalteryref07_Fair.f k l0).bind fun t502 => (some t502)) else (some false)) = some r := h
 clear h
 by_cases c2 : (l0.length : Int) = 16
 {
 rw [if_pos c2] at H
 have c2b0 : ((l0.length : Int) == 16) = true := beq_iff_eq.mpr c2
 have c2b1 : ((l0.length : Int) != 16) = false := bne_eq_false_iff_eq.mpr c2
 clear c2
 replace H := Option.bind_eq_some_iff.mp H
 obtain ⟨t502, A30, H⟩ := H
 replace H : (some t502) = some r := H
 have A3 := Aside0.mk A30
 clear A30
 obtain rfl := Option.some.inj H
 go_enter Try.func43, Try.ntmps43
 go_wp2_with (first | (go_at_call 83; (with_reducible refine (psalteryref07_Fair.calls k _ _ l0 t502 _ ?side1 ?side2 A3.out).mono ?_); (case side1 => repeat (first | exact HR0.out | (with_reducible refine Kd.C_alloc ?_ _) | (with_reducible refine Kd.C_drewN ?_ _) | (with_reducible refine Kd.C_drew ?_))); (case side2 => exact HC0.out); rintro e w' ⟨rfl, ⟨nd, rfl⟩⟩))
 go_ret
 exact ⟨by first | rfl | (simp; done) | (simp [*]; done), by repeat (first | exact Drawn0.refl _ | apply Drawn0.step)⟩}
 {
 rw [if_neg c2] at H
 have c2b0 : ((l0.length : Int) == 16) = false := beq_eq_false_iff_ne.mpr c2
 have c2b1 : ((l0.length : Int) != 16) = true := bne_iff_ne.mpr c2
 obtain rfl := Option.some.inj H
 go_enter Try.func43, Try.ntmps43
 go_wp2
 go_ret
 exact ⟨by first | rfl | (simp; done) | (simp [*]; done), by repeat (first | exact Drawn0.refl _ | apply Drawn0.step)⟩}
mutual
def psalteryref22_Right.j0 : Nat → Bool → List (List Int) → Option (Bool)
  | 0, _, _ => none
  | k + 1, x16, x505000 => if x16 = true then (some false) else (psalteryref22_Right.l0 k 0 x505000)
def psalteryref22_Right.l0 : Nat → Int → List (List Int) → Option (Bool)
  | 0, _, _ => none
  | k + 1, x5, x505000 => if x5 < (x505000.length : Int) then (if 0 ≤ x5 then ((psalteryref10_Fair.f k (rd_L2 x505000 x5)).bind fun t507 => (if t507 = true then (psalteryref22_Right.l0 k (wrap64 (x5 + 1)) x505000) else (some false))) else (none)) else (some true)
end
def psalteryref22_Right.f (k : Nat) (a0_0 : Int) (a0_1 : Int) (l0_2 : List Int) (l0_3 : List Int) (l1_0 : List (List Int)) : Option (Bool) := (psalteryref16_Right.f k a0_0 a0_1 l0_2 l0_3).bind fun t505 => (if t505 = true then (psalteryref22_Right.j0 k ((l1_0.length : Int) != a0_0) l1_0) else (psalteryref22_Right.j0 k true l1_0))
theorem psalteryref22_Right.mono_l : ∀ k, (∀ y0 y1, LeO (psalteryref22_Right.j0 k y0 y1) (psalteryref22_Right.j0 (k + 1) y0 y1)) ∧ (∀ y0 y1, LeO (psalteryref22_Right.l0 k y0 y1) (psalteryref22_Right.l0 (k + 1) y0 y1))
  | 0 => ⟨fun _ _ r h => by simp [psalteryref22_Right.j0] at h, fun _ _ r h => by simp [psalteryref22_Right.l0] at h⟩
  | k + 1 => by
    obtain ⟨ih0, ih1⟩ := psalteryref22_Right.mono_l k
    refine ⟨?_, ?_⟩
    all_goals (intros; first | unfold psalteryref22_Right.j0 | unfold psalteryref22_Right.l0)
    all_goals with_reducible repeat' first
     | exact ih0 _ _
     | exact ih1 _ _
     | exact psalteryref10_Fair.mono _ _
     | exact psalteryref16_Right.mono _ _ _ _ _
     | exact LeO.refl _
     | exact LeO.none _
     | refine LeO.ite ?_ ?_
     | refine LeO.bind ?_ (fun _ => ?_)
theorem psalteryref22_Right.mono : ∀ a0 a1 a2 a3 a4 k, LeO (psalteryref22_Right.f k a0 a1 a2 a3 a4) (psalteryref22_Right.f (k + 1) a0 a1 a2 a3 a4) := by
  intro a0 a1 a2 a3 a4 k
  obtain ⟨ih0, ih1⟩ := psalteryref22_Right.mono_l k
  unfold psalteryref22_Right.f
  with_reducible repeat' first
   | exact ih0 _ _
   | exact ih1 _ _
   | exact psalteryref10_Fair.mono _ _
   | exact psalteryref16_Right.mono _ _ _ _ _
   | exact LeO.refl _
   | exact LeO.none _
   | refine LeO.ite ?_ ?_
   | refine LeO.bind ?_ (fun _ => ?_)
set_option maxHeartbeats 8000000 in
set_option maxRecDepth 100000 in
theorem psalteryref22_Right.calls (k : Nat) (a0_0 : Int) (a0_1 : Int) (A0_2 : Option Addr) (c0_2 : Nat) (l0_2 : List Int) (A0_3 : Option Addr) (c0_3 : Nat) (l0_3 : List Int) (A1_0 : Option Addr) (c1_0 : Nat) (l1_0 : List (List Int)) (r : Bool) (w : World) (hr0_2 : Kd.C (Kd.int .i64) w A0_2 l0_2.length l0_2) (hc0_2 : l0_2.length ≤ c0_2) (hr0_3 : Kd.C (Kd.int .i64) w A0_3 l0_3.length l0_3) (hc0_3 : l0_3.length ≤ c0_3) (hr1_0 : Kd.C (Kd.slice 2 (Kd.int .i64)) w A1_0 l1_0.length l1_0) (hc1_0 : l1_0.length ≤ c1_0) (h : psalteryref22_Right.f k a0_0 a0_1 l0_2 l0_3 l1_0 = some r) :
    Calls Try.prog 17 #[.agg #[.int .i64 a0_0, .int .i64 a0_1, .slice A0_2 l0_2.length c0_2, .slice A0_3 l0_3.length c0_3], .agg #[.slice A1_0 l1_0.length c1_0]] w fun e w' => e = .returned (.bool r) ∧ Below w.heap.size w w' := by
 have hu31 := Try.underlying31
 have hu37 := Try.underlying37
 have HR0_2 := Aside0.mk hr0_2
 have HC0_2 := Aside0.mk hc0_2
 clear hr0_2 hc0_2
 have HR0_3 := Aside0.mk hr0_3
 have HC0_3 := Aside0.mk hc0_3
 clear hr0_3 hc0_3
 have HR1_0 := Aside0.mk hr1_0
 have HC1_0 := Aside0.mk hc1_0
 clear hr1_0 hc1_0
 have HB := Aside0.mk (Below.refl w.heap.size w)
 have H : ((psalteryref16_Right.f k a0_0 a0_1 l0_2 l0_3).bind fun t505 => (if t505 = true then (psalteryref22_Right.j0 k ((l1_0.length : Int) != a0_0) l1_0) else (psalteryref22_Right.j0 k true l1_0))) = some r := h
 clear h
 have HC3 := Aside0.mk H
 clear H
 go_enter Try.func17, Try.ntmps17
 go_upto_region 1 with (first | ((with_reducible refine gate_dst (N := 2) rfl ?_); (try (refine gate_guard (by rfl) ?_; dsimp only)); refine bx_ HB 2 #[.int .i64 a0_0, .int .i64 a0_1, .slice A0_2 l0_2.length c0_2, .slice A0_3 l0_3.length c0_3] 31 ?_; clear HB; intro gb503 hg w4 hb BK503 GE503 HB; have GW503 := GE503; clear hb hg) | ((with_reducible refine gate_dst (N := 3) rfl ?_); (try (refine gate_guard (by rfl) ?_; dsimp only)); refine bx_ HB 3 #[.slice A1_0 l1_0.length c1_0] 37 ?_; clear HB; intro gb504 hg w5 hb BK504 GE504 HB; have GW504 := GE504; obtain ⟨NB503_504, NB504_503⟩ := NN_ BK503 hg; replace BK503 := FB_ BK503 hb; clear hb hg))
 (try simp only [Act.put, List.setIfInBounds_toArray, List.set_cons_zero, List.set_cons_succ])
 go_cut [16] (fun v16 wc => ∃ (kq : Nat) (x16_2 : Bool), v16 = .bool x16_2 ∧ Aside0 (psalteryref22_Right.j0 kq x16_2 l1_0 = some r) ∧ Aside0 (kq ≤ k) ∧ Aside0 (wc.heap[gb503]? = some (.cells #[.int .i64 a0_0, .int .i64 a0_1, (.slice A0_2 l0_2.length c0_2), (.slice A0_3 l0_3.length c0_3)] 31 (0, 0))) ∧ Aside0 (wc.heap[gb504]? = some (.cells #[(.slice A1_0 l1_0.length c1_0)] 37 (0, 0))) ∧ Aside0 (Below w.heap.size w wc))
 case first => (
 have H := HC3.out
 clear HC3
 obtain ⟨t505, A6, H⟩ := ob_ H
 (try dsimp only at H)
 by_cases c7 : t505 = true
 {
 subst c7
 rw [if_pos rfl] at H
 have H' := Aside0.mk H
 clear H
 have hnb8 := NB503_504.out
 have hnc8 := NB504_503.out
 obtain ⟨hcz9_0, hcz9_1, hcz9_2, hcz9_3, hfz9_0, hfz9_1, hfz9_2, hfz9_3⟩ := e4_ BK503
 go_wp2_with (first | ((with_reducible refine gate_callee (f := 28) rfl ?_); refine gL_ (some 7) Try.func28 #[.agg #[.int .i64 a0_0, .int .i64 a0_1, .slice A0_2 l0_2.length c0_2, .slice A0_3 l0_3.length c0_3]] ?_; (with_reducible refine (psalteryref16_Right.calls k a0_0 a0_1 _ _ l0_2 _ _ l0_3 true _ ?side1 ?side2 ?side3 ?side4 A6.out).mono ?_); (case side1 => exact kC_ HR0_2 HB); (case side2 => exact HC0_2.out); (case side3 => exact kC_ HR0_3 HB); (case side4 => exact HC0_3.out); rintro e w10 ⟨rfl, hb⟩; refine ⟨_, rfl, ?_⟩; replace BK503 := FB_ BK503 hb; replace BK504 := FB_ BK504 hb; replace HB := BS_ HB hb; (try clear hb); obtain ⟨hcz11_0, hfz11_0⟩ := e1_ BK504; obtain ⟨hcz12_0, hcz12_1, hcz12_2, hcz12_3, hfz12_0, hfz12_1, hfz12_2, hfz12_3⟩ := e4_ BK503))
 go_meet
 case rel => exact ⟨_, (((l1_0.length : Int) != a0_0)), rs_, H', ⟨ol_⟩, ⟨bk_ BK503⟩, ⟨bk_ BK504⟩, ⟨bl_ HB⟩⟩}
 {
 replace c7 := Bool.eq_false_iff.mpr c7
 subst c7
 rw [if_neg (show ¬ (false = true) by decide)] at H
 have H' := Aside0.mk H
 clear H
 have hnb13 := NB503_504.out
 have hnc13 := NB504_503.out
 obtain ⟨hcz14_0, hcz14_1, hcz14_2, hcz14_3, hfz14_0, hfz14_1, hfz14_2, hfz14_3⟩ := e4_ BK503
 go_wp2_with (first | ((with_reducible refine gate_callee (f := 28) rfl ?_); refine gL_ (some 7) Try.func28 #[.agg #[.int .i64 a0_0, .int .i64 a0_1, .slice A0_2 l0_2.length c0_2, .slice A0_3 l0_3.length c0_3]] ?_; (with_reducible refine (psalteryref16_Right.calls k a0_0 a0_1 _ _ l0_2 _ _ l0_3 false _ ?side1 ?side2 ?side3 ?side4 A6.out).mono ?_); (case side1 => exact kC_ HR0_2 HB); (case side2 => exact HC0_2.out); (case side3 => exact kC_ HR0_3 HB); (case side4 => exact HC0_3.out); rintro e w15 ⟨rfl, hb⟩; refine ⟨_, rfl, ?_⟩; replace BK503 := FB_ BK503 hb; replace BK504 := FB_ BK504 hb; replace HB := BS_ HB hb; (try clear hb)))
 go_meet
 case rel => exact ⟨_, (true), rs_, H', ⟨ol_⟩, ⟨bk_ BK503⟩, ⟨bk_ BK504⟩, ⟨bl_ HB⟩⟩})
 case rest => (
 clear HC3
 obtain ⟨kq, x16_2, rfl, HA, HJ2, BK503, BK504, HB⟩ := hcut
 cases kq with
 | zero => exact absurd HA.out (by simp [psalteryref22_Right.j0])
 | succ kj2 => (
 have H := HA.out
 clear HA
 simp only [psalteryref22_Right.j0] at H
 by_cases c16 : x16_2 = true
 {
 subst c16
 rw [if_pos rfl] at H
 obtain rfl := Option.some.inj H
 go_wp2
 go_ret
 exact ⟨by first | rfl | (simp [errW_none, errW_some] <;> rfl) | (simp [*, errW_none, errW_some] <;> rfl), bl_ HB⟩}
 {
 replace c16 := Bool.eq_false_iff.mpr c16
 subst c16
 rw [if_neg (show ¬ (false = true) by decide)] at H
 have H' := Aside0.mk H
 clear H
 go_wp2
 go_loopg [5] kj2 (fun kq v5 w' => ∃ (x5_2 : Int), v5 = .int .i64 x5_2 ∧ Aside0 (psalteryref22_Right.l0 kq x5_2 l1_0 = some r) ∧ Aside0 (kq ≤ kj2) ∧ Aside0 (w'.heap[gb503]? = some (.cells #[.int .i64 a0_0, .int .i64 a0_1, (.slice A0_2 l0_2.length c0_2), (.slice A0_3 l0_3.length c0_3)] 31 (0, 0))) ∧ Aside0 (w'.heap[gb504]? = some (.cells #[(.slice A1_0 l1_0.length c1_0)] 37 (0, 0))) ∧ Aside0 (Below w.heap.size w w'))
 case atStart => exact ⟨(0), rs_, H', ⟨Nat.le_refl _⟩, ⟨bk_ BK503⟩, ⟨bk_ BK504⟩, ⟨bl_ HB⟩⟩
 case round => (
 clear H'
 try clear c16
 obtain ⟨x5_2, rfl, HA, HK2, BK503, BK504, HB⟩ := hrel
 cases gk with
 | zero => exact absurd HA.out (by simp [psalteryref22_Right.l0])
 | succ k2 => (
 have H := HA.out
 clear HA
 simp only [psalteryref22_Right.l0] at H
 by_cases c17 : x5_2 < (l1_0.length : Int)
 {
 rw [if_pos c17] at H
 have c17b0 : decide (x5_2 < (l1_0.length : Int)) = true := decide_eq_true c17
 clear c17
 by_cases c18 : 0 ≤ x5_2
 {
 rw [if_pos c18] at H
 have c18b0 : decide (0 ≤ x5_2) = true := decide_eq_true c18
 clear c18
 obtain ⟨t507, A19, H⟩ := ob_ H
 (try dsimp only at H)
 by_cases c20 : t507 = true
 {
 subst c20
 rw [if_pos rfl] at H
 have H' := Aside0.mk H
 clear H
 have hnb21 := NB504_503.out
 have hnc21 := NB503_504.out
 obtain ⟨hcz22_0, hfz22_0⟩ := e1_ BK504
 have p506 : 0 ≤ (x5_2 : Int) := of_decide_eq_true am_
 have q506 : x5_2 < (l1_0.length : Int) := of_decide_eq_true am_
 obtain ⟨ad506, A506_0, c506_0, e506, hx506_0, hl506_0, hi506_0⟩ := at_L2 HR1_0.out x5_2 p506 q506
 cases e506
 replace hx506_0 := (HB.out.cell (World.block_lt_of_cell? w _ hx506_0)).trans hx506_0
 have HR506_0 := Aside0.mk hi506_0
 have HC506_0 := Aside0.mk hl506_0
 clear hi506_0 hl506_0
 replace p506 := eq_true p506
 replace q506 := eq_true q506
 go_wp2_with (first | ((with_reducible refine gate_callee (f := 43) rfl ?_); refine gL_ (some 29) Try.func43 #[.slice A506_0 (rd_L2 l1_0 x5_2).length c506_0] ?_; (with_reducible refine (psalteryref10_Fair.calls k2 _ _ (rd_L2 l1_0 x5_2) true _ ?side1 ?side2 A19.out).mono ?_); (case side1 => exact kC_ HR506_0 HB); (case side2 => exact HC506_0.out); rintro e w' ⟨rfl, ⟨nd, rfl⟩⟩; refine ⟨_, rfl, ?_⟩))
 go_roundg k2
 case measure => have := HJ2.out; have := HK2.out; omega
 case rel => exact ⟨(wrap64 (x5_2 + 1)), rs_, H', ⟨by have := HJ2.out; have := HK2.out; omega⟩, ⟨bk_ BK503⟩, ⟨bk_ BK504⟩, ⟨bl_ HB⟩⟩}
 {
 replace c20 := Bool.eq_false_iff.mpr c20
 subst c20
 rw [if_neg (show ¬ (false = true) by decide)] at H
 obtain rfl := Option.some.inj H
 have hnb23 := NB504_503.out
 have hnc23 := NB503_504.out
 obtain ⟨hcz24_0, hfz24_0⟩ := e1_ BK504
 have p506 : 0 ≤ (x5_2 : Int) := of_decide_eq_true am_
 have q506 : x5_2 < (l1_0.length : Int) := of_decide_eq_true am_
 obtain ⟨ad506, A506_0, c506_0, e506, hx506_0, hl506_0, hi506_0⟩ := at_L2 HR1_0.out x5_2 p506 q506
 cases e506
 replace hx506_0 := (HB.out.cell (World.block_lt_of_cell? w _ hx506_0)).trans hx506_0
 have HR506_0 := Aside0.mk hi506_0
 have HC506_0 := Aside0.mk hl506_0
 clear hi506_0 hl506_0
 replace p506 := eq_true p506
 replace q506 := eq_true q506
 go_wp2_with (first | ((with_reducible refine gate_callee (f := 43) rfl ?_); refine gL_ (some 29) Try.func43 #[.slice A506_0 (rd_L2 l1_0 x5_2).length c506_0] ?_; (with_reducible refine (psalteryref10_Fair.calls k2 _ _ (rd_L2 l1_0 x5_2) false _ ?side1 ?side2 A19.out).mono ?_); (case side1 => exact kC_ HR506_0 HB); (case side2 => exact HC506_0.out); rintro e w' ⟨rfl, ⟨nd, rfl⟩⟩; refine ⟨_, rfl, ?_⟩))
 go_ret
 exact ⟨by first | rfl | (simp [errW_none, errW_some] <;> rfl) | (simp [*, errW_none, errW_some] <;> rfl), bl_ HB⟩}}
 {
 rw [if_neg c18] at H
 exact absurd H (by simp)}}
 {
 rw [if_neg c17] at H
 have c17b0 : decide (x5_2 < (l1_0.length : Int)) = false := decide_eq_false c17
 clear c17
 obtain rfl := Option.some.inj H
 have hnb25 := NB504_503.out
 have hnc25 := NB503_504.out
 obtain ⟨hcz26_0, hfz26_0⟩ := e1_ BK504
 go_wp2
 go_ret
 exact ⟨by first | rfl | (simp [errW_none, errW_some] <;> rfl) | (simp [*, errW_none, errW_some] <;> rfl), bl_ HB⟩}))}))
def psalterylaw22_VoiceAny.j0 : Nat → Bool → Int → Int → List Int → List Int → List (List Int) → List (List Int) → Option (Bool)
  | 0, _, _, _, _, _, _, _ => none
  | k + 1, x19, x509000, x509001, x509002, x509003, x510000, x510001 => if x19 = true then ((psalterylaw22_knows.f k).bind fun t514 => (some t514)) else ((vcodec_Decode.f k x509000 x509001 x509002 x509003 x510000 x510001).bind fun bt515 => ((vcodec_Encode.f k x509000 x509001 x509002 x509003 bt515.1).bind fun bt520 => (if bt515.2 = 0 then (if bt520.2.2 = 0 then ((vcodec_Right.f k x509000 x509001 x509002 x509003 bt515.1).bind fun t528 => (if t528 = true then ((psalterylaw16_As.f x509000 x509001 x509002 x509003).bind fun bt529 => ((psalteryref22_Right.f k bt529.1 bt529.2 x509002 x509003 bt515.1).bind fun t531 => (if t531 = true then ((psalterylaw22_knows.f k).bind fun t532 => (some t532)) else (some false)))) else (some false))) else (some false)) else (some false))))
def psalterylaw22_VoiceAny.f (k : Nat) (a0_0 : Int) (a0_1 : Int) (l0_2 : List Int) (l0_3 : List Int) (l1_0 : List (List Int)) (l1_1 : List (List Int)) : Option (Bool) := (psalterylaw22_wide.f k a0_0 a0_1 l0_2 l0_3 l1_0 l1_1).bind fun t510 => (if t510 = true then (psalterylaw22_VoiceAny.j0 k true a0_0 a0_1 l0_2 l0_3 l1_0 l1_1) else ((psalterylaw16_As.f a0_0 a0_1 l0_2 l0_3).bind fun bt511 => ((psalterylaw17_As.f l1_0 l1_1).bind fun _ => ((psalteryref17_Right.f k bt511.1 bt511.2 l0_2 l0_3 l1_0 l1_1).bind fun t513 => (psalterylaw22_VoiceAny.j0 k (!t513) a0_0 a0_1 l0_2 l0_3 l1_0 l1_1)))))
theorem psalterylaw22_VoiceAny.mono_l : ∀ k, (∀ y0 y1 y2 y3 y4 y5 y6, LeO (psalterylaw22_VoiceAny.j0 k y0 y1 y2 y3 y4 y5 y6) (psalterylaw22_VoiceAny.j0 (k + 1) y0 y1 y2 y3 y4 y5 y6))
  | 0 => fun _ _ _ _ _ _ _ r h => by simp [psalterylaw22_VoiceAny.j0] at h
  | k + 1 => by
    have ih0 := psalterylaw22_VoiceAny.mono_l k
    · intro y0 y1 y2 y3 y4 y5 y6
      unfold psalterylaw22_VoiceAny.j0
      with_reducible repeat' first
   | exact ih0 _ _ _ _ _ _ _
   | exact psalterylaw22_knows.mono _
   | exact psalterylaw22_wide.mono _ _ _ _ _ _ _
   | exact psalteryref17_Right.mono _ _ _ _ _ _ _
   | exact psalteryref22_Right.mono _ _ _ _ _ _
   | exact vcodec_Decode.mono _ _ _ _ _ _ _
   | exact vcodec_Encode.mono _ _ _ _ _ _
   | exact vcodec_Right.mono _ _ _ _ _ _
   | exact LeO.refl _
   | exact LeO.none _
   | refine LeO.ite ?_ ?_
   | refine LeO.bind ?_ (fun _ => ?_)
theorem psalterylaw22_VoiceAny.mono : ∀ a0 a1 a2 a3 a4 a5 k, LeO (psalterylaw22_VoiceAny.f k a0 a1 a2 a3 a4 a5) (psalterylaw22_VoiceAny.f (k + 1) a0 a1 a2 a3 a4 a5) := by
  intro a0 a1 a2 a3 a4 a5 k
  have ih0 := psalterylaw22_VoiceAny.mono_l k
  unfold psalterylaw22_VoiceAny.f
  with_reducible repeat' first
   | exact ih0 _ _ _ _ _ _ _
   | exact psalterylaw22_knows.mono _
   | exact psalterylaw22_wide.mono _ _ _ _ _ _ _
   | exact psalteryref17_Right.mono _ _ _ _ _ _ _
   | exact psalteryref22_Right.mono _ _ _ _ _ _
   | exact vcodec_Decode.mono _ _ _ _ _ _ _
   | exact vcodec_Encode.mono _ _ _ _ _ _
   | exact vcodec_Right.mono _ _ _ _ _ _
   | exact LeO.refl _
   | exact LeO.none _
   | refine LeO.ite ?_ ?_
   | refine LeO.bind ?_ (fun _ => ?_)
def psalterylaw22_VoiceAny.T1 : Bool × List (List Nat × List Nat) := (true, [([], []), ([], []), ([0, 1], [0, 1]), ([2, 2], [2]), ([3], [3]), ([4, 3, 3], [3, 4]), ([3], [3]), ([6, 5, 3], [3, 6]), ([5, 7, 7, 3], [3, 5, 7]), ([8, 3], [3, 8]), ([3, 9], [3, 9])])
def psalterylaw22_VoiceAny.B1 : List Nat := [0, 0, 3, 7, 15, 31, 15, 127, 255, 511, 1023]
theorem psalterylaw22_VoiceAny.tab1 : rtab .any (opsOf Try.f3 1) = psalterylaw22_VoiceAny.T1 := by kernel_rfl
theorem psalterylaw22_VoiceAny.bits1 : waitsOk psalterylaw22_VoiceAny.T1.2 psalterylaw22_VoiceAny.B1 = true := by kernel_rfl
def psalterylaw22_VoiceAny.T5 : Bool × List (List Nat × List Nat) := (true, [([], []), ([0], [0]), ([1], [1]), ([2], [2]), ([3, 2], [2, 3]), ([2, 4], [2, 4]), ([5, 2], [5]), ([6], [6]), ([6], [6]), ([7, 8, 6, 6], [6, 7, 8]), ([6, 9], [6, 9]), ([10, 9], [10]), ([11], [11]), ([12, 11, 11], [11, 12]), ([11], [11]), ([13, 14, 13, 11], [11, 13, 14]), ([11, 15], [11, 15]), ([16, 15], [16]), ([17, 17], [17]), ([17, 18], [17, 18]), ([19, 18, 0, 1, 2, 3, 4, 5, 6, 7, 8, 9, 10, 11, 12, 13, 14, 15, 16, 17, 18, 19], [19])])
def psalterylaw22_VoiceAny.B5 : List Nat := [0, 1, 3, 7, 15, 31, 63, 127, 127, 511, 1023, 2047, 4095, 8191, 4095, 32767, 65535, 131071, 262143, 524287, 1048575]
theorem psalterylaw22_VoiceAny.tab5 : rtab .any (opsOf Try.f3 5) = psalterylaw22_VoiceAny.T5 := by kernel_rfl
theorem psalterylaw22_VoiceAny.bits5 : waitsOk psalterylaw22_VoiceAny.T5.2 psalterylaw22_VoiceAny.B5 = true := by kernel_rfl
set_option maxHeartbeats 8000000 in
set_option maxRecDepth 100000 in
theorem psalterylaw22_VoiceAny.calls (k : Nat) (a0_0 : Int) (a0_1 : Int) (A0_2 : Option Addr) (c0_2 : Nat) (l0_2 : List Int) (A0_3 : Option Addr) (c0_3 : Nat) (l0_3 : List Int) (A1_0 : Option Addr) (c1_0 : Nat) (l1_0 : List (List Int)) (A1_1 : Option Addr) (c1_1 : Nat) (l1_1 : List (List Int)) (r : Bool) (w : World) (hr0_2 : Kd.C (Kd.int .i64) w A0_2 l0_2.length l0_2) (hc0_2 : l0_2.length ≤ c0_2) (hr0_3 : Kd.C (Kd.int .i64) w A0_3 l0_3.length l0_3) (hc0_3 : l0_3.length ≤ c0_3) (hr1_0 : Kd.C (Kd.slice 3 (Kd.int .i64)) w A1_0 l1_0.length l1_0) (hc1_0 : l1_0.length ≤ c1_0) (hr1_1 : Kd.C (Kd.slice 2 (Kd.int .i64)) w A1_1 l1_1.length l1_1) (hc1_1 : l1_1.length ≤ c1_1) (h : psalterylaw22_VoiceAny.f k a0_0 a0_1 l0_2 l0_3 l1_0 l1_1 = some r) (hT : r = true) :
    Calls Try.prog 3 #[.agg #[.int .i64 a0_0, .int .i64 a0_1, .slice A0_2 l0_2.length c0_2, .slice A0_3 l0_3.length c0_3], .agg #[.slice A1_0 l1_0.length c1_0, .slice A1_1 l1_1.length c1_1]] w fun e w' => e = .returned (.bool r) ∧ Below w.heap.size w w' := by
 have hu24 := Try.underlying24
 have hu28 := Try.underlying28
 have hu37 := Try.underlying37
 have HR0_2 := Aside0.mk hr0_2
 have HC0_2 := Aside0.mk hc0_2
 clear hr0_2 hc0_2
 have HR0_3 := Aside0.mk hr0_3
 have HC0_3 := Aside0.mk hc0_3
 clear hr0_3 hc0_3
 have HR1_0 := Aside0.mk hr1_0
 have HC1_0 := Aside0.mk hc1_0
 clear hr1_0 hc1_0
 have HR1_1 := Aside0.mk hr1_1
 have HC1_1 := Aside0.mk hc1_1
 clear hr1_1 hc1_1
 have HB := Aside0.mk (Below.refl w.heap.size w)
 have H : ((psalterylaw22_wide.f k a0_0 a0_1 l0_2 l0_3 l1_0 l1_1).bind fun t510 => (if t510 = true then (psalterylaw22_VoiceAny.j0 k true a0_0 a0_1 l0_2 l0_3 l1_0 l1_1) else ((psalterylaw16_As.f a0_0 a0_1 l0_2 l0_3).bind fun bt511 => ((psalterylaw17_As.f l1_0 l1_1).bind fun _ => ((psalteryref17_Right.f k bt511.1 bt511.2 l0_2 l0_3 l1_0 l1_1).bind fun t513 => (psalterylaw22_VoiceAny.j0 k (!t513) a0_0 a0_1 l0_2 l0_3 l1_0 l1_1)))))) = some r := h
 clear h
 have HT := Aside0.mk hT
 clear hT
 have HC3 := Aside0.mk H
 clear H
 go_enter Try.func3, Try.ntmps3
 go_upto_region 1 with (first | ((with_reducible refine gate_dst (N := 2) rfl ?_); refine bx_ HB 2 #[.int .i64 a0_0, .int .i64 a0_1, .slice A0_2 l0_2.length c0_2, .slice A0_3 l0_3.length c0_3] 24 ?_; clear HB; intro gb508 hg w4 hb BK508 GE508 HB; have GW508 := GE508; clear hb hg) | ((with_reducible refine gate_dst (N := 3) rfl ?_); refine bx_ HB 3 #[.slice A1_0 l1_0.length c1_0, .slice A1_1 l1_1.length c1_1] 28 ?_; clear HB; intro gb509 hg w5 hb BK509 GE509 HB; have GW509 := GE509; obtain ⟨NB508_509, NB509_508⟩ := NN_ BK508 hg; replace BK508 := FB_ BK508 hb; clear hb hg))
 (try simp only [Act.put, List.setIfInBounds_toArray, List.set_cons_zero, List.set_cons_succ])
 go_cut [19] (fun v19 wc => ∃ (kq : Nat) (x19_2 : Bool), v19 = .bool x19_2 ∧ Aside0 (psalterylaw22_VoiceAny.j0 kq x19_2 a0_0 a0_1 l0_2 l0_3 l1_0 l1_1 = some r) ∧ Aside0 (kq ≤ k) ∧ Aside0 (wc.heap[gb508]? = some (.cells #[.int .i64 a0_0, .int .i64 a0_1, (.slice A0_2 l0_2.length c0_2), (.slice A0_3 l0_3.length c0_3)] 24 (0, 0))) ∧ Aside0 (wc.heap[gb509]? = some (.cells #[(.slice A1_0 l1_0.length c1_0), (.slice A1_1 l1_1.length c1_1)] 28 (0, 0))) ∧ Aside0 (Below w.heap.size w wc))
 case first => (
 have H := HC3.out
 clear HC3
 obtain ⟨t510, A6, H⟩ := ob_ H
 (try dsimp only at H)
 by_cases c7 : t510 = true
 {
 subst c7
 rw [if_pos rfl] at H
 have H' := Aside0.mk H
 clear H
 try go_wp2
 replace BK508 := Aside0.mk (blk_drew BK508.out)
 replace BK509 := Aside0.mk (blk_drew BK509.out)
 replace HB := Aside0.mk (below_drew1 HB.out)
 refine start_ (n := 11) (S := fun w' => w'.cell? ⟨gb508, 0, none⟩ = some (.int .i64 a0_0) ∧ w'.cell? ⟨gb508, 1, none⟩ = some (.int .i64 a0_1) ∧ w'.cell? ⟨gb508, 2, none⟩ = some (.slice A0_2 l0_2.length c0_2) ∧ w'.cell? ⟨gb508, 3, none⟩ = some (.slice A0_3 l0_3.length c0_3) ∧ w'.cell? ⟨gb509, 0, none⟩ = some (.slice A1_0 l1_0.length c1_0) ∧ w'.cell? ⟨gb509, 1, none⟩ = some (.slice A1_1 l1_1.length c1_1)) (ds := []) (B_ 11 0) kf_ rfl rfl ⟨ce_ BK508 0, ce_ BK508 1, ce_ BK508 2, ce_ BK508 3, ce_ BK509 0, ce_ BK509 1⟩ (fun hHeld => ?_); refine with_tabW psalterylaw22_VoiceAny.tab1 psalterylaw22_VoiceAny.bits1 (fun HT_ HW_ => ?_)
 generalize w5.drew = w8 at BK508 BK509 HB hHeld ⊢
 refine take_ (i := 0) (N := some 9) (v := ?_) (a' := ?_) (B_ 11 1) rfl rfl (take_ofW HT_.out HW_.out kf_) (fun _ _ _ h => h) (Or.inl ⟨by rfl, ?_⟩) hHeld ?_ ?_
 rotate_left
 {
 rintro w' ⟨s0, s1, s2, s3, s4, s5⟩
 go_simp
 with_reducible rfl}
 rotate_left
 {
 exact sp_}
 refine take_ (i := 1) (N := some 10) (v := ?_) (a' := ?_) (B_ 11 3) rfl rfl (take_ofW HT_.out HW_.out kf_) (fun _ _ _ h => h) (Or.inl ⟨by rfl, ?_⟩) hHeld ?_ ?_
 rotate_left
 {
 rintro w' ⟨s0, s1, s2, s3, s4, s5⟩
 go_simp
 with_reducible rfl}
 rotate_left
 {
 exact sp_}
 refine one_ (i := 2) (N := some 11) (B_ 11 7) rfl rfl (one_of HT_.out kf_) (by decide) (fun K hK => ?_)
 refine goes_ Try.func9 kf_ rfl #[.agg #[.int .i64 a0_0, .int .i64 a0_1, .slice A0_2 l0_2.length c0_2, .slice A0_3 l0_3.length c0_3], .agg #[.slice A1_0 l1_0.length c1_0, .slice A1_1 l1_1.length c1_1]] (by rfl) rfl rfl ar_ ?_
 with_reducible refine (psalterylaw22_wide.calls k a0_0 a0_1 _ _ l0_2 _ _ l0_3 _ _ l1_0 _ _ l1_1 true _ ?side1 ?side2 ?side3 ?side4 ?side5 ?side6 ?side7 ?side8 A6.out).mono ?_
 (case side1 => exact kC_ HR0_2 HB)
 (case side2 => exact HC0_2.out)
 (case side3 => exact kC_ HR0_3 HB)
 (case side4 => exact HC0_3.out)
 (case side5 => exact kC_ HR1_0 HB)
 (case side6 => exact HC1_0.out)
 (case side7 => exact kC_ HR1_1 HB)
 (case side8 => exact HC1_1.out)
 rintro e w9 ⟨rfl, hb⟩
 refine ⟨_, rfl, ?_⟩
 replace BK508 := FB_ BK508 hb
 replace BK509 := FB_ BK509 hb
 replace HB := BS_ HB hb
 (try clear hb)
 refine hK.out _ _ ⟨ce_ BK508 0, ce_ BK508 1, ce_ BK508 2, ce_ BK508 3, ce_ BK509 0, ce_ BK509 1⟩ (fun hHeld => ?_)
 clear hK K
 refine norm_ (a' := ?_) ?_ ?_
 rotate_left
 {
 show Act.put _ (some 11) _ = _
 exact sp_}
 refine pu_ 3 (some 12) (B_ 11 15) HT_ ?_
 refine pure_ (i := 4) (N := some 13) (v := undef) (a' := ?_) (B_ 11 31) rfl rfl (any_of HT_.out kf_) (fun _ _ _ h => h) (Or.inr ⟨by rfl, rfl⟩) ?_ ?_
 rotate_left
 {
 exact sp_}
 refine pure_ (i := 5) (N := some 14) (v := undef) (a' := ?_) (B_ 11 63) rfl rfl (any_of HT_.out kf_) (fun _ _ _ h => h) (Or.inr ⟨by rfl, rfl⟩) ?_ ?_
 rotate_left
 {
 exact sp_}
 refine pure_ (i := 6) (N := some 15) (v := undef) (a' := ?_) (B_ 11 127) rfl rfl (any_of HT_.out kf_) (fun _ _ _ h => h) (Or.inr ⟨by rfl, rfl⟩) ?_ ?_
 rotate_left
 {
 exact sp_}
 refine pure_ (i := 7) (N := some 16) (v := undef) (a' := ?_) (B_ 11 255) rfl rfl (any_of HT_.out kf_) (fun _ _ _ h => h) (Or.inr ⟨by rfl, rfl⟩) ?_ ?_
 rotate_left
 {
 exact sp_}
 refine pure_ (i := 8) (N := some 17) (v := undef) (a' := ?_) (B_ 11 511) rfl rfl (any_of HT_.out kf_) (fun _ _ _ h => h) (Or.inr ⟨by rfl, rfl⟩) ?_ ?_
 rotate_left
 {
 exact sp_}
 refine pure_ (i := 9) (N := some 18) (v := undef) (a' := ?_) (B_ 11 1023) rfl rfl (any_of HT_.out kf_) (fun _ _ _ h => h) (Or.inr ⟨by rfl, rfl⟩) ?_ ?_
 rotate_left
 {
 exact sp_}
 refine pu_ 10 (some 19) (B_ 11 2047) HT_ ?_
 refine done_ (done_of HT_.out kf_) ?_
 try go_wp2
 go_meet
 case rel => exact ⟨_, (true), rs_, H', ⟨ol_⟩, ⟨bk_ BK508⟩, ⟨bk_ BK509⟩, ⟨bl_ HB⟩⟩}
 {
 replace c7 := Bool.eq_false_iff.mpr c7
 subst c7
 rw [if_neg (show ¬ (false = true) by decide)] at H
 obtain ⟨⟨t511, t512⟩, A10, H⟩ := ob_ H
 (try dsimp only at H)
 obtain ⟨_, A11, H⟩ := ob_ H
 (try dsimp only at H)
 obtain ⟨t513, A12, H⟩ := ob_ H
 (try dsimp only at H)
 have H' := Aside0.mk H
 clear H
 try go_wp2
 replace BK508 := Aside0.mk (blk_drew BK508.out)
 replace BK509 := Aside0.mk (blk_drew BK509.out)
 replace HB := Aside0.mk (below_drew1 HB.out)
 refine start_ (n := 11) (S := fun w' => w'.cell? ⟨gb508, 0, none⟩ = some (.int .i64 a0_0) ∧ w'.cell? ⟨gb508, 1, none⟩ = some (.int .i64 a0_1) ∧ w'.cell? ⟨gb508, 2, none⟩ = some (.slice A0_2 l0_2.length c0_2) ∧ w'.cell? ⟨gb508, 3, none⟩ = some (.slice A0_3 l0_3.length c0_3) ∧ w'.cell? ⟨gb509, 0, none⟩ = some (.slice A1_0 l1_0.length c1_0) ∧ w'.cell? ⟨gb509, 1, none⟩ = some (.slice A1_1 l1_1.length c1_1)) (ds := []) (B_ 11 0) kf_ rfl rfl ⟨ce_ BK508 0, ce_ BK508 1, ce_ BK508 2, ce_ BK508 3, ce_ BK509 0, ce_ BK509 1⟩ (fun hHeld => ?_); refine with_tabW psalterylaw22_VoiceAny.tab1 psalterylaw22_VoiceAny.bits1 (fun HT_ HW_ => ?_)
 generalize w5.drew = w13 at BK508 BK509 HB hHeld ⊢
 refine take_ (i := 0) (N := some 9) (v := ?_) (a' := ?_) (B_ 11 1) rfl rfl (take_ofW HT_.out HW_.out kf_) (fun _ _ _ h => h) (Or.inl ⟨by rfl, ?_⟩) hHeld ?_ ?_
 rotate_left
 {
 rintro w' ⟨s0, s1, s2, s3, s4, s5⟩
 go_simp
 with_reducible rfl}
 rotate_left
 {
 exact sp_}
 refine take_ (i := 1) (N := some 10) (v := ?_) (a' := ?_) (B_ 11 3) rfl rfl (take_ofW HT_.out HW_.out kf_) (fun _ _ _ h => h) (Or.inl ⟨by rfl, ?_⟩) hHeld ?_ ?_
 rotate_left
 {
 rintro w' ⟨s0, s1, s2, s3, s4, s5⟩
 go_simp
 with_reducible rfl}
 rotate_left
 {
 exact sp_}
 refine one_ (i := 2) (N := some 11) (B_ 11 7) rfl rfl (one_of HT_.out kf_) (by decide) (fun K hK => ?_)
 refine goes_ Try.func9 kf_ rfl #[.agg #[.int .i64 a0_0, .int .i64 a0_1, .slice A0_2 l0_2.length c0_2, .slice A0_3 l0_3.length c0_3], .agg #[.slice A1_0 l1_0.length c1_0, .slice A1_1 l1_1.length c1_1]] (by rfl) rfl rfl ar_ ?_
 with_reducible refine (psalterylaw22_wide.calls k a0_0 a0_1 _ _ l0_2 _ _ l0_3 _ _ l1_0 _ _ l1_1 false _ ?side1 ?side2 ?side3 ?side4 ?side5 ?side6 ?side7 ?side8 A6.out).mono ?_
 (case side1 => exact kC_ HR0_2 HB)
 (case side2 => exact HC0_2.out)
 (case side3 => exact kC_ HR0_3 HB)
 (case side4 => exact HC0_3.out)
 (case side5 => exact kC_ HR1_0 HB)
 (case side6 => exact HC1_0.out)
 (case side7 => exact kC_ HR1_1 HB)
 (case side8 => exact HC1_1.out)
 rintro e w14 ⟨rfl, hb⟩
 refine ⟨_, rfl, ?_⟩
 replace BK508 := FB_ BK508 hb
 replace BK509 := FB_ BK509 hb
 replace HB := BS_ HB hb
 (try clear hb)
 refine hK.out _ _ ⟨ce_ BK508 0, ce_ BK508 1, ce_ BK508 2, ce_ BK508 3, ce_ BK509 0, ce_ BK509 1⟩ (fun hHeld => ?_)
 clear hK K
 refine norm_ (a' := ?_) ?_ ?_
 rotate_left
 {
 show Act.put _ (some 11) _ = _
 exact sp_}
 refine pu_ 3 (some 12) (B_ 11 15) HT_ ?_
 refine take_ (i := 4) (N := some 13) (v := ?_) (a' := ?_) (B_ 11 31) rfl rfl (take_ofW HT_.out HW_.out kf_) (fun _ _ _ h => h) (Or.inl ⟨by rfl, ?_⟩) hHeld ?_ ?_
 rotate_left
 {
 rintro w' ⟨s0, s1, s2, s3, s4, s5⟩
 go_simp
 with_reducible rfl}
 rotate_left
 {
 exact sp_}
 refine take_ (i := 6) (N := some 15) (v := ?_) (a' := ?_) (B_ 11 95) rfl rfl (take_ofW HT_.out HW_.out kf_) (fun _ _ _ h => h) (Or.inl ⟨by rfl, ?_⟩) hHeld ?_ ?_
 rotate_left
 {
 rintro w' ⟨s0, s1, s2, s3, s4, s5⟩
 go_simp
 with_reducible rfl}
 rotate_left
 {
 exact sp_}
 refine one_ (i := 5) (N := some 14) (B_ 11 127) rfl rfl (one_of HT_.out kf_) (by decide) (fun K hK => ?_)
 refine goes_ Try.func11 kf_ rfl #[.agg #[.int .i64 a0_0, .int .i64 a0_1, .slice A0_2 l0_2.length c0_2, .slice A0_3 l0_3.length c0_3]] (by rfl) rfl rfl ar_ ?_
 with_reducible refine (psalterylaw16_As.calls a0_0 a0_1 _ _ l0_2 _ _ l0_3 t511 t512 _ ?side1 ?side2 ?side3 ?side4 A10.out).mono ?_
 (case side1 => exact kC_ HR0_2 HB)
 (case side2 => exact HC0_2.out)
 (case side3 => exact kC_ HR0_3 HB)
 (case side4 => exact HC0_3.out)
 rintro e w15 ⟨rfl, hb⟩
 refine ⟨_, rfl, ?_⟩
 replace BK508 := FB_ BK508 hb
 replace BK509 := FB_ BK509 hb
 replace HB := BS_ HB hb
 (try clear hb)
 refine hK.out _ _ ⟨ce_ BK508 0, ce_ BK508 1, ce_ BK508 2, ce_ BK508 3, ce_ BK509 0, ce_ BK509 1⟩ (fun hHeld => ?_)
 clear hK K
 refine norm_ (a' := ?_) ?_ ?_
 rotate_left
 {
 show Act.put _ (some 14) _ = _
 exact sp_}
 refine one_ (i := 7) (N := some 16) (B_ 11 255) rfl rfl (one_of HT_.out kf_) (by decide) (fun K hK => ?_)
 refine goes_ Try.func12 kf_ rfl #[.agg #[.slice A1_0 l1_0.length c1_0, .slice A1_1 l1_1.length c1_1]] (by rfl) rfl rfl ar_ ?_
 with_reducible refine (psalterylaw17_As.calls _ _ l1_0 _ _ l1_1  _ ?side1 ?side2 ?side3 ?side4 A11.out).mono ?_
 (case side1 => exact kC_ HR1_0 HB)
 (case side2 => exact HC1_0.out)
 (case side3 => exact kC_ HR1_1 HB)
 (case side4 => exact HC1_1.out)
 rintro e w16 ⟨rfl, hb⟩
 refine ⟨_, rfl, ?_⟩
 replace BK508 := FB_ BK508 hb
 replace BK509 := FB_ BK509 hb
 replace HB := BS_ HB hb
 (try clear hb)
 refine hK.out _ _ ⟨ce_ BK508 0, ce_ BK508 1, ce_ BK508 2, ce_ BK508 3, ce_ BK509 0, ce_ BK509 1⟩ (fun hHeld => ?_)
 clear hK K
 refine norm_ (a' := ?_) ?_ ?_
 rotate_left
 {
 show Act.put _ (some 16) _ = _
 exact sp_}
 refine one_ (i := 8) (N := some 17) (B_ 11 511) rfl rfl (one_of HT_.out kf_) (by decide) (fun K hK => ?_)
 refine goes_ Try.func10 kf_ rfl #[.agg #[.int .i64 t511, .int .i64 t512, .slice A0_2 l0_2.length c0_2, .slice A0_3 l0_3.length c0_3], .agg #[.slice A1_0 l1_0.length c1_0, .slice A1_1 l1_1.length c1_1]] (by rfl) rfl rfl ar_ ?_
 with_reducible refine (psalteryref17_Right.calls k t511 t512 _ _ l0_2 _ _ l0_3 _ _ l1_0 _ _ l1_1 t513 _ ?side1 ?side2 ?side3 ?side4 ?side5 ?side6 ?side7 ?side8 A12.out).mono ?_
 (case side1 => exact kC_ HR0_2 HB)
 (case side2 => exact HC0_2.out)
 (case side3 => exact kC_ HR0_3 HB)
 (case side4 => exact HC0_3.out)
 (case side5 => exact kC_ HR1_0 HB)
 (case side6 => exact HC1_0.out)
 (case side7 => exact kC_ HR1_1 HB)
 (case side8 => exact HC1_1.out)
 rintro e w17 ⟨rfl, hb⟩
 refine ⟨_, rfl, ?_⟩
 replace BK508 := FB_ BK508 hb
 replace BK509 := FB_ BK509 hb
 replace HB := BS_ HB hb
 (try clear hb)
 refine hK.out _ _ ⟨ce_ BK508 0, ce_ BK508 1, ce_ BK508 2, ce_ BK508 3, ce_ BK509 0, ce_ BK509 1⟩ (fun hHeld => ?_)
 clear hK K
 refine norm_ (a' := ?_) ?_ ?_
 rotate_left
 {
 show Act.put _ (some 17) _ = _
 exact sp_}
 refine pu_ 9 (some 18) (B_ 11 1023) HT_ ?_
 refine pu_ 10 (some 19) (B_ 11 2047) HT_ ?_
 refine done_ (done_of HT_.out kf_) ?_
 try go_wp2
 go_meet
 case rel => exact ⟨_, (!t513), rs_, H', ⟨ol_⟩, ⟨bk_ BK508⟩, ⟨bk_ BK509⟩, ⟨bl_ HB⟩⟩})
 case rest => (
 clear HC3
 obtain ⟨kq, x19_2, rfl, HA, HJ2, BK508, BK509, HB⟩ := hcut
 cases kq with
 | zero => exact absurd HA.out (by simp [psalterylaw22_VoiceAny.j0])
 | succ kj2 => (
 have H := HA.out
 clear HA
 simp only [psalterylaw22_VoiceAny.j0] at H
 by_cases c18 : x19_2 = true
 {
 subst c18
 rw [if_pos rfl] at H
 replace H := Option.bind_eq_some_iff.mp H
 obtain ⟨t514, A190, H⟩ := H
 replace H : (some t514) = some r := H
 have A19 := Aside0.mk A190
 clear A190
 obtain rfl := Option.some.inj H
 go_wp2_with (first | ((with_reducible refine gate_callee (f := 13) rfl ?_); refine gL_ (some 20) Try.func13 #[] ?_; (with_reducible refine (psalterylaw22_knows.calls kj2  t514 _ A19.out).mono ?_); rintro e w20 ⟨rfl, hb⟩; refine ⟨_, rfl, ?_⟩; replace BK508 := FB_ BK508 hb; replace BK509 := FB_ BK509 hb; replace HB := BS_ HB hb; (try clear hb)))
 go_ret
 exact ⟨by first | rfl | (simp [errW_none, errW_some] <;> rfl) | (simp [*, errW_none, errW_some] <;> rfl), bl_ HB⟩}
 {
 replace c18 := Bool.eq_false_iff.mpr c18
 subst c18
 rw [if_neg (show ¬ (false = true) by decide)] at H
 obtain ⟨⟨t515, t518⟩, A21, H⟩ := ob_ H
 (try dsimp only at H)
 obtain ⟨⟨t520, t523, t526⟩, A22, H⟩ := ob_ H
 (try dsimp only at H)
 by_cases c23 : t518 = 0
 {
 rw [if_pos c23] at H
 have c23b0 : (t518 == 0) = true := beq_iff_eq.mpr c23
 have c23b1 : (t518 != 0) = false := bne_eq_false_iff_eq.mpr c23
 clear c23
 by_cases c24 : t526 = 0
 {
 rw [if_pos c24] at H
 have c24b0 : (t526 == 0) = true := beq_iff_eq.mpr c24
 have c24b1 : (t526 != 0) = false := bne_eq_false_iff_eq.mpr c24
 clear c24
 obtain ⟨t528, A25, H⟩ := ob_ H
 (try dsimp only at H)
 by_cases c26 : t528 = true
 {
 subst c26
 rw [if_pos rfl] at H
 obtain ⟨⟨t529, t530⟩, A27, H⟩ := ob_ H
 (try dsimp only at H)
 obtain ⟨t531, A28, H⟩ := ob_ H
 (try dsimp only at H)
 by_cases c29 : t531 = true
 {
 subst c29
 rw [if_pos rfl] at H
 replace H := Option.bind_eq_some_iff.mp H
 obtain ⟨t532, A300, H⟩ := H
 replace H : (some t532) = some r := H
 have A30 := Aside0.mk A300
 clear A300
 obtain rfl := Option.some.inj H
 have hnb31 := NB508_509.out
 have hnc31 := NB509_508.out
 obtain ⟨hcz32_0, hcz32_1, hcz32_2, hcz32_3, hfz32_0, hfz32_1, hfz32_2, hfz32_3⟩ := e4_ BK508
 obtain ⟨hcz33_0, hcz33_1, hfz33_0, hfz33_1⟩ := e2_ BK509
 try go_wp2_with (first | ((with_reducible refine gate_callee (f := 14) rfl ?_); refine gL_ (some 24) Try.func14 #[.agg #[.int .i64 a0_0, .int .i64 a0_1, .slice A0_2 l0_2.length c0_2, .slice A0_3 l0_3.length c0_3], .agg #[.slice A1_0 l1_0.length c1_0, .slice A1_1 l1_1.length c1_1]] ?_; (with_reducible refine (vcodec_Decode.calls kj2 a0_0 a0_1 _ _ l0_2 _ _ l0_3 _ _ l1_0 (fun k_ => k_ < w.heap.size) _ _ l1_1 t515 t518 _ ?side1 ?side2 ?side3 ?side4 ?side5 ?side6 ?side7 A21.out).mono ?_); (case side1 => exact kC_ HR0_2 HB); (case side2 => exact HC0_2.out); (case side3 => exact kC_ HR0_3 HB); (case side4 => exact HC0_3.out); (case side5 => exact kC_ HR1_0 HB); (case side6 => exact HC1_0.out); (case side7 => exact Kd.V_mk HC1_1.out (Kd.F_below (Kd.C_F (Kd.heap_slice 2 (Kd.heap_int .i64)) HR1_1.out) (bl_ HB))); rintro e w34 ⟨v516, rfl, ho0, hb⟩; refine ⟨_, rfl, ?_⟩; have HO517 := Aside0.mk (Kd.N_lower (Kd.N_mono (ok' := fun k_ => k_ ≠ gb508 ∧ k_ ≠ gb509) ho0 (fun k_ hk_ => ⟨Or.elim hk_ (fun hs_ => fun e_ => Nat.not_le.2 hs_ (by rw [e_]; exact GW508.out)) (fun hn_ => (Kd.freshB (g := gb508) (o := .cells #[.int .i64 a0_0, .int .i64 a0_1, .slice A0_2 l0_2.length c0_2, .slice A0_3 l0_3.length c0_3] 24 (0, 0)) (bk_ BK508) k_ hn_)), Or.elim hk_ (fun hs_ => fun e_ => Nat.not_le.2 hs_ (by rw [e_]; exact GW509.out)) (fun hn_ => (Kd.freshB (g := gb509) (o := .cells #[.slice A1_0 l1_0.length c1_0, .slice A1_1 l1_1.length c1_1] 28 (0, 0)) (bk_ BK509) k_ hn_))⟩)) (bs_ HB)); replace BK508 := FB_ BK508 hb; replace BK509 := FB_ BK509 hb; replace HB := BS_ HB hb; (try clear hb); (try clear hk); (try clear ho0)) | ((with_reducible refine gate_dst (N := 5) rfl ?_); refine box_ 5 #[.slice none 0 0] 37 ?_; intro gb519 hg w35 hbox hb; replace HO517 := Aside0.mk (Kd.N_below (Kd.N_elderB (kN_ HO517) gb519 (Nat.le_of_eq hg.symm)) hb); have BK519 := Aside0.mk (hbox); have GW519 := GE_ HB hg; have GE519 := GE_ HB hg; replace HB := BS_ HB hb; obtain ⟨NB508_519, NB519_508⟩ := NN_ BK508 hg; replace BK508 := FB_ BK508 hb; obtain ⟨NB509_519, NB519_509⟩ := NN_ BK509 hg; replace BK509 := FB_ BK509 hb; clear hb hbox hg; obtain ⟨Ao36, co36, eo36⟩ := Kd.N_slice HO517.out; subst eo36; have hnb37 := NB519_508.out; have hnc37 := NB508_519.out; have hnb38 := NB519_509.out; have hnc38 := NB509_519.out; obtain ⟨hcz39_0, hfz39_0⟩ := e1_ BK519; obtain ⟨hcz40_0, hcz40_1, hcz40_2, hcz40_3, hfz40_0, hfz40_1, hfz40_2, hfz40_3⟩ := e4_ BK508) | ((with_reducible refine gate_callee (f := 15) rfl ?_); refine gL_ (some 30) Try.func15 #[.agg #[.int .i64 a0_0, .int .i64 a0_1, .slice A0_2 l0_2.length c0_2, .slice A0_3 l0_3.length c0_3], .agg #[.slice Ao36 t515.length co36]] ?_; (with_reducible refine (vcodec_Encode.calls kj2 a0_0 a0_1 _ _ l0_2 _ _ l0_3 _ _ t515 t520 t523 t526 _ ?side1 ?side2 ?side3 ?side4 ?side5 ?side6 A22.out).mono ?_); (case side1 => exact Kd.C_below HR0_2.out (bl_ HB)); (case side2 => exact HC0_2.out); (case side3 => exact Kd.C_below HR0_3.out (bl_ HB)); (case side4 => exact HC0_3.out); (case side5 => refine (Kd.N_reads' (e := 53) (base := w.heap.size) (ok := fun k_ => ((k_ ≠ gb508 ∧ k_ ≠ gb509) ∧ k_ ≠ gb519)) (n := t515.length) (c := co36) ?_).2.2; exact (by (with_reducible repeat (first | apply Kd.N_alloc | apply Kd.N_drewN | apply Kd.N_drew)); exact (Kd.N_mono (Kd.N_far (p := ⟨gb519, 0, none⟩) (Kd.N_mono HO517.out (fun k_ hk => (⟨hk, hk.2⟩ : _ ∧ k_ ≠ gb519))) (fun _ hk => hk.2) (.slice Ao36 t515.length co36)) (fun _ h_ => h_.1)))); (case side6 => exact (Kd.N_reads' HO517.out).2.1); rintro e w41 ⟨v521, v524, rfl, ho0, ho1, hb⟩; refine ⟨_, rfl, ?_⟩; have HO522 := Aside0.mk (Kd.N_lower (Kd.N_mono (ok' := fun k_ => some k_ ≠ (v524 : Value).ownBlock ∧ some k_ ≠ (.slice Ao36 t515.length co36 : Value).ownBlock ∧ k_ ≠ gb508 ∧ k_ ≠ gb509 ∧ k_ ≠ gb519) ho0 (fun k_ hk_ => ⟨hk_.2, (Kd.fresh' (Kd.N_lt (by (with_reducible repeat (first | apply Kd.N_alloc | apply Kd.N_drewN | apply Kd.N_drew)); exact (Kd.N_mono (Kd.N_far (p := ⟨gb519, 0, none⟩) (Kd.N_mono HO517.out (fun k_ hk => (⟨hk, hk.2⟩ : _ ∧ k_ ≠ gb519))) (fun _ hk => hk.2) (.slice Ao36 t515.length co36)) (fun _ h_ => h_.1)))) k_ hk_.1), (Kd.freshB (g := gb508) (o := .cells #[.int .i64 a0_0, .int .i64 a0_1, .slice A0_2 l0_2.length c0_2, .slice A0_3 l0_3.length c0_3] 24 (0, 0)) (bk_ BK508) k_ hk_.1), (Kd.freshB (g := gb509) (o := .cells #[.slice A1_0 l1_0.length c1_0, .slice A1_1 l1_1.length c1_1] 28 (0, 0)) (bk_ BK509) k_ hk_.1), (Kd.freshB (g := gb519) (o := .cells #[.slice Ao36 t515.length co36] 37 (0, 0)) (bp_ BK519) k_ hk_.1)⟩)) (bs_ HB)); have HO525 := Aside0.mk (Kd.N_lower (Kd.N_mono (ok' := fun k_ => some k_ ≠ (v521 : Value).ownBlock ∧ some k_ ≠ (.slice Ao36 t515.length co36 : Value).ownBlock ∧ k_ ≠ gb508 ∧ k_ ≠ gb509 ∧ k_ ≠ gb519) ho1 (fun k_ hk_ => ⟨hk_.2, (Kd.fresh' (Kd.N_lt (by (with_reducible repeat (first | apply Kd.N_alloc | apply Kd.N_drewN | apply Kd.N_drew)); exact (Kd.N_mono (Kd.N_far (p := ⟨gb519, 0, none⟩) (Kd.N_mono HO517.out (fun k_ hk => (⟨hk, hk.2⟩ : _ ∧ k_ ≠ gb519))) (fun _ hk => hk.2) (.slice Ao36 t515.length co36)) (fun _ h_ => h_.1)))) k_ hk_.1), (Kd.freshB (g := gb508) (o := .cells #[.int .i64 a0_0, .int .i64 a0_1, .slice A0_2 l0_2.length c0_2, .slice A0_3 l0_3.length c0_3] 24 (0, 0)) (bk_ BK508) k_ hk_.1), (Kd.freshB (g := gb509) (o := .cells #[.slice A1_0 l1_0.length c1_0, .slice A1_1 l1_1.length c1_1] 28 (0, 0)) (bk_ BK509) k_ hk_.1), (Kd.freshB (g := gb519) (o := .cells #[.slice Ao36 t515.length co36] 37 (0, 0)) (bp_ BK519) k_ hk_.1)⟩)) (bs_ HB)); replace HO517 := Aside0.mk (Kd.N_mono (Kd.N_told (Kd.N_told (Kd.N_old (by (with_reducible repeat (first | apply Kd.N_alloc | apply Kd.N_drewN | apply Kd.N_drew)); exact (Kd.N_mono (Kd.N_far (p := ⟨gb519, 0, none⟩) (Kd.N_mono HO517.out (fun k_ hk => (⟨hk, hk.2⟩ : _ ∧ k_ ≠ gb519))) (fun _ hk => hk.2) (.slice Ao36 t515.length co36)) (fun _ h_ => h_.1))) hb) (Kd.N_base ho0)) (Kd.N_base ho1)) (fun _ h_ => h_.1)); replace BK508 := FB_ BK508 hb; replace BK509 := FB_ BK509 hb; replace BK519 := Aside0.mk (blk_below (g := gb519) (o := .cells #[.slice Ao36 t515.length co36] 37 (0, 0)) (bp_ BK519) hb); replace HB := BS_ HB hb; (try clear hb); (try clear hk); (try clear ho0); (try clear ho1)) | ((with_reducible refine gate_dst (N := 7) rfl ?_); refine box_ 7 #[.slice none 0 0, .slice none 0 0] 28 ?_; intro gb527 hg w42 hbox hb; replace HO517 := Aside0.mk (Kd.N_below (Kd.N_elderB (kN_ HO517) gb527 (Nat.le_of_eq hg.symm)) hb); replace HO522 := Aside0.mk (Kd.N_below (Kd.N_elderB (kN_ HO522) gb527 (Nat.le_of_eq hg.symm)) hb); replace HO525 := Aside0.mk (Kd.N_below (Kd.N_elderB (kN_ HO525) gb527 (Nat.le_of_eq hg.symm)) hb); have BK527 := Aside0.mk (hbox); have GW527 := GE_ HB hg; have GE527 := GE_ HB hg; replace HB := BS_ HB hb; obtain ⟨NB508_527, NB527_508⟩ := NN_ BK508 hg; replace BK508 := FB_ BK508 hb; obtain ⟨NB509_527, NB527_509⟩ := NN_ BK509 hg; replace BK509 := FB_ BK509 hb; obtain ⟨NB519_527, NB527_519⟩ := NN_ BK519 hg; replace BK519 := FB_ BK519 hb; clear hb hbox hg; obtain ⟨Ao43, co43, eo43⟩ := Kd.N_slice HO522.out; subst eo43; have hnb44 := NB527_508.out; have hnc44 := NB508_527.out; have hnb45 := NB527_509.out; have hnc45 := NB509_527.out; have hnb46 := NB527_519.out; have hnc46 := NB519_527.out; obtain ⟨hcz47_0, hcz47_1, hfz47_0, hfz47_1⟩ := e2_ BK527; obtain ⟨Ao48, co48, eo48⟩ := Kd.N_slice HO525.out; subst eo48))
 have n0_ : Aside0 (Kd.N (Kd.slice 2 (Kd.int .i64)) 53 ((w42.setCell ⟨gb527, 0, none⟩ (.slice Ao43 t520.length co43)).setCell ⟨gb527, 1, none⟩ (.slice Ao48 t523.length co48)) w.heap.size (fun k_ => some k_ ≠ (.slice Ao43 t520.length co43 : Value).ownBlock ∧ some k_ ≠ (.slice Ao48 t523.length co48 : Value).ownBlock ∧ k_ ≠ gb508 ∧ k_ ≠ gb509 ∧ k_ ≠ gb519 ∧ k_ ≠ gb527) (.slice Ao36 t515.length co36) t515) := ⟨by (with_reducible repeat (first | apply Kd.N_alloc | apply Kd.N_drewN | apply Kd.N_drew)); exact Kd.N_mono (Kd.N_far (p := ⟨gb527, 1, none⟩) (Kd.N_far (p := ⟨gb527, 0, none⟩) (Kd.N_mono HO517.out (fun k_ hk => (⟨hk, hk.2⟩ : _ ∧ k_ ≠ gb527))) (fun _ hk => hk.2) (.slice Ao43 t520.length co43)) (fun _ hk => hk.2) (.slice Ao48 t523.length co48)) (fun _ hk => ⟨hk.1.1.1.2, ⟨hk.1.1.2, ⟨hk.1.1.1.1.1.1, ⟨hk.1.1.1.1.1.2, ⟨hk.1.1.1.1.2, hk.1.2⟩⟩⟩⟩⟩)⟩
 have n1_ : Aside0 (Kd.N (Kd.slice 3 (Kd.int .i64)) 22 ((w42.setCell ⟨gb527, 0, none⟩ (.slice Ao43 t520.length co43)).setCell ⟨gb527, 1, none⟩ (.slice Ao48 t523.length co48)) w.heap.size (fun k_ => some k_ ≠ (.slice Ao36 t515.length co36 : Value).ownBlock ∧ some k_ ≠ (.slice Ao48 t523.length co48 : Value).ownBlock ∧ k_ ≠ gb508 ∧ k_ ≠ gb509 ∧ k_ ≠ gb519 ∧ k_ ≠ gb527) (.slice Ao43 t520.length co43) t520) := ⟨by (with_reducible repeat (first | apply Kd.N_alloc | apply Kd.N_drewN | apply Kd.N_drew)); exact Kd.N_mono (Kd.N_far (p := ⟨gb527, 1, none⟩) (Kd.N_far (p := ⟨gb527, 0, none⟩) (Kd.N_mono HO522.out (fun k_ hk => (⟨hk, hk.2⟩ : _ ∧ k_ ≠ gb527))) (fun _ hk => hk.2) (.slice Ao43 t520.length co43)) (fun _ hk => hk.2) (.slice Ao48 t523.length co48)) (fun _ hk => ⟨hk.1.1.2.1, ⟨hk.1.1.1, ⟨hk.1.1.2.2.1, ⟨hk.1.1.2.2.2.1, ⟨hk.1.1.2.2.2.2, hk.1.2⟩⟩⟩⟩⟩)⟩
 have n2_ : Aside0 (Kd.N (Kd.slice 2 (Kd.int .i64)) 53 ((w42.setCell ⟨gb527, 0, none⟩ (.slice Ao43 t520.length co43)).setCell ⟨gb527, 1, none⟩ (.slice Ao48 t523.length co48)) w.heap.size (fun k_ => some k_ ≠ (.slice Ao36 t515.length co36 : Value).ownBlock ∧ some k_ ≠ (.slice Ao43 t520.length co43 : Value).ownBlock ∧ k_ ≠ gb508 ∧ k_ ≠ gb509 ∧ k_ ≠ gb519 ∧ k_ ≠ gb527) (.slice Ao48 t523.length co48) t523) := ⟨by (with_reducible repeat (first | apply Kd.N_alloc | apply Kd.N_drewN | apply Kd.N_drew)); exact Kd.N_mono (Kd.N_far (p := ⟨gb527, 1, none⟩) (Kd.N_far (p := ⟨gb527, 0, none⟩) (Kd.N_mono HO525.out (fun k_ hk => (⟨hk, hk.2⟩ : _ ∧ k_ ≠ gb527))) (fun _ hk => hk.2) (.slice Ao43 t520.length co43)) (fun _ hk => hk.2) (.slice Ao48 t523.length co48)) (fun _ hk => ⟨hk.1.1.2.1, ⟨hk.1.1.1, ⟨hk.1.1.2.2.1, ⟨hk.1.1.2.2.2.1, ⟨hk.1.1.2.2.2.2, hk.1.2⟩⟩⟩⟩⟩)⟩
 have n3_ : Aside0 (((w42.setCell ⟨gb527, 0, none⟩ (.slice Ao43 t520.length co43)).setCell ⟨gb527, 1, none⟩ (.slice Ao48 t523.length co48)).heap[gb508]? = some (.cells #[.int .i64 a0_0, .int .i64 a0_1, .slice A0_2 l0_2.length c0_2, .slice A0_3 l0_3.length c0_3] 24 (0, 0))) := ⟨bk_ BK508⟩
 have n4_ : Aside0 (((w42.setCell ⟨gb527, 0, none⟩ (.slice Ao43 t520.length co43)).setCell ⟨gb527, 1, none⟩ (.slice Ao48 t523.length co48)).heap[gb509]? = some (.cells #[.slice A1_0 l1_0.length c1_0, .slice A1_1 l1_1.length c1_1] 28 (0, 0))) := ⟨bk_ BK509⟩
 have n5_ : Aside0 (((w42.setCell ⟨gb527, 0, none⟩ (.slice Ao43 t520.length co43)).setCell ⟨gb527, 1, none⟩ (.slice Ao48 t523.length co48)).heap[gb519]? = some (.cells #[.slice Ao36 t515.length co36] 37 (0, 0))) := ⟨bk_ BK519⟩
 have n6_ : Aside0 (((w42.setCell ⟨gb527, 0, none⟩ (.slice Ao43 t520.length co43)).setCell ⟨gb527, 1, none⟩ (.slice Ao48 t523.length co48)).heap[gb527]? = some (.cells #[.slice Ao43 t520.length co43, .slice Ao48 t523.length co48] 28 (0, 0))) := ⟨bp_ BK527⟩
 have n7_ : Aside0 (Below w.heap.size w ((w42.setCell ⟨gb527, 0, none⟩ (.slice Ao43 t520.length co43)).setCell ⟨gb527, 1, none⟩ (.slice Ao48 t523.length co48))) := ⟨bl_ HB⟩
 (try clear HO517)
 (try clear HO522)
 (try clear HO525)
 (try clear BK508)
 (try clear BK509)
 (try clear BK519)
 (try clear BK527)
 (try clear HB)
 generalize ((w42.setCell ⟨gb527, 0, none⟩ (.slice Ao43 t520.length co43)).setCell ⟨gb527, 1, none⟩ (.slice Ao48 t523.length co48)) = w49 at n0_ n1_ n2_ n3_ n4_ n5_ n6_ n7_ ⊢
 have HO517 := n0_
 have HO522 := n1_
 have HO525 := n2_
 have BK508 := n3_
 have BK509 := n4_
 have BK519 := n5_
 have BK527 := n6_
 have HB := n7_
 clear n0_ n1_ n2_ n3_ n4_ n5_ n6_ n7_
 replace HO517 := Aside0.mk (Kd.N_drew HO517.out)
 replace HO522 := Aside0.mk (Kd.N_drew HO522.out)
 replace HO525 := Aside0.mk (Kd.N_drew HO525.out)
 replace BK508 := Aside0.mk (blk_drew BK508.out)
 replace BK509 := Aside0.mk (blk_drew BK509.out)
 replace BK519 := Aside0.mk (blk_drew BK519.out)
 replace BK527 := Aside0.mk (blk_drew BK527.out)
 replace HB := Aside0.mk (below_drew1 HB.out)
 refine start_ (n := 21) (S := fun w' => w'.cell? ⟨gb508, 0, none⟩ = some (.int .i64 a0_0) ∧ w'.cell? ⟨gb508, 1, none⟩ = some (.int .i64 a0_1) ∧ w'.cell? ⟨gb508, 2, none⟩ = some (.slice A0_2 l0_2.length c0_2) ∧ w'.cell? ⟨gb508, 3, none⟩ = some (.slice A0_3 l0_3.length c0_3) ∧ w'.cell? ⟨gb519, 0, none⟩ = some (.slice Ao36 t515.length co36)) (ds := []) (B_ 21 0) kf_ rfl rfl ⟨ce_ BK508 0, ce_ BK508 1, ce_ BK508 2, ce_ BK508 3, ce_ BK519 0⟩ (fun hHeld => ?_); refine with_tabW psalterylaw22_VoiceAny.tab5 psalterylaw22_VoiceAny.bits5 (fun HT_ HW_ => ?_)
 generalize w49.drew = w50 at HO517 HO522 HO525 BK508 BK509 BK519 BK527 HB hHeld ⊢
 refine pu_ 0 (some 33) (B_ 21 1) HT_ ?_
 refine pu_ 1 (some 34) (B_ 21 3) HT_ ?_
 refine pu_ 2 (some 35) (B_ 21 7) HT_ ?_
 refine pu_ 3 (some 36) (B_ 21 15) HT_ ?_
 refine pu_ 4 (some 37) (B_ 21 31) HT_ ?_
 refine pu_ 5 (some 38) (B_ 21 63) HT_ ?_
 refine pu_ 6 (some 39) (B_ 21 127) HT_ ?_
 refine take_ (i := 7) (N := some 40) (v := ?_) (a' := ?_) (B_ 21 255) rfl rfl (take_ofW HT_.out HW_.out kf_) (fun _ _ _ h => h) (Or.inl ⟨by rfl, ?_⟩) hHeld ?_ ?_
 rotate_left
 {
 rintro w' ⟨s0, s1, s2, s3, s4⟩
 go_simp
 with_reducible rfl}
 rotate_left
 {
 exact sp_}
 refine take_ (i := 8) (N := some 41) (v := ?_) (a' := ?_) (B_ 21 511) rfl rfl (take_ofW HT_.out HW_.out kf_) (fun _ _ _ h => h) (Or.inl ⟨by rfl, ?_⟩) hHeld ?_ ?_
 rotate_left
 {
 rintro w' ⟨s0, s1, s2, s3, s4⟩
 go_simp
 with_reducible rfl}
 rotate_left
 {
 exact sp_}
 refine one_ (i := 9) (N := some 42) (B_ 21 1023) rfl rfl (one_of HT_.out kf_) (by decide) (fun K hK => ?_)
 refine goes_ Try.func16 kf_ rfl #[.agg #[.int .i64 a0_0, .int .i64 a0_1, .slice A0_2 l0_2.length c0_2, .slice A0_3 l0_3.length c0_3], .agg #[.slice Ao36 t515.length co36]] (by rfl) rfl rfl ar_ ?_
 with_reducible refine (vcodec_Right.calls kj2 a0_0 a0_1 _ _ l0_2 _ _ l0_3 _ _ t515 true _ ?side1 ?side2 ?side3 ?side4 ?side5 ?side6 A25.out).mono ?_
 (case side1 => exact kC_ HR0_2 HB)
 (case side2 => exact HC0_2.out)
 (case side3 => exact kC_ HR0_3 HB)
 (case side4 => exact HC0_3.out)
 (case side5 => repeat (first | exact (Kd.N_reads' HO517.out).2.2 | (with_reducible refine Kd.C_alloc ?_ _) | (with_reducible refine Kd.C_drewN ?_ _) | (with_reducible refine Kd.C_drew ?_)))
 (case side6 => exact (Kd.N_reads' HO517.out).2.1)
 rintro e w51 ⟨rfl, hb⟩
 refine ⟨_, rfl, ?_⟩
 replace HO517 := FN_ HO517 hb
 replace HO522 := FN_ HO522 hb
 replace HO525 := FN_ HO525 hb
 replace BK508 := FB_ BK508 hb
 replace BK509 := FB_ BK509 hb
 replace BK519 := FB_ BK519 hb
 replace BK527 := FB_ BK527 hb
 replace HB := BS_ HB hb
 (try clear hb)
 (try clear hk)
 refine hK.out _ _ ⟨ce_ BK508 0, ce_ BK508 1, ce_ BK508 2, ce_ BK508 3, ce_ BK519 0⟩ (fun hHeld => ?_)
 clear hK K
 refine norm_ (a' := ?_) ?_ ?_
 rotate_left
 {
 show Act.put _ (some 42) _ = _
 exact sp_}
 refine pu_ 10 (some 43) (B_ 21 2047) HT_ ?_
 refine pu_ 11 (some 44) (B_ 21 4095) HT_ ?_
 refine take_ (i := 12) (N := some 45) (v := ?_) (a' := ?_) (B_ 21 8191) rfl rfl (take_ofW HT_.out HW_.out kf_) (fun _ _ _ h => h) (Or.inl ⟨by rfl, ?_⟩) hHeld ?_ ?_
 rotate_left
 {
 rintro w' ⟨s0, s1, s2, s3, s4⟩
 go_simp
 with_reducible rfl}
 rotate_left
 {
 exact sp_}
 refine take_ (i := 14) (N := some 47) (v := ?_) (a' := ?_) (B_ 21 24575) rfl rfl (take_ofW HT_.out HW_.out kf_) (fun _ _ _ h => h) (Or.inl ⟨by rfl, ?_⟩) hHeld ?_ ?_
 rotate_left
 {
 rintro w' ⟨s0, s1, s2, s3, s4⟩
 go_simp
 with_reducible rfl}
 rotate_left
 {
 exact sp_}
 refine one_ (i := 13) (N := some 46) (B_ 21 32767) rfl rfl (one_of HT_.out kf_) (by decide) (fun K hK => ?_)
 refine goes_ Try.func11 kf_ rfl #[.agg #[.int .i64 a0_0, .int .i64 a0_1, .slice A0_2 l0_2.length c0_2, .slice A0_3 l0_3.length c0_3]] (by rfl) rfl rfl ar_ ?_
 with_reducible refine (psalterylaw16_As.calls a0_0 a0_1 _ _ l0_2 _ _ l0_3 t529 t530 _ ?side1 ?side2 ?side3 ?side4 A27.out).mono ?_
 (case side1 => exact kC_ HR0_2 HB)
 (case side2 => exact HC0_2.out)
 (case side3 => exact kC_ HR0_3 HB)
 (case side4 => exact HC0_3.out)
 rintro e w52 ⟨rfl, hb⟩
 refine ⟨_, rfl, ?_⟩
 replace HO517 := FN_ HO517 hb
 replace HO522 := FN_ HO522 hb
 replace HO525 := FN_ HO525 hb
 replace BK508 := FB_ BK508 hb
 replace BK509 := FB_ BK509 hb
 replace BK519 := FB_ BK519 hb
 replace BK527 := FB_ BK527 hb
 replace HB := BS_ HB hb
 (try clear hb)
 (try clear hk)
 refine hK.out _ _ ⟨ce_ BK508 0, ce_ BK508 1, ce_ BK508 2, ce_ BK508 3, ce_ BK519 0⟩ (fun hHeld => ?_)
 clear hK K
 refine norm_ (a' := ?_) ?_ ?_
 rotate_left
 {
 show Act.put _ (some 46) _ = _
 exact sp_}
 refine one_ (i := 15) (N := some 48) (B_ 21 65535) rfl rfl (one_of HT_.out kf_) (by decide) (fun K hK => ?_)
 refine goes_ Try.func17 kf_ rfl #[.agg #[.int .i64 t529, .int .i64 t530, .slice A0_2 l0_2.length c0_2, .slice A0_3 l0_3.length c0_3], .agg #[.slice Ao36 t515.length co36]] (by rfl) rfl rfl ar_ ?_
 with_reducible refine (psalteryref22_Right.calls kj2 t529 t530 _ _ l0_2 _ _ l0_3 _ _ t515 true _ ?side1 ?side2 ?side3 ?side4 ?side5 ?side6 A28.out).mono ?_
 (case side1 => exact kC_ HR0_2 HB)
 (case side2 => exact HC0_2.out)
 (case side3 => exact kC_ HR0_3 HB)
 (case side4 => exact HC0_3.out)
 (case side5 => repeat (first | exact (Kd.N_reads' HO517.out).2.2 | (with_reducible refine Kd.C_alloc ?_ _) | (with_reducible refine Kd.C_drewN ?_ _) | (with_reducible refine Kd.C_drew ?_)))
 (case side6 => exact (Kd.N_reads' HO517.out).2.1)
 rintro e w53 ⟨rfl, hb⟩
 refine ⟨_, rfl, ?_⟩
 replace HO517 := FN_ HO517 hb
 replace HO522 := FN_ HO522 hb
 replace HO525 := FN_ HO525 hb
 replace BK508 := FB_ BK508 hb
 replace BK509 := FB_ BK509 hb
 replace BK519 := FB_ BK519 hb
 replace BK527 := FB_ BK527 hb
 replace HB := BS_ HB hb
 (try clear hb)
 (try clear hk)
 refine hK.out _ _ ⟨ce_ BK508 0, ce_ BK508 1, ce_ BK508 2, ce_ BK508 3, ce_ BK519 0⟩ (fun hHeld => ?_)
 clear hK K
 refine norm_ (a' := ?_) ?_ ?_
 rotate_left
 {
 show Act.put _ (some 48) _ = _
 exact sp_}
 refine pu_ 16 (some 49) (B_ 21 131071) HT_ ?_
 refine pu_ 17 (some 50) (B_ 21 262143) HT_ ?_
 refine one_ (i := 18) (N := some 51) (B_ 21 524287) rfl rfl (one_of HT_.out kf_) (by decide) (fun K hK => ?_)
 refine goes_ Try.func13 kf_ rfl #[] (by rfl) rfl rfl ar_ ?_
 with_reducible refine (psalterylaw22_knows.calls kj2  t532 _ A30.out).mono ?_
 rintro e w54 ⟨rfl, hb⟩
 refine ⟨_, rfl, ?_⟩
 replace HO517 := FN_ HO517 hb
 replace HO522 := FN_ HO522 hb
 replace HO525 := FN_ HO525 hb
 replace BK508 := FB_ BK508 hb
 replace BK509 := FB_ BK509 hb
 replace BK519 := FB_ BK519 hb
 replace BK527 := FB_ BK527 hb
 replace HB := BS_ HB hb
 (try clear hb)
 (try clear hk)
 refine hK.out _ _ ⟨ce_ BK508 0, ce_ BK508 1, ce_ BK508 2, ce_ BK508 3, ce_ BK519 0⟩ (fun hHeld => ?_)
 clear hK K
 refine norm_ (a' := ?_) ?_ ?_
 rotate_left
 {
 show Act.put _ (some 51) _ = _
 exact sp_}
 refine pu_ 19 (some 52) (B_ 21 1048575) HT_ ?_
 refine pu_ 20 (some 4) (B_ 21 2097151) HT_ ?_
 refine done_ (done_of HT_.out kf_) ?_
 try go_wp2
 go_ret
 exact ⟨by first | rfl | (simp [errW_none, errW_some] <;> rfl) | (simp [*, errW_none, errW_some] <;> rfl), bl_ HB⟩}
 {
 replace c29 := Bool.eq_false_iff.mpr c29
 subst c29
 rw [if_neg (show ¬ (false = true) by decide)] at H
 exact absurd ((Option.some.inj H).trans HT.out) (by decide)}}
 {
 replace c26 := Bool.eq_false_iff.mpr c26
 subst c26
 rw [if_neg (show ¬ (false = true) by decide)] at H
 exact absurd ((Option.some.inj H).trans HT.out) (by decide)}}
 {
 rw [if_neg c24] at H
 have c24b0 : (t526 == 0) = false := beq_eq_false_iff_ne.mpr c24
 have c24b1 : (t526 != 0) = true := bne_iff_ne.mpr c24
 exact absurd ((Option.some.inj H).trans HT.out) (by decide)}}
 {
 rw [if_neg c23] at H
 have c23b0 : (t518 == 0) = false := beq_eq_false_iff_ne.mpr c23
 have c23b1 : (t518 != 0) = true := bne_iff_ne.mpr c23
 exact absurd ((Option.some.inj H).trans HT.out) (by decide)}}))
def psalterylaw22_VoiceAny.Pure : Prop := ∀ (a0_0 : Int) (a0_1 : Int) (l0_2 : List Int) (l0_3 : List Int) (l1_0 : List (List Int)) (l1_1 : List (List Int)), (Lit.int .i64 a0_0).wf = true → (Lit.int .i64 a0_1).wf = true → (l0_2.length ≤ maxLen ∧ ∀ x0_ ∈ l0_2, (Lit.int .i64 x0_).wf = true) → (l0_3.length ≤ maxLen ∧ ∀ x0_ ∈ l0_3, (Lit.int .i64 x0_).wf = true) → (l1_0.length ≤ maxLen ∧ ∀ x0_ ∈ l1_0, (x0_.length ≤ maxLen ∧ ∀ x1_ ∈ x0_, (Lit.int .i64 x1_).wf = true)) → (l1_1.length ≤ maxLen ∧ ∀ x0_ ∈ l1_1, (x0_.length ≤ maxLen ∧ ∀ x1_ ∈ x0_, (Lit.int .i64 x1_).wf = true)) → ∃ k, psalterylaw22_VoiceAny.f k a0_0 a0_1 l0_2 l0_3 l1_0 l1_1 = some true
theorem psalterylaw22_VoiceAny.walk (P : psalterylaw22_VoiceAny.Pure) (a0_0 : Int) (a0_1 : Int) (A0_2 : Option Addr) (c0_2 : Nat) (l0_2 : List Int) (A0_3 : Option Addr) (c0_3 : Nat) (l0_3 : List Int) (A1_0 : Option Addr) (c1_0 : Nat) (l1_0 : List (List Int)) (A1_1 : Option Addr) (c1_1 : Nat) (l1_1 : List (List Int)) (w : World) (hr0_2 : Kd.C (Kd.int .i64) w A0_2 l0_2.length l0_2) (hc0_2 : l0_2.length ≤ c0_2) (hr0_3 : Kd.C (Kd.int .i64) w A0_3 l0_3.length l0_3) (hc0_3 : l0_3.length ≤ c0_3) (hr1_0 : Kd.C (Kd.slice 3 (Kd.int .i64)) w A1_0 l1_0.length l1_0) (hc1_0 : l1_0.length ≤ c1_0) (hr1_1 : Kd.C (Kd.slice 2 (Kd.int .i64)) w A1_1 l1_1.length l1_1) (hc1_1 : l1_1.length ≤ c1_1) (w0_0 : (Lit.int .i64 a0_0).wf = true) (w0_1 : (Lit.int .i64 a0_1).wf = true) (w0_2 : (l0_2.length ≤ maxLen ∧ ∀ x0_ ∈ l0_2, (Lit.int .i64 x0_).wf = true)) (w0_3 : (l0_3.length ≤ maxLen ∧ ∀ x0_ ∈ l0_3, (Lit.int .i64 x0_).wf = true)) (w1_0 : (l1_0.length ≤ maxLen ∧ ∀ x0_ ∈ l1_0, (x0_.length ≤ maxLen ∧ ∀ x1_ ∈ x0_, (Lit.int .i64 x1_).wf = true))) (w1_1 : (l1_1.length ≤ maxLen ∧ ∀ x0_ ∈ l1_1, (x0_.length ≤ maxLen ∧ ∀ x1_ ∈ x0_, (Lit.int .i64 x1_).wf = true))) :
    Calls Try.prog 3 #[.agg #[.int .i64 a0_0, .int .i64 a0_1, .slice A0_2 l0_2.length c0_2, .slice A0_3 l0_3.length c0_3], .agg #[.slice A1_0 l1_0.length c1_0, .slice A1_1 l1_1.length c1_1]] w fun e w' => e = .returned (.bool true) ∧ Below w.heap.size w w' := by
  obtain ⟨k, h⟩ := P a0_0 a0_1 l0_2 l0_3 l1_0 l1_1 w0_0 w0_1 w0_2 w0_3 w1_0 w1_1
  refine (psalterylaw22_VoiceAny.calls k a0_0 a0_1 _ _ l0_2 _ _ l0_3 _ _ l1_0 _ _ l1_1 true w hr0_2 hc0_2 hr0_3 hc0_3 hr1_0 hc1_0 hr1_1 hc1_1 h rfl).mono ?_
  rintro e w' ⟨rfl, hd⟩
  exact ⟨rfl, hd⟩
def psalterylaw22_great.l0 : Nat → Int → Int → Int → List Int → List Int → List (List Int) → Option (Bool)
  | 0, _, _, _, _, _, _ => none
  | k + 1, x5, x534000, x534001, x534002, x534003, x535000 => if x5 < (x535000.length : Int) then (if 0 ≤ x5 then (if ((rd_L2 x535000 x5).length : Int) > 100 then (some true) else (psalterylaw22_great.l0 k (wrap64 (x5 + 1)) x534000 x534001 x534002 x534003 x535000)) else (none)) else ((psalterylaw16_Great.f x534000 x534001 x534002 x534003).bind fun t536 => (if t536 = true then (some true) else (some (decide ((x535000.length : Int) > 10)))))
def psalterylaw22_great.f (k : Nat) (a0_0 : Int) (a0_1 : Int) (l0_2 : List Int) (l0_3 : List Int) (l1_0 : List (List Int)) : Option (Bool) := psalterylaw22_great.l0 k 0 a0_0 a0_1 l0_2 l0_3 l1_0
theorem psalterylaw22_great.mono_l : ∀ k, (∀ y0 y1 y2 y3 y4 y5, LeO (psalterylaw22_great.l0 k y0 y1 y2 y3 y4 y5) (psalterylaw22_great.l0 (k + 1) y0 y1 y2 y3 y4 y5))
  | 0 => fun _ _ _ _ _ _ r h => by simp [psalterylaw22_great.l0] at h
  | k + 1 => by
    have ih0 := psalterylaw22_great.mono_l k
    · intro y0 y1 y2 y3 y4 y5
      unfold psalterylaw22_great.l0
      with_reducible repeat' first
   | exact ih0 _ _ _ _ _ _
   | exact LeO.refl _
   | exact LeO.none _
   | refine LeO.ite ?_ ?_
   | refine LeO.bind ?_ (fun _ => ?_)
theorem psalterylaw22_great.mono : ∀ a0 a1 a2 a3 a4 k, LeO (psalterylaw22_great.f k a0 a1 a2 a3 a4) (psalterylaw22_great.f (k + 1) a0 a1 a2 a3 a4) := by
  intro a0 a1 a2 a3 a4 k
  have ih0 := psalterylaw22_great.mono_l k
  unfold psalterylaw22_great.f
  with_reducible repeat' first
   | exact ih0 _ _ _ _ _ _
   | exact LeO.refl _
   | exact LeO.none _
   | refine LeO.ite ?_ ?_
   | refine LeO.bind ?_ (fun _ => ?_)
def psalteryref03_Sqrt.l0 : Nat → Int → Int → Int → Option (Int)
  | 0, _, _, _ => none
  | k + 1, x0, x3, x4 => if (IntKind.u64.wrap (x4 - x3)) > 1 then (if (IntKind.u64.wrap ((IntKind.u64.wrap (Int.tdiv (IntKind.u64.wrap (x3 + x4)) 2)) * (IntKind.u64.wrap (Int.tdiv (IntKind.u64.wrap (x3 + x4)) 2)))) ≤ x0 then (psalteryref03_Sqrt.l0 k x0 (IntKind.u64.wrap (Int.tdiv (IntKind.u64.wrap (x3 + x4)) 2)) x4) else (psalteryref03_Sqrt.l0 k x0 x3 (IntKind.u64.wrap (Int.tdiv (IntKind.u64.wrap (x3 + x4)) 2)))) else (some x3)
def psalteryref03_Sqrt.f (k : Nat) (a0 : Int) : Option (Int) := psalteryref03_Sqrt.l0 k a0 0 4294967296
theorem psalteryref03_Sqrt.mono_l : ∀ k, (∀ y0 y1 y2, LeO (psalteryref03_Sqrt.l0 k y0 y1 y2) (psalteryref03_Sqrt.l0 (k + 1) y0 y1 y2))
  | 0 => fun _ _ _ r h => by simp [psalteryref03_Sqrt.l0] at h
  | k + 1 => by
    have ih0 := psalteryref03_Sqrt.mono_l k
    · intro y0 y1 y2
      unfold psalteryref03_Sqrt.l0
      with_reducible repeat' first
   | exact ih0 _ _ _
   | exact LeO.refl _
   | exact LeO.none _
   | refine LeO.ite ?_ ?_
   | refine LeO.bind ?_ (fun _ => ?_)
theorem psalteryref03_Sqrt.mono : ∀ a0 k, LeO (psalteryref03_Sqrt.f k a0) (psalteryref03_Sqrt.f (k + 1) a0) := by
  intro a0 k
  have ih0 := psalteryref03_Sqrt.mono_l k
  unfold psalteryref03_Sqrt.f
  with_reducible repeat' first
   | exact ih0 _ _ _
   | exact LeO.refl _
   | exact LeO.none _
   | refine LeO.ite ?_ ?_
   | refine LeO.bind ?_ (fun _ => ?_)
mutual
def psalteryref10_Value.j0 : Nat → Int → Bool → Option (Int)
  | 0, _, _ => none
  | k + 1, x0, x10 => if x10 = true then (some 0) else (psalteryref10_Value.l0 k x0 1 1)
def psalteryref10_Value.l0 : Nat → Int → Int → Int → Option (Int)
  | 0, _, _, _ => none
  | k + 1, x0, x3, x4 => if x4 < x0 then (psalteryref10_Value.l0 k x0 (IntKind.u64.wrap (x3 * 2)) (wrap64 (x4 + 1))) else ((psalteryref03_Sqrt.f k x3).bind fun t751 => (some (wrap64 (t751))))
end
def psalteryref10_Value.f (k : Nat) (a0 : Int) : Option (Int) := if a0 < 1 then (psalteryref10_Value.j0 k a0 true) else (psalteryref10_Value.j0 k a0 (decide (a0 > 44)))
theorem psalteryref10_Value.mono_l : ∀ k, (∀ y0 y1, LeO (psalteryref10_Value.j0 k y0 y1) (psalteryref10_Value.j0 (k + 1) y0 y1)) ∧ (∀ y0 y1 y2, LeO (psalteryref10_Value.l0 k y0 y1 y2) (psalteryref10_Value.l0 (k + 1) y0 y1 y2))
  | 0 => ⟨fun _ _ r h => by simp [psalteryref10_Value.j0] at h, fun _ _ _ r h => by simp [psalteryref10_Value.l0] at h⟩
  | k + 1 => by
    obtain ⟨ih0, ih1⟩ := psalteryref10_Value.mono_l k
    refine ⟨?_, ?_⟩
    all_goals (intros; first | unfold psalteryref10_Value.j0 | unfold psalteryref10_Value.l0)
    all_goals with_reducible repeat' first
     | exact ih0 _ _
     | exact ih1 _ _ _
     | exact psalteryref03_Sqrt.mono _ _
     | exact LeO.refl _
     | exact LeO.none _
     | refine LeO.ite ?_ ?_
     | refine LeO.bind ?_ (fun _ => ?_)
theorem psalteryref10_Value.mono : ∀ a0 k, LeO (psalteryref10_Value.f k a0) (psalteryref10_Value.f (k + 1) a0) := by
  intro a0 k
  obtain ⟨ih0, ih1⟩ := psalteryref10_Value.mono_l k
  unfold psalteryref10_Value.f
  with_reducible repeat' first
   | exact ih0 _ _
   | exact ih1 _ _ _
   | exact psalteryref03_Sqrt.mono _ _
   | exact LeO.refl _
   | exact LeO.none _
   | refine LeO.ite ?_ ?_
   | refine LeO.bind ?_ (fun _ => ?_)
def psalteryref14_At.j0 : Nat → Int → Int → Bool → Option (Int)
  | 0, _, _, _ => none
  | k + 1, x0, x3, x4 => if x4 = true then (some x0) else (if x3 = 3 then (some 4) else (if x3 = 4 then (some 8) else (if x3 = 5 then (some 15) else (some (-1)))))
def psalteryref14_At.f (k : Nat) (a0 : Int) : Option (Int) := if a0 = 0 then (psalteryref14_At.j0 k a0 a0 (a0 == 0)) else (if a0 = 1 then (psalteryref14_At.j0 k a0 a0 (a0 == 1)) else (psalteryref14_At.j0 k a0 a0 (a0 == 2)))
theorem psalteryref14_At.mono_l : ∀ k, (∀ y0 y1 y2, LeO (psalteryref14_At.j0 k y0 y1 y2) (psalteryref14_At.j0 (k + 1) y0 y1 y2))
  | 0 => fun _ _ _ r h => by simp [psalteryref14_At.j0] at h
  | k + 1 => by
    have ih0 := psalteryref14_At.mono_l k
    · intro y0 y1 y2
      unfold psalteryref14_At.j0
      with_reducible repeat' first
   | exact ih0 _ _ _
   | exact LeO.refl _
   | exact LeO.none _
   | refine LeO.ite ?_ ?_
   | refine LeO.bind ?_ (fun _ => ?_)
theorem psalteryref14_At.mono : ∀ a0 k, LeO (psalteryref14_At.f k a0) (psalteryref14_At.f (k + 1) a0) := by
  intro a0 k
  have ih0 := psalteryref14_At.mono_l k
  unfold psalteryref14_At.f
  with_reducible repeat' first
   | exact ih0 _ _ _
   | exact LeO.refl _
   | exact LeO.none _
   | refine LeO.ite ?_ ?_
   | refine LeO.bind ?_ (fun _ => ?_)
def psalteryref14_post.l0 : Nat → Int → Int → Int → Option (Int)
  | 0, _, _, _ => none
  | k + 1, x0, x3, x4 => if x4 < 6 then ((psalteryref14_At.f k x4).bind fun t752 => (if t752 ≤ x0 then (psalteryref14_post.l0 k x0 x4 (wrap64 (x4 + 1))) else (psalteryref14_post.l0 k x0 x3 (wrap64 (x4 + 1))))) else (some x3)
def psalteryref14_post.f (k : Nat) (a0 : Int) : Option (Int) := psalteryref14_post.l0 k a0 0 0
theorem psalteryref14_post.mono_l : ∀ k, (∀ y0 y1 y2, LeO (psalteryref14_post.l0 k y0 y1 y2) (psalteryref14_post.l0 (k + 1) y0 y1 y2))
  | 0 => fun _ _ _ r h => by simp [psalteryref14_post.l0] at h
  | k + 1 => by
    have ih0 := psalteryref14_post.mono_l k
    · intro y0 y1 y2
      unfold psalteryref14_post.l0
      with_reducible repeat' first
   | exact ih0 _ _ _
   | exact psalteryref14_At.mono _ _
   | exact LeO.refl _
   | exact LeO.none _
   | refine LeO.ite ?_ ?_
   | refine LeO.bind ?_ (fun _ => ?_)
theorem psalteryref14_post.mono : ∀ a0 k, LeO (psalteryref14_post.f k a0) (psalteryref14_post.f (k + 1) a0) := by
  intro a0 k
  have ih0 := psalteryref14_post.mono_l k
  unfold psalteryref14_post.f
  with_reducible repeat' first
   | exact ih0 _ _ _
   | exact psalteryref14_At.mono _ _
   | exact LeO.refl _
   | exact LeO.none _
   | refine LeO.ite ?_ ?_
   | refine LeO.bind ?_ (fun _ => ?_)
def psalteryref14_Line.f (k : Nat) (l0 : List Int) (a1 : Int) : Option (Int) := (psalteryref14_post.f k a1).bind fun t753 => (if t753 = 5 then (if 5 < (l0.length : Int) then (some (rd l0 5)) else (none)) else (if 0 ≤ (wrap64 (t753 + 1)) then (if (wrap64 (t753 + 1)) < (l0.length : Int) then (if 0 ≤ t753 then (if t753 < (l0.length : Int) then ((psalteryref14_At.f k t753).bind fun t757 => ((psalteryref14_At.f k (wrap64 (t753 + 1))).bind fun t758 => (if (wrap64 ((wrap64 ((rd l0 (wrap64 (t753 + 1))) - (rd l0 t753))) * (wrap64 (a1 - t757)))) < 0 then (if (wrap64 (t758 - t757)) = 0 then (none) else (some (wrap64 ((rd l0 t753) - (wrap64 (Int.tdiv (wrap64 (-(wrap64 ((wrap64 ((rd l0 (wrap64 (t753 + 1))) - (rd l0 t753))) * (wrap64 (a1 - t757)))))) (wrap64 (t758 - t757)))))))) else (if (wrap64 (t758 - t757)) = 0 then (none) else (some (wrap64 ((rd l0 t753) + (wrap64 (Int.tdiv (wrap64 ((wrap64 ((rd l0 (wrap64 (t753 + 1))) - (rd l0 t753))) * (wrap64 (a1 - t757)))) (wrap64 (t758 - t757))))))))))) else (none)) else (none)) else (none)) else (none)))
theorem psalteryref14_Line.mono : ∀ a0 a1 k, LeO (psalteryref14_Line.f k a0 a1) (psalteryref14_Line.f (k + 1) a0 a1) := by
  intro a0 a1 k
  unfold psalteryref14_Line.f
  with_reducible repeat' first
   | exact psalteryref14_At.mono _ _
   | exact psalteryref14_post.mono _ _
   | exact LeO.refl _
   | exact LeO.none _
   | refine LeO.ite ?_ ?_
   | refine LeO.bind ?_ (fun _ => ?_)
def psalteryref14_Floor.f (k : Nat) (l0 : List Int) (a1 : Int) : Option (Int) := (psalteryref14_Line.f k l0 a1).bind fun t761 => ((psalteryref10_Value.f k t761).bind fun t762 => (if t762 < 1 then (some 1) else (some t762)))
theorem psalteryref14_Floor.mono : ∀ a0 a1 k, LeO (psalteryref14_Floor.f k a0 a1) (psalteryref14_Floor.f (k + 1) a0 a1) := by
  intro a0 a1 k
  unfold psalteryref14_Floor.f
  with_reducible repeat' first
   | exact psalteryref10_Value.mono _ _
   | exact psalteryref14_Line.mono _ _ _
   | exact LeO.refl _
   | exact LeO.none _
   | refine LeO.ite ?_ ?_
   | refine LeO.bind ?_ (fun _ => ?_)
def psalteryref22_Floors.l0 : Nat → List Int → List Int → Int → Option (List Int)
  | 0, _, _, _ => none
  | k + 1, x0, x3, x4 => if x4 < 16 then ((psalteryref14_Floor.f k x0 x4).bind fun t763 => (if x3.length < 17592186044416 then (psalteryref22_Floors.l0 k x0 (x3 ++ [t763]) (wrap64 (x4 + 1))) else (none))) else (some x3)
def psalteryref22_Floors.f (k : Nat) (l0 : List Int) : Option (List Int) := psalteryref22_Floors.l0 k l0 ([] : List Int) 0
theorem psalteryref22_Floors.mono_l : ∀ k, (∀ y0 y1 y2, LeO (psalteryref22_Floors.l0 k y0 y1 y2) (psalteryref22_Floors.l0 (k + 1) y0 y1 y2))
  | 0 => fun _ _ _ r h => by simp [psalteryref22_Floors.l0] at h
  | k + 1 => by
    have ih0 := psalteryref22_Floors.mono_l k
    · intro y0 y1 y2
      unfold psalteryref22_Floors.l0
      with_reducible repeat' first
   | exact ih0 _ _ _
   | exact psalteryref14_Floor.mono _ _ _
   | exact LeO.refl _
   | exact LeO.none _
   | refine LeO.ite ?_ ?_
   | refine LeO.bind ?_ (fun _ => ?_)
theorem psalteryref22_Floors.mono : ∀ a0 k, LeO (psalteryref22_Floors.f k a0) (psalteryref22_Floors.f (k + 1) a0) := by
  intro a0 k
  have ih0 := psalteryref22_Floors.mono_l k
  unfold psalteryref22_Floors.f
  with_reducible repeat' first
   | exact ih0 _ _ _
   | exact psalteryref14_Floor.mono _ _ _
   | exact LeO.refl _
   | exact LeO.none _
   | refine LeO.ite ?_ ?_
   | refine LeO.bind ?_ (fun _ => ?_)
mutual
def psalteryref22_Settled.l0 : Nat → List Int → Int → Option (Int)
  | 0, _, _ => none
  | k + 1, x0, x5 => if x5 ≥ 0 then (if 0 ≤ x5 then (if x5 < (x0.length : Int) then (if (rd x0 x5) > 0 then (some x5) else (psalteryref22_Settled.l0 k x0 (wrap64 (x5 - 1)))) else (none)) else (none)) else (psalteryref22_Settled.l1 k x0 0)
def psalteryref22_Settled.l1 : Nat → List Int → Int → Option (Int)
  | 0, _, _ => none
  | k + 1, x0, x6 => if x6 < (x0.length : Int) then (if 0 ≤ x6 then (if (rd x0 x6) > 0 then (some x6) else (psalteryref22_Settled.l1 k x0 (wrap64 (x6 + 1)))) else (none)) else (some 0)
end
def psalteryref22_Settled.f (k : Nat) (l0 : List Int) (a1 : Int) : Option (Int) := psalteryref22_Settled.l0 k l0 a1
theorem psalteryref22_Settled.mono_l : ∀ k, (∀ y0 y1, LeO (psalteryref22_Settled.l0 k y0 y1) (psalteryref22_Settled.l0 (k + 1) y0 y1)) ∧ (∀ y0 y1, LeO (psalteryref22_Settled.l1 k y0 y1) (psalteryref22_Settled.l1 (k + 1) y0 y1))
  | 0 => ⟨fun _ _ r h => by simp [psalteryref22_Settled.l0] at h, fun _ _ r h => by simp [psalteryref22_Settled.l1] at h⟩
  | k + 1 => by
    obtain ⟨ih0, ih1⟩ := psalteryref22_Settled.mono_l k
    refine ⟨?_, ?_⟩
    all_goals (intros; first | unfold psalteryref22_Settled.l0 | unfold psalteryref22_Settled.l1)
    all_goals with_reducible repeat' first
     | exact ih0 _ _
     | exact ih1 _ _
     | exact LeO.refl _
     | exact LeO.none _
     | refine LeO.ite ?_ ?_
     | refine LeO.bind ?_ (fun _ => ?_)
theorem psalteryref22_Settled.mono : ∀ a0 a1 k, LeO (psalteryref22_Settled.f k a0 a1) (psalteryref22_Settled.f (k + 1) a0 a1) := by
  intro a0 a1 k
  obtain ⟨ih0, ih1⟩ := psalteryref22_Settled.mono_l k
  unfold psalteryref22_Settled.f
  with_reducible repeat' first
   | exact ih0 _ _
   | exact ih1 _ _
   | exact LeO.refl _
   | exact LeO.none _
   | refine LeO.ite ?_ ?_
   | refine LeO.bind ?_ (fun _ => ?_)
def psalteryref14_Fit.j0 : Nat → Int → Int → Option (Int)
  | 0, _, _ => none
  | k + 1, x1, x7 => if (wrap64 ((wrap64 (x7 - 13)) + x1)) < 0 then (some 0) else (if (wrap64 ((wrap64 (x7 - 13)) + x1)) > 44 then (some 44) else (some (wrap64 ((wrap64 (x7 - 13)) + x1))))
def psalteryref14_Fit.f (k : Nat) (l0 : List Int) (a1 : Int) (a2 : Int) : Option (Int) := if a1 = 0 then (some 0) else (if 4 < (l0.length : Int) then (if a2 < 4 then (if 0 ≤ a2 then (if a2 < (l0.length : Int) then (psalteryref14_Fit.j0 k a1 (rd l0 a2)) else (none)) else (none)) else (psalteryref14_Fit.j0 k a1 (rd l0 4))) else (none))
theorem psalteryref14_Fit.mono_l : ∀ k, (∀ y0 y1, LeO (psalteryref14_Fit.j0 k y0 y1) (psalteryref14_Fit.j0 (k + 1) y0 y1))
  | 0 => fun _ _ r h => by simp [psalteryref14_Fit.j0] at h
  | k + 1 => by
    have ih0 := psalteryref14_Fit.mono_l k
    · intro y0 y1
      unfold psalteryref14_Fit.j0
      with_reducible repeat' first
   | exact ih0 _ _
   | exact LeO.refl _
   | exact LeO.none _
   | refine LeO.ite ?_ ?_
   | refine LeO.bind ?_ (fun _ => ?_)
theorem psalteryref14_Fit.mono : ∀ a0 a1 a2 k, LeO (psalteryref14_Fit.f k a0 a1 a2) (psalteryref14_Fit.f (k + 1) a0 a1 a2) := by
  intro a0 a1 a2 k
  have ih0 := psalteryref14_Fit.mono_l k
  unfold psalteryref14_Fit.f
  with_reducible repeat' first
   | exact ih0 _ _
   | exact LeO.refl _
   | exact LeO.none _
   | refine LeO.ite ?_ ?_
   | refine LeO.bind ?_ (fun _ => ?_)
def psalteryref07_size.f (a0 : Int) : Option (Int) := if a0 < 0 then (some (wrap64 (-a0))) else (some a0)
def psalteryref07_Square.l0 : Nat → List Int → Int → Int → Option (Int)
  | 0, _, _, _ => none
  | k + 1, x0, x3, x4 => if x4 < (x0.length : Int) then (if 0 ≤ x4 then ((psalteryref07_size.f (rd x0 x4)).bind fun t772 => (psalteryref07_Square.l0 k x0 (IntKind.u64.wrap (x3 + (IntKind.u64.wrap ((IntKind.u64.wrap (t772)) * (IntKind.u64.wrap (t772)))))) (wrap64 (x4 + 1)))) else (none)) else (some x3)
def psalteryref07_Square.f (k : Nat) (l0 : List Int) : Option (Int) := psalteryref07_Square.l0 k l0 0 0
theorem psalteryref07_Square.mono_l : ∀ k, (∀ y0 y1 y2, LeO (psalteryref07_Square.l0 k y0 y1 y2) (psalteryref07_Square.l0 (k + 1) y0 y1 y2))
  | 0 => fun _ _ _ r h => by simp [psalteryref07_Square.l0] at h
  | k + 1 => by
    have ih0 := psalteryref07_Square.mono_l k
    · intro y0 y1 y2
      unfold psalteryref07_Square.l0
      with_reducible repeat' first
   | exact ih0 _ _ _
   | exact LeO.refl _
   | exact LeO.none _
   | refine LeO.ite ?_ ?_
   | refine LeO.bind ?_ (fun _ => ?_)
theorem psalteryref07_Square.mono : ∀ a0 k, LeO (psalteryref07_Square.f k a0) (psalteryref07_Square.f (k + 1) a0) := by
  intro a0 k
  have ih0 := psalteryref07_Square.mono_l k
  unfold psalteryref07_Square.f
  with_reducible repeat' first
   | exact ih0 _ _ _
   | exact LeO.refl _
   | exact LeO.none _
   | refine LeO.ite ?_ ?_
   | refine LeO.bind ?_ (fun _ => ?_)
def psalteryref10_Gain.l0 : Nat → Int → Int → Option (Int)
  | 0, _, _ => none
  | k + 1, x3, x4 => if x3 > 0 then (psalteryref10_Gain.l0 k (IntKind.u64.wrap (Int.tdiv x3 2)) (wrap64 (x4 + 1))) else (some x4)
def psalteryref10_Gain.f (k : Nat) (l0 : List Int) : Option (Int) := (psalteryref07_Square.f k l0).bind fun t773 => (psalteryref10_Gain.l0 k t773 0)
theorem psalteryref10_Gain.mono_l : ∀ k, (∀ y0 y1, LeO (psalteryref10_Gain.l0 k y0 y1) (psalteryref10_Gain.l0 (k + 1) y0 y1))
  | 0 => fun _ _ r h => by simp [psalteryref10_Gain.l0] at h
  | k + 1 => by
    have ih0 := psalteryref10_Gain.mono_l k
    · intro y0 y1
      unfold psalteryref10_Gain.l0
      with_reducible repeat' first
   | exact ih0 _ _
   | exact psalteryref07_Square.mono _ _
   | exact LeO.refl _
   | exact LeO.none _
   | refine LeO.ite ?_ ?_
   | refine LeO.bind ?_ (fun _ => ?_)
theorem psalteryref10_Gain.mono : ∀ a0 k, LeO (psalteryref10_Gain.f k a0) (psalteryref10_Gain.f (k + 1) a0) := by
  intro a0 k
  have ih0 := psalteryref10_Gain.mono_l k
  unfold psalteryref10_Gain.f
  with_reducible repeat' first
   | exact ih0 _ _
   | exact psalteryref07_Square.mono _ _
   | exact LeO.refl _
   | exact LeO.none _
   | refine LeO.ite ?_ ?_
   | refine LeO.bind ?_ (fun _ => ?_)
def psalteryref10_Width.j0 : Nat → Int → Bool → Option (Int)
  | 0, _, _ => none
  | k + 1, x3, x4 => if x4 = true then (some 1) else (if x3 = 2 then (some 2) else (if x3 = 3 then (some 4) else (if x3 = 4 then (some 8) else (some 0))))
def psalteryref10_Width.f (k : Nat) (a0 : Int) : Option (Int) := if a0 = 0 then (psalteryref10_Width.j0 k a0 (a0 == 0)) else (psalteryref10_Width.j0 k a0 (a0 == 1))
theorem psalteryref10_Width.mono_l : ∀ k, (∀ y0 y1, LeO (psalteryref10_Width.j0 k y0 y1) (psalteryref10_Width.j0 (k + 1) y0 y1))
  | 0 => fun _ _ r h => by simp [psalteryref10_Width.j0] at h
  | k + 1 => by
    have ih0 := psalteryref10_Width.mono_l k
    · intro y0 y1
      unfold psalteryref10_Width.j0
      with_reducible repeat' first
   | exact ih0 _ _
   | exact LeO.refl _
   | exact LeO.none _
   | refine LeO.ite ?_ ?_
   | refine LeO.bind ?_ (fun _ => ?_)
theorem psalteryref10_Width.mono : ∀ a0 k, LeO (psalteryref10_Width.f k a0) (psalteryref10_Width.f (k + 1) a0) := by
  intro a0 k
  have ih0 := psalteryref10_Width.mono_l k
  unfold psalteryref10_Width.f
  with_reducible repeat' first
   | exact ih0 _ _
   | exact LeO.refl _
   | exact LeO.none _
   | refine LeO.ite ?_ ?_
   | refine LeO.bind ?_ (fun _ => ?_)
def psalteryref10_From.f (a0 : Int) : Option (Int) := if a0 = 1 then (some 1) else (if a0 = 2 then (some 2) else (if a0 = 3 then (some 4) else (if a0 = 4 then (some 8) else (some 0))))
def psalteryref10_Band.l0 : Nat → List Int → Int → List Int → Int → Option (List Int)
  | 0, _, _, _, _ => none
  | k + 1, x0, x1, x5, x6 => (psalteryref10_Width.f k x1).bind fun t774 => (if x6 < t774 then ((psalteryref10_From.f x1).bind fun t775 => (if 0 ≤ (wrap64 (t775 + x6)) then (if (wrap64 (t775 + x6)) < (x0.length : Int) then (if x5.length < 17592186044416 then (psalteryref10_Band.l0 k x0 x1 (x5 ++ [rd x0 (wrap64 (t775 + x6))]) (wrap64 (x6 + 1))) else (none)) else (none)) else (none))) else (some x5))
def psalteryref10_Band.f (k : Nat) (l0 : List Int) (a1 : Int) : Option (List Int) := psalteryref10_Band.l0 k l0 a1 ([] : List Int) 0
theorem psalteryref10_Band.mono_l : ∀ k, (∀ y0 y1 y2 y3, LeO (psalteryref10_Band.l0 k y0 y1 y2 y3) (psalteryref10_Band.l0 (k + 1) y0 y1 y2 y3))
  | 0 => fun _ _ _ _ r h => by simp [psalteryref10_Band.l0] at h
  | k + 1 => by
    have ih0 := psalteryref10_Band.mono_l k
    · intro y0 y1 y2 y3
      unfold psalteryref10_Band.l0
      with_reducible repeat' first
   | exact ih0 _ _ _ _
   | exact psalteryref10_Width.mono _ _
   | exact LeO.refl _
   | exact LeO.none _
   | refine LeO.ite ?_ ?_
   | refine LeO.bind ?_ (fun _ => ?_)
theorem psalteryref10_Band.mono : ∀ a0 a1 k, LeO (psalteryref10_Band.f k a0 a1) (psalteryref10_Band.f (k + 1) a0 a1) := by
  intro a0 a1 k
  have ih0 := psalteryref10_Band.mono_l k
  unfold psalteryref10_Band.f
  with_reducible repeat' first
   | exact ih0 _ _ _ _
   | exact psalteryref10_Width.mono _ _
   | exact LeO.refl _
   | exact LeO.none _
   | refine LeO.ite ?_ ?_
   | refine LeO.bind ?_ (fun _ => ?_)
def psalteryref10_Gains.l0 : Nat → List Int → List Int → Int → Option (List Int)
  | 0, _, _, _ => none
  | k + 1, x0, x3, x4 => if x4 < 5 then ((psalteryref10_Band.f k x0 x4).bind fun t780 => ((psalteryref10_Gain.f k t780).bind fun t783 => (if x3.length < 17592186044416 then (psalteryref10_Gains.l0 k x0 (x3 ++ [t783]) (wrap64 (x4 + 1))) else (none)))) else (some x3)
def psalteryref10_Gains.f (k : Nat) (l0 : List Int) : Option (List Int) := psalteryref10_Gains.l0 k l0 ([] : List Int) 0
theorem psalteryref10_Gains.mono_l : ∀ k, (∀ y0 y1 y2, LeO (psalteryref10_Gains.l0 k y0 y1 y2) (psalteryref10_Gains.l0 (k + 1) y0 y1 y2))
  | 0 => fun _ _ _ r h => by simp [psalteryref10_Gains.l0] at h
  | k + 1 => by
    have ih0 := psalteryref10_Gains.mono_l k
    · intro y0 y1 y2
      unfold psalteryref10_Gains.l0
      with_reducible repeat' first
   | exact ih0 _ _ _
   | exact psalteryref10_Band.mono _ _ _
   | exact psalteryref10_Gain.mono _ _
   | exact LeO.refl _
   | exact LeO.none _
   | refine LeO.ite ?_ ?_
   | refine LeO.bind ?_ (fun _ => ?_)
theorem psalteryref10_Gains.mono : ∀ a0 k, LeO (psalteryref10_Gains.f k a0) (psalteryref10_Gains.f (k + 1) a0) := by
  intro a0 k
  have ih0 := psalteryref10_Gains.mono_l k
  unfold psalteryref10_Gains.f
  with_reducible repeat' first
   | exact ih0 _ _ _
   | exact psalteryref10_Band.mono _ _ _
   | exact psalteryref10_Gain.mono _ _
   | exact LeO.refl _
   | exact LeO.none _
   | refine LeO.ite ?_ ?_
   | refine LeO.bind ?_ (fun _ => ?_)
def psalteryref22_Posts.l0 : Nat → List Int → List Int → Int → Int → Int → List Int → List Int → Option (List Int)
  | 0, _, _, _, _, _, _, _ => none
  | k + 1, x1, x5, x6, x788000, x788001, x788002, x788003 => if x6 < 6 then ((psalteryref10_Gains.f k x1).bind fun t788 => ((psalteryref14_Fit.f k t788 x788001 x6).bind fun t791 => ((psalteryref22_Settled.f k x788002 t791).bind fun t792 => (if x5.length < 17592186044416 then (psalteryref22_Posts.l0 k x1 (x5 ++ [t792]) (wrap64 (x6 + 1)) x788000 x788001 x788002 x788003) else (none))))) else (some x5)
def psalteryref22_Posts.f (k : Nat) (a0_0 : Int) (a0_1 : Int) (l0_2 : List Int) (l0_3 : List Int) (l1 : List Int) : Option (List Int) := psalteryref22_Posts.l0 k l1 ([] : List Int) 0 a0_0 a0_1 l0_2 l0_3
theorem psalteryref22_Posts.mono_l : ∀ k, (∀ y0 y1 y2 y3 y4 y5 y6, LeO (psalteryref22_Posts.l0 k y0 y1 y2 y3 y4 y5 y6) (psalteryref22_Posts.l0 (k + 1) y0 y1 y2 y3 y4 y5 y6))
  | 0 => fun _ _ _ _ _ _ _ r h => by simp [psalteryref22_Posts.l0] at h
  | k + 1 => by
    have ih0 := psalteryref22_Posts.mono_l k
    · intro y0 y1 y2 y3 y4 y5 y6
      unfold psalteryref22_Posts.l0
      with_reducible repeat' first
   | exact ih0 _ _ _ _ _ _ _
   | exact psalteryref10_Gains.mono _ _
   | exact psalteryref14_Fit.mono _ _ _ _
   | exact psalteryref22_Settled.mono _ _ _
   | exact LeO.refl _
   | exact LeO.none _
   | refine LeO.ite ?_ ?_
   | refine LeO.bind ?_ (fun _ => ?_)
theorem psalteryref22_Posts.mono : ∀ a0 a1 a2 a3 a4 k, LeO (psalteryref22_Posts.f k a0 a1 a2 a3 a4) (psalteryref22_Posts.f (k + 1) a0 a1 a2 a3 a4) := by
  intro a0 a1 a2 a3 a4 k
  have ih0 := psalteryref22_Posts.mono_l k
  unfold psalteryref22_Posts.f
  with_reducible repeat' first
   | exact ih0 _ _ _ _ _ _ _
   | exact psalteryref10_Gains.mono _ _
   | exact psalteryref14_Fit.mono _ _ _ _
   | exact psalteryref22_Settled.mono _ _ _
   | exact LeO.refl _
   | exact LeO.none _
   | refine LeO.ite ?_ ?_
   | refine LeO.bind ?_ (fun _ => ?_)
def psalteryref03_Div.j0 : Nat → Int → Int → Int → Bool → Option (Int)
  | 0, _, _, _, _ => none
  | k + 1, x1, x5, x6, x23 => if x23 = true then (some (wrap64 (x5 + 1))) else (if x6 < 0 then (if (wrap64 (-x6)) ≥ (wrap64 (x1 + x6)) then (some (wrap64 (x5 - 1))) else (some x5)) else (some x5))
def psalteryref03_Div.f (k : Nat) (a0 : Int) (a1 : Int) : Option (Int) := if a1 = 0 then (none) else (if (wrap64 (a0 - (wrap64 ((wrap64 (Int.tdiv a0 a1)) * a1)))) ≥ 0 then (psalteryref03_Div.j0 k a1 (wrap64 (Int.tdiv a0 a1)) (wrap64 (a0 - (wrap64 ((wrap64 (Int.tdiv a0 a1)) * a1)))) (decide ((wrap64 (a0 - (wrap64 ((wrap64 (Int.tdiv a0 a1)) * a1)))) ≥ (wrap64 (a1 - (wrap64 (a0 - (wrap64 ((wrap64 (Int.tdiv a0 a1)) * a1))))))))) else (psalteryref03_Div.j0 k a1 (wrap64 (Int.tdiv a0 a1)) (wrap64 (a0 - (wrap64 ((wrap64 (Int.tdiv a0 a1)) * a1)))) false))
theorem psalteryref03_Div.mono_l : ∀ k, (∀ y0 y1 y2 y3, LeO (psalteryref03_Div.j0 k y0 y1 y2 y3) (psalteryref03_Div.j0 (k + 1) y0 y1 y2 y3))
  | 0 => fun _ _ _ _ r h => by simp [psalteryref03_Div.j0] at h
  | k + 1 => by
    have ih0 := psalteryref03_Div.mono_l k
    · intro y0 y1 y2 y3
      unfold psalteryref03_Div.j0
      with_reducible repeat' first
   | exact ih0 _ _ _ _
   | exact LeO.refl _
   | exact LeO.none _
   | refine LeO.ite ?_ ?_
   | refine LeO.bind ?_ (fun _ => ?_)
theorem psalteryref03_Div.mono : ∀ a0 a1 k, LeO (psalteryref03_Div.f k a0 a1) (psalteryref03_Div.f (k + 1) a0 a1) := by
  intro a0 a1 k
  have ih0 := psalteryref03_Div.mono_l k
  unfold psalteryref03_Div.f
  with_reducible repeat' first
   | exact ih0 _ _ _ _
   | exact LeO.refl _
   | exact LeO.none _
   | refine LeO.ite ?_ ?_
   | refine LeO.bind ?_ (fun _ => ?_)
def psalteryref21_Quantize.l0 : Nat → List Int → List Int → List Int → Int → Option (List Int)
  | 0, _, _, _, _ => none
  | k + 1, x0, x1, x5, x6 => if x6 < 16 then (if 0 ≤ x6 then (if x6 < (x0.length : Int) then (if x6 < (x1.length : Int) then ((psalteryref03_Div.f k (rd x0 x6) (rd x1 x6)).bind fun t798 => (if x5.length < 17592186044416 then (psalteryref21_Quantize.l0 k x0 x1 (x5 ++ [t798]) (wrap64 (x6 + 1))) else (none))) else (none)) else (none)) else (none)) else (some x5)
def psalteryref21_Quantize.f (k : Nat) (l0 : List Int) (l1 : List Int) : Option (List Int) := psalteryref21_Quantize.l0 k l0 l1 ([] : List Int) 0
theorem psalteryref21_Quantize.mono_l : ∀ k, (∀ y0 y1 y2 y3, LeO (psalteryref21_Quantize.l0 k y0 y1 y2 y3) (psalteryref21_Quantize.l0 (k + 1) y0 y1 y2 y3))
  | 0 => fun _ _ _ _ r h => by simp [psalteryref21_Quantize.l0] at h
  | k + 1 => by
    have ih0 := psalteryref21_Quantize.mono_l k
    · intro y0 y1 y2 y3
      unfold psalteryref21_Quantize.l0
      with_reducible repeat' first
   | exact ih0 _ _ _ _
   | exact psalteryref03_Div.mono _ _ _
   | exact LeO.refl _
   | exact LeO.none _
   | refine LeO.ite ?_ ?_
   | refine LeO.bind ?_ (fun _ => ?_)
theorem psalteryref21_Quantize.mono : ∀ a0 a1 k, LeO (psalteryref21_Quantize.f k a0 a1) (psalteryref21_Quantize.f (k + 1) a0 a1) := by
  intro a0 a1 k
  have ih0 := psalteryref21_Quantize.mono_l k
  unfold psalteryref21_Quantize.f
  with_reducible repeat' first
   | exact ih0 _ _ _ _
   | exact psalteryref03_Div.mono _ _ _
   | exact LeO.refl _
   | exact LeO.none _
   | refine LeO.ite ?_ ?_
   | refine LeO.bind ?_ (fun _ => ?_)
def psalteryref22_noughts.l0 : Nat → List Int → Int → Option (Bool)
  | 0, _, _ => none
  | k + 1, x0, x3 => if x3 < (x0.length : Int) then (if 0 ≤ x3 then (if (rd x0 x3) = 0 then (psalteryref22_noughts.l0 k x0 (wrap64 (x3 + 1))) else (some false)) else (none)) else (some true)
def psalteryref22_noughts.f (k : Nat) (l0 : List Int) : Option (Bool) := psalteryref22_noughts.l0 k l0 0
theorem psalteryref22_noughts.mono_l : ∀ k, (∀ y0 y1, LeO (psalteryref22_noughts.l0 k y0 y1) (psalteryref22_noughts.l0 (k + 1) y0 y1))
  | 0 => fun _ _ r h => by simp [psalteryref22_noughts.l0] at h
  | k + 1 => by
    have ih0 := psalteryref22_noughts.mono_l k
    · intro y0 y1
      unfold psalteryref22_noughts.l0
      with_reducible repeat' first
   | exact ih0 _ _
   | exact LeO.refl _
   | exact LeO.none _
   | refine LeO.ite ?_ ?_
   | refine LeO.bind ?_ (fun _ => ?_)
theorem psalteryref22_noughts.mono : ∀ a0 k, LeO (psalteryref22_noughts.f k a0) (psalteryref22_noughts.f (k + 1) a0) := by
  intro a0 k
  have ih0 := psalteryref22_noughts.mono_l k
  unfold psalteryref22_noughts.f
  with_reducible repeat' first
   | exact ih0 _ _
   | exact LeO.refl _
   | exact LeO.none _
   | refine LeO.ite ?_ ?_
   | refine LeO.bind ?_ (fun _ => ?_)
def psalteryref15_size.f (a0 : Int) : Option (Int) := if a0 < 0 then (some (wrap64 (-a0))) else (some a0)
def psalteryref15_Couple.f (a0 : Int) (a1 : Int) : Option (Int × Int) := (psalteryref15_size.f a0).bind fun t803 => ((psalteryref15_size.f a1).bind fun t804 => (if t803 > t804 then (if a0 > 0 then (some (a0, wrap64 (a0 - a1))) else (some (a0, wrap64 (a1 - a0)))) else (if a1 > 0 then (some (a1, wrap64 (a0 - a1))) else (some (a1, wrap64 (a1 - a0))))))
mutual
def psalteryref22_Encode.l0 : Nat → Int → Int → Int → Int → List Int → List Int → List (List Int) → List (List Int) → List (List Int) → Option ((List (List Int)) × (List (List Int)))
  | 0, _, _, _, _, _, _, _, _, _ => none
  | k + 1, x6, x7, x806000, x806001, x806002, x806003, x807000, x809000, x809001 => if x7 < x806000 then (if 0 ≤ x7 then (if x7 < (x807000.length : Int) then ((psalteryref22_Posts.f k x806000 x806001 x806002 x806003 (rd_L2 x807000 x7)).bind fun t810 => ((psalteryref22_Floors.f k t810).bind fun t814 => ((psalteryref21_Quantize.f k (rd_L2 x807000 x7) t814).bind fun t817 => ((psalteryref22_noughts.f k t817).bind fun t820 => (if t820 = true then (if x809000.length < 5864062014805 then (if x809001.length < 5864062014805 then (psalteryref22_Encode.l0 k x6 (wrap64 (x7 + 1)) x806000 x806001 x806002 x806003 x807000 (x809000 ++ [[]]) (x809001 ++ [[]])) else (none)) else (none)) else (if x809000.length < 5864062014805 then (if x809001.length < 5864062014805 then (psalteryref22_Encode.l0 k (wrap64 (x6 + 1)) (wrap64 (x7 + 1)) x806000 x806001 x806002 x806003 x807000 (x809000 ++ [t810]) (x809001 ++ [t817])) else (none)) else (none))))))) else (none)) else (none)) else (if x6 = 2 then (psalteryref22_Encode.l1 k ([] : List Int) ([] : List Int) 0 x809000 x809001) else (some (x809000, x809001)))
def psalteryref22_Encode.l1 : Nat → List Int → List Int → Int → List (List Int) → List (List Int) → Option ((List (List Int)) × (List (List Int)))
  | 0, _, _, _, _, _ => none
  | k + 1, x10, x11, x12, x809000, x809001 => if x12 < 16 then (if 0 < (x809001.length : Int) then (if 0 ≤ x12 then (if x12 < ((rd_L2 x809001 0).length : Int) then (if 1 < (x809001.length : Int) then (if x12 < ((rd_L2 x809001 1).length : Int) then ((psalteryref15_Couple.f (rd (rd_L2 x809001 0) x12) (rd (rd_L2 x809001 1) x12)).bind fun bt837 => (if x10.length < 17592186044416 then (if x11.length < 17592186044416 then (psalteryref22_Encode.l1 k (x10 ++ [bt837.1]) (x11 ++ [bt837.2]) (wrap64 (x12 + 1)) x809000 x809001) else (none)) else (none))) else (none)) else (none)) else (none)) else (none)) else (none)) else (some (x809000, (([x10, x11] : List (List Int)))))
end
def psalteryref22_Encode.f (k : Nat) (a0_0 : Int) (a0_1 : Int) (l0_2 : List Int) (l0_3 : List Int) (l1_0 : List (List Int)) : Option ((List (List Int)) × (List (List Int))) := psalteryref22_Encode.l0 k 0 0 a0_0 a0_1 l0_2 l0_3 l1_0 ([] : List (List Int)) ([] : List (List Int))
theorem psalteryref22_Encode.mono_l : ∀ k, (∀ y0 y1 y2 y3 y4 y5 y6 y7 y8, LeO (psalteryref22_Encode.l0 k y0 y1 y2 y3 y4 y5 y6 y7 y8) (psalteryref22_Encode.l0 (k + 1) y0 y1 y2 y3 y4 y5 y6 y7 y8)) ∧ (∀ y0 y1 y2 y3 y4, LeO (psalteryref22_Encode.l1 k y0 y1 y2 y3 y4) (psalteryref22_Encode.l1 (k + 1) y0 y1 y2 y3 y4))
  | 0 => ⟨fun _ _ _ _ _ _ _ _ _ r h => by simp [psalteryref22_Encode.l0] at h, fun _ _ _ _ _ r h => by simp [psalteryref22_Encode.l1] at h⟩
  | k + 1 => by
    obtain ⟨ih0, ih1⟩ := psalteryref22_Encode.mono_l k
    refine ⟨?_, ?_⟩
    all_goals (intros; first | unfold psalteryref22_Encode.l0 | unfold psalteryref22_Encode.l1)
    all_goals with_reducible repeat' first
     | exact ih0 _ _ _ _ _ _ _ _ _
     | exact ih1 _ _ _ _ _
     | exact psalteryref21_Quantize.mono _ _ _
     | exact psalteryref22_Floors.mono _ _
     | exact psalteryref22_Posts.mono _ _ _ _ _ _
     | exact psalteryref22_noughts.mono _ _
     | exact LeO.refl _
     | exact LeO.none _
     | refine LeO.ite ?_ ?_
     | refine LeO.bind ?_ (fun _ => ?_)
theorem psalteryref22_Encode.mono : ∀ a0 a1 a2 a3 a4 k, LeO (psalteryref22_Encode.f k a0 a1 a2 a3 a4) (psalteryref22_Encode.f (k + 1) a0 a1 a2 a3 a4) := by
  intro a0 a1 a2 a3 a4 k
  obtain ⟨ih0, ih1⟩ := psalteryref22_Encode.mono_l k
  unfold psalteryref22_Encode.f
  with_reducible repeat' first
   | exact ih0 _ _ _ _ _ _ _ _ _
   | exact ih1 _ _ _ _ _
   | exact psalteryref21_Quantize.mono _ _ _
   | exact psalteryref22_Floors.mono _ _
   | exact psalteryref22_Posts.mono _ _ _ _ _ _
   | exact psalteryref22_noughts.mono _ _
   | exact LeO.refl _
   | exact LeO.none _
   | refine LeO.ite ?_ ?_
   | refine LeO.bind ?_ (fun _ => ?_)
end Go.Proofs.Ytdajlfijkbafiaa.P
namespace Go.Proofs.Ytdajlfijkbafiaa.LB
open Go.RowKit Go.Proofs.YtdajlfijkbafiaaW.PrintWords Go.Proofs.YtdajlfijkbafiaaW.PrintLast
theorem w64 {x : Int} (h : -9223372036854775808 ≤ x) (h' : x ≤ 9223372036854775807) : wrap64 x = x := by unfold wrap64; omega
theorem u64w {x : Int} (h : 0 ≤ x) (h' : x < 18446744073709551616) : IntKind.u64.wrap x = x := by
  simp only [IntKind.wrap, IntKind.bits, IntKind.signed]; simp; omega
theorem tdiv_nn {a : Int} (b : Int) (h : 0 ≤ a) : Int.tdiv a b = a / b := Int.tdiv_eq_ediv_of_nonneg h
theorem tmod_nn {a : Int} (b : Int) (h : 0 ≤ a) : Int.tmod a b = a % b := Int.tmod_eq_emod_of_nonneg h
theorem u64_eq (x : Int) : IntKind.u64.wrap x = x % 18446744073709551616 := by simp [IntKind.wrap, IntKind.bits, IntKind.signed]
theorem wrap64_eq (x : Int) : wrap64 x = (x + 9223372036854775808) % 18446744073709551616 - 9223372036854775808 := by unfold wrap64; omega
theorem or_join {x y : Int} {i : Nat} (hx : 0 ≤ x) (hx' : x < 18446744073709551616) (hm : x % 2 ^ i = 0) (hy : 0 ≤ y) (hy' : y < 2 ^ i) (hy2 : y < 18446744073709551616) : Go.bits .or .u64 x y = x + y := by
  have hc : ((2 : Int) ^ i) = ((2 ^ i : Nat) : Int) := by simp
  have hp : 0 < 2 ^ i := Nat.pow_pos (n := i) (by omega : 0 < 2)
  rw [u64_or x y hx hx' hy hy2]
  rw [hc] at hm hy'
  have h0 : ((x.toNat % 2 ^ i : Nat) : Int) = 0 := by rw [Int.natCast_emod, Int.toNat_of_nonneg hx]; exact hm
  rw [nat_join i _ _ (by omega) (by omega), Int.natCast_add]; omega
end Go.Proofs.Ytdajlfijkbafiaa.LB
namespace Go.Proofs.Ytdajlfijkbafiaa.LW
open Go.RowKit Go.Proofs.YtdajlfijkbafiaaW.PrintWords Go.Proofs.YtdajlfijkbafiaaW.PrintLast Go.Proofs.YtdajlfijkbafiaaW.PrintMore Go.Proofs.Ytdajlfijkbafiaa.P Go.Proofs.Ytdajlfijkbafiaa.LB
def IsSet (fl : List Int) (g s : Int) : Prop := 0 ≤ s ∧ s < (fl.length : Int) ∧ 0 < rd fl s ∧ ((s ≤ g ∧ ∀ t : Int, s < t → t ≤ g → t < (fl.length : Int) → ¬ 0 < rd fl t) ∨ (g < s ∧ ∀ t : Int, 0 ≤ t → t < s → ¬ 0 < rd fl t))
theorem isSet_unique {fl : List Int} {g s t : Int} (h : IsSet fl g s) (h' : IsSet fl g t) : s = t := by
  obtain ⟨a1, a2, a3, a4⟩ := h
  obtain ⟨b1, b2, b3, b4⟩ := h'
  rcases Int.lt_trichotomy s t with c | c | c
  · exfalso
    rcases a4 with ⟨a4, a5⟩ | ⟨a4, a5⟩
    · rcases b4 with ⟨b4, b5⟩ | ⟨b4, b5⟩
      · exact a5 t c b4 b2 b3
      · exact b5 s a1 c a3
    · rcases b4 with ⟨b4, b5⟩ | ⟨b4, b5⟩
      · omega
      · exact b5 s a1 c a3
  · exact c
  · exfalso
    rcases b4 with ⟨b4, b5⟩ | ⟨b4, b5⟩
    · rcases a4 with ⟨a4, a5⟩ | ⟨a4, a5⟩
      · exact b5 s c a4 a2 a3
      · exact a5 t b1 c b3
    · rcases a4 with ⟨a4, a5⟩ | ⟨a4, a5⟩
      · omega
      · exact a5 t b1 c b3
def Way (fl : List Int) (g i out : Int) : Prop := (out = -1 ∧ ∀ t : Int, 0 ≤ t → t < i → ¬ 0 < rd fl t) ∨ (0 ≤ out ∧ out < i ∧ 0 < rd fl out ∧ ((out ≤ g ∧ ∀ t : Int, out < t → t ≤ g → t < i → ¬ 0 < rd fl t) ∨ (g < out ∧ ∀ t : Int, 0 ≤ t → t < out → ¬ 0 < rd fl t)))
theorem settled_loop (fl : List Int) (g : Int) (hl : fl.length ≤ 1000) (d : Nat) : ∀ (i k : Nat) (out : Int), i + d = fl.length → d < k → Way fl g i out → ∃ s, vcodec_codec_settled.l0 k g out fl (fl.length : Int) (i : Int) = some s ∧ Way fl g (fl.length : Int) s := by
  induction d with
  | zero =>
    intro i k out hi hk hw
    obtain ⟨k, rfl⟩ : ∃ j, k = j + 1 := ⟨k - 1, by omega⟩
    refine ⟨out, ?_, by rwa [show (fl.length : Int) = (i : Int) by omega]⟩
    simp only [vcodec_codec_settled.l0]
    rw [if_neg (by omega)]
  | succ d ih =>
    intro i k out hi hk hw
    obtain ⟨k, rfl⟩ : ∃ j, k = j + 1 := ⟨k - 1, by omega⟩
    have nx := fun out => ih (i + 1) k out (by omega) (by omega)
    simp only [vcodec_codec_settled.l0]
    rw [if_pos (by omega), if_pos (by omega), if_pos (by omega), w64 (x := (i : Int) + 1) (by omega) (by omega), show (i : Int) + 1 = ((i + 1 : Nat) : Int) by omega]
    by_cases c : rd fl (i : Int) > 0
    · rw [if_pos c]
      rcases hw with ⟨h1, h2⟩ | ⟨h0, h1, h2, h3⟩
      · rw [if_pos (by omega)]
        refine nx (i : Int) (.inr ⟨by omega, by omega, c, ?_⟩)
        by_cases e : (i : Int) ≤ g
        · exact .inl ⟨e, fun t ht _ ht' => by omega⟩
        · exact .inr ⟨by omega, h2⟩
      · rw [if_neg (by omega)]
        by_cases e : (i : Int) ≤ g
        · rw [if_pos e]
          exact nx (i : Int) (.inr ⟨by omega, by omega, c, .inl ⟨e, fun t ht _ ht' => by omega⟩⟩)
        · rw [if_neg e]
          refine nx out (.inr ⟨h0, by omega, h2, ?_⟩)
          rcases h3 with ⟨h3, h4⟩ | h3
          · exact .inl ⟨h3, fun t ht ht' _ => h4 t ht ht' (by omega)⟩
          · exact .inr h3
    · rw [if_neg c]
      have hz : ∀ t : Int, t = (i : Int) → ¬ 0 < rd fl t := fun t e => by rw [e]; exact c
      refine nx out ?_
      rcases hw with ⟨h1, h2⟩ | ⟨h0, h1, h2, h3⟩
      · refine .inl ⟨h1, fun t ht ht' => ?_⟩
        by_cases e : t = (i : Int)
        · exact hz t e
        · exact h2 t ht (by omega)
      · refine .inr ⟨h0, by omega, h2, ?_⟩
        rcases h3 with ⟨h3, h4⟩ | h3
        · refine .inl ⟨h3, fun t ht ht' ht2 => ?_⟩
          by_cases e : t = (i : Int)
          · exact hz t e
          · exact h4 t ht ht' (by omega)
        · exact .inr h3
theorem settled_is (c q : Int) (fl rs : List Int) (g : Int) (hl : fl.length ≤ 1000) (hu : ∃ u : Nat, u < fl.length ∧ 0 < rd fl (u : Int)) (k : Nat) (hk : fl.length < k) : ∃ s, vcodec_codec_settled.f k c q fl rs g = some s ∧ IsSet fl g s := by
  unfold vcodec_codec_settled.f
  obtain ⟨s, h1, h2⟩ := settled_loop fl g hl fl.length 0 k (-1) (by omega) hk (.inl ⟨rfl, fun t ht ht' => by omega⟩)
  refine ⟨s, h1, ?_⟩
  obtain ⟨u, u1, u2⟩ := hu
  rcases h2 with ⟨_, h2⟩ | ⟨a, b, c, d⟩
  · exact absurd u2 (h2 (u : Int) (by omega) (by omega))
  · exact ⟨a, b, c, d⟩
def setl (fl : List Int) (g : Int) : Int := (vcodec_codec_settled.f 2000 0 0 fl [] g).getD 0
theorem setl_is {fl : List Int} (g : Int) (hl : fl.length ≤ 1000) (hu : ∃ u : Nat, u < fl.length ∧ 0 < rd fl (u : Int)) : IsSet fl g (setl fl g) := by
  obtain ⟨s, h1, h2⟩ := settled_is 0 0 fl [] g hl hu 2000 (by omega)
  unfold setl
  rw [h1]; exact h2
theorem settled_eq (c q : Int) (fl rs : List Int) (g : Int) (hl : fl.length ≤ 1000) (hu : ∃ u : Nat, u < fl.length ∧ 0 < rd fl (u : Int)) (k : Nat) (hk : fl.length < k) : vcodec_codec_settled.f k c q fl rs g = some (setl fl g) := by
  obtain ⟨s, h1, h2⟩ := settled_is c q fl rs g hl hu k hk
  rw [h1, isSet_unique h2 (setl_is g hl hu)]
end Go.Proofs.Ytdajlfijkbafiaa.LW
namespace Go.Proofs.Ytdajlfijkbafiaa.NT
def IsRoot (n s : Int) : Prop := 0 ≤ s ∧ s * s ≤ n ∧ n < (s + 1) * (s + 1)
theorem sq_mono {x y : Int} (h0 : 0 ≤ x) (h : x ≤ y) : x * x ≤ y * y := Int.mul_le_mul h h h0 (by omega)
theorem root_mono {n m s t : Int} (hs : IsRoot n s) (ht : IsRoot m t) (h : n ≤ m) : s ≤ t := by
  apply Decidable.byContradiction; intro hc
  have := sq_mono (x := t + 1) (y := s) (by have := ht.1; omega) (by omega)
  have h1 := hs.2.1; have h2 := ht.2.2; omega
theorem root_unique {n s t : Int} (hs : IsRoot n s) (ht : IsRoot n t) : s = t :=
  Int.le_antisymm (root_mono hs ht (Int.le_refl _)) (root_mono ht hs (Int.le_refl _))
theorem le_div_iff {t n : Int} (h : 0 < t) : t ≤ n / t ↔ t * t ≤ n := by
  rw [Int.le_ediv_iff_mul_le h]
def lg (n : Nat) : Int := if h : n = 0 then -1 else 1 + lg (n / 2)
theorem lg_zero : lg 0 = -1 := by rw [lg]; simp
theorem lg_pos {n : Nat} (h : 0 < n) : lg n = 1 + lg (n / 2) := by rw [lg, dif_neg (by omega)]
theorem lg_mono (n : Nat) : ∀ m, n ≤ m → lg n ≤ lg m := by
  induction n using Nat.strongRecOn with
  | _ n ih =>
    intro m h
    have hm1 : ∀ m : Nat, -1 ≤ lg m := by
      intro m
      induction m using Nat.strongRecOn with
      | _ m ihm =>
        by_cases e : m = 0
        · subst e; rw [lg_zero]; omega
        · rw [lg_pos (by omega)]; have := ihm (m / 2) (by omega); omega
    by_cases e : n = 0
    · subst e; rw [lg_zero]; exact hm1 m
    · rw [lg_pos (by omega), lg_pos (n := m) (by omega)]
      have := ih (n / 2) (by omega) (m / 2) (by omega); omega
theorem lg_lower (n : Nat) : -1 ≤ lg n := by have := lg_mono 0 n (by omega); rwa [lg_zero] at this
def near (a b : Int) : Int := if 0 ≤ a then (2 * a + b) / (2 * b) else -((2 * (-a) + b) / (2 * b))
theorem fl {x y : Int} (h : 0 < y) : y * (x / y) ≤ x ∧ x < y * (x / y) + y := by
  have h1 := Int.mul_ediv_add_emod x y
  have h2 := Int.emod_nonneg x (show y ≠ 0 by omega)
  have h3 := Int.emod_lt_of_pos x h
  omega
theorem near_pos {a b : Int} (hb : 0 < b) (ha : 0 ≤ a) : near a b = if a % b ≥ b - a % b then a / b + 1 else a / b := by
  unfold near; rw [if_pos ha]
  have h1 := Int.mul_ediv_add_emod a b
  have h2 := Int.emod_nonneg a (show b ≠ 0 by omega)
  have h3 := Int.emod_lt_of_pos a hb
  split
  · apply Int.le_antisymm
    · apply Int.le_of_lt_add_one
      apply Int.ediv_lt_of_lt_mul (by omega)
      rw [show (a / b + 1 + 1) * (2 * b) = 2 * (b * (a / b)) + 4 * b by rw [Int.add_mul, Int.add_mul]; rw [show a / b * (2 * b) = 2 * (b * (a / b)) by rw [Int.mul_comm (a / b), Int.mul_assoc]]; omega]
      omega
    · rw [Int.le_ediv_iff_mul_le (by omega)]
      rw [show (a / b + 1) * (2 * b) = 2 * (b * (a / b)) + 2 * b by rw [Int.add_mul]; rw [show a / b * (2 * b) = 2 * (b * (a / b)) by rw [Int.mul_comm (a / b), Int.mul_assoc]]; omega]
      omega
  · apply Int.le_antisymm
    · apply Int.le_of_lt_add_one
      apply Int.ediv_lt_of_lt_mul (by omega)
      rw [show (a / b + 1) * (2 * b) = 2 * (b * (a / b)) + 2 * b by rw [Int.add_mul]; rw [show a / b * (2 * b) = 2 * (b * (a / b)) by rw [Int.mul_comm (a / b), Int.mul_assoc]]; omega]
      omega
    · rw [Int.le_ediv_iff_mul_le (by omega)]
      rw [show a / b * (2 * b) = 2 * (b * (a / b)) by rw [Int.mul_comm (a / b), Int.mul_assoc]]
      omega
theorem near_neg {a b : Int} (ha : a < 0) : near a b = - near (-a) b := by
  unfold near; rw [if_neg (by omega), if_pos (by omega)]
theorem near_bound {a b : Int} (hb : 0 < b) : (0 ≤ a → 0 ≤ near a b ∧ near a b ≤ a) ∧ (a ≤ 0 → near a b ≤ 0 ∧ a ≤ near a b) := by
  have hp : ∀ x : Int, 0 ≤ x → 0 ≤ (2 * x + b) / (2 * b) ∧ (2 * x + b) / (2 * b) ≤ x := by
    intro x hx
    refine ⟨Int.ediv_nonneg (by omega) (by omega), ?_⟩
    apply Int.le_of_lt_add_one
    apply Int.ediv_lt_of_lt_mul (by omega)
    have : x * 1 ≤ x * b := Int.mul_le_mul_of_nonneg_left (by omega) hx
    rw [show (x + 1) * (2 * b) = 2 * (x * b) + 2 * b by rw [Int.add_mul]; rw [show x * (2 * b) = 2 * (x * b) by rw [Int.mul_left_comm]]; omega]
    omega
  unfold near
  constructor
  · intro h; rw [if_pos h]; exact hp a h
  · intro h; split
    · have : a = 0 := by omega
      subst this; have := hp 0 (by omega); omega
    · have := hp (-a) (by omega); omega
end Go.Proofs.Ytdajlfijkbafiaa.NT
namespace Go.Proofs.Ytdajlfijkbafiaa.LB
open Go.RowKit Go.Proofs.YtdajlfijkbafiaaW.PrintWords Go.Proofs.YtdajlfijkbafiaaW.PrintLast Go.Proofs.Ytdajlfijkbafiaa.P Go.Proofs.Ytdajlfijkbafiaa.NT
theorem pow_succ' (m : Nat) : (2 : Int) ^ (m + 1) = 2 * 2 ^ m := by rw [Int.pow_succ, Int.mul_comm]
theorem sqrt_loop (n : Int) (h0 : 0 ≤ n) (hn : n < 18446744073709551616) (m : Nat) : ∀ (k : Nat) (r a : Int), r = a * 2 ^ m → 0 ≤ a → r * r ≤ n → n < (r + 2 ^ m) * (r + 2 ^ m) → r + 2 ^ m ≤ 4294967296 → m < k →
    ∃ s, num_Sqrt.l0 k n r (if m = 0 then 0 else 2 ^ (m - 1)) = some s ∧ IsRoot n s := by
  induction m with
  | zero =>
    intro k r a hr ha h1 h2 h3 hk
    obtain ⟨k, rfl⟩ : ∃ m, k = m + 1 := ⟨k - 1, by omega⟩
    simp only [num_Sqrt.l0]
    exact ⟨r, by rw [if_neg (by simp)], by simp at hr; omega, h1, by simpa using h2⟩
  | succ m ih =>
    intro k r a hr ha h1 h2 h3 hk
    obtain ⟨k, rfl⟩ : ∃ m, k = m + 1 := ⟨k - 1, by omega⟩
    simp only [num_Sqrt.l0]
    have hq : (0 : Int) < 2 ^ m := Int.pow_pos (by omega)
    have hp := pow_succ' m
    rw [hp] at hr h2 h3
    have hr' : r = (2 * a) * 2 ^ m := by rw [hr, Int.mul_left_comm, ← Int.mul_assoc]
    have hr0 : 0 ≤ r := by rw [hr']; exact Int.mul_nonneg (by omega) (by omega)
    have hor : Go.bits .or .u64 r (2 ^ m) = r + 2 ^ m := by
      refine or_join (i := m + 1) hr0 (by omega) ?_ (by omega) (by omega) (by omega)
      rw [hp, hr]; exact Int.mul_emod_left _ _
    rw [if_neg (Nat.succ_ne_zero m), Nat.add_sub_cancel, if_pos hq, hor, if_neg (by omega), tdiv_nn _ h0]
    have hd0 : 0 ≤ n / (r + 2 ^ m) := Int.ediv_nonneg h0 (by omega)
    have hd1 : n / (r + 2 ^ m) ≤ n := Int.ediv_le_self _ h0
    have hbit : (2 : Int) ^ m / 2 = if m = 0 then 0 else 2 ^ (m - 1) := by
      cases m with
      | zero => simp
      | succ m => rw [if_neg (Nat.succ_ne_zero m), pow_succ' m, Nat.add_sub_cancel]; omega
    rw [u64w hd0 (by omega), hbit]
    by_cases hc : r + 2 ^ m ≤ n / (r + 2 ^ m)
    · rw [if_pos hc]
      rw [le_div_iff (by omega)] at hc
      refine ih k (r + 2 ^ m) (2 * a + 1) (by rw [Int.add_mul, ← hr', Int.one_mul]) (by omega) hc ?_ (by omega) (by omega)
      rwa [show r + 2 ^ m + 2 ^ m = r + 2 * 2 ^ m by omega]
    · rw [if_neg hc]
      rw [le_div_iff (by omega)] at hc
      exact ih k r (2 * a) hr' (by omega) h1 (by omega) (by omega) (by omega)
theorem sqrt_eq {n : Int} (h0 : 0 ≤ n) (hn : n < 18446744073709551616) (k : Nat) (hk : 32 < k) : ∃ s, num_Sqrt.f k n = some s ∧ IsRoot n s := by
  have := sqrt_loop n h0 hn 32 k 0 0 (by simp) (by omega) (by omega) (by simp; omega) (by simp) hk
  unfold num_Sqrt.f
  simpa using this
end Go.Proofs.Ytdajlfijkbafiaa.LB
namespace Go.Proofs.Ytdajlfijkbafiaa.LF
open Go.RowKit Go.Proofs.YtdajlfijkbafiaaW.PrintWords Go.Proofs.YtdajlfijkbafiaaW.PrintLast Go.Proofs.Ytdajlfijkbafiaa.P Go.Proofs.Ytdajlfijkbafiaa.LB Go.Proofs.Ytdajlfijkbafiaa.NT
theorem pow_lt44 {n : Nat} (h : n ≤ 43) : (2 : Int) ^ n ≤ 8796093022208 ∧ (0 : Int) < 2 ^ n := by
  have h1 : (2 : Nat) ^ n ≤ 2 ^ 43 := Nat.pow_le_pow_right (by omega) h
  have h2 : (0 : Nat) < 2 ^ n := Nat.pow_pos (by omega)
  have e : (2 : Int) ^ n = ((2 ^ n : Nat) : Int) := by rw [Int.natCast_pow]; rfl
  rw [e]; omega
theorem root_le {n s : Int} (h : IsRoot n s) : s ≤ n := by
  obtain ⟨h0, h1, _⟩ := h
  by_cases c : s = 0
  · subst c; omega
  · have : s * 1 ≤ s * s := Int.mul_le_mul_of_nonneg_left (by omega) h0
    omega
theorem value_root (g : Int) (h : 1 ≤ g ∧ g ≤ 44) (k : Nat) (hk : 40 < k) : ∃ s, band_Value.f k g = some s ∧ IsRoot (2 ^ (g - 1).toNat) s := by
  have hp := pow_lt44 (n := (g - 1).toNat) (by omega)
  obtain ⟨s, h1, h2⟩ := sqrt_eq (n := 2 ^ (g - 1).toNat) (by omega) (by omega) k (by omega)
  have h3 := root_le h2
  refine ⟨s, ?_, h2⟩
  unfold band_Value.f
  rw [if_neg (by omega), if_neg (by omega), w64 (x := g - 1) (by omega) (by omega), if_pos (by omega)]
  have e : shl .u64 1 (g - 1) = 2 ^ (g - 1).toNat := by
    unfold shl
    rw [Nat.min_eq_left (by simp [IntKind.bits]; omega), Int.one_mul, u64w (by omega) (by omega)]
  rw [e, h1]
  simp only [Option.bind_some]
  rw [w64 (by have := h2.1; omega) (by omega)]
def val (g : Int) : Int := (band_Value.f 100 g).getD 0
theorem val_eq (g : Int) (k : Nat) (hk : 40 < k) : band_Value.f k g = some (val g) := by
  unfold val
  by_cases h : 1 ≤ g ∧ g ≤ 44
  · obtain ⟨s, h1, h2⟩ := value_root g h k hk
    obtain ⟨t, h3, h4⟩ := value_root g h 100 (by omega)
    rw [h1, h3, root_unique h2 h4]; rfl
  · unfold band_Value.f
    by_cases c : g < 1
    · rw [if_pos c, if_pos c]; rfl
    · rw [if_neg c, if_neg c, if_pos (by omega), if_pos (by omega)]; rfl
theorem val_zero (g : Int) (h : g < 1) : val g = 0 := by unfold val band_Value.f; rw [if_pos h]; rfl
theorem val_nonneg (g : Int) : 0 ≤ val g := by
  by_cases h : 1 ≤ g ∧ g ≤ 44
  · obtain ⟨t, h3, h4⟩ := value_root g h 101 (by omega)
    rw [val_eq g 101 (by omega)] at h3
    rw [Option.some.inj h3]; exact h4.1
  · unfold val band_Value.f
    by_cases c : g < 1
    · rw [if_pos c]; exact Int.le_refl _
    · rw [if_neg c, if_pos (by omega)]; exact Int.le_refl _
theorem val_mono {g h : Int} (h0 : g ≤ h) (h1 : h ≤ 44) : val g ≤ val h := by
  by_cases c : g < 1
  · rw [val_zero g c]; exact val_nonneg h
  obtain ⟨s, a1, a2⟩ := value_root g (by omega) 101 (by omega)
  obtain ⟨t, b1, b2⟩ := value_root h (by omega) 101 (by omega)
  rw [val_eq g 101 (by omega)] at a1
  rw [val_eq h 101 (by omega)] at b1
  rw [Option.some.inj a1, Option.some.inj b1]
  refine root_mono a2 b2 ?_
  have : (2 : Nat) ^ (g - 1).toNat ≤ 2 ^ (h - 1).toNat := Nat.pow_le_pow_right (by omega) (by omega)
  have e : ∀ n : Nat, (2 : Int) ^ n = ((2 ^ n : Nat) : Int) := fun n => by rw [Int.natCast_pow]; rfl
  rw [e, e]; omega
end Go.Proofs.Ytdajlfijkbafiaa.LF
namespace Go.Proofs.Ytdajlfijkbafiaa.LB
open Go.RowKit Go.Proofs.YtdajlfijkbafiaaW.PrintWords Go.Proofs.YtdajlfijkbafiaaW.PrintLast Go.Proofs.Ytdajlfijkbafiaa.P Go.Proofs.Ytdajlfijkbafiaa.NT
theorem log_loop (m : Nat) : ∀ (k : Nat) (n c : Int), 0 ≤ n → n < 2 ^ m → -1 ≤ c → c + m ≤ 1000 → m < k → num_Log2.l0 k n c = some (c + 1 + lg n.toNat) := by
  induction m with
  | zero =>
    intro k n c h0 h1 h2 h3 hk
    obtain ⟨k, rfl⟩ : ∃ m, k = m + 1 := ⟨k - 1, by omega⟩
    simp only [num_Log2.l0]
    simp only [Int.pow_zero] at h1
    rw [if_neg (by omega), show n.toNat = 0 by omega, lg_zero]; congr 1; omega
  | succ m ih =>
    intro k n c h0 h1 h2 h3 hk
    obtain ⟨k, rfl⟩ : ∃ m, k = m + 1 := ⟨k - 1, by omega⟩
    simp only [num_Log2.l0]
    rw [pow_succ'] at h1
    by_cases h : n > 0
    · rw [if_pos h, w64 (by omega) (by omega), ih k (n / 2) (c + 1) (by omega) (by omega) (by omega) (by omega) (by omega), lg_pos (n := n.toNat) (by omega), show (n / 2).toNat = n.toNat / 2 by omega]
      congr 1; omega
    · rw [if_neg h, show n.toNat = 0 by omega, lg_zero]; congr 1; omega
theorem log_eq {n : Int} (h0 : 0 ≤ n) (hn : n < 18446744073709551616) (k : Nat) (hk : 64 < k) : num_Log2.f k n = some (lg n.toNat) := by
  unfold num_Log2.f
  rw [log_loop 64 k n (-1) h0 (by simpa using hn) (by omega) (by omega) hk]; congr 1; omega
theorem lg_upper (m : Nat) : ∀ n : Nat, n < 2 ^ m → lg n < m := by
  induction m with
  | zero => intro n h; simp at h; subst h; rw [lg_zero]; omega
  | succ m ih =>
    intro n h
    by_cases e : n = 0
    · subst e; rw [lg_zero]; omega
    · rw [lg_pos (by omega)]; rw [Nat.pow_succ] at h; have := ih (n / 2) (by omega); omega
end Go.Proofs.Ytdajlfijkbafiaa.LB
namespace Go.Proofs.Ytdajlfijkbafiaa.LQ
open Go.RowKit Go.Proofs.YtdajlfijkbafiaaW.PrintWords Go.Proofs.YtdajlfijkbafiaaW.PrintLast Go.Proofs.YtdajlfijkbafiaaW.PrintMore Go.Proofs.Ytdajlfijkbafiaa.P Go.Proofs.Ytdajlfijkbafiaa.LB Go.Proofs.Ytdajlfijkbafiaa.NT Go.Proofs.Ytdajlfijkbafiaa.LF
theorem rd_mid (l r : List Int) (x : Int) : rd (l ++ x :: r) (l.length : Int) = x := by simp [rd]
def inc : List Int → Bool
  | [] => true
  | v :: l => decide (-1048576 ≤ v ∧ v ≤ 1048576) && inc l
theorem inc_mem : ∀ {l : List Int}, inc l = true → ∀ x ∈ l, -1048576 ≤ x ∧ x ≤ 1048576
  | [], _, x, hx => by cases hx
  | v :: l, h, x, hx => by
    simp only [inc, Bool.and_eq_true, decide_eq_true_eq] at h
    rcases List.mem_cons.1 hx with rfl | hx
    · exact h.1
    · exact inc_mem h.2 x hx
theorem inc_of : ∀ {l : List Int}, (∀ x ∈ l, -1048576 ≤ x ∧ x ≤ 1048576) → inc l = true
  | [], _ => rfl
  | v :: l, h => by
    simp only [inc, Bool.and_eq_true, decide_eq_true_eq]
    exact ⟨h v (List.mem_cons_self ..), inc_of fun x hx => h x (List.mem_cons_of_mem _ hx)⟩
def fairL (l : List Int) : Bool := inc l && decide (1 ≤ l.length ∧ l.length ≤ 16)
def sq : List Int → Int
  | [] => 0
  | v :: l => v * v + sq l
theorem sq_one {v : Int} (h : -1048576 ≤ v ∧ v ≤ 1048576) : 0 ≤ v * v ∧ v * v ≤ 1099511627776 := by
  constructor
  · rcases Int.le_total 0 v with c | c
    · exact Int.mul_nonneg c c
    · rw [← Int.neg_mul_neg]; exact Int.mul_nonneg (by omega) (by omega)
  · rcases Int.le_total 0 v with c | c
    · have := sq_mono (x := v) (y := 1048576) c h.2; omega
    · have := sq_mono (x := -v) (y := 1048576) (by omega) (by omega); rw [Int.neg_mul_neg] at this; omega
theorem sq_bound : ∀ {l : List Int}, inc l = true → 0 ≤ sq l ∧ sq l ≤ 1099511627776 * (l.length : Int)
  | [], _ => ⟨Int.le_refl _, Int.le_refl _⟩
  | v :: l, h => by
    simp only [inc, Bool.and_eq_true, decide_eq_true_eq] at h
    have h1 := sq_one h.1
    have h2 := sq_bound h.2
    simp only [sq, List.length_cons]; omega
theorem fair_loop (whole : List Int) : ∀ (s p : List Int) (k : Nat), p.length + s.length ≤ maxLen → s.length < k →
    pvq_fair.l0 k whole (p ++ s) ((p ++ s).length : Int) (p.length : Int) = some (inc s && decide (1 ≤ whole.length ∧ whole.length ≤ 16))
  | [], p, k, hn, hk => by
    obtain ⟨k, rfl⟩ : ∃ j, k = j + 1 := ⟨k - 1, by omega⟩
    simp only [pvq_fair.l0, List.append_nil, inc, Bool.true_and]
    rw [if_neg (by omega)]
    by_cases c : 1 ≤ whole.length
    · rw [if_pos (by omega)]; congr 1; rw [decide_eq_decide]; omega
    · rw [if_neg (by omega), decide_eq_false (by omega)]
  | v :: s, p, k, hn, hk => by
    have hM : (maxLen : Int) = 9223372036854775807 := rfl
    obtain ⟨k, rfl⟩ : ∃ j, k = j + 1 := ⟨k - 1, by omega⟩
    simp only [List.length_cons] at hn hk
    have hlen : ((p ++ v :: s).length : Int) = p.length + s.length + 1 := by simp only [List.length_append, List.length_cons]; omega
    simp only [pvq_fair.l0]
    rw [if_pos (by omega), if_pos (by omega), if_pos (by omega), rd_mid]
    unfold num_Clamp.f
    by_cases c : -1048576 ≤ v ∧ v ≤ 1048576
    · rw [if_neg (by omega), if_neg (by omega), show inc (v :: s) = inc s by simp only [inc, decide_eq_true c, Bool.true_and]]
      simp only [Option.bind_some, if_true]
      rw [w64 (by omega) (by omega)]
      have ih := fair_loop whole s (p ++ [v]) k (by simp only [List.length_append, List.length_cons, List.length_nil]; omega) (by omega)
      simp only [List.append_assoc, List.singleton_append] at ih
      rw [show (((p ++ [v]).length : Nat) : Int) = (p.length : Int) + 1 by simp only [List.length_append, List.length_cons, List.length_nil]; omega] at ih
      exact ih
    · rw [show inc (v :: s) = false by simp only [inc, decide_eq_false c, Bool.false_and], Bool.false_and]
      by_cases c1 : v < -1048576
      · rw [if_pos c1]; simp only [Option.bind_some]; rw [if_neg (by omega)]
      · rw [if_neg c1, if_pos (by omega)]; simp only [Option.bind_some]; rw [if_neg (by omega)]
theorem fair_eq (l : List Int) (hl : l.length ≤ maxLen) (k : Nat) (hk : l.length < k) : pvq_fair.f k l = some (fairL l) := by
  unfold pvq_fair.f
  have := fair_loop l l [] k (by simpa using hl) hk
  simp only [List.nil_append, List.length_nil] at this
  rw [show ((0 : Nat) : Int) = 0 from rfl] at this
  exact this
theorem square_loop : ∀ (s p : List Int) (a : Int) (k : Nat), inc s = true → p.length + s.length ≤ 16 → 0 ≤ a → a ≤ 1099511627776 * (p.length : Int) → s.length < k →
    pvq_Square.l0 k a (p ++ s) ((p ++ s).length : Int) (p.length : Int) = some (a + sq s, 0)
  | [], p, a, k, hc, hn, h0, h1, hk => by
    obtain ⟨k, rfl⟩ : ∃ j, k = j + 1 := ⟨k - 1, by omega⟩
    simp only [pvq_Square.l0, List.append_nil, sq]
    rw [if_neg (by omega), Int.add_zero]
  | v :: s, p, a, k, hc, hn, h0, h1, hk => by
    obtain ⟨k, rfl⟩ : ∃ j, k = j + 1 := ⟨k - 1, by omega⟩
    simp only [List.length_cons] at hn hk
    simp only [inc, Bool.and_eq_true, decide_eq_true_eq] at hc
    have hv := sq_one hc.1
    have hlen : ((p ++ v :: s).length : Int) = p.length + s.length + 1 := by simp only [List.length_append, List.length_cons]; omega
    simp only [pvq_Square.l0]
    rw [if_pos (by omega), if_pos (by omega), if_pos (by omega), rd_mid, w64 (x := v * v) (by omega) (by omega), u64w (x := v * v) (by omega) (by omega), u64w (by omega) (by omega), w64 (by omega) (by omega)]
    have ih := square_loop s (p ++ [v]) (a + v * v) k hc.2 (by simp only [List.length_append, List.length_cons, List.length_nil]; omega) (by omega) (by simp only [List.length_append, List.length_cons, List.length_nil]; omega) (by omega)
    simp only [List.append_assoc, List.singleton_append] at ih
    rw [show (((p ++ [v]).length : Nat) : Int) = (p.length : Int) + 1 by simp only [List.length_append, List.length_cons, List.length_nil]; omega] at ih
    rw [ih, sq, Int.add_assoc]
theorem square_eq (l : List Int) (hl : l.length ≤ maxLen) (k : Nat) (hk : l.length < k) : pvq_Square.f k l = some (if fairL l = true then (sq l, 0) else (0, 1)) := by
  unfold pvq_Square.f
  rw [fair_eq l hl k hk]
  simp only [Option.bind_some]
  by_cases c : fairL l = true
  · rw [if_pos c, if_pos c]
    have c' := c
    simp only [fairL, Bool.and_eq_true, decide_eq_true_eq] at c'
    have := square_loop l [] 0 k c'.1 (by simp only [List.length_nil]; omega) (Int.le_refl _) (by simp) hk
    simp only [List.nil_append, List.length_nil, Int.zero_add] at this
    rw [show ((0 : Nat) : Int) = 0 from rfl] at this
    exact this
  · rw [if_neg c, if_neg c]
theorem refFair_loop : ∀ (s p : List Int) (ok : Bool) (k : Nat), p.length + s.length ≤ maxLen → s.length < k →
    psalteryref07_Fair.l0 k (p ++ s) ok (p.length : Int) = some (ok && inc s)
  | [], p, ok, k, hn, hk => by
    obtain ⟨k, rfl⟩ : ∃ j, k = j + 1 := ⟨k - 1, by omega⟩
    simp only [psalteryref07_Fair.l0, List.append_nil, inc, Bool.and_true]
    rw [if_neg (by omega)]
  | v :: s, p, ok, k, hn, hk => by
    have hM : (maxLen : Int) = 9223372036854775807 := rfl
    obtain ⟨k, rfl⟩ : ∃ j, k = j + 1 := ⟨k - 1, by omega⟩
    simp only [List.length_cons] at hn hk
    have hlen : ((p ++ v :: s).length : Int) = p.length + s.length + 1 := by simp only [List.length_append, List.length_cons]; omega
    have ih := fun ok => refFair_loop s (p ++ [v]) ok k (by simp only [List.length_append, List.length_cons, List.length_nil]; omega) (by omega)
    simp only [List.append_assoc, List.singleton_append] at ih
    rw [show (((p ++ [v]).length : Nat) : Int) = (p.length : Int) + 1 by simp only [List.length_append, List.length_cons, List.length_nil]; omega] at ih
    simp only [psalteryref07_Fair.l0]
    rw [if_pos (by omega), w64 (by omega) (by omega), rd_mid, ih, ih]
    cases ok
    · rw [if_neg (by simp)]; simp
    · rw [if_pos rfl, if_pos (by omega)]
      by_cases c1 : v ≥ -1048576
      · rw [if_pos c1]
        congr 1
        simp only [inc, Bool.true_and]
        by_cases c2 : v ≤ 1048576
        · rw [decide_eq_true c2, decide_eq_true (by omega)]
        · rw [decide_eq_false c2, decide_eq_false (by omega)]
      · rw [if_neg c1]; simp only [inc]; rw [decide_eq_false (by omega)]; rfl
theorem refFair_eq (l : List Int) (hl : l.length ≤ maxLen) (k : Nat) (hk : l.length + 1 < k) : psalteryref07_Fair.f k l = some (fairL l) := by
  obtain ⟨k, rfl⟩ : ∃ j, k = j + 1 := ⟨k - 1, by omega⟩
  unfold psalteryref07_Fair.f fairL
  have := fun ok => refFair_loop l [] ok k (by simpa using hl) (by omega)
  simp only [List.nil_append, List.length_nil] at this
  rw [show ((0 : Nat) : Int) = 0 from rfl] at this
  simp only [psalteryref07_Fair.j0]
  rw [this, this, Bool.and_comm (inc l)]
  by_cases c : l.length > 0
  · rw [if_pos (by omega)]; congr 2; rw [decide_eq_decide]; omega
  · rw [if_neg (by omega), decide_eq_false (by omega)]
def gn (l : List Int) : Int := lg (sq l).toNat + 1
theorem gn_bound (l : List Int) (h : inc l = true) (hl : l.length ≤ 8) : 0 ≤ gn l ∧ gn l ≤ 44 := by
  have h1 := sq_bound h
  have h2 := lg_lower (sq l).toNat
  have h3 := lg_upper 44 (sq l).toNat (by have : (2 : Nat) ^ 44 = 17592186044416 := by decide
                                          omega)
  unfold gn; omega
theorem gain_eq (l : List Int) (hl : l.length ≤ maxLen) (k : Nat) (hk : l.length + 100 < k) : band_Gain.f k l = some (if fairL l = true ∧ l.length ≤ 8 then (gn l, 0) else (0, 1)) := by
  unfold band_Gain.f
  rw [square_eq l hl k (by omega)]
  simp only [Option.bind_some]
  by_cases c : fairL l = true
  · rw [if_pos c]
    simp only [if_true]
    by_cases c1 : l.length ≤ 8
    · rw [if_neg (by omega), if_pos ⟨c, c1⟩]
      have c' := c
      simp only [fairL, Bool.and_eq_true, decide_eq_true_eq] at c'
      have hb := sq_bound c'.1
      have hg := gn_bound l c'.1 c1
      unfold band_gain.f
      rw [log_eq hb.1 (by omega) k (by omega)]
      simp only [Option.bind_some]
      unfold gn at hg ⊢
      rw [w64 (by omega) (by omega)]
    · rw [if_pos (by omega), if_neg (fun h => c1 h.2)]
  · rw [if_neg c]
    rw [if_neg (show ¬ ((0 : Int), (1 : Int)).2 = 0 by decide), if_neg (fun h => c h.1)]
def frm (b : Int) : Int := if b = 1 then 1 else if b = 2 then 2 else if b = 3 then 4 else if b = 4 then 8 else 0
def wid (b : Int) : Int := if b = 0 then 1 else if b = 1 then 1 else if b = 2 then 2 else if b = 3 then 4 else if b = 4 then 8 else 0
theorem there_eq (b : Int) : band_there.f b = some (decide (0 ≤ b ∧ b < 5)) := by
  unfold band_there.f
  by_cases c : b ≥ 0
  · rw [if_pos c]; congr 1; rw [decide_eq_decide]; omega
  · rw [if_neg c]; congr 1; rw [decide_eq_false (by omega)]
theorem from_eq (b : Int) : band_From.f b = some (frm b) := by
  by_cases c : 0 ≤ b ∧ b < 5
  · have : b = 0 ∨ b = 1 ∨ b = 2 ∨ b = 3 ∨ b = 4 := by omega
    rcases this with rfl | rfl | rfl | rfl | rfl <;> decide +kernel
  · unfold band_From.f frm
    rw [there_eq, decide_eq_false c]
    simp only [Option.bind_some]
    rw [if_neg (by simp), if_neg (by omega), if_neg (by omega), if_neg (by omega), if_neg (by omega)]
theorem width_eq (b : Int) : band_Width.f b = some (wid b) := by
  by_cases c : 0 ≤ b ∧ b < 5
  · have : b = 0 ∨ b = 1 ∨ b = 2 ∨ b = 3 ∨ b = 4 := by omega
    rcases this with rfl | rfl | rfl | rfl | rfl <;> decide +kernel
  · unfold band_Width.f wid
    rw [there_eq, decide_eq_false c]
    simp only [Option.bind_some]
    rw [if_neg (by simp), if_neg (by omega), if_neg (by omega), if_neg (by omega), if_neg (by omega), if_neg (by omega)]
end Go.Proofs.Ytdajlfijkbafiaa.LQ
