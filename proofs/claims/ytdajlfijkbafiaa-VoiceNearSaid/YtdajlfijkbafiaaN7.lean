/- Words, walks and what they compute, as the law's proof needs them. -/
import Derived.Test.YtdajlfijkbafiaaN3
import Derived.Test.YtdajlfijkbafiaaN4
import Derived.Test.YtdajlfijkbafiaaN6
set_option linter.unusedVariables false
set_option linter.unusedSimpArgs false
namespace Go.Proofs.Ytdajlfijkbafiaa.P
open Go.RowKit Go.Proofs.YtdajlfijkbafiaaW.PrintWords Go.Proofs.YtdajlfijkbafiaaW.PrintLast Go.Proofs.YtdajlfijkbafiaaW.PrintMore
attribute [local go_sem] max2_int min2_int max_two min_two max_three min_three max_four min_four
def psalterylaw22_knows.f (k : Nat)  : Option (Bool) := (vhead_Plain.f k 1 0).bind fun bt450 => (if 16 ≤ 35184372088832 then ((some (List.replicate 16 0 : List Int)).bind fun y459 => ((vcodec_Encode.f k bt450.1 bt450.2.1 bt450.2.2.1 bt450.2.2.2 (([y459] : List (List Int)))).bind fun bt465 => (if 0 < (y459.length : Int) then ((vcodec_Encode.f k bt450.1 bt450.2.1 bt450.2.2.1 bt450.2.2.2 (([(y459.set (0 : Int).toNat 5)] : List (List Int)))).bind fun bt477 => ((vcodec_Decode.f k bt450.1 bt450.2.1 bt450.2.2.1 bt450.2.2.2 bt477.1 bt477.2.1).bind fun bt485 => (if bt465.2.2 = 0 then (if (bt465.1.length : Int) = 1 then (if 0 < (bt465.1.length : Int) then (if ((rd_L1 bt465.1 0).length : Int) = 0 then (if bt477.2.2 = 0 then (if (bt477.2.1.length : Int) = 1 then (if 0 < (bt477.2.1.length : Int) then (if ((rd_L2 bt477.2.1 0).length : Int) = 16 then (if 0 < ((rd_L2 bt477.2.1 0).length : Int) then (if (rd (rd_L2 bt477.2.1 0) 0) = 5 then (if 0 < (bt477.1.length : Int) then (if ((rd_L1 bt477.1 0).length : Int) = 6 then (if 0 < ((rd_L1 bt477.1 0).length : Int) then (if (rd (rd_L1 bt477.1 0) 0) = 0 then (if bt485.2 = 0 then (if (bt485.1.length : Int) = 1 then (if 0 < (bt485.1.length : Int) then (if ((rd_L2 bt485.1 0).length : Int) = 16 then (if 0 < ((rd_L2 bt485.1 0).length : Int) then (some ((rd (rd_L2 bt485.1 0) 0) == 5)) else (none)) else (some false)) else (none)) else (some false)) else (some false)) else (some false)) else (none)) else (some false)) else (none)) else (some false)) else (none)) else (some false)) else (none)) else (some false)) else (some false)) else (some false)) else (none)) else (some false)) else (some false)))) else (none)))) else (none))
theorem psalterylaw22_knows.mono : ∀ k, LeO (psalterylaw22_knows.f k ) (psalterylaw22_knows.f (k + 1) ) := by
  intro  k
  unfold psalterylaw22_knows.f
  with_reducible repeat' first
   | exact vcodec_Decode.mono _ _ _ _ _ _ _
   | exact vcodec_Encode.mono _ _ _ _ _ _
   | exact vhead_Plain.mono _ _ _
   | exact LeO.refl _
   | exact LeO.none _
   | refine LeO.ite ?_ ?_
   | refine LeO.bind ?_ (fun _ => ?_)
set_option maxHeartbeats 8000000 in
set_option maxRecDepth 100000 in
theorem psalterylaw22_knows.callsT (k : Nat)  (r : Bool) (w : World) (h : psalterylaw22_knows.f k  = some r) (hT : r = true) :
    Calls Try.prog 13 #[] w fun e w' => e = .returned (.bool r) ∧ Below w.heap.size w w' := by
 have hu24 := Try.underlying24
 have hu37 := Try.underlying37
 have hu28 := Try.underlying28
 have HB := Aside0.mk (Below.refl w.heap.size w)
 have H : ((vhead_Plain.f k 1 0).bind fun bt450 => (if 16 ≤ 35184372088832 then ((some (List.replicate 16 0 : List Int)).bind fun y459 => ((vcodec_Encode.f k bt450.1 bt450.2.1 bt450.2.2.1 bt450.2.2.2 (([y459] : List (List Int)))).bind fun bt465 => (if 0 < (y459.length : Int) then ((vcodec_Encode.f k bt450.1 bt450.2.1 bt450.2.2.1 bt450.2.2.2 (([(y459.set (0 : Int).toNat 5)] : List (List Int)))).bind fun bt477 => ((vcodec_Decode.f k bt450.1 bt450.2.1 bt450.2.2.1 bt450.2.2.2 bt477.1 bt477.2.1).bind fun bt485 => (if bt465.2.2 = 0 then (if (bt465.1.length : Int) = 1 then (if 0 < (bt465.1.length : Int) then (if ((rd_L1 bt465.1 0).length : Int) = 0 then (if bt477.2.2 = 0 then (if (bt477.2.1.length : Int) = 1 then (if 0 < (bt477.2.1.length : Int) then (if ((rd_L2 bt477.2.1 0).length : Int) = 16 then (if 0 < ((rd_L2 bt477.2.1 0).length : Int) then (if (rd (rd_L2 bt477.2.1 0) 0) = 5 then (if 0 < (bt477.1.length : Int) then (if ((rd_L1 bt477.1 0).length : Int) = 6 then (if 0 < ((rd_L1 bt477.1 0).length : Int) then (if (rd (rd_L1 bt477.1 0) 0) = 0 then (if bt485.2 = 0 then (if (bt485.1.length : Int) = 1 then (if 0 < (bt485.1.length : Int) then (if ((rd_L2 bt485.1 0).length : Int) = 16 then (if 0 < ((rd_L2 bt485.1 0).length : Int) then (some ((rd (rd_L2 bt485.1 0) 0) == 5)) else (none)) else (some false)) else (none)) else (some false)) else (some false)) else (some false)) else (none)) else (some false)) else (none)) else (some false)) else (none)) else (some false)) else (none)) else (some false)) else (some false)) else (some false)) else (none)) else (some false)) else (some false)))) else (none)))) else (none))) = some r := h
 clear h
 have HT := Aside0.mk hT
 clear hT
 obtain ⟨⟨t450, t451, t452, t455⟩, A1, H⟩ := ob_ H
 (try dsimp only at H)
 by_cases c2 : 16 ≤ 35184372088832
 {
 rw [if_pos c2] at H
 have c2b0 := eq_true c2
 have c2b1 : decide (16 ≤ 35184372088832) = true := decide_eq_true c2
 clear c2
 obtain ⟨y459, hy459⟩ : ∃ y_ : List Int, y_ = (List.replicate 16 0) := ⟨_, rfl⟩
 replace H : ((vcodec_Encode.f k t450 t451 t452 t455 (([y459] : List (List Int)))).bind fun bt465 => (if 0 < (y459.length : Int) then ((vcodec_Encode.f k t450 t451 t452 t455 (([(y459.set (0 : Int).toNat 5)] : List (List Int)))).bind fun bt477 => ((vcodec_Decode.f k t450 t451 t452 t455 bt477.1 bt477.2.1).bind fun bt485 => (if bt465.2.2 = 0 then (if (bt465.1.length : Int) = 1 then (if 0 < (bt465.1.length : Int) then (if ((rd_L1 bt465.1 0).length : Int) = 0 then (if bt477.2.2 = 0 then (if (bt477.2.1.length : Int) = 1 then (if 0 < (bt477.2.1.length : Int) then (if ((rd_L2 bt477.2.1 0).length : Int) = 16 then (if 0 < ((rd_L2 bt477.2.1 0).length : Int) then (if (rd (rd_L2 bt477.2.1 0) 0) = 5 then (if 0 < (bt477.1.length : Int) then (if ((rd_L1 bt477.1 0).length : Int) = 6 then (if 0 < ((rd_L1 bt477.1 0).length : Int) then (if (rd (rd_L1 bt477.1 0) 0) = 0 then (if bt485.2 = 0 then (if (bt485.1.length : Int) = 1 then (if 0 < (bt485.1.length : Int) then (if ((rd_L2 bt485.1 0).length : Int) = 16 then (if 0 < ((rd_L2 bt485.1 0).length : Int) then (some ((rd (rd_L2 bt485.1 0) 0) == 5)) else (none)) else (some false)) else (none)) else (some false)) else (some false)) else (some false)) else (none)) else (some false)) else (none)) else (some false)) else (none)) else (some false)) else (none)) else (some false)) else (some false)) else (some false)) else (none)) else (some false)) else (some false)))) else (none))) = some r := by first | (rw [hy459]; with_reducible exact H) | (have H2_ := (Option.bind_some _ _).symm.trans H; rw [hy459]; with_reducible exact H2_) | (have H2_ := (Option.bind_some _ _).symm.trans H; with_reducible exact H2_) | with_reducible exact H | (rw [hy459]; exact H) | exact H
 have Ny459 := Aside0.mk hy459
 clear hy459
 obtain ⟨y462, hy462⟩ : ∃ y_ : List (List Int), y_ = (([y459] : List (List Int))) := ⟨_, rfl⟩
 replace H : ((vcodec_Encode.f k t450 t451 t452 t455 y462).bind fun bt465 => (if 0 < (y459.length : Int) then ((vcodec_Encode.f k t450 t451 t452 t455 (([(y459.set (0 : Int).toNat 5)] : List (List Int)))).bind fun bt477 => ((vcodec_Decode.f k t450 t451 t452 t455 bt477.1 bt477.2.1).bind fun bt485 => (if bt465.2.2 = 0 then (if (bt465.1.length : Int) = 1 then (if 0 < (bt465.1.length : Int) then (if ((rd_L1 bt465.1 0).length : Int) = 0 then (if bt477.2.2 = 0 then (if (bt477.2.1.length : Int) = 1 then (if 0 < (bt477.2.1.length : Int) then (if ((rd_L2 bt477.2.1 0).length : Int) = 16 then (if 0 < ((rd_L2 bt477.2.1 0).length : Int) then (if (rd (rd_L2 bt477.2.1 0) 0) = 5 then (if 0 < (bt477.1.length : Int) then (if ((rd_L1 bt477.1 0).length : Int) = 6 then (if 0 < ((rd_L1 bt477.1 0).length : Int) then (if (rd (rd_L1 bt477.1 0) 0) = 0 then (if bt485.2 = 0 then (if (bt485.1.length : Int) = 1 then (if 0 < (bt485.1.length : Int) then (if ((rd_L2 bt485.1 0).length : Int) = 16 then (if 0 < ((rd_L2 bt485.1 0).length : Int) then (some ((rd (rd_L2 bt485.1 0) 0) == 5)) else (none)) else (some false)) else (none)) else (some false)) else (some false)) else (some false)) else (none)) else (some false)) else (none)) else (some false)) else (none)) else (some false)) else (none)) else (some false)) else (some false)) else (some false)) else (none)) else (some false)) else (some false)))) else (none))) = some r := by first | (rw [hy462]; with_reducible exact H) | (have H2_ := (Option.bind_some _ _).symm.trans H; rw [hy462]; with_reducible exact H2_) | (have H2_ := (Option.bind_some _ _).symm.trans H; with_reducible exact H2_) | with_reducible exact H | (rw [hy462]; exact H) | exact H
 have Ny462 := Aside0.mk hy462
 clear hy462
 obtain ⟨⟨t465, t468, t471⟩, A3, H⟩ := ob_ H
 (try dsimp only at H)
 by_cases c4 : 0 < (y459.length : Int)
 {
 rw [if_pos c4] at H
 have c4b0 : decide (0 < (y459.length : Int)) = true := decide_eq_true c4
 have c4b1 : decide (0 < y459.length) = true := decide_eq_true (by omega)
 clear c4
 obtain ⟨y473, hy473⟩ : ∃ y_ : List Int, y_ = (y459.set (0 : Int).toNat 5) := ⟨_, rfl⟩
 replace H : ((vcodec_Encode.f k t450 t451 t452 t455 (([y473] : List (List Int)))).bind fun bt477 => ((vcodec_Decode.f k t450 t451 t452 t455 bt477.1 bt477.2.1).bind fun bt485 => (if t471 = 0 then (if (t465.length : Int) = 1 then (if 0 < (t465.length : Int) then (if ((rd_L1 t465 0).length : Int) = 0 then (if bt477.2.2 = 0 then (if (bt477.2.1.length : Int) = 1 then (if 0 < (bt477.2.1.length : Int) then (if ((rd_L2 bt477.2.1 0).length : Int) = 16 then (if 0 < ((rd_L2 bt477.2.1 0).length : Int) then (if (rd (rd_L2 bt477.2.1 0) 0) = 5 then (if 0 < (bt477.1.length : Int) then (if ((rd_L1 bt477.1 0).length : Int) = 6 then (if 0 < ((rd_L1 bt477.1 0).length : Int) then (if (rd (rd_L1 bt477.1 0) 0) = 0 then (if bt485.2 = 0 then (if (bt485.1.length : Int) = 1 then (if 0 < (bt485.1.length : Int) then (if ((rd_L2 bt485.1 0).length : Int) = 16 then (if 0 < ((rd_L2 bt485.1 0).length : Int) then (some ((rd (rd_L2 bt485.1 0) 0) == 5)) else (none)) else (some false)) else (none)) else (some false)) else (some false)) else (some false)) else (none)) else (some false)) else (none)) else (some false)) else (none)) else (some false)) else (none)) else (some false)) else (some false)) else (some false)) else (none)) else (some false)) else (some false)))) = some r := by first | (rw [hy473]; with_reducible exact H) | (have H2_ := (Option.bind_some _ _).symm.trans H; rw [hy473]; with_reducible exact H2_) | (have H2_ := (Option.bind_some _ _).symm.trans H; with_reducible exact H2_) | with_reducible exact H | (rw [hy473]; exact H) | exact H
 have Ny473 := Aside0.mk hy473
 clear hy473
 obtain ⟨y474, hy474⟩ : ∃ y_ : List (List Int), y_ = (([y473] : List (List Int))) := ⟨_, rfl⟩
 replace H : ((vcodec_Encode.f k t450 t451 t452 t455 y474).bind fun bt477 => ((vcodec_Decode.f k t450 t451 t452 t455 bt477.1 bt477.2.1).bind fun bt485 => (if t471 = 0 then (if (t465.length : Int) = 1 then (if 0 < (t465.length : Int) then (if ((rd_L1 t465 0).length : Int) = 0 then (if bt477.2.2 = 0 then (if (bt477.2.1.length : Int) = 1 then (if 0 < (bt477.2.1.length : Int) then (if ((rd_L2 bt477.2.1 0).length : Int) = 16 then (if 0 < ((rd_L2 bt477.2.1 0).length : Int) then (if (rd (rd_L2 bt477.2.1 0) 0) = 5 then (if 0 < (bt477.1.length : Int) then (if ((rd_L1 bt477.1 0).length : Int) = 6 then (if 0 < ((rd_L1 bt477.1 0).length : Int) then (if (rd (rd_L1 bt477.1 0) 0) = 0 then (if bt485.2 = 0 then (if (bt485.1.length : Int) = 1 then (if 0 < (bt485.1.length : Int) then (if ((rd_L2 bt485.1 0).length : Int) = 16 then (if 0 < ((rd_L2 bt485.1 0).length : Int) then (some ((rd (rd_L2 bt485.1 0) 0) == 5)) else (none)) else (some false)) else (none)) else (some false)) else (some false)) else (some false)) else (none)) else (some false)) else (none)) else (some false)) else (none)) else (some false)) else (none)) else (some false)) else (some false)) else (some false)) else (none)) else (some false)) else (some false)))) = some r := by first | (rw [hy474]; with_reducible exact H) | (have H2_ := (Option.bind_some _ _).symm.trans H; rw [hy474]; with_reducible exact H2_) | (have H2_ := (Option.bind_some _ _).symm.trans H; with_reducible exact H2_) | with_reducible exact H | (rw [hy474]; exact H) | exact H
 have Ny474 := Aside0.mk hy474
 clear hy474
 obtain ⟨⟨t477, t480, t483⟩, A6, H⟩ := ob_ H
 (try dsimp only at H)
 obtain ⟨⟨t485, t488⟩, A7, H⟩ := ob_ H
 (try dsimp only at H)
 by_cases c8 : t471 = 0
 {
 rw [if_pos c8] at H
 have c8b0 : (t471 == 0) = true := beq_iff_eq.mpr c8
 have c8b1 : (t471 != 0) = false := bne_eq_false_iff_eq.mpr c8
 clear c8
 by_cases c9 : (t465.length : Int) = 1
 {
 rw [if_pos c9] at H
 have c9b0 : ((t465.length : Int) == 1) = true := beq_iff_eq.mpr c9
 have c9b1 : ((t465.length : Int) != 1) = false := bne_eq_false_iff_eq.mpr c9
 clear c9
 by_cases c10 : 0 < (t465.length : Int)
 {
 rw [if_pos c10] at H
 have c10b0 : decide (0 < (t465.length : Int)) = true := decide_eq_true c10
 have c10b1 : decide (0 < t465.length) = true := decide_eq_true (by omega)
 clear c10
 by_cases c11 : ((rd_L1 t465 0).length : Int) = 0
 {
 rw [if_pos c11] at H
 have c11b0 : (((rd_L1 t465 0).length : Int) == 0) = true := beq_iff_eq.mpr c11
 have c11b1 : (((rd_L1 t465 0).length : Int) != 0) = false := bne_eq_false_iff_eq.mpr c11
 clear c11
 by_cases c12 : t483 = 0
 {
 rw [if_pos c12] at H
 have c12b0 : (t483 == 0) = true := beq_iff_eq.mpr c12
 have c12b1 : (t483 != 0) = false := bne_eq_false_iff_eq.mpr c12
 clear c12
 by_cases c13 : (t480.length : Int) = 1
 {
 rw [if_pos c13] at H
 have c13b0 : ((t480.length : Int) == 1) = true := beq_iff_eq.mpr c13
 have c13b1 : ((t480.length : Int) != 1) = false := bne_eq_false_iff_eq.mpr c13
 clear c13
 by_cases c14 : 0 < (t480.length : Int)
 {
 rw [if_pos c14] at H
 have c14b0 : decide (0 < (t480.length : Int)) = true := decide_eq_true c14
 have c14b1 : decide (0 < t480.length) = true := decide_eq_true (by omega)
 clear c14
 by_cases c15 : ((rd_L2 t480 0).length : Int) = 16
 {
 rw [if_pos c15] at H
 have c15b0 : (((rd_L2 t480 0).length : Int) == 16) = true := beq_iff_eq.mpr c15
 have c15b1 : (((rd_L2 t480 0).length : Int) != 16) = false := bne_eq_false_iff_eq.mpr c15
 clear c15
 by_cases c16 : 0 < ((rd_L2 t480 0).length : Int)
 {
 rw [if_pos c16] at H
 have c16b0 : decide (0 < ((rd_L2 t480 0).length : Int)) = true := decide_eq_true c16
 have c16b1 : decide (0 < (rd_L2 t480 0).length) = true := decide_eq_true (by omega)
 clear c16
 by_cases c17 : (rd (rd_L2 t480 0) 0) = 5
 {
 rw [if_pos c17] at H
 have c17b0 : ((rd (rd_L2 t480 0) 0) == 5) = true := beq_iff_eq.mpr c17
 have c17b1 : ((rd (rd_L2 t480 0) 0) != 5) = false := bne_eq_false_iff_eq.mpr c17
 clear c17
 by_cases c18 : 0 < (t477.length : Int)
 {
 rw [if_pos c18] at H
 have c18b0 : decide (0 < (t477.length : Int)) = true := decide_eq_true c18
 have c18b1 : decide (0 < t477.length) = true := decide_eq_true (by omega)
 clear c18
 by_cases c19 : ((rd_L1 t477 0).length : Int) = 6
 {
 rw [if_pos c19] at H
 have c19b0 : (((rd_L1 t477 0).length : Int) == 6) = true := beq_iff_eq.mpr c19
 have c19b1 : (((rd_L1 t477 0).length : Int) != 6) = false := bne_eq_false_iff_eq.mpr c19
 clear c19
 by_cases c20 : 0 < ((rd_L1 t477 0).length : Int)
 {
 rw [if_pos c20] at H
 have c20b0 : decide (0 < ((rd_L1 t477 0).length : Int)) = true := decide_eq_true c20
 have c20b1 : decide (0 < (rd_L1 t477 0).length) = true := decide_eq_true (by omega)
 clear c20
 by_cases c21 : (rd (rd_L1 t477 0) 0) = 0
 {
 rw [if_pos c21] at H
 have c21b0 : ((rd (rd_L1 t477 0) 0) == 0) = true := beq_iff_eq.mpr c21
 have c21b1 : ((rd (rd_L1 t477 0) 0) != 0) = false := bne_eq_false_iff_eq.mpr c21
 clear c21
 by_cases c22 : t488 = 0
 {
 rw [if_pos c22] at H
 have c22b0 : (t488 == 0) = true := beq_iff_eq.mpr c22
 have c22b1 : (t488 != 0) = false := bne_eq_false_iff_eq.mpr c22
 clear c22
 by_cases c23 : (t485.length : Int) = 1
 {
 rw [if_pos c23] at H
 have c23b0 : ((t485.length : Int) == 1) = true := beq_iff_eq.mpr c23
 have c23b1 : ((t485.length : Int) != 1) = false := bne_eq_false_iff_eq.mpr c23
 clear c23
 by_cases c24 : 0 < (t485.length : Int)
 {
 rw [if_pos c24] at H
 have c24b0 : decide (0 < (t485.length : Int)) = true := decide_eq_true c24
 have c24b1 : decide (0 < t485.length) = true := decide_eq_true (by omega)
 clear c24
 by_cases c25 : ((rd_L2 t485 0).length : Int) = 16
 {
 rw [if_pos c25] at H
 have c25b0 : (((rd_L2 t485 0).length : Int) == 16) = true := beq_iff_eq.mpr c25
 have c25b1 : (((rd_L2 t485 0).length : Int) != 16) = false := bne_eq_false_iff_eq.mpr c25
 clear c25
 by_cases c26 : 0 < ((rd_L2 t485 0).length : Int)
 {
 rw [if_pos c26] at H
 have c26b0 : decide (0 < ((rd_L2 t485 0).length : Int)) = true := decide_eq_true c26
 have c26b1 : decide (0 < (rd_L2 t485 0).length) = true := decide_eq_true (by omega)
 clear c26
 obtain rfl := Option.some.inj H
 go_enter Try.func13, Try.ntmps13
 go_wp2_with (first | ((with_reducible refine gate_callee (f := 31) rfl ?_); refine gL_ (some 9) Try.func31 #[.int .i64 1, .int .i64 0] ?_; (with_reducible refine (vhead_Plain.calls k 1 0 t450 t451 t452 t455 _ A1.out).mono ?_); rintro e w27 ⟨v453, v456, rfl, ho0, ho1, hb⟩; refine ⟨_, rfl, ?_⟩; have HO454 := Aside0.mk (Kd.R_lower ho0 (bs_ HB)); have HO457 := Aside0.mk (Kd.R_lower ho1 (bs_ HB)); replace HB := BS_ HB hb; (try clear hb); (try clear hk); (try clear ho0); (try clear ho1)) | ((with_reducible refine gate_dst (N := 1) rfl ?_); (try (refine gate_guard (by rfl) ?_; dsimp only)); refine bx_ HB 1 #[.int .i64 0, .int .i64 0, .slice none 0 0, .slice none 0 0] 24 ?_; clear HB; intro gb458 hg w28 hb BK458 GE458 HB; have GW458 := GE458; replace HO454 := FR_ HO454 hb; replace HO457 := FR_ HO457 hb; clear hb hg; obtain ⟨hcz29_0, hcz29_1, hcz29_2, hcz29_3, hfz29_0, hfz29_1, hfz29_2, hfz29_3⟩ := e4_ BK458; obtain ⟨Ao30, co30, eo30⟩ := Kd.R_slice HO454.out; subst eo30; obtain ⟨Ao31, co31, eo31⟩ := Kd.R_slice HO457.out; subst eo31) | ((with_reducible refine gate_dst (N := 10) rfl ?_); (try (refine gate_guard (by rfl) ?_; dsimp only)); refine Kd.R_make (Kd.int .i64) _ 2 rfl (N := 10) rfl 53 _ _ rfl 16 rfl rfl Try.underlying53 (.int .i64 0) 8 info2 rfl (by decide) (by omega) 0 (ok := fun _ => True) (okp := fun _ => True) rfl (fun _ hk => hk) trivial (by omega) (by omega) (Below.refl _ _) (Nat.le_refl _) ?_; intro v460 w32 ho33 hb hg_ hnew_; clear hg_ hnew_; (first | rw [← Ny459.out] at ho33 | (simp only [Int.reduceToNat] at ho33; rw [← Ny459.out] at ho33)); replace HO454 := Aside0.mk (Kd.R_below (kRk_ HO454 BK458) hb); replace HO457 := Aside0.mk (Kd.R_below (kRk_ HO457 BK458) hb); have HO461 := Aside0.mk (Kd.R_lower ho33 (bs_ HB)); replace BK458 := Aside0.mk (blk_below (g := gb458) (o := .cells #[.int .i64 t450, .int .i64 t451, .slice Ao30 t452.length co30, .slice Ao31 t455.length co31] 24 (0, 0)) (bp_ BK458) hb); replace HB := BS_ HB hb; clear hb ho33; obtain ⟨hcz34_0, hcz34_1, hcz34_2, hcz34_3, hfz34_0, hfz34_1, hfz34_2, hfz34_3⟩ := e4_ BK458; obtain ⟨Ao35, co35, eo35⟩ := Kd.R_slice HO461.out; subst eo35) | ((with_reducible refine gate_dst (N := 14) rfl ?_); (try (refine gate_guard (by rfl) ?_; dsimp only)); refine Kd.N_lit (Kd.slice 2 (Kd.int .i64)) _ 53 ?hg (N' := 14) ?hd (xs := ([y459] : List (List Int))) (inner := [.slice Ao35 y459.length co35]) (ok := (fun k_ => some k_ ≠ (.slice Ao30 t452.length co30 : Value).ownBlock ∧ some k_ ≠ (.slice Ao31 t455.length co31 : Value).ownBlock ∧ k_ ≠ gb458)) (okp := (fun k_ => some k_ ≠ (.slice Ao30 t452.length co30 : Value).ownBlock ∧ some k_ ≠ (.slice Ao31 t455.length co31 : Value).ownBlock ∧ k_ ≠ gb458)) ?hr ?hp (fun _ hk => hk) (fr_ (P := (fun k_ => some k_ ≠ (.slice Ao30 t452.length co30 : Value).ownBlock ∧ some k_ ≠ (.slice Ao31 t455.length co31 : Value).ownBlock ∧ k_ ≠ gb458)) (fun k_ hk => ⟨Kd.fresh' (Kd.R_lt (kR_ HO454)) k_ hk, Kd.fresh' (Kd.R_lt (kR_ HO457)) k_ hk, Kd.freshB (g := gb458) (o := .cells #[.int .i64 t450, .int .i64 t451, .slice Ao30 t452.length co30, .slice Ao31 t455.length co31] 24 (0, 0)) (bk_ BK458) k_ hk⟩)) (Below.refl _ _) (Nat.le_refl _) (by simp) ?_; (case hd => rfl); (case hg => rfl); (case hr => first | (go_simp; done) | (go_simp; rfl)); (case hp => exact (Reps.one (show Kd.FK (Kd.slice 2 (Kd.int .i64)) _ _ y459 [.slice Ao35 y459.length co35] from (Kd.FK_slice_mk (Kd.R_reads' (Kd.R_mono (ok' := (fun k_ => some k_ ≠ (.slice Ao30 t452.length co30 : Value).ownBlock ∧ some k_ ≠ (.slice Ao31 t455.length co31 : Value).ownBlock ∧ k_ ≠ gb458)) (Kd.R_types (Kd.R_apart' (Kd.R_apart' (HO461.out) (Kd.R_typed HO454.out) (by decide)) (Kd.R_typed HO457.out) (by decide)) BK458.out (by decide)) (fun k_ hk => ⟨hk.1.1.2, ⟨hk.1.2, hk.2⟩⟩))).2.1 (Kd.R_F (Kd.R_mono (ok' := (fun k_ => some k_ ≠ (.slice Ao30 t452.length co30 : Value).ownBlock ∧ some k_ ≠ (.slice Ao31 t455.length co31 : Value).ownBlock ∧ k_ ≠ gb458)) (Kd.R_types (Kd.R_apart' (Kd.R_apart' (HO461.out) (Kd.R_typed HO454.out) (by decide)) (Kd.R_typed HO457.out) (by decide)) BK458.out (by decide)) (fun k_ hk => ⟨hk.1.1.2, ⟨hk.1.2, hk.2⟩⟩))))) (Reps.none _ _))); intro v463 w36 ho37 hb hg_ hnew_; clear hg_ hnew_; (first | rw [← Ny462.out] at ho37 | (simp only [Int.reduceToNat] at ho37; rw [← Ny462.out] at ho37)); replace HO454 := FR_ HO454 hb; replace HO457 := FR_ HO457 hb; replace HO461 := FR_ HO461 hb; have HO464 := Aside0.mk (Kd.N_lower ho37 (bs_ HB)); replace BK458 := FB_ BK458 hb; replace HB := BS_ HB hb; clear hb ho37; obtain ⟨Ao38, co38, eo38⟩ := Kd.N_slice HO464.out; subst eo38) | ((with_reducible refine gate_callee (f := 15) rfl ?_); refine gL_ (some 16) Try.func15 #[.agg #[.int .i64 t450, .int .i64 t451, .slice Ao30 t452.length co30, .slice Ao31 t455.length co31], .agg #[.slice Ao38 y462.length co38]] ?_; (with_reducible refine (vcodec_Encode.calls k t450 t451 _ _ t452 _ _ t455 _ _ y462 t465 t468 t471 _ ?side1 ?side2 ?side3 ?side4 ?side5 ?side6 A3.out).mono ?_); (case side1 => exact kCt_ (Kd.R_reads' HO454.out).2.2); (case side2 => exact (Kd.R_reads' HO454.out).2.1); (case side3 => exact kCt_ (Kd.R_reads' HO457.out).2.2); (case side4 => exact (Kd.R_reads' HO457.out).2.1); (case side5 => repeat (first | exact (Kd.N_reads' HO464.out).2.2 | (with_reducible refine Kd.C_alloc ?_ _) | (with_reducible refine Kd.C_drewN ?_ _) | (with_reducible refine Kd.C_drew ?_))); (case side6 => exact (Kd.N_reads' HO464.out).2.1); rintro e w39 ⟨v466, v469, rfl, ho0, ho1, hb⟩; refine ⟨_, rfl, ?_⟩; have HO467 := Aside0.mk (Kd.N_lower (Kd.N_mono (ok' := fun k_ => some k_ ≠ (v469 : Value).ownBlock ∧ some k_ ≠ (.slice Ao30 t452.length co30 : Value).ownBlock ∧ some k_ ≠ (.slice Ao31 t455.length co31 : Value).ownBlock ∧ some k_ ≠ (.slice Ao35 y459.length co35 : Value).ownBlock ∧ some k_ ≠ (.slice Ao38 y462.length co38 : Value).ownBlock ∧ k_ ≠ gb458) ho0 (fun k_ hk_ => ⟨hk_.2, (Kd.fresh' (Kd.R_lt (kR_ HO454)) k_ hk_.1), (Kd.fresh' (Kd.R_lt (kR_ HO457)) k_ hk_.1), (Kd.fresh' (Kd.R_lt (kR_ HO461)) k_ hk_.1), (Kd.fresh' (Kd.N_lt (kN_ HO464)) k_ hk_.1), (Kd.freshB (g := gb458) (o := .cells #[.int .i64 t450, .int .i64 t451, .slice Ao30 t452.length co30, .slice Ao31 t455.length co31] 24 (0, 0)) (bk_ BK458) k_ hk_.1)⟩)) (bs_ HB)); have HO470 := Aside0.mk (Kd.N_lower (Kd.N_mono (ok' := fun k_ => some k_ ≠ (v466 : Value).ownBlock ∧ some k_ ≠ (.slice Ao30 t452.length co30 : Value).ownBlock ∧ some k_ ≠ (.slice Ao31 t455.length co31 : Value).ownBlock ∧ some k_ ≠ (.slice Ao35 y459.length co35 : Value).ownBlock ∧ some k_ ≠ (.slice Ao38 y462.length co38 : Value).ownBlock ∧ k_ ≠ gb458) ho1 (fun k_ hk_ => ⟨hk_.2, (Kd.fresh' (Kd.R_lt (kR_ HO454)) k_ hk_.1), (Kd.fresh' (Kd.R_lt (kR_ HO457)) k_ hk_.1), (Kd.fresh' (Kd.R_lt (kR_ HO461)) k_ hk_.1), (Kd.fresh' (Kd.N_lt (kN_ HO464)) k_ hk_.1), (Kd.freshB (g := gb458) (o := .cells #[.int .i64 t450, .int .i64 t451, .slice Ao30 t452.length co30, .slice Ao31 t455.length co31] 24 (0, 0)) (bk_ BK458) k_ hk_.1)⟩)) (bs_ HB)); replace HO454 := FR_ HO454 hb; replace HO457 := FR_ HO457 hb; replace HO461 := FR_ HO461 hb; replace HO464 := Aside0.mk (Kd.N_mono (Kd.N_told (Kd.N_told (Kd.N_old (kN_ HO464) hb) (Kd.N_base ho0)) (Kd.N_base ho1)) (fun _ h_ => h_.1)); replace BK458 := FB_ BK458 hb; replace HB := BS_ HB hb; (try clear hb); (try clear hk); (try clear ho0); (try clear ho1)) | ((with_reducible refine gate_dst (N := 3) rfl ?_); (try (refine gate_guard (by rfl) ?_; dsimp only)); refine box_ 3 #[.slice none 0 0, .slice none 0 0] 28 ?_; intro gb472 hg w40 hbox hb; replace HO454 := FR_ HO454 hb; replace HO457 := FR_ HO457 hb; replace HO461 := FR_ HO461 hb; replace HO464 := Aside0.mk (Kd.N_below (Kd.N_elderB (kN_ HO464) gb472 (Nat.le_of_eq hg.symm)) hb); replace HO467 := Aside0.mk (Kd.N_below (Kd.N_elderB (kN_ HO467) gb472 (Nat.le_of_eq hg.symm)) hb); replace HO470 := Aside0.mk (Kd.N_below (Kd.N_elderB (kN_ HO470) gb472 (Nat.le_of_eq hg.symm)) hb); have BK472 := Aside0.mk (hbox); have GW472 := GE_ HB hg; have GE472 := GE_ HB hg; replace HB := BS_ HB hb; obtain ⟨NB458_472, NB472_458⟩ := NN_ BK458 hg; replace BK458 := FB_ BK458 hb; clear hb hbox hg; obtain ⟨Ao41, co41, eo41⟩ := Kd.N_slice HO467.out; subst eo41; have hnb42 := NB472_458.out; have hnc42 := NB458_472.out; obtain ⟨hcz43_0, hcz43_1, hfz43_0, hfz43_1⟩ := e2_ BK472; obtain ⟨Ao44, co44, eo44⟩ := Kd.N_slice HO470.out; subst eo44) | ((with_reducible refine gate_store (t := 28) (p := 3) rfl ?_); refine store_event (t := 28) (p := 3) (v := ?vo_w45) (w1 := ((w40.setCell ⟨gb472, 0, none⟩ (.slice Ao41 t465.length co41)).setCell ⟨gb472, 1, none⟩ (.slice Ao44 t468.length co44))) ?hg ?ho ?hn ?hr ?_; (case ho => rfl); (case hg => rfl); (case hn => rfl); (case hr => first | (go_simp; done) | (go_simp; rfl)); intro w45 hw; have n0_ : Aside0 (Kd.R (Kd.int .i64) 3 w45 w.heap.size (fun k_ => some k_ ≠ (.slice Ao31 t455.length co31 : Value).ownBlock) (.slice Ao30 t452.length co30) t452) := ⟨(by rw [hw]; exact (kRk_ HO454 BK472))⟩; have n1_ : Aside0 (Kd.R (Kd.int .i64) 3 w45 w.heap.size (fun k_ => some k_ ≠ (.slice Ao30 t452.length co30 : Value).ownBlock) (.slice Ao31 t455.length co31) t455) := ⟨(by rw [hw]; exact (kRk_ HO457 BK472))⟩; have n2_ : Aside0 (Kd.R (Kd.int .i64) 2 w45 w.heap.size (fun _ => True) (.slice Ao35 y459.length co35) y459) := ⟨(by rw [hw]; exact (by (with_reducible repeat (first | apply Kd.R_alloc | apply Kd.R_drewN | apply Kd.R_drew)); exact Kd.R_mono (Kd.R_far (p := ⟨gb472, 1, none⟩) (Kd.R_far (p := ⟨gb472, 0, none⟩) (Kd.R_types HO461.out BK472.out (by decide)) (fun _ hk => hk.2) (.slice Ao41 t465.length co41)) (fun _ hk => hk.2) (.slice Ao44 t468.length co44)) (fun _ hk => trivial)))⟩; have n3_ : Aside0 (Kd.N (Kd.slice 2 (Kd.int .i64)) 53 w45 w.heap.size (fun k_ => some k_ ≠ (.slice Ao30 t452.length co30 : Value).ownBlock ∧ some k_ ≠ (.slice Ao31 t455.length co31 : Value).ownBlock ∧ some k_ ≠ (.slice Ao41 t465.length co41 : Value).ownBlock ∧ some k_ ≠ (.slice Ao44 t468.length co44 : Value).ownBlock ∧ k_ ≠ gb458 ∧ k_ ≠ gb472) (.slice Ao38 y462.length co38) y462) := ⟨(by rw [hw]; exact (by (with_reducible repeat (first | apply Kd.N_alloc | apply Kd.N_drewN | apply Kd.N_drew)); exact Kd.N_mono (Kd.N_far (p := ⟨gb472, 1, none⟩) (Kd.N_far (p := ⟨gb472, 0, none⟩) (Kd.N_mono HO464.out (fun k_ hk => (⟨hk, hk.2⟩ : _ ∧ k_ ≠ gb472))) (fun _ hk => hk.2) (.slice Ao41 t465.length co41)) (fun _ hk => hk.2) (.slice Ao44 t468.length co44)) (fun _ hk => ⟨hk.1.1.1.1.1, ⟨hk.1.1.1.1.2.1, ⟨hk.1.1.1.2, ⟨hk.1.1.2, ⟨hk.1.1.1.1.2.2, hk.1.2⟩⟩⟩⟩⟩)))⟩; have n4_ : Aside0 (Kd.N (Kd.slice 3 (Kd.int .i64)) 22 w45 w.heap.size (fun k_ => some k_ ≠ (.slice Ao30 t452.length co30 : Value).ownBlock ∧ some k_ ≠ (.slice Ao31 t455.length co31 : Value).ownBlock ∧ some k_ ≠ (.slice Ao35 y459.length co35 : Value).ownBlock ∧ some k_ ≠ (.slice Ao38 y462.length co38 : Value).ownBlock ∧ some k_ ≠ (.slice Ao44 t468.length co44 : Value).ownBlock ∧ k_ ≠ gb458 ∧ k_ ≠ gb472) (.slice Ao41 t465.length co41) t465) := ⟨(by rw [hw]; exact (by (with_reducible repeat (first | apply Kd.N_alloc | apply Kd.N_drewN | apply Kd.N_drew)); exact Kd.N_mono (Kd.N_far (p := ⟨gb472, 1, none⟩) (Kd.N_far (p := ⟨gb472, 0, none⟩) (Kd.N_mono HO467.out (fun k_ hk => (⟨hk, hk.2⟩ : _ ∧ k_ ≠ gb472))) (fun _ hk => hk.2) (.slice Ao41 t465.length co41)) (fun _ hk => hk.2) (.slice Ao44 t468.length co44)) (fun _ hk => ⟨hk.1.1.2.1, ⟨hk.1.1.2.2.1, ⟨hk.1.1.2.2.2.1, ⟨hk.1.1.2.2.2.2.1, ⟨hk.1.1.1, ⟨hk.1.1.2.2.2.2.2, hk.1.2⟩⟩⟩⟩⟩⟩)))⟩; have n5_ : Aside0 (Kd.N (Kd.slice 2 (Kd.int .i64)) 53 w45 w.heap.size (fun k_ => some k_ ≠ (.slice Ao30 t452.length co30 : Value).ownBlock ∧ some k_ ≠ (.slice Ao31 t455.length co31 : Value).ownBlock ∧ some k_ ≠ (.slice Ao35 y459.length co35 : Value).ownBlock ∧ some k_ ≠ (.slice Ao38 y462.length co38 : Value).ownBlock ∧ some k_ ≠ (.slice Ao41 t465.length co41 : Value).ownBlock ∧ k_ ≠ gb458 ∧ k_ ≠ gb472) (.slice Ao44 t468.length co44) t468) := ⟨(by rw [hw]; exact (by (with_reducible repeat (first | apply Kd.N_alloc | apply Kd.N_drewN | apply Kd.N_drew)); exact Kd.N_mono (Kd.N_far (p := ⟨gb472, 1, none⟩) (Kd.N_far (p := ⟨gb472, 0, none⟩) (Kd.N_mono HO470.out (fun k_ hk => (⟨hk, hk.2⟩ : _ ∧ k_ ≠ gb472))) (fun _ hk => hk.2) (.slice Ao41 t465.length co41)) (fun _ hk => hk.2) (.slice Ao44 t468.length co44)) (fun _ hk => ⟨hk.1.1.2.1, ⟨hk.1.1.2.2.1, ⟨hk.1.1.2.2.2.1, ⟨hk.1.1.2.2.2.2.1, ⟨hk.1.1.1, ⟨hk.1.1.2.2.2.2.2, hk.1.2⟩⟩⟩⟩⟩⟩)))⟩; have n6_ : Aside0 (w45.heap[gb458]? = some (.cells #[.int .i64 t450, .int .i64 t451, .slice Ao30 t452.length co30, .slice Ao31 t455.length co31] 24 (0, 0))) := ⟨(by rw [hw]; exact (bk_ BK458))⟩; have n7_ : Aside0 (w45.heap[gb472]? = some (.cells #[.slice Ao41 t465.length co41, .slice Ao44 t468.length co44] 28 (0, 0))) := ⟨(by rw [hw]; exact (bp_ BK472))⟩; have n8_ : Aside0 (Below w.heap.size w w45) := ⟨(by rw [hw]; exact (bl_ HB))⟩; clear hw; clear HO454; clear HO457; clear HO461; clear HO464; clear HO467; clear HO470; clear BK458; clear BK472; clear HB; have HO454 := n0_; have HO457 := n1_; have HO461 := n2_; have HO464 := n3_; have HO467 := n4_; have HO470 := n5_; have BK458 := n6_; have BK472 := n7_; have HB := n8_; clear n0_ n1_ n2_ n3_ n4_ n5_ n6_ n7_ n8_; have p5 : 0 ≤ (0 : Int) := (by omega); have q5 : (0 : Int) < ((y459.length : Int) : Int) := of_decide_eq_true am_; have qi5 : (0 < y459.length) = True := eq_true (by omega); obtain ⟨go5, co5, eo5, gb5, gl5, cl5, HG5⟩ := Kd.R_form HO461.out (by omega); (first | cases eo5 | (injection eo5 with ea_ en_ ec_; (first | subst ea_ | (injection ea_ with ea_; subst ea_)); subst ec_; clear en_)); have GB5 := Aside0.mk gb5; have GG5 := Aside0.mk HG5; clear gb5 gl5 HG5; obtain ⟨hx5_0, hf5_0⟩ := Kd.R_celln 0 HO461.out (0 : Int) p5 q5; (try rw [show ((0 : Int)).toNat = 0 from rfl] at hx5_0); (try simp only [Nat.reduceMul, Nat.zero_mul, Nat.zero_add, Nat.reduceAdd] at hx5_0); (try rw [show ((0 : Int)).toNat = 0 from rfl] at hf5_0); (try simp only [Nat.reduceMul, Nat.zero_mul, Nat.zero_add, Nat.reduceAdd] at hf5_0); replace p5 := eq_true p5; replace q5 := eq_true q5; clear HO464; obtain ⟨hy46_, hz46_⟩ := Kd.R_celln 0 HO461.out (0 : Int) (by omega) (of_decide_eq_true am_); (try simp only [Int.reduceToNat, Int.toNat_zero, Int.toNat_ofNat, Nat.reduceMul, Nat.zero_mul, Nat.zero_add] at hy46_ hz46_); (try rw [show ((0 : Int)).toNat = 0 from rfl] at hy46_); (try rw [show ((0 : Int)).toNat = 0 from rfl] at hz46_); have HP46 := Kd.R_putg HO461.out (0 : Int) 5) | ((with_reducible refine gate_store (t := 2) (p := 20) rfl ?_); refine store_event (t := 2) (p := 20) (v := ?vo_w47) (w1 := (w45.setCell ⟨go5, (0 : Int).toNat, none⟩ (.int .i64 5))) ?hg ?ho ?hn ?hr ?_; (case ho => rfl); (case hg => rfl); (case hn => rfl); (case hr => first | (go_simp; done) | (go_simp; rfl)); intro w47 hw; have hg : w45.grownBy w47 (some go5) := (by rw [hw]; exact HP46.2); have hp_ : Kd.R (Kd.int .i64) 2 w47 w.heap.size (fun _ => True) (.slice (some ⟨go5, 0, none⟩) y459.length co35) y473 := (by rw [hw, Ny473.out]; exact HP46.1); clear HP46; replace HO454 := Aside0.mk (Kd.R_over' (v := (.slice (some ⟨go5, 0, none⟩) y459.length co35)) (kR_ HO454) (Kd.R_typed HO461.out) (by decide) hg); replace HO457 := Aside0.mk (Kd.R_over' (v := (.slice (some ⟨go5, 0, none⟩) y459.length co35)) (kR_ HO457) (Kd.R_typed HO461.out) (by decide) hg); replace BK458 := (FG_ BK458 hg (Kd.R_ne HO461.out BK458.out (by decide))); replace HO467 := Aside0.mk (Kd.N_afterv (v := (.slice (some ⟨go5, 0, none⟩) y459.length co35)) (v1 := (.slice (some ⟨go5, 0, none⟩) y459.length co35)) (ok := (fun k_ => some k_ ≠ (.slice Ao30 t452.length co30 : Value).ownBlock ∧ some k_ ≠ (.slice Ao31 t455.length co31 : Value).ownBlock ∧ some k_ ≠ (.slice Ao44 t468.length co44 : Value).ownBlock ∧ k_ ≠ gb458 ∧ k_ ≠ gb472)) (by (with_reducible repeat (first | apply Kd.N_alloc | apply Kd.N_drewN | apply Kd.N_drew)); exact Kd.N_mono HO467.out (fun _ hk => ⟨⟨hk.1, ⟨hk.2.1, ⟨hk.2.2.2.2.1, ⟨hk.2.2.2.2.2.1, hk.2.2.2.2.2.2⟩⟩⟩⟩, hk.2.2.1⟩)) hg (.inl rfl)); replace HO470 := Aside0.mk (Kd.N_afterv (v := (.slice (some ⟨go5, 0, none⟩) y459.length co35)) (v1 := (.slice (some ⟨go5, 0, none⟩) y459.length co35)) (ok := (fun k_ => some k_ ≠ (.slice Ao30 t452.length co30 : Value).ownBlock ∧ some k_ ≠ (.slice Ao31 t455.length co31 : Value).ownBlock ∧ some k_ ≠ (.slice Ao41 t465.length co41 : Value).ownBlock ∧ k_ ≠ gb458 ∧ k_ ≠ gb472)) (by (with_reducible repeat (first | apply Kd.N_alloc | apply Kd.N_drewN | apply Kd.N_drew)); exact Kd.N_mono HO470.out (fun _ hk => ⟨⟨hk.1, ⟨hk.2.1, ⟨hk.2.2.2.2.1, ⟨hk.2.2.2.2.2.1, hk.2.2.2.2.2.2⟩⟩⟩⟩, hk.2.2.1⟩)) hg (.inl rfl)); replace BK472 := (FG_ BK472 hg (Kd.R_ne HO461.out BK472.out (by decide))); replace HO461 := Aside0.mk (hp_); replace HB := Aside0.mk ((by rw [hw]; exact below_set (HB.out) GB5.out : Below w.heap.size w w47)); clear hg hw hp_; have hl_ := (Kd.R_reads' HO461.out).1; rw [hl_] at HO461; (try simp only [hl_]); clear hl_; obtain ⟨hcz48_0, hcz48_1, hcz48_2, hcz48_3, hfz48_0, hfz48_1, hfz48_2, hfz48_3⟩ := e4_ BK458) | ((with_reducible refine gate_dst (N := 24) rfl ?_); (try (refine gate_guard (by rfl) ?_; dsimp only)); refine Kd.N_lit (Kd.slice 2 (Kd.int .i64)) _ 53 ?hg (N' := 24) ?hd (xs := ([y473] : List (List Int))) (inner := [.slice (some ⟨go5, 0, none⟩) y473.length co35]) (ok := (fun k_ => some k_ ≠ (.slice Ao30 t452.length co30 : Value).ownBlock ∧ some k_ ≠ (.slice Ao31 t455.length co31 : Value).ownBlock ∧ some k_ ≠ (.slice Ao41 t465.length co41 : Value).ownBlock ∧ some k_ ≠ (.slice Ao44 t468.length co44 : Value).ownBlock ∧ k_ ≠ gb458 ∧ k_ ≠ gb472)) (okp := (fun k_ => some k_ ≠ (.slice Ao30 t452.length co30 : Value).ownBlock ∧ some k_ ≠ (.slice Ao31 t455.length co31 : Value).ownBlock ∧ some k_ ≠ (.slice Ao41 t465.length co41 : Value).ownBlock ∧ some k_ ≠ (.slice Ao44 t468.length co44 : Value).ownBlock ∧ k_ ≠ gb458 ∧ k_ ≠ gb472)) ?hr ?hp (fun _ hk => hk) (fr_ (P := (fun k_ => some k_ ≠ (.slice Ao30 t452.length co30 : Value).ownBlock ∧ some k_ ≠ (.slice Ao31 t455.length co31 : Value).ownBlock ∧ some k_ ≠ (.slice Ao41 t465.length co41 : Value).ownBlock ∧ some k_ ≠ (.slice Ao44 t468.length co44 : Value).ownBlock ∧ k_ ≠ gb458 ∧ k_ ≠ gb472)) (fun k_ hk => ⟨Kd.fresh' (Kd.R_lt (kR_ HO454)) k_ hk, Kd.fresh' (Kd.R_lt (kR_ HO457)) k_ hk, Kd.fresh' (Kd.N_lt (kN_ HO467)) k_ hk, Kd.fresh' (Kd.N_lt (kN_ HO470)) k_ hk, Kd.freshB (g := gb458) (o := .cells #[.int .i64 t450, .int .i64 t451, .slice Ao30 t452.length co30, .slice Ao31 t455.length co31] 24 (0, 0)) (bk_ BK458) k_ hk, Kd.freshB (g := gb472) (o := .cells #[.slice Ao41 t465.length co41, .slice Ao44 t468.length co44] 28 (0, 0)) (bk_ BK472) k_ hk⟩)) (Below.refl _ _) (Nat.le_refl _) (by simp) ?_; (case hd => rfl); (case hg => rfl); (case hr => first | (go_simp; done) | (go_simp; rfl)); (case hp => exact (Reps.one (show Kd.FK (Kd.slice 2 (Kd.int .i64)) _ _ y473 [.slice (some ⟨go5, 0, none⟩) y473.length co35] from (Kd.FK_slice_mk (Kd.R_reads' (Kd.R_mono (ok' := (fun k_ => some k_ ≠ (.slice Ao30 t452.length co30 : Value).ownBlock ∧ some k_ ≠ (.slice Ao31 t455.length co31 : Value).ownBlock ∧ some k_ ≠ (.slice Ao41 t465.length co41 : Value).ownBlock ∧ some k_ ≠ (.slice Ao44 t468.length co44 : Value).ownBlock ∧ k_ ≠ gb458 ∧ k_ ≠ gb472)) (Kd.R_types (Kd.R_types (Kd.R_apart' (Kd.R_apart' (Kd.R_apart' (Kd.R_apart' (HO461.out) (Kd.R_typed HO454.out) (by decide)) (Kd.R_typed HO457.out) (by decide)) (Kd.N_typed HO467.out) (by decide)) (Kd.N_typed HO470.out) (by decide)) BK458.out (by decide)) BK472.out (by decide)) (fun k_ hk => ⟨hk.1.1.1.1.1.2, ⟨hk.1.1.1.1.2, ⟨hk.1.1.1.2, ⟨hk.1.1.2, ⟨hk.1.2, hk.2⟩⟩⟩⟩⟩))).2.1 (Kd.R_F (Kd.R_mono (ok' := (fun k_ => some k_ ≠ (.slice Ao30 t452.length co30 : Value).ownBlock ∧ some k_ ≠ (.slice Ao31 t455.length co31 : Value).ownBlock ∧ some k_ ≠ (.slice Ao41 t465.length co41 : Value).ownBlock ∧ some k_ ≠ (.slice Ao44 t468.length co44 : Value).ownBlock ∧ k_ ≠ gb458 ∧ k_ ≠ gb472)) (Kd.R_types (Kd.R_types (Kd.R_apart' (Kd.R_apart' (Kd.R_apart' (Kd.R_apart' (HO461.out) (Kd.R_typed HO454.out) (by decide)) (Kd.R_typed HO457.out) (by decide)) (Kd.N_typed HO467.out) (by decide)) (Kd.N_typed HO470.out) (by decide)) BK458.out (by decide)) BK472.out (by decide)) (fun k_ hk => ⟨hk.1.1.1.1.1.2, ⟨hk.1.1.1.1.2, ⟨hk.1.1.1.2, ⟨hk.1.1.2, ⟨hk.1.2, hk.2⟩⟩⟩⟩⟩))))) (Reps.none _ _))); intro v475 w49 ho50 hb hg_ hnew_; clear hg_ hnew_; (first | rw [← Ny474.out] at ho50 | (simp only [Int.reduceToNat] at ho50; rw [← Ny474.out] at ho50)); replace HO454 := FR_ HO454 hb; replace HO457 := FR_ HO457 hb; replace HO467 := Aside0.mk (Kd.N_elder' (kN_ HO467) (Kd.N_base ho50) hb); replace HO470 := Aside0.mk (Kd.N_elder' (kN_ HO470) (Kd.N_base ho50) hb); have HO476 := Aside0.mk (Kd.N_lower ho50 (bs_ HB)); replace BK458 := FB_ BK458 hb; replace BK472 := FB_ BK472 hb; replace HB := BS_ HB hb; clear HO461; clear hb ho50; obtain ⟨Ao51, co51, eo51⟩ := Kd.N_slice HO476.out; subst eo51) | ((with_reducible refine gate_callee (f := 15) rfl ?_); refine gL_ (some 26) Try.func15 #[.agg #[.int .i64 t450, .int .i64 t451, .slice Ao30 t452.length co30, .slice Ao31 t455.length co31], .agg #[.slice Ao51 y474.length co51]] ?_; (with_reducible refine (vcodec_Encode.calls k t450 t451 _ _ t452 _ _ t455 _ _ y474 t477 t480 t483 _ ?side1 ?side2 ?side3 ?side4 ?side5 ?side6 A6.out).mono ?_); (case side1 => exact kCt_ (Kd.R_reads' HO454.out).2.2); (case side2 => exact (Kd.R_reads' HO454.out).2.1); (case side3 => exact kCt_ (Kd.R_reads' HO457.out).2.2); (case side4 => exact (Kd.R_reads' HO457.out).2.1); (case side5 => repeat (first | exact (Kd.N_reads' HO476.out).2.2 | (with_reducible refine Kd.C_alloc ?_ _) | (with_reducible refine Kd.C_drewN ?_ _) | (with_reducible refine Kd.C_drew ?_))); (case side6 => exact (Kd.N_reads' HO476.out).2.1); rintro e w52 ⟨v478, v481, rfl, ho0, ho1, hb⟩; refine ⟨_, rfl, ?_⟩; have HO479 := Aside0.mk (Kd.N_lower (Kd.N_mono (ok' := fun k_ => some k_ ≠ (v481 : Value).ownBlock ∧ some k_ ≠ (.slice Ao30 t452.length co30 : Value).ownBlock ∧ some k_ ≠ (.slice Ao31 t455.length co31 : Value).ownBlock ∧ some k_ ≠ (.slice Ao41 t465.length co41 : Value).ownBlock ∧ some k_ ≠ (.slice Ao44 t468.length co44 : Value).ownBlock ∧ some k_ ≠ (.slice Ao51 y474.length co51 : Value).ownBlock ∧ k_ ≠ gb458 ∧ k_ ≠ gb472) ho0 (fun k_ hk_ => ⟨hk_.2, (Kd.fresh' (Kd.R_lt (kR_ HO454)) k_ hk_.1), (Kd.fresh' (Kd.R_lt (kR_ HO457)) k_ hk_.1), (Kd.fresh' (Kd.N_lt (kN_ HO467)) k_ hk_.1), (Kd.fresh' (Kd.N_lt (kN_ HO470)) k_ hk_.1), (Kd.fresh' (Kd.N_lt (kN_ HO476)) k_ hk_.1), (Kd.freshB (g := gb458) (o := .cells #[.int .i64 t450, .int .i64 t451, .slice Ao30 t452.length co30, .slice Ao31 t455.length co31] 24 (0, 0)) (bk_ BK458) k_ hk_.1), (Kd.freshB (g := gb472) (o := .cells #[.slice Ao41 t465.length co41, .slice Ao44 t468.length co44] 28 (0, 0)) (bk_ BK472) k_ hk_.1)⟩)) (bs_ HB)); have HO482 := Aside0.mk (Kd.N_lower (Kd.N_mono (ok' := fun k_ => some k_ ≠ (v478 : Value).ownBlock ∧ some k_ ≠ (.slice Ao30 t452.length co30 : Value).ownBlock ∧ some k_ ≠ (.slice Ao31 t455.length co31 : Value).ownBlock ∧ some k_ ≠ (.slice Ao41 t465.length co41 : Value).ownBlock ∧ some k_ ≠ (.slice Ao44 t468.length co44 : Value).ownBlock ∧ some k_ ≠ (.slice Ao51 y474.length co51 : Value).ownBlock ∧ k_ ≠ gb458 ∧ k_ ≠ gb472) ho1 (fun k_ hk_ => ⟨hk_.2, (Kd.fresh' (Kd.R_lt (kR_ HO454)) k_ hk_.1), (Kd.fresh' (Kd.R_lt (kR_ HO457)) k_ hk_.1), (Kd.fresh' (Kd.N_lt (kN_ HO467)) k_ hk_.1), (Kd.fresh' (Kd.N_lt (kN_ HO470)) k_ hk_.1), (Kd.fresh' (Kd.N_lt (kN_ HO476)) k_ hk_.1), (Kd.freshB (g := gb458) (o := .cells #[.int .i64 t450, .int .i64 t451, .slice Ao30 t452.length co30, .slice Ao31 t455.length co31] 24 (0, 0)) (bk_ BK458) k_ hk_.1), (Kd.freshB (g := gb472) (o := .cells #[.slice Ao41 t465.length co41, .slice Ao44 t468.length co44] 28 (0, 0)) (bk_ BK472) k_ hk_.1)⟩)) (bs_ HB)); replace HO454 := FR_ HO454 hb; replace HO457 := FR_ HO457 hb; replace HO467 := Aside0.mk (Kd.N_mono (Kd.N_told (Kd.N_told (Kd.N_old (kN_ HO467) hb) (Kd.N_base ho0)) (Kd.N_base ho1)) (fun _ h_ => h_.1)); replace HO470 := Aside0.mk (Kd.N_mono (Kd.N_told (Kd.N_told (Kd.N_old (kN_ HO470) hb) (Kd.N_base ho0)) (Kd.N_base ho1)) (fun _ h_ => h_.1)); replace HO476 := Aside0.mk (Kd.N_mono (Kd.N_told (Kd.N_told (Kd.N_old (kN_ HO476) hb) (Kd.N_base ho0)) (Kd.N_base ho1)) (fun _ h_ => h_.1)); replace BK458 := FB_ BK458 hb; replace BK472 := FB_ BK472 hb; replace HB := BS_ HB hb; (try clear hb); (try clear hk); (try clear ho0); (try clear ho1)) | ((with_reducible refine gate_dst (N := 5) rfl ?_); (try (refine gate_guard (by rfl) ?_; dsimp only)); refine box_ 5 #[.slice none 0 0, .slice none 0 0] 28 ?_; intro gb484 hg w53 hbox hb; replace HO454 := FR_ HO454 hb; replace HO457 := FR_ HO457 hb; replace HO467 := Aside0.mk (Kd.N_below (Kd.N_elderB (kN_ HO467) gb484 (Nat.le_of_eq hg.symm)) hb); replace HO470 := Aside0.mk (Kd.N_below (Kd.N_elderB (kN_ HO470) gb484 (Nat.le_of_eq hg.symm)) hb); replace HO476 := Aside0.mk (Kd.N_below (Kd.N_elderB (kN_ HO476) gb484 (Nat.le_of_eq hg.symm)) hb); replace HO479 := Aside0.mk (Kd.N_below (Kd.N_elderB (kN_ HO479) gb484 (Nat.le_of_eq hg.symm)) hb); replace HO482 := Aside0.mk (Kd.N_below (Kd.N_elderB (kN_ HO482) gb484 (Nat.le_of_eq hg.symm)) hb); have BK484 := Aside0.mk (hbox); have GW484 := GE_ HB hg; have GE484 := GE_ HB hg; replace HB := BS_ HB hb; obtain ⟨NB458_484, NB484_458⟩ := NN_ BK458 hg; replace BK458 := FB_ BK458 hb; obtain ⟨NB472_484, NB484_472⟩ := NN_ BK472 hg; replace BK472 := FB_ BK472 hb; clear hb hbox hg; obtain ⟨Ao54, co54, eo54⟩ := Kd.N_slice HO479.out; subst eo54; have hnb55 := NB484_458.out; have hnc55 := NB458_484.out; have hnb56 := NB484_472.out; have hnc56 := NB472_484.out; obtain ⟨hcz57_0, hcz57_1, hfz57_0, hfz57_1⟩ := e2_ BK484; obtain ⟨Ao58, co58, eo58⟩ := Kd.N_slice HO482.out; subst eo58) | ((with_reducible refine gate_store (t := 28) (p := 5) rfl ?_); refine store_event (t := 28) (p := 5) (v := ?vo_w59) (w1 := ((w53.setCell ⟨gb484, 0, none⟩ (.slice Ao54 t477.length co54)).setCell ⟨gb484, 1, none⟩ (.slice Ao58 t480.length co58))) ?hg ?ho ?hn ?hr ?_; (case ho => rfl); (case hg => rfl); (case hn => rfl); (case hr => first | (go_simp; done) | (go_simp; rfl)); intro w59 hw; have n0_ : Aside0 (Kd.R (Kd.int .i64) 3 w59 w.heap.size (fun k_ => some k_ ≠ (.slice Ao31 t455.length co31 : Value).ownBlock) (.slice Ao30 t452.length co30) t452) := ⟨(by rw [hw]; exact (kRk_ HO454 BK484))⟩; have n1_ : Aside0 (Kd.R (Kd.int .i64) 3 w59 w.heap.size (fun k_ => some k_ ≠ (.slice Ao30 t452.length co30 : Value).ownBlock) (.slice Ao31 t455.length co31) t455) := ⟨(by rw [hw]; exact (kRk_ HO457 BK484))⟩; have n2_ : Aside0 (Kd.N (Kd.slice 3 (Kd.int .i64)) 22 w59 w.heap.size (fun k_ => some k_ ≠ (.slice Ao30 t452.length co30 : Value).ownBlock ∧ some k_ ≠ (.slice Ao31 t455.length co31 : Value).ownBlock ∧ some k_ ≠ (.slice Ao44 t468.length co44 : Value).ownBlock ∧ some k_ ≠ (.slice Ao51 y474.length co51 : Value).ownBlock ∧ some k_ ≠ (.slice Ao54 t477.length co54 : Value).ownBlock ∧ some k_ ≠ (.slice Ao58 t480.length co58 : Value).ownBlock ∧ k_ ≠ gb458 ∧ k_ ≠ gb472 ∧ k_ ≠ gb484) (.slice Ao41 t465.length co41) t465) := ⟨(by rw [hw]; exact (by (with_reducible repeat (first | apply Kd.N_alloc | apply Kd.N_drewN | apply Kd.N_drew)); exact Kd.N_mono (Kd.N_far (p := ⟨gb484, 1, none⟩) (Kd.N_far (p := ⟨gb484, 0, none⟩) (Kd.N_mono HO467.out (fun k_ hk => (⟨hk, hk.2⟩ : _ ∧ k_ ≠ gb484))) (fun _ hk => hk.2) (.slice Ao54 t477.length co54)) (fun _ hk => hk.2) (.slice Ao58 t480.length co58)) (fun _ hk => ⟨hk.1.1.1.1.1.1.1, ⟨hk.1.1.1.1.1.1.2.1, ⟨hk.1.1.1.1.1.1.2.2.1, ⟨hk.1.1.1.1.2, ⟨hk.1.1.1.2, ⟨hk.1.1.2, ⟨hk.1.1.1.1.1.1.2.2.2.1, ⟨hk.1.1.1.1.1.1.2.2.2.2, hk.1.2⟩⟩⟩⟩⟩⟩⟩⟩)))⟩; have n3_ : Aside0 (Kd.N (Kd.slice 2 (Kd.int .i64)) 53 w59 w.heap.size (fun k_ => some k_ ≠ (.slice Ao30 t452.length co30 : Value).ownBlock ∧ some k_ ≠ (.slice Ao31 t455.length co31 : Value).ownBlock ∧ some k_ ≠ (.slice Ao41 t465.length co41 : Value).ownBlock ∧ some k_ ≠ (.slice Ao51 y474.length co51 : Value).ownBlock ∧ some k_ ≠ (.slice Ao54 t477.length co54 : Value).ownBlock ∧ some k_ ≠ (.slice Ao58 t480.length co58 : Value).ownBlock ∧ k_ ≠ gb458 ∧ k_ ≠ gb472 ∧ k_ ≠ gb484) (.slice Ao44 t468.length co44) t468) := ⟨(by rw [hw]; exact (by (with_reducible repeat (first | apply Kd.N_alloc | apply Kd.N_drewN | apply Kd.N_drew)); exact Kd.N_mono (Kd.N_far (p := ⟨gb484, 1, none⟩) (Kd.N_far (p := ⟨gb484, 0, none⟩) (Kd.N_mono HO470.out (fun k_ hk => (⟨hk, hk.2⟩ : _ ∧ k_ ≠ gb484))) (fun _ hk => hk.2) (.slice Ao54 t477.length co54)) (fun _ hk => hk.2) (.slice Ao58 t480.length co58)) (fun _ hk => ⟨hk.1.1.1.1.1.1.1, ⟨hk.1.1.1.1.1.1.2.1, ⟨hk.1.1.1.1.1.1.2.2.1, ⟨hk.1.1.1.1.2, ⟨hk.1.1.1.2, ⟨hk.1.1.2, ⟨hk.1.1.1.1.1.1.2.2.2.1, ⟨hk.1.1.1.1.1.1.2.2.2.2, hk.1.2⟩⟩⟩⟩⟩⟩⟩⟩)))⟩; have n4_ : Aside0 (Kd.N (Kd.slice 2 (Kd.int .i64)) 53 w59 w.heap.size (fun k_ => some k_ ≠ (.slice Ao30 t452.length co30 : Value).ownBlock ∧ some k_ ≠ (.slice Ao31 t455.length co31 : Value).ownBlock ∧ some k_ ≠ (.slice Ao41 t465.length co41 : Value).ownBlock ∧ some k_ ≠ (.slice Ao44 t468.length co44 : Value).ownBlock ∧ some k_ ≠ (.slice Ao54 t477.length co54 : Value).ownBlock ∧ some k_ ≠ (.slice Ao58 t480.length co58 : Value).ownBlock ∧ k_ ≠ gb458 ∧ k_ ≠ gb472 ∧ k_ ≠ gb484) (.slice Ao51 y474.length co51) y474) := ⟨(by rw [hw]; exact (by (with_reducible repeat (first | apply Kd.N_alloc | apply Kd.N_drewN | apply Kd.N_drew)); exact Kd.N_mono (Kd.N_far (p := ⟨gb484, 1, none⟩) (Kd.N_far (p := ⟨gb484, 0, none⟩) (Kd.N_mono HO476.out (fun k_ hk => (⟨hk, hk.2⟩ : _ ∧ k_ ≠ gb484))) (fun _ hk => hk.2) (.slice Ao54 t477.length co54)) (fun _ hk => hk.2) (.slice Ao58 t480.length co58)) (fun _ hk => ⟨hk.1.1.1.1.1, ⟨hk.1.1.1.1.2.1, ⟨hk.1.1.1.1.2.2.1, ⟨hk.1.1.1.1.2.2.2.1, ⟨hk.1.1.1.2, ⟨hk.1.1.2, ⟨hk.1.1.1.1.2.2.2.2.1, ⟨hk.1.1.1.1.2.2.2.2.2, hk.1.2⟩⟩⟩⟩⟩⟩⟩⟩)))⟩; have n5_ : Aside0 (Kd.N (Kd.slice 3 (Kd.int .i64)) 22 w59 w.heap.size (fun k_ => some k_ ≠ (.slice Ao30 t452.length co30 : Value).ownBlock ∧ some k_ ≠ (.slice Ao31 t455.length co31 : Value).ownBlock ∧ some k_ ≠ (.slice Ao41 t465.length co41 : Value).ownBlock ∧ some k_ ≠ (.slice Ao44 t468.length co44 : Value).ownBlock ∧ some k_ ≠ (.slice Ao51 y474.length co51 : Value).ownBlock ∧ some k_ ≠ (.slice Ao58 t480.length co58 : Value).ownBlock ∧ k_ ≠ gb458 ∧ k_ ≠ gb472 ∧ k_ ≠ gb484) (.slice Ao54 t477.length co54) t477) := ⟨(by rw [hw]; exact (by (with_reducible repeat (first | apply Kd.N_alloc | apply Kd.N_drewN | apply Kd.N_drew)); exact Kd.N_mono (Kd.N_far (p := ⟨gb484, 1, none⟩) (Kd.N_far (p := ⟨gb484, 0, none⟩) (Kd.N_mono HO479.out (fun k_ hk => (⟨hk, hk.2⟩ : _ ∧ k_ ≠ gb484))) (fun _ hk => hk.2) (.slice Ao54 t477.length co54)) (fun _ hk => hk.2) (.slice Ao58 t480.length co58)) (fun _ hk => ⟨hk.1.1.2.1, ⟨hk.1.1.2.2.1, ⟨hk.1.1.2.2.2.1, ⟨hk.1.1.2.2.2.2.1, ⟨hk.1.1.2.2.2.2.2.1, ⟨hk.1.1.1, ⟨hk.1.1.2.2.2.2.2.2.1, ⟨hk.1.1.2.2.2.2.2.2.2, hk.1.2⟩⟩⟩⟩⟩⟩⟩⟩)))⟩; have n6_ : Aside0 (Kd.N (Kd.slice 2 (Kd.int .i64)) 53 w59 w.heap.size (fun k_ => some k_ ≠ (.slice Ao30 t452.length co30 : Value).ownBlock ∧ some k_ ≠ (.slice Ao31 t455.length co31 : Value).ownBlock ∧ some k_ ≠ (.slice Ao41 t465.length co41 : Value).ownBlock ∧ some k_ ≠ (.slice Ao44 t468.length co44 : Value).ownBlock ∧ some k_ ≠ (.slice Ao51 y474.length co51 : Value).ownBlock ∧ some k_ ≠ (.slice Ao54 t477.length co54 : Value).ownBlock ∧ k_ ≠ gb458 ∧ k_ ≠ gb472 ∧ k_ ≠ gb484) (.slice Ao58 t480.length co58) t480) := ⟨(by rw [hw]; exact (by (with_reducible repeat (first | apply Kd.N_alloc | apply Kd.N_drewN | apply Kd.N_drew)); exact Kd.N_mono (Kd.N_far (p := ⟨gb484, 1, none⟩) (Kd.N_far (p := ⟨gb484, 0, none⟩) (Kd.N_mono HO482.out (fun k_ hk => (⟨hk, hk.2⟩ : _ ∧ k_ ≠ gb484))) (fun _ hk => hk.2) (.slice Ao54 t477.length co54)) (fun _ hk => hk.2) (.slice Ao58 t480.length co58)) (fun _ hk => ⟨hk.1.1.2.1, ⟨hk.1.1.2.2.1, ⟨hk.1.1.2.2.2.1, ⟨hk.1.1.2.2.2.2.1, ⟨hk.1.1.2.2.2.2.2.1, ⟨hk.1.1.1, ⟨hk.1.1.2.2.2.2.2.2.1, ⟨hk.1.1.2.2.2.2.2.2.2, hk.1.2⟩⟩⟩⟩⟩⟩⟩⟩)))⟩; have n7_ : Aside0 (w59.heap[gb458]? = some (.cells #[.int .i64 t450, .int .i64 t451, .slice Ao30 t452.length co30, .slice Ao31 t455.length co31] 24 (0, 0))) := ⟨(by rw [hw]; exact (bk_ BK458))⟩; have n8_ : Aside0 (w59.heap[gb472]? = some (.cells #[.slice Ao41 t465.length co41, .slice Ao44 t468.length co44] 28 (0, 0))) := ⟨(by rw [hw]; exact (bk_ BK472))⟩; have n9_ : Aside0 (w59.heap[gb484]? = some (.cells #[.slice Ao54 t477.length co54, .slice Ao58 t480.length co58] 28 (0, 0))) := ⟨(by rw [hw]; exact (bp_ BK484))⟩; have n10_ : Aside0 (Below w.heap.size w w59) := ⟨(by rw [hw]; exact (bl_ HB))⟩; clear hw; clear HO454; clear HO457; clear HO467; clear HO470; clear HO476; clear HO479; clear HO482; clear BK458; clear BK472; clear BK484; clear HB; have HO454 := n0_; have HO457 := n1_; have HO467 := n2_; have HO470 := n3_; have HO476 := n4_; have HO479 := n5_; have HO482 := n6_; have BK458 := n7_; have BK472 := n8_; have BK484 := n9_; have HB := n10_; clear n0_ n1_ n2_ n3_ n4_ n5_ n6_ n7_ n8_ n9_ n10_; obtain ⟨hcz60_0, hcz60_1, hcz60_2, hcz60_3, hfz60_0, hfz60_1, hfz60_2, hfz60_3⟩ := e4_ BK458; obtain ⟨hcz61_0, hcz61_1, hfz61_0, hfz61_1⟩ := e2_ BK484) | ((with_reducible refine gate_callee (f := 14) rfl ?_); refine gL_ (some 32) Try.func14 #[.agg #[.int .i64 t450, .int .i64 t451, .slice Ao30 t452.length co30, .slice Ao31 t455.length co31], .agg #[.slice Ao54 t477.length co54, .slice Ao58 t480.length co58]] ?_; (with_reducible refine (vcodec_Decode.calls k t450 t451 _ _ t452 _ _ t455 _ _ t477 (fun k_ => (some k_ ≠ (.slice Ao30 t452.length co30 : Value).ownBlock ∧ (some k_ ≠ (.slice Ao31 t455.length co31 : Value).ownBlock ∧ (some k_ ≠ (.slice Ao41 t465.length co41 : Value).ownBlock ∧ (some k_ ≠ (.slice Ao44 t468.length co44 : Value).ownBlock ∧ (some k_ ≠ (.slice Ao51 y474.length co51 : Value).ownBlock ∧ (some k_ ≠ (.slice Ao54 t477.length co54 : Value).ownBlock ∧ (k_ ≠ gb458 ∧ (k_ ≠ gb472 ∧ k_ ≠ gb484))))))))) _ _ t480 t485 t488 _ ?side1 ?side2 ?side3 ?side4 ?side5 ?side6 ?side7 A7.out).mono ?_); (case side1 => exact kCt_ (Kd.R_reads' HO454.out).2.2); (case side2 => exact (Kd.R_reads' HO454.out).2.1); (case side3 => exact kCt_ (Kd.R_reads' HO457.out).2.2); (case side4 => exact (Kd.R_reads' HO457.out).2.1); (case side5 => repeat (first | exact (Kd.N_reads' HO479.out).2.2 | (with_reducible refine Kd.C_alloc ?_ _) | (with_reducible refine Kd.C_drewN ?_ _) | (with_reducible refine Kd.C_drew ?_))); (case side6 => exact (Kd.N_reads' HO479.out).2.1); (case side7 => exact Kd.N_V (HO482.out)); rintro e w62 ⟨v486, rfl, ho0, hb⟩; refine ⟨_, rfl, ?_⟩; replace HO482 := Aside0.mk (Kd.N_elder' (kN_ HO482) (Kd.N_base ho0) hb); have HO487 := Aside0.mk (Kd.N_lower (Kd.N_mono (ok' := fun k_ => some k_ ≠ (.slice Ao30 t452.length co30 : Value).ownBlock ∧ some k_ ≠ (.slice Ao31 t455.length co31 : Value).ownBlock ∧ some k_ ≠ (.slice Ao41 t465.length co41 : Value).ownBlock ∧ some k_ ≠ (.slice Ao44 t468.length co44 : Value).ownBlock ∧ some k_ ≠ (.slice Ao51 y474.length co51 : Value).ownBlock ∧ some k_ ≠ (.slice Ao54 t477.length co54 : Value).ownBlock ∧ k_ ≠ gb458 ∧ k_ ≠ gb472 ∧ k_ ≠ gb484) ho0 (fun k_ hk_ => ⟨Or.elim hk_ (fun hs_ => hs_.1) (fun hn_ => (Kd.fresh' (Kd.R_lt (kR_ HO454)) k_ hn_)), Or.elim hk_ (fun hs_ => hs_.2.1) (fun hn_ => (Kd.fresh' (Kd.R_lt (kR_ HO457)) k_ hn_)), Or.elim hk_ (fun hs_ => hs_.2.2.1) (fun hn_ => (Kd.fresh' (Kd.N_lt (kN_ HO467)) k_ hn_)), Or.elim hk_ (fun hs_ => hs_.2.2.2.1) (fun hn_ => (Kd.fresh' (Kd.N_lt (kN_ HO470)) k_ hn_)), Or.elim hk_ (fun hs_ => hs_.2.2.2.2.1) (fun hn_ => (Kd.fresh' (Kd.N_lt (kN_ HO476)) k_ hn_)), Or.elim hk_ (fun hs_ => hs_.2.2.2.2.2.1) (fun hn_ => (Kd.fresh' (Kd.N_lt (kN_ HO479)) k_ hn_)), Or.elim hk_ (fun hs_ => hs_.2.2.2.2.2.2.1) (fun hn_ => (Kd.freshB (g := gb458) (o := .cells #[.int .i64 t450, .int .i64 t451, .slice Ao30 t452.length co30, .slice Ao31 t455.length co31] 24 (0, 0)) (bk_ BK458) k_ hn_)), Or.elim hk_ (fun hs_ => hs_.2.2.2.2.2.2.2.1) (fun hn_ => (Kd.freshB (g := gb472) (o := .cells #[.slice Ao41 t465.length co41, .slice Ao44 t468.length co44] 28 (0, 0)) (bk_ BK472) k_ hn_)), Or.elim hk_ (fun hs_ => hs_.2.2.2.2.2.2.2.2) (fun hn_ => (Kd.freshB (g := gb484) (o := .cells #[.slice Ao54 t477.length co54, .slice Ao58 t480.length co58] 28 (0, 0)) (bk_ BK484) k_ hn_))⟩)) (bs_ HB)); replace HO454 := FR_ HO454 hb; replace HO457 := FR_ HO457 hb; replace HO467 := Aside0.mk (Kd.N_elder' (kN_ HO467) (Kd.N_base ho0) hb); replace HO470 := Aside0.mk (Kd.N_elder' (kN_ HO470) (Kd.N_base ho0) hb); replace HO476 := Aside0.mk (Kd.N_elder' (kN_ HO476) (Kd.N_base ho0) hb); replace HO479 := Aside0.mk (Kd.N_elder' (kN_ HO479) (Kd.N_base ho0) hb); replace BK458 := FB_ BK458 hb; replace BK472 := FB_ BK472 hb; replace BK484 := FB_ BK484 hb; replace HB := BS_ HB hb; (try clear hb); (try clear hk); (try clear ho0)) | ((with_reducible refine gate_dst (N := 7) rfl ?_); (try (refine gate_guard (by rfl) ?_; dsimp only)); refine box_ 7 #[.slice none 0 0] 37 ?_; intro gb489 hg w63 hbox hb; replace HO454 := FR_ HO454 hb; replace HO457 := FR_ HO457 hb; replace HO467 := Aside0.mk (Kd.N_below (Kd.N_elderB (kN_ HO467) gb489 (Nat.le_of_eq hg.symm)) hb); replace HO470 := Aside0.mk (Kd.N_below (Kd.N_elderB (kN_ HO470) gb489 (Nat.le_of_eq hg.symm)) hb); replace HO476 := Aside0.mk (Kd.N_below (Kd.N_elderB (kN_ HO476) gb489 (Nat.le_of_eq hg.symm)) hb); replace HO479 := Aside0.mk (Kd.N_below (Kd.N_elderB (kN_ HO479) gb489 (Nat.le_of_eq hg.symm)) hb); replace HO482 := Aside0.mk (Kd.N_below (Kd.N_elderB (kN_ HO482) gb489 (Nat.le_of_eq hg.symm)) hb); replace HO487 := Aside0.mk (Kd.N_below (Kd.N_elderB (kN_ HO487) gb489 (Nat.le_of_eq hg.symm)) hb); have BK489 := Aside0.mk (hbox); have GW489 := GE_ HB hg; have GE489 := GE_ HB hg; replace HB := BS_ HB hb; obtain ⟨NB458_489, NB489_458⟩ := NN_ BK458 hg; replace BK458 := FB_ BK458 hb; obtain ⟨NB472_489, NB489_472⟩ := NN_ BK472 hg; replace BK472 := FB_ BK472 hb; obtain ⟨NB484_489, NB489_484⟩ := NN_ BK484 hg; replace BK484 := FB_ BK484 hb; clear hb hbox hg; obtain ⟨Ao64, co64, eo64⟩ := Kd.N_slice HO487.out; subst eo64; have hnb65 := NB489_458.out; have hnc65 := NB458_489.out; have hnb66 := NB489_472.out; have hnc66 := NB472_489.out; have hnb67 := NB489_484.out; have hnc67 := NB484_489.out; obtain ⟨hcz68_0, hfz68_0⟩ := e1_ BK489) | ((with_reducible refine gate_store (t := 37) (p := 7) rfl ?_); refine store_event (t := 37) (p := 7) (v := ?vo_w69) (w1 := (w63.setCell ⟨gb489, 0, none⟩ (.slice Ao64 t485.length co64))) ?hg ?ho ?hn ?hr ?_; (case ho => rfl); (case hg => rfl); (case hn => rfl); (case hr => first | (go_simp; done) | (go_simp; rfl)); intro w69 hw; have n0_ : Aside0 (Kd.R (Kd.int .i64) 3 w69 w.heap.size (fun k_ => some k_ ≠ (.slice Ao31 t455.length co31 : Value).ownBlock) (.slice Ao30 t452.length co30) t452) := ⟨(by rw [hw]; exact (kRk_ HO454 BK489))⟩; have n1_ : Aside0 (Kd.R (Kd.int .i64) 3 w69 w.heap.size (fun k_ => some k_ ≠ (.slice Ao30 t452.length co30 : Value).ownBlock) (.slice Ao31 t455.length co31) t455) := ⟨(by rw [hw]; exact (kRk_ HO457 BK489))⟩; have n2_ : Aside0 (Kd.N (Kd.slice 3 (Kd.int .i64)) 22 w69 w.heap.size (fun k_ => some k_ ≠ (.slice Ao30 t452.length co30 : Value).ownBlock ∧ some k_ ≠ (.slice Ao31 t455.length co31 : Value).ownBlock ∧ some k_ ≠ (.slice Ao44 t468.length co44 : Value).ownBlock ∧ some k_ ≠ (.slice Ao51 y474.length co51 : Value).ownBlock ∧ some k_ ≠ (.slice Ao54 t477.length co54 : Value).ownBlock ∧ some k_ ≠ (.slice Ao58 t480.length co58 : Value).ownBlock ∧ some k_ ≠ (.slice Ao64 t485.length co64 : Value).ownBlock ∧ k_ ≠ gb458 ∧ k_ ≠ gb472 ∧ k_ ≠ gb484 ∧ k_ ≠ gb489) (.slice Ao41 t465.length co41) t465) := ⟨(by rw [hw]; exact (by (with_reducible repeat (first | apply Kd.N_alloc | apply Kd.N_drewN | apply Kd.N_drew)); exact Kd.N_mono (Kd.N_far (p := ⟨gb489, 0, none⟩) (Kd.N_mono HO467.out (fun k_ hk => (⟨hk, hk.2⟩ : _ ∧ k_ ≠ gb489))) (fun _ hk => hk.2) (.slice Ao64 t485.length co64)) (fun _ hk => ⟨hk.1.1.1.1, ⟨hk.1.1.1.2.1, ⟨hk.1.1.1.2.2.1, ⟨hk.1.1.1.2.2.2.1, ⟨hk.1.1.1.2.2.2.2.1, ⟨hk.1.1.1.2.2.2.2.2.1, ⟨hk.1.1.2, ⟨hk.1.1.1.2.2.2.2.2.2.1, ⟨hk.1.1.1.2.2.2.2.2.2.2.1, ⟨hk.1.1.1.2.2.2.2.2.2.2.2, hk.1.2⟩⟩⟩⟩⟩⟩⟩⟩⟩⟩)))⟩; have n3_ : Aside0 (Kd.N (Kd.slice 2 (Kd.int .i64)) 53 w69 w.heap.size (fun k_ => some k_ ≠ (.slice Ao30 t452.length co30 : Value).ownBlock ∧ some k_ ≠ (.slice Ao31 t455.length co31 : Value).ownBlock ∧ some k_ ≠ (.slice Ao41 t465.length co41 : Value).ownBlock ∧ some k_ ≠ (.slice Ao51 y474.length co51 : Value).ownBlock ∧ some k_ ≠ (.slice Ao54 t477.length co54 : Value).ownBlock ∧ some k_ ≠ (.slice Ao58 t480.length co58 : Value).ownBlock ∧ some k_ ≠ (.slice Ao64 t485.length co64 : Value).ownBlock ∧ k_ ≠ gb458 ∧ k_ ≠ gb472 ∧ k_ ≠ gb484 ∧ k_ ≠ gb489) (.slice Ao44 t468.length co44) t468) := ⟨(by rw [hw]; exact (by (with_reducible repeat (first | apply Kd.N_alloc | apply Kd.N_drewN | apply Kd.N_drew)); exact Kd.N_mono (Kd.N_far (p := ⟨gb489, 0, none⟩) (Kd.N_mono HO470.out (fun k_ hk => (⟨hk, hk.2⟩ : _ ∧ k_ ≠ gb489))) (fun _ hk => hk.2) (.slice Ao64 t485.length co64)) (fun _ hk => ⟨hk.1.1.1.1, ⟨hk.1.1.1.2.1, ⟨hk.1.1.1.2.2.1, ⟨hk.1.1.1.2.2.2.1, ⟨hk.1.1.1.2.2.2.2.1, ⟨hk.1.1.1.2.2.2.2.2.1, ⟨hk.1.1.2, ⟨hk.1.1.1.2.2.2.2.2.2.1, ⟨hk.1.1.1.2.2.2.2.2.2.2.1, ⟨hk.1.1.1.2.2.2.2.2.2.2.2, hk.1.2⟩⟩⟩⟩⟩⟩⟩⟩⟩⟩)))⟩; have n4_ : Aside0 (Kd.N (Kd.slice 2 (Kd.int .i64)) 53 w69 w.heap.size (fun k_ => some k_ ≠ (.slice Ao30 t452.length co30 : Value).ownBlock ∧ some k_ ≠ (.slice Ao31 t455.length co31 : Value).ownBlock ∧ some k_ ≠ (.slice Ao41 t465.length co41 : Value).ownBlock ∧ some k_ ≠ (.slice Ao44 t468.length co44 : Value).ownBlock ∧ some k_ ≠ (.slice Ao54 t477.length co54 : Value).ownBlock ∧ some k_ ≠ (.slice Ao58 t480.length co58 : Value).ownBlock ∧ some k_ ≠ (.slice Ao64 t485.length co64 : Value).ownBlock ∧ k_ ≠ gb458 ∧ k_ ≠ gb472 ∧ k_ ≠ gb484 ∧ k_ ≠ gb489) (.slice Ao51 y474.length co51) y474) := ⟨(by rw [hw]; exact (by (with_reducible repeat (first | apply Kd.N_alloc | apply Kd.N_drewN | apply Kd.N_drew)); exact Kd.N_mono (Kd.N_far (p := ⟨gb489, 0, none⟩) (Kd.N_mono HO476.out (fun k_ hk => (⟨hk, hk.2⟩ : _ ∧ k_ ≠ gb489))) (fun _ hk => hk.2) (.slice Ao64 t485.length co64)) (fun _ hk => ⟨hk.1.1.1.1, ⟨hk.1.1.1.2.1, ⟨hk.1.1.1.2.2.1, ⟨hk.1.1.1.2.2.2.1, ⟨hk.1.1.1.2.2.2.2.1, ⟨hk.1.1.1.2.2.2.2.2.1, ⟨hk.1.1.2, ⟨hk.1.1.1.2.2.2.2.2.2.1, ⟨hk.1.1.1.2.2.2.2.2.2.2.1, ⟨hk.1.1.1.2.2.2.2.2.2.2.2, hk.1.2⟩⟩⟩⟩⟩⟩⟩⟩⟩⟩)))⟩; have n5_ : Aside0 (Kd.N (Kd.slice 3 (Kd.int .i64)) 22 w69 w.heap.size (fun k_ => some k_ ≠ (.slice Ao30 t452.length co30 : Value).ownBlock ∧ some k_ ≠ (.slice Ao31 t455.length co31 : Value).ownBlock ∧ some k_ ≠ (.slice Ao41 t465.length co41 : Value).ownBlock ∧ some k_ ≠ (.slice Ao44 t468.length co44 : Value).ownBlock ∧ some k_ ≠ (.slice Ao51 y474.length co51 : Value).ownBlock ∧ some k_ ≠ (.slice Ao58 t480.length co58 : Value).ownBlock ∧ some k_ ≠ (.slice Ao64 t485.length co64 : Value).ownBlock ∧ k_ ≠ gb458 ∧ k_ ≠ gb472 ∧ k_ ≠ gb484 ∧ k_ ≠ gb489) (.slice Ao54 t477.length co54) t477) := ⟨(by rw [hw]; exact (by (with_reducible repeat (first | apply Kd.N_alloc | apply Kd.N_drewN | apply Kd.N_drew)); exact Kd.N_mono (Kd.N_far (p := ⟨gb489, 0, none⟩) (Kd.N_mono HO479.out (fun k_ hk => (⟨hk, hk.2⟩ : _ ∧ k_ ≠ gb489))) (fun _ hk => hk.2) (.slice Ao64 t485.length co64)) (fun _ hk => ⟨hk.1.1.1.1, ⟨hk.1.1.1.2.1, ⟨hk.1.1.1.2.2.1, ⟨hk.1.1.1.2.2.2.1, ⟨hk.1.1.1.2.2.2.2.1, ⟨hk.1.1.1.2.2.2.2.2.1, ⟨hk.1.1.2, ⟨hk.1.1.1.2.2.2.2.2.2.1, ⟨hk.1.1.1.2.2.2.2.2.2.2.1, ⟨hk.1.1.1.2.2.2.2.2.2.2.2, hk.1.2⟩⟩⟩⟩⟩⟩⟩⟩⟩⟩)))⟩; have n6_ : Aside0 (Kd.N (Kd.slice 2 (Kd.int .i64)) 53 w69 w.heap.size (fun k_ => some k_ ≠ (.slice Ao30 t452.length co30 : Value).ownBlock ∧ some k_ ≠ (.slice Ao31 t455.length co31 : Value).ownBlock ∧ some k_ ≠ (.slice Ao41 t465.length co41 : Value).ownBlock ∧ some k_ ≠ (.slice Ao44 t468.length co44 : Value).ownBlock ∧ some k_ ≠ (.slice Ao51 y474.length co51 : Value).ownBlock ∧ some k_ ≠ (.slice Ao54 t477.length co54 : Value).ownBlock ∧ some k_ ≠ (.slice Ao64 t485.length co64 : Value).ownBlock ∧ k_ ≠ gb458 ∧ k_ ≠ gb472 ∧ k_ ≠ gb484 ∧ k_ ≠ gb489) (.slice Ao58 t480.length co58) t480) := ⟨(by rw [hw]; exact (by (with_reducible repeat (first | apply Kd.N_alloc | apply Kd.N_drewN | apply Kd.N_drew)); exact Kd.N_mono (Kd.N_far (p := ⟨gb489, 0, none⟩) (Kd.N_mono HO482.out (fun k_ hk => (⟨hk, hk.2⟩ : _ ∧ k_ ≠ gb489))) (fun _ hk => hk.2) (.slice Ao64 t485.length co64)) (fun _ hk => ⟨hk.1.1.1.1, ⟨hk.1.1.1.2.1, ⟨hk.1.1.1.2.2.1, ⟨hk.1.1.1.2.2.2.1, ⟨hk.1.1.1.2.2.2.2.1, ⟨hk.1.1.1.2.2.2.2.2.1, ⟨hk.1.1.2, ⟨hk.1.1.1.2.2.2.2.2.2.1, ⟨hk.1.1.1.2.2.2.2.2.2.2.1, ⟨hk.1.1.1.2.2.2.2.2.2.2.2, hk.1.2⟩⟩⟩⟩⟩⟩⟩⟩⟩⟩)))⟩; have n7_ : Aside0 (Kd.N (Kd.slice 2 (Kd.int .i64)) 53 w69 w.heap.size (fun k_ => some k_ ≠ (.slice Ao30 t452.length co30 : Value).ownBlock ∧ some k_ ≠ (.slice Ao31 t455.length co31 : Value).ownBlock ∧ some k_ ≠ (.slice Ao41 t465.length co41 : Value).ownBlock ∧ some k_ ≠ (.slice Ao44 t468.length co44 : Value).ownBlock ∧ some k_ ≠ (.slice Ao51 y474.length co51 : Value).ownBlock ∧ some k_ ≠ (.slice Ao54 t477.length co54 : Value).ownBlock ∧ k_ ≠ gb458 ∧ k_ ≠ gb472 ∧ k_ ≠ gb484 ∧ k_ ≠ gb489) (.slice Ao64 t485.length co64) t485) := ⟨(by rw [hw]; exact (by (with_reducible repeat (first | apply Kd.N_alloc | apply Kd.N_drewN | apply Kd.N_drew)); exact Kd.N_mono (Kd.N_far (p := ⟨gb489, 0, none⟩) (Kd.N_mono HO487.out (fun k_ hk => (⟨hk, hk.2⟩ : _ ∧ k_ ≠ gb489))) (fun _ hk => hk.2) (.slice Ao64 t485.length co64)) (fun _ hk => ⟨hk.1.1.1, ⟨hk.1.1.2.1, ⟨hk.1.1.2.2.1, ⟨hk.1.1.2.2.2.1, ⟨hk.1.1.2.2.2.2.1, ⟨hk.1.1.2.2.2.2.2.1, ⟨hk.1.1.2.2.2.2.2.2.1, ⟨hk.1.1.2.2.2.2.2.2.2.1, ⟨hk.1.1.2.2.2.2.2.2.2.2, hk.1.2⟩⟩⟩⟩⟩⟩⟩⟩⟩)))⟩; have n8_ : Aside0 (w69.heap[gb458]? = some (.cells #[.int .i64 t450, .int .i64 t451, .slice Ao30 t452.length co30, .slice Ao31 t455.length co31] 24 (0, 0))) := ⟨(by rw [hw]; exact (bk_ BK458))⟩; have n9_ : Aside0 (w69.heap[gb472]? = some (.cells #[.slice Ao41 t465.length co41, .slice Ao44 t468.length co44] 28 (0, 0))) := ⟨(by rw [hw]; exact (bk_ BK472))⟩; have n10_ : Aside0 (w69.heap[gb484]? = some (.cells #[.slice Ao54 t477.length co54, .slice Ao58 t480.length co58] 28 (0, 0))) := ⟨(by rw [hw]; exact (bk_ BK484))⟩; have n11_ : Aside0 (w69.heap[gb489]? = some (.cells #[.slice Ao64 t485.length co64] 37 (0, 0))) := ⟨(by rw [hw]; exact (bp_ BK489))⟩; have n12_ : Aside0 (Below w.heap.size w w69) := ⟨(by rw [hw]; exact (bl_ HB))⟩; clear hw; clear HO454; clear HO457; clear HO467; clear HO470; clear HO476; clear HO479; clear HO482; clear HO487; clear BK458; clear BK472; clear BK484; clear BK489; clear HB; have HO454 := n0_; have HO457 := n1_; have HO467 := n2_; have HO470 := n3_; have HO476 := n4_; have HO479 := n5_; have HO482 := n6_; have HO487 := n7_; have BK458 := n8_; have BK472 := n9_; have BK484 := n10_; have BK489 := n11_; have HB := n12_; clear n0_ n1_ n2_ n3_ n4_ n5_ n6_ n7_ n8_ n9_ n10_ n11_ n12_; obtain ⟨hcz70_0, hcz70_1, hfz70_0, hfz70_1⟩ := e2_ BK472; have p490 : 0 ≤ (0 : Int) := (by omega); have q490 : 0 < (t465.length : Int) := of_decide_eq_true am_; obtain ⟨ad490, A490_0, c490_0, e490, hx490_0, hl490_0, hi490_0⟩ := at_L1 (Kd.N_reads' HO467.out).2.2 0 p490 q490; cases e490; obtain ⟨ce490, hce490, hMe490, hcc490⟩ := Kd.N_get HO467.out [] 0 p490 (by first | exact q490 | exact of_decide_eq_true am_ | (have e_ := (Kd.N_reads' HO467.out).1; omega)); obtain ⟨ua490_0, uc490_0, rfl, ul490_0, ge490_0⟩ := Kd.FK_slice_open hMe490; have hv490_0 := hcc490 0 _ rfl; rw [Nat.add_zero, show ((Kd.slice 3 (Kd.int .i64))).sz = 1 from rfl, Nat.mul_one] at hv490_0; replace hv490_0 := Option.some.inj (hv490_0.symm.trans hx490_0); injection hv490_0 with hva_ hvn_ hvc_; rw [hva_] at ge490_0; rw [hvc_] at ul490_0; have HL490_0 := Aside0.mk (show Kd.V (Kd.int .i64) 3 _ w.heap.size _ _ (rd_L1 t465 0) from Kd.V_mk ul490_0 ge490_0); clear hva_ hvn_ hvc_ ge490_0 ul490_0; clear hcc490 hce490; have qi490 : (0 < t465.length) = True := eq_true (by omega); (try rw [show ((0 : Int)).toNat = 0 from rfl] at hx490_0); (try rw [Addr.add_zero'] at hx490_0); have HR490_0 := Aside0.mk hi490_0; have HC490_0 := Aside0.mk hl490_0; clear hi490_0 hl490_0; replace p490 := eq_true p490; replace q490 := eq_true q490; obtain ⟨hcz71_0, hcz71_1, hfz71_0, hfz71_1⟩ := e2_ BK484; have p491 : 0 ≤ (0 : Int) := (by omega); have q491 : 0 < (t480.length : Int) := of_decide_eq_true am_; obtain ⟨ad491, A491_0, c491_0, e491, hx491_0, hl491_0, hi491_0⟩ := at_L2 (Kd.N_reads' HO482.out).2.2 0 p491 q491; cases e491; obtain ⟨ce491, hce491, hMe491, hcc491⟩ := Kd.N_get HO482.out [] 0 p491 (by first | exact q491 | exact of_decide_eq_true am_ | (have e_ := (Kd.N_reads' HO482.out).1; omega)); obtain ⟨ua491_0, uc491_0, rfl, ul491_0, ge491_0⟩ := Kd.FK_slice_open hMe491; have hv491_0 := hcc491 0 _ rfl; rw [Nat.add_zero, show ((Kd.slice 2 (Kd.int .i64))).sz = 1 from rfl, Nat.mul_one] at hv491_0; replace hv491_0 := Option.some.inj (hv491_0.symm.trans hx491_0); injection hv491_0 with hva_ hvn_ hvc_; rw [hva_] at ge491_0; rw [hvc_] at ul491_0; have HL491_0 := Aside0.mk (show Kd.V (Kd.int .i64) 2 _ w.heap.size _ _ (rd_L2 t480 0) from Kd.V_mk ul491_0 ge491_0); clear hva_ hvn_ hvc_ ge491_0 ul491_0; clear hcc491 hce491; have qi491 : (0 < t480.length) = True := eq_true (by omega); (try rw [show ((0 : Int)).toNat = 0 from rfl] at hx491_0); (try rw [Addr.add_zero'] at hx491_0); have HR491_0 := Aside0.mk hi491_0; have HC491_0 := Aside0.mk hl491_0; clear hi491_0 hl491_0; replace p491 := eq_true p491; replace q491 := eq_true q491; have p492 : 0 ≤ (0 : Int) := (by omega); have q492 : 0 < (t480.length : Int) := of_decide_eq_true am_; obtain ⟨ad492, A492_0, c492_0, e492, hx492_0, hl492_0, hi492_0⟩ := at_L2 (Kd.N_reads' HO482.out).2.2 0 p492 q492; obtain rfl : ad491 = ad492 := (by injection e492); obtain ⟨ce492, hce492, hMe492, hcc492⟩ := Kd.N_get HO482.out [] 0 p492 (by first | exact q492 | exact of_decide_eq_true am_ | (have e_ := (Kd.N_reads' HO482.out).1; omega)); obtain ⟨ua492_0, uc492_0, rfl, ul492_0, ge492_0⟩ := Kd.FK_slice_open hMe492; have hv492_0 := hcc492 0 _ rfl; rw [Nat.add_zero, show ((Kd.slice 2 (Kd.int .i64))).sz = 1 from rfl, Nat.mul_one] at hv492_0; replace hv492_0 := Option.some.inj (hv492_0.symm.trans hx492_0); injection hv492_0 with hva_ hvn_ hvc_; rw [hva_] at ge492_0; rw [hvc_] at ul492_0; have HL492_0 := Aside0.mk (show Kd.V (Kd.int .i64) 2 _ w.heap.size _ _ (rd_L2 t480 0) from Kd.V_mk ul492_0 ge492_0); clear hva_ hvn_ hvc_ ge492_0 ul492_0; clear hcc492 hce492; have qi492 : (0 < t480.length) = True := eq_true (by omega); (try rw [show ((0 : Int)).toNat = 0 from rfl] at hx492_0); (try rw [Addr.add_zero'] at hx492_0); have HR492_0 := Aside0.mk hi492_0; have HC492_0 := Aside0.mk hl492_0; clear hi492_0 hl492_0; replace p492 := eq_true p492; replace q492 := eq_true q492; have ea_ := Option.some.inj (hx491_0.symm.trans hx492_0); injection ea_ with ea_ en_ ec_; subst ea_; subst ec_; clear en_; have p493 : 0 ≤ (0 : Int) := (by omega); have q493 : 0 < ((rd_L2 t480 0).length : Int) := of_decide_eq_true am_; obtain ⟨ad493, e493, hx493_0⟩ := Kd.at_int (by repeat (first | (with_reducible exact HR492_0.out) | (with_reducible refine Kd.C_alloc ?_ _) | (with_reducible refine Kd.C_drewN ?_ _) | (with_reducible refine Kd.C_drew ?_) | exact HR492_0.out)) 0 p493 q493; cases e493; have qi493 : (0 < (rd_L2 t480 0).length) = True := eq_true (by omega); (try rw [show ((0 : Int)).toNat = 0 from rfl] at hx493_0); (try rw [Addr.add_zero'] at hx493_0); replace p493 := eq_true p493; replace q493 := eq_true q493; have p494 : 0 ≤ (0 : Int) := (by omega); have q494 : 0 < (t477.length : Int) := of_decide_eq_true am_; obtain ⟨ad494, A494_0, c494_0, e494, hx494_0, hl494_0, hi494_0⟩ := at_L1 (Kd.N_reads' HO479.out).2.2 0 p494 q494; cases e494; obtain ⟨ce494, hce494, hMe494, hcc494⟩ := Kd.N_get HO479.out [] 0 p494 (by first | exact q494 | exact of_decide_eq_true am_ | (have e_ := (Kd.N_reads' HO479.out).1; omega)); obtain ⟨ua494_0, uc494_0, rfl, ul494_0, ge494_0⟩ := Kd.FK_slice_open hMe494; have hv494_0 := hcc494 0 _ rfl; rw [Nat.add_zero, show ((Kd.slice 3 (Kd.int .i64))).sz = 1 from rfl, Nat.mul_one] at hv494_0; replace hv494_0 := Option.some.inj (hv494_0.symm.trans hx494_0); injection hv494_0 with hva_ hvn_ hvc_; rw [hva_] at ge494_0; rw [hvc_] at ul494_0; have HL494_0 := Aside0.mk (show Kd.V (Kd.int .i64) 3 _ w.heap.size _ _ (rd_L1 t477 0) from Kd.V_mk ul494_0 ge494_0); clear hva_ hvn_ hvc_ ge494_0 ul494_0; clear hcc494 hce494; have qi494 : (0 < t477.length) = True := eq_true (by omega); (try rw [show ((0 : Int)).toNat = 0 from rfl] at hx494_0); (try rw [Addr.add_zero'] at hx494_0); have HR494_0 := Aside0.mk hi494_0; have HC494_0 := Aside0.mk hl494_0; clear hi494_0 hl494_0; replace p494 := eq_true p494; replace q494 := eq_true q494; have p495 : 0 ≤ (0 : Int) := (by omega); have q495 : 0 < (t477.length : Int) := of_decide_eq_true am_; obtain ⟨ad495, A495_0, c495_0, e495, hx495_0, hl495_0, hi495_0⟩ := at_L1 (Kd.N_reads' HO479.out).2.2 0 p495 q495; obtain rfl : ad494 = ad495 := (by injection e495); obtain ⟨ce495, hce495, hMe495, hcc495⟩ := Kd.N_get HO479.out [] 0 p495 (by first | exact q495 | exact of_decide_eq_true am_ | (have e_ := (Kd.N_reads' HO479.out).1; omega)); obtain ⟨ua495_0, uc495_0, rfl, ul495_0, ge495_0⟩ := Kd.FK_slice_open hMe495; have hv495_0 := hcc495 0 _ rfl; rw [Nat.add_zero, show ((Kd.slice 3 (Kd.int .i64))).sz = 1 from rfl, Nat.mul_one] at hv495_0; replace hv495_0 := Option.some.inj (hv495_0.symm.trans hx495_0); injection hv495_0 with hva_ hvn_ hvc_; rw [hva_] at ge495_0; rw [hvc_] at ul495_0; have HL495_0 := Aside0.mk (show Kd.V (Kd.int .i64) 3 _ w.heap.size _ _ (rd_L1 t477 0) from Kd.V_mk ul495_0 ge495_0); clear hva_ hvn_ hvc_ ge495_0 ul495_0; clear hcc495 hce495; have qi495 : (0 < t477.length) = True := eq_true (by omega); (try rw [show ((0 : Int)).toNat = 0 from rfl] at hx495_0); (try rw [Addr.add_zero'] at hx495_0); have HR495_0 := Aside0.mk hi495_0; have HC495_0 := Aside0.mk hl495_0; clear hi495_0 hl495_0; replace p495 := eq_true p495; replace q495 := eq_true q495; have ea_ := Option.some.inj (hx494_0.symm.trans hx495_0); injection ea_ with ea_ en_ ec_; subst ea_; subst ec_; clear en_; have p496 : 0 ≤ (0 : Int) := (by omega); have q496 : 0 < ((rd_L1 t477 0).length : Int) := of_decide_eq_true am_; obtain ⟨ad496, e496, hx496_0⟩ := Kd.at_int (by repeat (first | (with_reducible exact HR495_0.out) | (with_reducible refine Kd.C_alloc ?_ _) | (with_reducible refine Kd.C_drewN ?_ _) | (with_reducible refine Kd.C_drew ?_) | exact HR495_0.out)) 0 p496 q496; cases e496; have qi496 : (0 < (rd_L1 t477 0).length) = True := eq_true (by omega); (try rw [show ((0 : Int)).toNat = 0 from rfl] at hx496_0); (try rw [Addr.add_zero'] at hx496_0); replace p496 := eq_true p496; replace q496 := eq_true q496; obtain ⟨hcz72_0, hfz72_0⟩ := e1_ BK489; have p497 : 0 ≤ (0 : Int) := (by omega); have q497 : 0 < (t485.length : Int) := of_decide_eq_true am_; obtain ⟨ad497, A497_0, c497_0, e497, hx497_0, hl497_0, hi497_0⟩ := at_L2 (Kd.N_reads' HO487.out).2.2 0 p497 q497; cases e497; obtain ⟨ce497, hce497, hMe497, hcc497⟩ := Kd.N_get HO487.out [] 0 p497 (by first | exact q497 | exact of_decide_eq_true am_ | (have e_ := (Kd.N_reads' HO487.out).1; omega)); obtain ⟨ua497_0, uc497_0, rfl, ul497_0, ge497_0⟩ := Kd.FK_slice_open hMe497; have hv497_0 := hcc497 0 _ rfl; rw [Nat.add_zero, show ((Kd.slice 2 (Kd.int .i64))).sz = 1 from rfl, Nat.mul_one] at hv497_0; replace hv497_0 := Option.some.inj (hv497_0.symm.trans hx497_0); injection hv497_0 with hva_ hvn_ hvc_; rw [hva_] at ge497_0; rw [hvc_] at ul497_0; have HL497_0 := Aside0.mk (show Kd.V (Kd.int .i64) 2 _ w.heap.size _ _ (rd_L2 t485 0) from Kd.V_mk ul497_0 ge497_0); clear hva_ hvn_ hvc_ ge497_0 ul497_0; clear hcc497 hce497; have qi497 : (0 < t485.length) = True := eq_true (by omega); (try rw [show ((0 : Int)).toNat = 0 from rfl] at hx497_0); (try rw [Addr.add_zero'] at hx497_0); have HR497_0 := Aside0.mk hi497_0; have HC497_0 := Aside0.mk hl497_0; clear hi497_0 hl497_0; replace p497 := eq_true p497; replace q497 := eq_true q497; have p498 : 0 ≤ (0 : Int) := (by omega); have q498 : 0 < (t485.length : Int) := of_decide_eq_true am_; obtain ⟨ad498, A498_0, c498_0, e498, hx498_0, hl498_0, hi498_0⟩ := at_L2 (Kd.N_reads' HO487.out).2.2 0 p498 q498; obtain rfl : ad497 = ad498 := (by injection e498); obtain ⟨ce498, hce498, hMe498, hcc498⟩ := Kd.N_get HO487.out [] 0 p498 (by first | exact q498 | exact of_decide_eq_true am_ | (have e_ := (Kd.N_reads' HO487.out).1; omega)); obtain ⟨ua498_0, uc498_0, rfl, ul498_0, ge498_0⟩ := Kd.FK_slice_open hMe498; have hv498_0 := hcc498 0 _ rfl; rw [Nat.add_zero, show ((Kd.slice 2 (Kd.int .i64))).sz = 1 from rfl, Nat.mul_one] at hv498_0; replace hv498_0 := Option.some.inj (hv498_0.symm.trans hx498_0); injection hv498_0 with hva_ hvn_ hvc_; rw [hva_] at ge498_0; rw [hvc_] at ul498_0; have HL498_0 := Aside0.mk (show Kd.V (Kd.int .i64) 2 _ w.heap.size _ _ (rd_L2 t485 0) from Kd.V_mk ul498_0 ge498_0); clear hva_ hvn_ hvc_ ge498_0 ul498_0; clear hcc498 hce498; have qi498 : (0 < t485.length) = True := eq_true (by omega); (try rw [show ((0 : Int)).toNat = 0 from rfl] at hx498_0); (try rw [Addr.add_zero'] at hx498_0); have HR498_0 := Aside0.mk hi498_0; have HC498_0 := Aside0.mk hl498_0; clear hi498_0 hl498_0; replace p498 := eq_true p498; replace q498 := eq_true q498; have ea_ := Option.some.inj (hx497_0.symm.trans hx498_0); injection ea_ with ea_ en_ ec_; subst ea_; subst ec_; clear en_; have p499 : 0 ≤ (0 : Int) := (by omega); have q499 : 0 < ((rd_L2 t485 0).length : Int) := of_decide_eq_true am_; obtain ⟨ad499, e499, hx499_0⟩ := Kd.at_int (by repeat (first | (with_reducible exact HR498_0.out) | (with_reducible refine Kd.C_alloc ?_ _) | (with_reducible refine Kd.C_drewN ?_ _) | (with_reducible refine Kd.C_drew ?_) | exact HR498_0.out)) 0 p499 q499; cases e499; have qi499 : (0 < (rd_L2 t485 0).length) = True := eq_true (by omega); (try rw [show ((0 : Int)).toNat = 0 from rfl] at hx499_0); (try rw [Addr.add_zero'] at hx499_0); replace p499 := eq_true p499; replace q499 := eq_true q499))
 go_ret
 exact ⟨by first | rfl | (simp [errW_none, errW_some] <;> rfl) | (simp [*, errW_none, errW_some] <;> rfl), bl_ HB⟩}
 {
 rw [if_neg c26] at H
 exact absurd H (by simp)}}
 {
 rw [if_neg c25] at H
 have c25b0 : (((rd_L2 t485 0).length : Int) == 16) = false := beq_eq_false_iff_ne.mpr c25
 have c25b1 : (((rd_L2 t485 0).length : Int) != 16) = true := bne_iff_ne.mpr c25
 exact absurd ((Option.some.inj H).trans HT.out) (by decide)}}
 {
 rw [if_neg c24] at H
 exact absurd H (by simp)}}
 {
 rw [if_neg c23] at H
 have c23b0 : ((t485.length : Int) == 1) = false := beq_eq_false_iff_ne.mpr c23
 have c23b1 : ((t485.length : Int) != 1) = true := bne_iff_ne.mpr c23
 exact absurd ((Option.some.inj H).trans HT.out) (by decide)}}
 {
 rw [if_neg c22] at H
 have c22b0 : (t488 == 0) = false := beq_eq_false_iff_ne.mpr c22
 have c22b1 : (t488 != 0) = true := bne_iff_ne.mpr c22
 exact absurd ((Option.some.inj H).trans HT.out) (by decide)}}
 {
 rw [if_neg c21] at H
 have c21b0 : ((rd (rd_L1 t477 0) 0) == 0) = false := beq_eq_false_iff_ne.mpr c21
 have c21b1 : ((rd (rd_L1 t477 0) 0) != 0) = true := bne_iff_ne.mpr c21
 exact absurd ((Option.some.inj H).trans HT.out) (by decide)}}
 {
 rw [if_neg c20] at H
 exact absurd H (by simp)}}
 {
 rw [if_neg c19] at H
 have c19b0 : (((rd_L1 t477 0).length : Int) == 6) = false := beq_eq_false_iff_ne.mpr c19
 have c19b1 : (((rd_L1 t477 0).length : Int) != 6) = true := bne_iff_ne.mpr c19
 exact absurd ((Option.some.inj H).trans HT.out) (by decide)}}
 {
 rw [if_neg c18] at H
 exact absurd H (by simp)}}
 {
 rw [if_neg c17] at H
 have c17b0 : ((rd (rd_L2 t480 0) 0) == 5) = false := beq_eq_false_iff_ne.mpr c17
 have c17b1 : ((rd (rd_L2 t480 0) 0) != 5) = true := bne_iff_ne.mpr c17
 exact absurd ((Option.some.inj H).trans HT.out) (by decide)}}
 {
 rw [if_neg c16] at H
 exact absurd H (by simp)}}
 {
 rw [if_neg c15] at H
 have c15b0 : (((rd_L2 t480 0).length : Int) == 16) = false := beq_eq_false_iff_ne.mpr c15
 have c15b1 : (((rd_L2 t480 0).length : Int) != 16) = true := bne_iff_ne.mpr c15
 exact absurd ((Option.some.inj H).trans HT.out) (by decide)}}
 {
 rw [if_neg c14] at H
 exact absurd H (by simp)}}
 {
 rw [if_neg c13] at H
 have c13b0 : ((t480.length : Int) == 1) = false := beq_eq_false_iff_ne.mpr c13
 have c13b1 : ((t480.length : Int) != 1) = true := bne_iff_ne.mpr c13
 exact absurd ((Option.some.inj H).trans HT.out) (by decide)}}
 {
 rw [if_neg c12] at H
 have c12b0 : (t483 == 0) = false := beq_eq_false_iff_ne.mpr c12
 have c12b1 : (t483 != 0) = true := bne_iff_ne.mpr c12
 exact absurd ((Option.some.inj H).trans HT.out) (by decide)}}
 {
 rw [if_neg c11] at H
 have c11b0 : (((rd_L1 t465 0).length : Int) == 0) = false := beq_eq_false_iff_ne.mpr c11
 have c11b1 : (((rd_L1 t465 0).length : Int) != 0) = true := bne_iff_ne.mpr c11
 have c11b2 : ¬ ((rd_L1 t465 0) = []) := fun h_ => c11 (by rw [h_]; rfl)
 exact absurd ((Option.some.inj H).trans HT.out) (by decide)}}
 {
 rw [if_neg c10] at H
 exact absurd H (by simp)}}
 {
 rw [if_neg c9] at H
 have c9b0 : ((t465.length : Int) == 1) = false := beq_eq_false_iff_ne.mpr c9
 have c9b1 : ((t465.length : Int) != 1) = true := bne_iff_ne.mpr c9
 exact absurd ((Option.some.inj H).trans HT.out) (by decide)}}
 {
 rw [if_neg c8] at H
 have c8b0 : (t471 == 0) = false := beq_eq_false_iff_ne.mpr c8
 have c8b1 : (t471 != 0) = true := bne_iff_ne.mpr c8
 exact absurd ((Option.some.inj H).trans HT.out) (by decide)}}
 {
 rw [if_neg c4] at H
 exact absurd H (by simp)}}
 {
 rw [if_neg c2] at H
 exact absurd H (by simp)}
theorem psalterylaw22_knows.sure : psalterylaw22_knows.f 2000 = some true := by decide +kernel
theorem psalterylaw22_knows.calls (k : Nat)  (r : Bool) (w : World) (h : psalterylaw22_knows.f k  = some r) :
    Calls Try.prog 13 #[] w fun e w' => e = .returned (.bool r) ∧ Below w.heap.size w w' :=
  psalterylaw22_knows.callsT k r w h (by
    have h1 := at_rounds (g := fun k => psalterylaw22_knows.f k) (fun k => psalterylaw22_knows.mono k) (Nat.le_add_right k 2000) h
    have h2 := at_rounds (g := fun k => psalterylaw22_knows.f k) (fun k => psalterylaw22_knows.mono k) (Nat.le_add_left 2000 k) psalterylaw22_knows.sure
    exact Option.some.inj (h1.symm.trans h2))
def psalterylaw16_Great.f (a0_0 : Int) (a0_1 : Int) (l0_2 : List Int) (l0_3 : List Int) : Option (Bool) := if (l0_2.length : Int) > 200 then (some true) else (some (decide ((l0_3.length : Int) > 200)))
set_option maxHeartbeats 8000000 in
set_option maxRecDepth 100000 in
theorem psalterylaw16_Great.calls (a0_0 : Int) (a0_1 : Int) (A0_2 : Option Addr) (c0_2 : Nat) (l0_2 : List Int) (A0_3 : Option Addr) (c0_3 : Nat) (l0_3 : List Int) (r : Bool) (w : World) (hr0_2 : Kd.C (Kd.int .i64) w A0_2 l0_2.length l0_2) (hc0_2 : l0_2.length ≤ c0_2) (hr0_3 : Kd.C (Kd.int .i64) w A0_3 l0_3.length l0_3) (hc0_3 : l0_3.length ≤ c0_3) (h : psalterylaw16_Great.f a0_0 a0_1 l0_2 l0_3 = some r) :
    Calls Try.prog 29 #[.agg #[.int .i64 a0_0, .int .i64 a0_1, .slice A0_2 l0_2.length c0_2, .slice A0_3 l0_3.length c0_3]] w fun e w' => e = .returned (.bool r) ∧ Below w.heap.size w w' := by
 have hu24 := Try.underlying24
 have HR0_2 := Aside0.mk hr0_2
 have HC0_2 := Aside0.mk hc0_2
 clear hr0_2 hc0_2
 have HR0_3 := Aside0.mk hr0_3
 have HC0_3 := Aside0.mk hc0_3
 clear hr0_3 hc0_3
 have HB := Aside0.mk (Below.refl w.heap.size w)
 have H : (if (l0_2.length : Int) > 200 then (some true) else (some (decide ((l0_3.length : Int) > 200)))) = some r := h
 clear h
 by_cases c2 : (l0_2.length : Int) > 200
 {
 rw [if_pos c2] at H
 have c2b0 : decide (200 < (l0_2.length : Int)) = true := decide_eq_true c2
 have c2b1 : decide (200 < l0_2.length) = true := decide_eq_true (by omega)
 clear c2
 obtain rfl := Option.some.inj H
 go_enter Try.func29, Try.ntmps29
 go_wp2_with (first | ((with_reducible refine gate_dst (N := 1) rfl ?_); (try (refine gate_guard (by rfl) ?_; dsimp only)); refine bx_ HB 1 #[.int .i64 a0_0, .int .i64 a0_1, .slice A0_2 l0_2.length c0_2, .slice A0_3 l0_3.length c0_3] 24 ?_; clear HB; intro gb101 hg w3 hb BK101 GE101 HB; have GW101 := GE101; clear hb hg; obtain ⟨hcz4_0, hcz4_1, hcz4_2, hcz4_3, hfz4_0, hfz4_1, hfz4_2, hfz4_3⟩ := e4_ BK101))
 go_ret
 exact ⟨by first | rfl | (simp [errW_none, errW_some] <;> rfl) | (simp [*, errW_none, errW_some] <;> rfl), bl_ HB⟩}
 {
 rw [if_neg c2] at H
 have c2b0 : decide (200 < (l0_2.length : Int)) = false := decide_eq_false c2
 have c2b1 : decide (200 < l0_2.length) = false := decide_eq_false (by omega)
 clear c2
 obtain rfl := Option.some.inj H
 go_enter Try.func29, Try.ntmps29
 go_wp2_with (first | ((with_reducible refine gate_dst (N := 1) rfl ?_); (try (refine gate_guard (by rfl) ?_; dsimp only)); refine bx_ HB 1 #[.int .i64 a0_0, .int .i64 a0_1, .slice A0_2 l0_2.length c0_2, .slice A0_3 l0_3.length c0_3] 24 ?_; clear HB; intro gb101 hg w5 hb BK101 GE101 HB; have GW101 := GE101; clear hb hg; obtain ⟨hcz6_0, hcz6_1, hcz6_2, hcz6_3, hfz6_0, hfz6_1, hfz6_2, hfz6_3⟩ := e4_ BK101))
 go_ret
 exact ⟨by first | rfl | (simp [errW_none, errW_some] <;> rfl) | (simp [*, errW_none, errW_some] <;> rfl), bl_ HB⟩}
def psalterylaw22_great.l0 : Nat → Int → Int → Int → List Int → List Int → List (List Int) → Option (Bool)
  | 0, _, _, _, _, _, _ => none
  | k + 1, x5, x534000, x534001, x534002, x534003, x535000 => if x5 < (x535000.length : Int) then (if 0 ≤ x5 then (if ((rd_L2 x535000 x5).length : Int) > 100 then (some true) else (psalterylaw22_great.l0 k (wrap64 (x5 + 1)) x534000 x534001 x534002 x534003 x535000)) else (none)) else ((psalterylaw16_Great.f x534000 x534001 x534002 x534003).bind fun t536 => (if t536 = true then (some true) else (some (decide ((x535000.length : Int) > 10)))))
def psalterylaw22_great.f (k : Nat) (a0_0 : Int) (a0_1 : Int) (l0_2 : List Int) (l0_3 : List Int) (l1_0 : List (List Int)) : Option (Bool) := psalterylaw22_great.l0 k 0 a0_0 a0_1 l0_2 l0_3 l1_0
theorem psalterylaw22_great.mono_l : ∀ k, (∀ y0 y1 y2 y3 y4 y5, LeO (psalterylaw22_great.l0 k y0 y1 y2 y3 y4 y5) (psalterylaw22_great.l0 (k + 1) y0 y1 y2 y3 y4 y5))
  | 0 => fun _ _ _ _ _ _ r h => by simp [psalterylaw22_great.l0] at h
  | k + 1 => by
    have ih0 := psalterylaw22_great.mono_l k
    · intro y0 y1 y2 y3 y4 y5
      unfold psalterylaw22_great.l0
      with_reducible repeat' first
   | exact ih0 _ _ _ _ _ _
   | exact LeO.refl _
   | exact LeO.none _
   | refine LeO.ite ?_ ?_
   | refine LeO.bind ?_ (fun _ => ?_)
theorem psalterylaw22_great.mono : ∀ a0 a1 a2 a3 a4 k, LeO (psalterylaw22_great.f k a0 a1 a2 a3 a4) (psalterylaw22_great.f (k + 1) a0 a1 a2 a3 a4) := by
  intro a0 a1 a2 a3 a4 k
  have ih0 := psalterylaw22_great.mono_l k
  unfold psalterylaw22_great.f
  with_reducible repeat' first
   | exact ih0 _ _ _ _ _ _
   | exact LeO.refl _
   | exact LeO.none _
   | refine LeO.ite ?_ ?_
   | refine LeO.bind ?_ (fun _ => ?_)
set_option maxHeartbeats 8000000 in
set_option maxRecDepth 100000 in
theorem psalterylaw22_great.calls (k : Nat) (a0_0 : Int) (a0_1 : Int) (A0_2 : Option Addr) (c0_2 : Nat) (l0_2 : List Int) (A0_3 : Option Addr) (c0_3 : Nat) (l0_3 : List Int) (A1_0 : Option Addr) (c1_0 : Nat) (l1_0 : List (List Int)) (r : Bool) (w : World) (hr0_2 : Kd.C (Kd.int .i64) w A0_2 l0_2.length l0_2) (hc0_2 : l0_2.length ≤ c0_2) (hr0_3 : Kd.C (Kd.int .i64) w A0_3 l0_3.length l0_3) (hc0_3 : l0_3.length ≤ c0_3) (hr1_0 : Kd.C (Kd.slice 2 (Kd.int .i64)) w A1_0 l1_0.length l1_0) (hc1_0 : l1_0.length ≤ c1_0) (h : psalterylaw22_great.f k a0_0 a0_1 l0_2 l0_3 l1_0 = some r) :
    Calls Try.prog 18 #[.agg #[.int .i64 a0_0, .int .i64 a0_1, .slice A0_2 l0_2.length c0_2, .slice A0_3 l0_3.length c0_3], .agg #[.slice A1_0 l1_0.length c1_0]] w fun e w' => e = .returned (.bool r) ∧ Below w.heap.size w w' := by
 have hu24 := Try.underlying24
 have hu37 := Try.underlying37
 have HR0_2 := Aside0.mk hr0_2
 have HC0_2 := Aside0.mk hc0_2
 clear hr0_2 hc0_2
 have HR0_3 := Aside0.mk hr0_3
 have HC0_3 := Aside0.mk hc0_3
 clear hr0_3 hc0_3
 have HR1_0 := Aside0.mk hr1_0
 have HC1_0 := Aside0.mk hc1_0
 clear hr1_0 hc1_0
 have HB := Aside0.mk (Below.refl w.heap.size w)
 have H : (psalterylaw22_great.l0 k 0 a0_0 a0_1 l0_2 l0_3 l1_0) = some r := h
 clear h
 have H' := Aside0.mk H
 clear H
 go_enter Try.func18, Try.ntmps18
 go_wp2_with (first | ((with_reducible refine gate_dst (N := 2) rfl ?_); (try (refine gate_guard (by rfl) ?_; dsimp only)); refine bx_ HB 2 #[.int .i64 a0_0, .int .i64 a0_1, .slice A0_2 l0_2.length c0_2, .slice A0_3 l0_3.length c0_3] 24 ?_; clear HB; intro gb533 hg w3 hb BK533 GE533 HB; have GW533 := GE533; clear hb hg) | ((with_reducible refine gate_dst (N := 3) rfl ?_); (try (refine gate_guard (by rfl) ?_; dsimp only)); refine bx_ HB 3 #[.slice A1_0 l1_0.length c1_0] 37 ?_; clear HB; intro gb534 hg w4 hb BK534 GE534 HB; have GW534 := GE534; obtain ⟨NB533_534, NB534_533⟩ := NN_ BK533 hg; replace BK533 := FB_ BK533 hb; clear hb hg))
 go_loopg [5] k (fun kq v5 w' => ∃ (x5_1 : Int), v5 = .int .i64 x5_1 ∧ Aside0 (psalterylaw22_great.l0 kq x5_1 a0_0 a0_1 l0_2 l0_3 l1_0 = some r) ∧ Aside0 (kq ≤ k) ∧ Aside0 (w'.heap[gb533]? = some (.cells #[.int .i64 a0_0, .int .i64 a0_1, (.slice A0_2 l0_2.length c0_2), (.slice A0_3 l0_3.length c0_3)] 24 (0, 0))) ∧ Aside0 (w'.heap[gb534]? = some (.cells #[(.slice A1_0 l1_0.length c1_0)] 37 (0, 0))) ∧ Aside0 (Below w.heap.size w w'))
 case atStart => exact ⟨(0), rs_, H', ⟨Nat.le_refl _⟩, ⟨bk_ BK533⟩, ⟨bk_ BK534⟩, ⟨bl_ HB⟩⟩
 case round => (
 clear H'
 obtain ⟨x5_1, rfl, HA, HK1, BK533, BK534, HB⟩ := hrel
 cases gk with
 | zero => exact absurd HA.out (by simp [psalterylaw22_great.l0])
 | succ k1 => (
 have H := HA.out
 clear HA
 simp only [psalterylaw22_great.l0] at H
 by_cases c5 : x5_1 < (l1_0.length : Int)
 {
 rw [if_pos c5] at H
 have c5b0 : decide (x5_1 < (l1_0.length : Int)) = true := decide_eq_true c5
 clear c5
 by_cases c6 : 0 ≤ x5_1
 {
 rw [if_pos c6] at H
 have c6b0 : decide (0 ≤ x5_1) = true := decide_eq_true c6
 clear c6
 by_cases c7 : ((rd_L2 l1_0 x5_1).length : Int) > 100
 {
 rw [if_pos c7] at H
 have c7b0 : decide (100 < ((rd_L2 l1_0 x5_1).length : Int)) = true := decide_eq_true c7
 have c7b1 : decide (100 < (rd_L2 l1_0 x5_1).length) = true := decide_eq_true (by omega)
 clear c7
 obtain rfl := Option.some.inj H
 have hnb8 := NB534_533.out
 have hnc8 := NB533_534.out
 obtain ⟨hcz9_0, hfz9_0⟩ := e1_ BK534
 have p535 : 0 ≤ (x5_1 : Int) := of_decide_eq_true am_
 have q535 : x5_1 < (l1_0.length : Int) := of_decide_eq_true am_
 obtain ⟨ad535, A535_0, c535_0, e535, hx535_0, hl535_0, hi535_0⟩ := at_L2 HR1_0.out x5_1 p535 q535
 cases e535
 replace hx535_0 := (HB.out.cell (World.block_lt_of_cell? w _ hx535_0)).trans hx535_0
 have HR535_0 := Aside0.mk hi535_0
 have HC535_0 := Aside0.mk hl535_0
 clear hi535_0 hl535_0
 replace p535 := eq_true p535
 replace q535 := eq_true q535
 go_wp2
 go_ret
 exact ⟨by first | rfl | (simp [errW_none, errW_some] <;> rfl) | (simp [*, errW_none, errW_some] <;> rfl), bl_ HB⟩}
 {
 rw [if_neg c7] at H
 have c7b0 : decide (100 < ((rd_L2 l1_0 x5_1).length : Int)) = false := decide_eq_false c7
 have c7b1 : decide (100 < (rd_L2 l1_0 x5_1).length) = false := decide_eq_false (by omega)
 clear c7
 have H' := Aside0.mk H
 clear H
 have hnb10 := NB534_533.out
 have hnc10 := NB533_534.out
 obtain ⟨hcz11_0, hfz11_0⟩ := e1_ BK534
 have p535 : 0 ≤ (x5_1 : Int) := of_decide_eq_true am_
 have q535 : x5_1 < (l1_0.length : Int) := of_decide_eq_true am_
 obtain ⟨ad535, A535_0, c535_0, e535, hx535_0, hl535_0, hi535_0⟩ := at_L2 HR1_0.out x5_1 p535 q535
 cases e535
 replace hx535_0 := (HB.out.cell (World.block_lt_of_cell? w _ hx535_0)).trans hx535_0
 have HR535_0 := Aside0.mk hi535_0
 have HC535_0 := Aside0.mk hl535_0
 clear hi535_0 hl535_0
 replace p535 := eq_true p535
 replace q535 := eq_true q535
 go_wp2
 go_roundg k1
 case measure => have := HK1.out; omega
 case rel => exact ⟨(wrap64 (x5_1 + 1)), rs_, H', ⟨by have := HK1.out; omega⟩, ⟨bk_ BK533⟩, ⟨bk_ BK534⟩, ⟨bl_ HB⟩⟩}}
 {
 rw [if_neg c6] at H
 exact absurd H (by simp)}}
 {
 rw [if_neg c5] at H
 have c5b0 : decide (x5_1 < (l1_0.length : Int)) = false := decide_eq_false c5
 clear c5
 obtain ⟨t536, A12, H⟩ := ob_ H
 (try dsimp only at H)
 by_cases c13 : t536 = true
 {
 subst c13
 rw [if_pos rfl] at H
 obtain rfl := Option.some.inj H
 have hnb14 := NB534_533.out
 have hnc14 := NB533_534.out
 obtain ⟨hcz15_0, hfz15_0⟩ := e1_ BK534
 obtain ⟨hcz16_0, hcz16_1, hcz16_2, hcz16_3, hfz16_0, hfz16_1, hfz16_2, hfz16_3⟩ := e4_ BK533
 go_wp2_with (first | ((with_reducible refine gate_callee (f := 29) rfl ?_); refine gL_ (some 21) Try.func29 #[.agg #[.int .i64 a0_0, .int .i64 a0_1, .slice A0_2 l0_2.length c0_2, .slice A0_3 l0_3.length c0_3]] ?_; (with_reducible refine (psalterylaw16_Great.calls a0_0 a0_1 _ _ l0_2 _ _ l0_3 true _ ?side1 ?side2 ?side3 ?side4 A12.out).mono ?_); (case side1 => exact kC_ HR0_2 HB); (case side2 => exact HC0_2.out); (case side3 => exact kC_ HR0_3 HB); (case side4 => exact HC0_3.out); rintro e w17 ⟨rfl, hb⟩; refine ⟨_, rfl, ?_⟩; replace BK533 := FB_ BK533 hb; replace BK534 := FB_ BK534 hb; replace HB := BS_ HB hb; (try clear hb)))
 go_ret
 exact ⟨by first | rfl | (simp [errW_none, errW_some] <;> rfl) | (simp [*, errW_none, errW_some] <;> rfl), bl_ HB⟩}
 {
 replace c13 := Bool.eq_false_iff.mpr c13
 subst c13
 rw [if_neg (show ¬ (false = true) by decide)] at H
 obtain rfl := Option.some.inj H
 have hnb18 := NB534_533.out
 have hnc18 := NB533_534.out
 obtain ⟨hcz19_0, hfz19_0⟩ := e1_ BK534
 obtain ⟨hcz20_0, hcz20_1, hcz20_2, hcz20_3, hfz20_0, hfz20_1, hfz20_2, hfz20_3⟩ := e4_ BK533
 go_wp2_with (first | ((with_reducible refine gate_callee (f := 29) rfl ?_); refine gL_ (some 21) Try.func29 #[.agg #[.int .i64 a0_0, .int .i64 a0_1, .slice A0_2 l0_2.length c0_2, .slice A0_3 l0_3.length c0_3]] ?_; (with_reducible refine (psalterylaw16_Great.calls a0_0 a0_1 _ _ l0_2 _ _ l0_3 false _ ?side1 ?side2 ?side3 ?side4 A12.out).mono ?_); (case side1 => exact kC_ HR0_2 HB); (case side2 => exact HC0_2.out); (case side3 => exact kC_ HR0_3 HB); (case side4 => exact HC0_3.out); rintro e w21 ⟨rfl, hb⟩; refine ⟨_, rfl, ?_⟩; replace BK533 := FB_ BK533 hb; replace BK534 := FB_ BK534 hb; replace HB := BS_ HB hb; (try clear hb); obtain ⟨hcz22_0, hfz22_0⟩ := e1_ BK534))
 go_ret
 exact ⟨by first | rfl | (simp [errW_none, errW_some] <;> rfl) | (simp [*, errW_none, errW_some] <;> rfl), bl_ HB⟩}}))
def psalteryref03_Sqrt.l0 : Nat → Int → Int → Int → Option (Int)
  | 0, _, _, _ => none
  | k + 1, x0, x3, x4 => if (IntKind.u64.wrap (x4 - x3)) > 1 then (if (IntKind.u64.wrap ((IntKind.u64.wrap (Int.tdiv (IntKind.u64.wrap (x3 + x4)) 2)) * (IntKind.u64.wrap (Int.tdiv (IntKind.u64.wrap (x3 + x4)) 2)))) ≤ x0 then (psalteryref03_Sqrt.l0 k x0 (IntKind.u64.wrap (Int.tdiv (IntKind.u64.wrap (x3 + x4)) 2)) x4) else (psalteryref03_Sqrt.l0 k x0 x3 (IntKind.u64.wrap (Int.tdiv (IntKind.u64.wrap (x3 + x4)) 2)))) else (some x3)
def psalteryref03_Sqrt.f (k : Nat) (a0 : Int) : Option (Int) := psalteryref03_Sqrt.l0 k a0 0 4294967296
theorem psalteryref03_Sqrt.mono_l : ∀ k, (∀ y0 y1 y2, LeO (psalteryref03_Sqrt.l0 k y0 y1 y2) (psalteryref03_Sqrt.l0 (k + 1) y0 y1 y2))
  | 0 => fun _ _ _ r h => by simp [psalteryref03_Sqrt.l0] at h
  | k + 1 => by
    have ih0 := psalteryref03_Sqrt.mono_l k
    · intro y0 y1 y2
      unfold psalteryref03_Sqrt.l0
      with_reducible repeat' first
   | exact ih0 _ _ _
   | exact LeO.refl _
   | exact LeO.none _
   | refine LeO.ite ?_ ?_
   | refine LeO.bind ?_ (fun _ => ?_)
theorem psalteryref03_Sqrt.mono : ∀ a0 k, LeO (psalteryref03_Sqrt.f k a0) (psalteryref03_Sqrt.f (k + 1) a0) := by
  intro a0 k
  have ih0 := psalteryref03_Sqrt.mono_l k
  unfold psalteryref03_Sqrt.f
  with_reducible repeat' first
   | exact ih0 _ _ _
   | exact LeO.refl _
   | exact LeO.none _
   | refine LeO.ite ?_ ?_
   | refine LeO.bind ?_ (fun _ => ?_)
set_option maxHeartbeats 8000000 in
set_option maxRecDepth 100000 in
theorem psalteryref03_Sqrt.calls (k : Nat) (a0 : Int) (r : Int) (w : World) (h : psalteryref03_Sqrt.f k a0 = some r) :
    Calls Try.prog 105 #[.int .u64 a0] w fun e w' => e = .returned (.int .u64 r) ∧ Drawn0 w w' := by
 have H : (psalteryref03_Sqrt.l0 k a0 0 4294967296) = some r := h
 clear h
 have H' := Aside0.mk H
 clear H
 go_enter Try.func105, Try.ntmps105
 go_wp2
 go_loopg [3, 4] k (fun kq v3 v4 w' => ∃ (x3_1 : Int) (x4_1 : Int), v3 = .int .u64 x3_1 ∧ v4 = .int .u64 x4_1 ∧ Aside0 (psalteryref03_Sqrt.l0 kq a0 x3_1 x4_1 = some r) ∧ Aside0 (kq ≤ k) ∧ Drawn0 w w')
 case atStart => exact ⟨(0), (4294967296), rs_, rs_, H', ⟨Nat.le_refl _⟩, by repeat (first | exact Drawn0.refl _ | apply Drawn0.step)⟩
 case round => (
 clear H'
 obtain ⟨x3_1, x4_1, rfl, rfl, HA, HK1, ⟨m1, rfl⟩⟩ := hrel
 cases gk with
 | zero => exact absurd HA.out (by simp [psalteryref03_Sqrt.l0])
 | succ k1 => (
 have H := HA.out
 clear HA
 simp only [psalteryref03_Sqrt.l0] at H
 by_cases c2 : (IntKind.u64.wrap (x4_1 - x3_1)) > 1
 {
 rw [if_pos c2] at H
 have c2b0 : decide (1 < (IntKind.u64.wrap (x4_1 - x3_1))) = true := decide_eq_true c2
 clear c2
 by_cases c3 : (IntKind.u64.wrap ((IntKind.u64.wrap (Int.tdiv (IntKind.u64.wrap (x3_1 + x4_1)) 2)) * (IntKind.u64.wrap (Int.tdiv (IntKind.u64.wrap (x3_1 + x4_1)) 2)))) ≤ a0
 {
 rw [if_pos c3] at H
 have c3b0 : decide ((IntKind.u64.wrap ((IntKind.u64.wrap (Int.tdiv (IntKind.u64.wrap (x3_1 + x4_1)) 2)) * (IntKind.u64.wrap (Int.tdiv (IntKind.u64.wrap (x3_1 + x4_1)) 2)))) ≤ a0) = true := decide_eq_true c3
 clear c3
 have H' := Aside0.mk H
 clear H
 go_wp2
 go_roundg k1
 case measure => have := HK1.out; omega
 case rel => exact ⟨(IntKind.u64.wrap (Int.tdiv (IntKind.u64.wrap (x3_1 + x4_1)) 2)), (x4_1), rs_, rs_, H', ⟨by have := HK1.out; omega⟩, by repeat (first | exact Drawn0.refl _ | apply Drawn0.step)⟩}
 {
 rw [if_neg c3] at H
 have c3b0 : decide ((IntKind.u64.wrap ((IntKind.u64.wrap (Int.tdiv (IntKind.u64.wrap (x3_1 + x4_1)) 2)) * (IntKind.u64.wrap (Int.tdiv (IntKind.u64.wrap (x3_1 + x4_1)) 2)))) ≤ a0) = false := decide_eq_false c3
 clear c3
 have H' := Aside0.mk H
 clear H
 go_wp2
 go_roundg k1
 case measure => have := HK1.out; omega
 case rel => exact ⟨(x3_1), (IntKind.u64.wrap (Int.tdiv (IntKind.u64.wrap (x3_1 + x4_1)) 2)), rs_, rs_, H', ⟨by have := HK1.out; omega⟩, by repeat (first | exact Drawn0.refl _ | apply Drawn0.step)⟩}}
 {
 rw [if_neg c2] at H
 have c2b0 : decide (1 < (IntKind.u64.wrap (x4_1 - x3_1))) = false := decide_eq_false c2
 clear c2
 obtain rfl := Option.some.inj H
 go_wp2
 go_ret
 exact ⟨by first | rfl | (simp; done) | (simp [*]; done), by repeat (first | exact Drawn0.refl _ | apply Drawn0.step)⟩}))
mutual
def psalteryref10_Value.j0 : Nat → Int → Bool → Option (Int)
  | 0, _, _ => none
  | k + 1, x0, x10 => if x10 = true then (some 0) else (psalteryref10_Value.l0 k x0 1 1)
def psalteryref10_Value.l0 : Nat → Int → Int → Int → Option (Int)
  | 0, _, _, _ => none
  | k + 1, x0, x3, x4 => if x4 < x0 then (psalteryref10_Value.l0 k x0 (IntKind.u64.wrap (x3 * 2)) (wrap64 (x4 + 1))) else ((psalteryref03_Sqrt.f k x3).bind fun t751 => (some (wrap64 (t751))))
end
def psalteryref10_Value.f (k : Nat) (a0 : Int) : Option (Int) := if a0 < 1 then (psalteryref10_Value.j0 k a0 true) else (psalteryref10_Value.j0 k a0 (decide (a0 > 44)))
theorem psalteryref10_Value.mono_l : ∀ k, (∀ y0 y1, LeO (psalteryref10_Value.j0 k y0 y1) (psalteryref10_Value.j0 (k + 1) y0 y1)) ∧ (∀ y0 y1 y2, LeO (psalteryref10_Value.l0 k y0 y1 y2) (psalteryref10_Value.l0 (k + 1) y0 y1 y2))
  | 0 => ⟨fun _ _ r h => by simp [psalteryref10_Value.j0] at h, fun _ _ _ r h => by simp [psalteryref10_Value.l0] at h⟩
  | k + 1 => by
    obtain ⟨ih0, ih1⟩ := psalteryref10_Value.mono_l k
    refine ⟨?_, ?_⟩
    all_goals (intros; first | unfold psalteryref10_Value.j0 | unfold psalteryref10_Value.l0)
    all_goals with_reducible repeat' first
     | exact ih0 _ _
     | exact ih1 _ _ _
     | exact psalteryref03_Sqrt.mono _ _
     | exact LeO.refl _
     | exact LeO.none _
     | refine LeO.ite ?_ ?_
     | refine LeO.bind ?_ (fun _ => ?_)
theorem psalteryref10_Value.mono : ∀ a0 k, LeO (psalteryref10_Value.f k a0) (psalteryref10_Value.f (k + 1) a0) := by
  intro a0 k
  obtain ⟨ih0, ih1⟩ := psalteryref10_Value.mono_l k
  unfold psalteryref10_Value.f
  with_reducible repeat' first
   | exact ih0 _ _
   | exact ih1 _ _ _
   | exact psalteryref03_Sqrt.mono _ _
   | exact LeO.refl _
   | exact LeO.none _
   | refine LeO.ite ?_ ?_
   | refine LeO.bind ?_ (fun _ => ?_)
set_option maxHeartbeats 8000000 in
set_option maxRecDepth 100000 in
theorem psalteryref10_Value.calls (k : Nat) (a0 : Int) (r : Int) (w : World) (h : psalteryref10_Value.f k a0 = some r) :
    Calls Try.prog 89 #[.int .i64 a0] w fun e w' => e = .returned (.int .i64 r) ∧ Drawn0 w w' := by
 have H : (if a0 < 1 then (psalteryref10_Value.j0 k a0 true) else (psalteryref10_Value.j0 k a0 (decide (a0 > 44)))) = some r := h
 clear h
 have HC2 := Aside0.mk H
 clear H
 go_enter Try.func89, Try.ntmps89
 go_upto_region 1 with (fail)
 go_cut [10] (fun v10 wc => ∃ (kq : Nat) (x10_1 : Bool), v10 = .bool x10_1 ∧ Aside0 (psalteryref10_Value.j0 kq a0 x10_1 = some r) ∧ Aside0 (kq ≤ k) ∧ Drawn0 w wc)
 case first => (
 have H := HC2.out
 clear HC2
 by_cases c3 : a0 < 1
 {
 rw [if_pos c3] at H
 have c3b0 : decide (a0 < 1) = true := decide_eq_true c3
 clear c3
 (first | rw [c3b0] | (simp only [i64_w, i32_w]; rw [c3b0]) | skip)
 have H' := Aside0.mk H
 clear H
 go_wp2
 go_meet
 case rel => exact ⟨_, (true), rs_, H', ⟨ol_⟩, by repeat (first | exact Drawn0.refl _ | apply Drawn0.step)⟩}
 {
 rw [if_neg c3] at H
 have c3b0 : decide (a0 < 1) = false := decide_eq_false c3
 clear c3
 (first | rw [c3b0] | (simp only [i64_w, i32_w]; rw [c3b0]) | skip)
 have H' := Aside0.mk H
 clear H
 go_wp2
 go_meet
 case rel => exact ⟨_, (decide (a0 > 44)), rs_, H', ⟨ol_⟩, by repeat (first | exact Drawn0.refl _ | apply Drawn0.step)⟩})
 case rest => (
 clear HC2
 obtain ⟨kq, x10_1, rfl, HA, HJ1, ⟨mc1, rfl⟩⟩ := hcut
 cases kq with
 | zero => exact absurd HA.out (by simp [psalteryref10_Value.j0])
 | succ kj1 => (
 have H := HA.out
 clear HA
 simp only [psalteryref10_Value.j0] at H
 by_cases c4 : x10_1 = true
 {
 subst c4
 rw [if_pos rfl] at H
 obtain rfl := Option.some.inj H
 go_wp2
 go_ret
 exact ⟨by first | rfl | (simp; done) | (simp [*]; done), by repeat (first | exact Drawn0.refl _ | apply Drawn0.step)⟩}
 {
 replace c4 := Bool.eq_false_iff.mpr c4
 subst c4
 rw [if_neg (show ¬ (false = true) by decide)] at H
 have H' := Aside0.mk H
 clear H
 go_wp2
 go_loopg [3, 4] kj1 (fun kq v3 v4 w' => ∃ (x3_2 : Int) (x4_2 : Int), v3 = .int .u64 x3_2 ∧ v4 = .int .i64 x4_2 ∧ Aside0 (psalteryref10_Value.l0 kq a0 x3_2 x4_2 = some r) ∧ Aside0 (kq ≤ kj1) ∧ Drawn0 w w')
 case atStart => exact ⟨(1), (1), rs_, rs_, H', ⟨Nat.le_refl _⟩, by repeat (first | exact Drawn0.refl _ | apply Drawn0.step)⟩
 case round => (
 clear H'
 try clear c4
 obtain ⟨x3_2, x4_2, rfl, rfl, HA, HK2, ⟨m2, rfl⟩⟩ := hrel
 cases gk with
 | zero => exact absurd HA.out (by simp [psalteryref10_Value.l0])
 | succ k2 => (
 have H := HA.out
 clear HA
 simp only [psalteryref10_Value.l0] at H
 by_cases c5 : x4_2 < a0
 {
 rw [if_pos c5] at H
 have c5b0 : decide (x4_2 < a0) = true := decide_eq_true c5
 clear c5
 have H' := Aside0.mk H
 clear H
 go_wp2
 go_roundg k2
 case measure => have := HJ1.out; have := HK2.out; omega
 case rel => exact ⟨(IntKind.u64.wrap (x3_2 * 2)), (wrap64 (x4_2 + 1)), rs_, rs_, H', ⟨by have := HJ1.out; have := HK2.out; omega⟩, by repeat (first | exact Drawn0.refl _ | apply Drawn0.step)⟩}
 {
 rw [if_neg c5] at H
 have c5b0 : decide (x4_2 < a0) = false := decide_eq_false c5
 clear c5
 obtain ⟨t751, A6, H⟩ := ob_ H
 (try dsimp only at H)
 obtain rfl := Option.some.inj H
 go_wp2_with (first | ((with_reducible refine gate_callee (f := 105) rfl ?_); refine gL_ (some 19) Try.func105 #[.int .u64 x3_2] ?_; (with_reducible refine (psalteryref03_Sqrt.calls k2 x3_2 t751 _ A6.out).mono ?_); rintro e w' ⟨rfl, ⟨nd, rfl⟩⟩; refine ⟨_, rfl, ?_⟩))
 go_ret
 exact ⟨by first | rfl | (simp; done) | (simp [*]; done), by repeat (first | exact Drawn0.refl _ | apply Drawn0.step)⟩}))}))
def psalteryref14_At.j0 : Nat → Int → Int → Bool → Option (Int)
  | 0, _, _, _ => none
  | k + 1, x0, x3, x4 => if x4 = true then (some x0) else (if x3 = 3 then (some 4) else (if x3 = 4 then (some 8) else (if x3 = 5 then (some 15) else (some (-1)))))
def psalteryref14_At.f (k : Nat) (a0 : Int) : Option (Int) := if a0 = 0 then (psalteryref14_At.j0 k a0 a0 (a0 == 0)) else (if a0 = 1 then (psalteryref14_At.j0 k a0 a0 (a0 == 1)) else (psalteryref14_At.j0 k a0 a0 (a0 == 2)))
theorem psalteryref14_At.mono_l : ∀ k, (∀ y0 y1 y2, LeO (psalteryref14_At.j0 k y0 y1 y2) (psalteryref14_At.j0 (k + 1) y0 y1 y2))
  | 0 => fun _ _ _ r h => by simp [psalteryref14_At.j0] at h
  | k + 1 => by
    have ih0 := psalteryref14_At.mono_l k
    · intro y0 y1 y2
      unfold psalteryref14_At.j0
      with_reducible repeat' first
   | exact ih0 _ _ _
   | exact LeO.refl _
   | exact LeO.none _
   | refine LeO.ite ?_ ?_
   | refine LeO.bind ?_ (fun _ => ?_)
theorem psalteryref14_At.mono : ∀ a0 k, LeO (psalteryref14_At.f k a0) (psalteryref14_At.f (k + 1) a0) := by
  intro a0 k
  have ih0 := psalteryref14_At.mono_l k
  unfold psalteryref14_At.f
  with_reducible repeat' first
   | exact ih0 _ _ _
   | exact LeO.refl _
   | exact LeO.none _
   | refine LeO.ite ?_ ?_
   | refine LeO.bind ?_ (fun _ => ?_)
set_option maxHeartbeats 8000000 in
set_option maxRecDepth 100000 in
theorem psalteryref14_At.calls (k : Nat) (a0 : Int) (r : Int) (w : World) (h : psalteryref14_At.f k a0 = some r) :
    Calls Try.prog 107 #[.int .i64 a0] w fun e w' => e = .returned (.int .i64 r) ∧ Drawn0 w w' := by
 have H : (if a0 = 0 then (psalteryref14_At.j0 k a0 a0 (a0 == 0)) else (if a0 = 1 then (psalteryref14_At.j0 k a0 a0 (a0 == 1)) else (psalteryref14_At.j0 k a0 a0 (a0 == 2)))) = some r := h
 clear h
 have HC2 := Aside0.mk H
 clear H
 go_enter Try.func107, Try.ntmps107
 go_upto_if 4 with (fail)
 go_cut [4] (fun v4 wc => ∃ (kq : Nat) (x4_1 : Bool), v4 = .bool x4_1 ∧ Aside0 (psalteryref14_At.j0 kq a0 a0 x4_1 = some r) ∧ Aside0 (kq ≤ k) ∧ Drawn0 w wc)
 case first => (
 have H := HC2.out
 clear HC2
 by_cases c3 : a0 = 0
 {
 rw [if_pos c3] at H
 have c3b0 : (a0 == 0) = true := beq_iff_eq.mpr c3
 have c3b1 : (a0 != 0) = false := bne_eq_false_iff_eq.mpr c3
 clear c3
 (first | rw [c3b0] | (simp only [i64_w, i32_w]; rw [c3b0]) | skip)
 have H' := Aside0.mk H
 clear H
 go_wp2
 go_meet
 case rel => exact ⟨_, ((a0 == 0)), rs_, H', ⟨ol_⟩, by repeat (first | exact Drawn0.refl _ | apply Drawn0.step)⟩}
 {
 rw [if_neg c3] at H
 have c3b0 : (a0 == 0) = false := beq_eq_false_iff_ne.mpr c3
 have c3b1 : (a0 != 0) = true := bne_iff_ne.mpr c3
 (first | rw [c3b0] | (simp only [i64_w, i32_w]; rw [c3b0]) | skip)
 by_cases c4 : a0 = 1
 {
 rw [if_pos c4] at H
 have c4b0 : (a0 == 1) = true := beq_iff_eq.mpr c4
 have c4b1 : (a0 != 1) = false := bne_eq_false_iff_eq.mpr c4
 clear c4
 have H' := Aside0.mk H
 clear H
 go_wp2
 go_meet
 case rel => exact ⟨_, ((a0 == 1)), rs_, H', ⟨ol_⟩, by repeat (first | exact Drawn0.refl _ | apply Drawn0.step)⟩}
 {
 rw [if_neg c4] at H
 have c4b0 : (a0 == 1) = false := beq_eq_false_iff_ne.mpr c4
 have c4b1 : (a0 != 1) = true := bne_iff_ne.mpr c4
 have H' := Aside0.mk H
 clear H
 go_wp2
 go_meet
 case rel => exact ⟨_, ((a0 == 2)), rs_, H', ⟨ol_⟩, by repeat (first | exact Drawn0.refl _ | apply Drawn0.step)⟩}})
 case rest => (
 clear HC2
 obtain ⟨kq, x4_1, rfl, HA, HJ1, ⟨mc1, rfl⟩⟩ := hcut
 cases kq with
 | zero => exact absurd HA.out (by simp [psalteryref14_At.j0])
 | succ kj1 => (
 have H := HA.out
 clear HA
 simp only [psalteryref14_At.j0] at H
 by_cases c5 : x4_1 = true
 {
 subst c5
 rw [if_pos rfl] at H
 obtain rfl := Option.some.inj H
 go_wp2
 go_ret
 exact ⟨by first | rfl | (simp; done) | (simp [*]; done), by repeat (first | exact Drawn0.refl _ | apply Drawn0.step)⟩}
 {
 replace c5 := Bool.eq_false_iff.mpr c5
 subst c5
 rw [if_neg (show ¬ (false = true) by decide)] at H
 by_cases c6 : a0 = 3
 {
 rw [if_pos c6] at H
 have c6b0 : (a0 == 3) = true := beq_iff_eq.mpr c6
 have c6b1 : (a0 != 3) = false := bne_eq_false_iff_eq.mpr c6
 clear c6
 obtain rfl := Option.some.inj H
 go_wp2
 go_ret
 exact ⟨by first | rfl | (simp; done) | (simp [*]; done), by repeat (first | exact Drawn0.refl _ | apply Drawn0.step)⟩}
 {
 rw [if_neg c6] at H
 have c6b0 : (a0 == 3) = false := beq_eq_false_iff_ne.mpr c6
 have c6b1 : (a0 != 3) = true := bne_iff_ne.mpr c6
 by_cases c7 : a0 = 4
 {
 rw [if_pos c7] at H
 have c7b0 : (a0 == 4) = true := beq_iff_eq.mpr c7
 have c7b1 : (a0 != 4) = false := bne_eq_false_iff_eq.mpr c7
 clear c7
 obtain rfl := Option.some.inj H
 go_wp2
 go_ret
 exact ⟨by first | rfl | (simp; done) | (simp [*]; done), by repeat (first | exact Drawn0.refl _ | apply Drawn0.step)⟩}
 {
 rw [if_neg c7] at H
 have c7b0 : (a0 == 4) = false := beq_eq_false_iff_ne.mpr c7
 have c7b1 : (a0 != 4) = true := bne_iff_ne.mpr c7
 by_cases c8 : a0 = 5
 {
 rw [if_pos c8] at H
 have c8b0 : (a0 == 5) = true := beq_iff_eq.mpr c8
 have c8b1 : (a0 != 5) = false := bne_eq_false_iff_eq.mpr c8
 clear c8
 obtain rfl := Option.some.inj H
 go_wp2
 go_ret
 exact ⟨by first | rfl | (simp; done) | (simp [*]; done), by repeat (first | exact Drawn0.refl _ | apply Drawn0.step)⟩}
 {
 rw [if_neg c8] at H
 have c8b0 : (a0 == 5) = false := beq_eq_false_iff_ne.mpr c8
 have c8b1 : (a0 != 5) = true := bne_iff_ne.mpr c8
 obtain rfl := Option.some.inj H
 go_wp2
 go_ret
 exact ⟨by first | rfl | (simp; done) | (simp [*]; done), by repeat (first | exact Drawn0.refl _ | apply Drawn0.step)⟩}}}}))
def psalteryref14_post.l0 : Nat → Int → Int → Int → Option (Int)
  | 0, _, _, _ => none
  | k + 1, x0, x3, x4 => if x4 < 6 then ((psalteryref14_At.f k x4).bind fun t752 => (if t752 ≤ x0 then (psalteryref14_post.l0 k x0 x4 (wrap64 (x4 + 1))) else (psalteryref14_post.l0 k x0 x3 (wrap64 (x4 + 1))))) else (some x3)
def psalteryref14_post.f (k : Nat) (a0 : Int) : Option (Int) := psalteryref14_post.l0 k a0 0 0
theorem psalteryref14_post.mono_l : ∀ k, (∀ y0 y1 y2, LeO (psalteryref14_post.l0 k y0 y1 y2) (psalteryref14_post.l0 (k + 1) y0 y1 y2))
  | 0 => fun _ _ _ r h => by simp [psalteryref14_post.l0] at h
  | k + 1 => by
    have ih0 := psalteryref14_post.mono_l k
    · intro y0 y1 y2
      unfold psalteryref14_post.l0
      with_reducible repeat' first
   | exact ih0 _ _ _
   | exact psalteryref14_At.mono _ _
   | exact LeO.refl _
   | exact LeO.none _
   | refine LeO.ite ?_ ?_
   | refine LeO.bind ?_ (fun _ => ?_)
theorem psalteryref14_post.mono : ∀ a0 k, LeO (psalteryref14_post.f k a0) (psalteryref14_post.f (k + 1) a0) := by
  intro a0 k
  have ih0 := psalteryref14_post.mono_l k
  unfold psalteryref14_post.f
  with_reducible repeat' first
   | exact ih0 _ _ _
   | exact psalteryref14_At.mono _ _
   | exact LeO.refl _
   | exact LeO.none _
   | refine LeO.ite ?_ ?_
   | refine LeO.bind ?_ (fun _ => ?_)
set_option maxHeartbeats 8000000 in
set_option maxRecDepth 100000 in
theorem psalteryref14_post.calls (k : Nat) (a0 : Int) (r : Int) (w : World) (h : psalteryref14_post.f k a0 = some r) :
    Calls Try.prog 106 #[.int .i64 a0] w fun e w' => e = .returned (.int .i64 r) ∧ Drawn0 w w' := by
 have H : (psalteryref14_post.l0 k a0 0 0) = some r := h
 clear h
 have H' := Aside0.mk H
 clear H
 go_enter Try.func106, Try.ntmps106
 go_wp2
 go_loopg [3, 4] k (fun kq v3 v4 w' => ∃ (x3_1 : Int) (x4_1 : Int), v3 = .int .i64 x3_1 ∧ v4 = .int .i64 x4_1 ∧ Aside0 (psalteryref14_post.l0 kq a0 x3_1 x4_1 = some r) ∧ Aside0 (kq ≤ k) ∧ Drawn0 w w')
 case atStart => exact ⟨(0), (0), rs_, rs_, H', ⟨Nat.le_refl _⟩, by repeat (first | exact Drawn0.refl _ | apply Drawn0.step)⟩
 case round => (
 clear H'
 obtain ⟨x3_1, x4_1, rfl, rfl, HA, HK1, ⟨m1, rfl⟩⟩ := hrel
 cases gk with
 | zero => exact absurd HA.out (by simp [psalteryref14_post.l0])
 | succ k1 => (
 have H := HA.out
 clear HA
 simp only [psalteryref14_post.l0] at H
 by_cases c2 : x4_1 < 6
 {
 rw [if_pos c2] at H
 have c2b0 : decide (x4_1 < 6) = true := decide_eq_true c2
 clear c2
 obtain ⟨t752, A3, H⟩ := ob_ H
 (try dsimp only at H)
 by_cases c4 : t752 ≤ a0
 {
 rw [if_pos c4] at H
 have c4b0 : decide (t752 ≤ a0) = true := decide_eq_true c4
 clear c4
 have H' := Aside0.mk H
 clear H
 go_wp2_with (first | ((with_reducible refine gate_callee (f := 107) rfl ?_); refine gL_ (some 10) Try.func107 #[.int .i64 x4_1] ?_; (with_reducible refine (psalteryref14_At.calls k1 x4_1 t752 _ A3.out).mono ?_); rintro e w' ⟨rfl, ⟨nd, rfl⟩⟩; refine ⟨_, rfl, ?_⟩))
 go_roundg k1
 case measure => have := HK1.out; omega
 case rel => exact ⟨(x4_1), (wrap64 (x4_1 + 1)), rs_, rs_, H', ⟨by have := HK1.out; omega⟩, by repeat (first | exact Drawn0.refl _ | apply Drawn0.step)⟩}
 {
 rw [if_neg c4] at H
 have c4b0 : decide (t752 ≤ a0) = false := decide_eq_false c4
 clear c4
 have H' := Aside0.mk H
 clear H
 go_wp2_with (first | ((with_reducible refine gate_callee (f := 107) rfl ?_); refine gL_ (some 10) Try.func107 #[.int .i64 x4_1] ?_; (with_reducible refine (psalteryref14_At.calls k1 x4_1 t752 _ A3.out).mono ?_); rintro e w' ⟨rfl, ⟨nd, rfl⟩⟩; refine ⟨_, rfl, ?_⟩))
 go_roundg k1
 case measure => have := HK1.out; omega
 case rel => exact ⟨(x3_1), (wrap64 (x4_1 + 1)), rs_, rs_, H', ⟨by have := HK1.out; omega⟩, by repeat (first | exact Drawn0.refl _ | apply Drawn0.step)⟩}}
 {
 rw [if_neg c2] at H
 have c2b0 : decide (x4_1 < 6) = false := decide_eq_false c2
 clear c2
 obtain rfl := Option.some.inj H
 go_wp2
 go_ret
 exact ⟨by first | rfl | (simp; done) | (simp [*]; done), by repeat (first | exact Drawn0.refl _ | apply Drawn0.step)⟩}))
def psalteryref14_Line.f (k : Nat) (l0 : List Int) (a1 : Int) : Option (Int) := (psalteryref14_post.f k a1).bind fun t753 => (if t753 = 5 then (if 5 < (l0.length : Int) then (some (rd l0 5)) else (none)) else (if 0 ≤ (wrap64 (t753 + 1)) then (if (wrap64 (t753 + 1)) < (l0.length : Int) then (if 0 ≤ t753 then (if t753 < (l0.length : Int) then ((psalteryref14_At.f k t753).bind fun t757 => ((psalteryref14_At.f k (wrap64 (t753 + 1))).bind fun t758 => (if (wrap64 ((wrap64 ((rd l0 (wrap64 (t753 + 1))) - (rd l0 t753))) * (wrap64 (a1 - t757)))) < 0 then (if (wrap64 (t758 - t757)) = 0 then (none) else (some (wrap64 ((rd l0 t753) - (wrap64 (Int.tdiv (wrap64 (-(wrap64 ((wrap64 ((rd l0 (wrap64 (t753 + 1))) - (rd l0 t753))) * (wrap64 (a1 - t757)))))) (wrap64 (t758 - t757)))))))) else (if (wrap64 (t758 - t757)) = 0 then (none) else (some (wrap64 ((rd l0 t753) + (wrap64 (Int.tdiv (wrap64 ((wrap64 ((rd l0 (wrap64 (t753 + 1))) - (rd l0 t753))) * (wrap64 (a1 - t757)))) (wrap64 (t758 - t757))))))))))) else (none)) else (none)) else (none)) else (none)))
theorem psalteryref14_Line.mono : ∀ a0 a1 k, LeO (psalteryref14_Line.f k a0 a1) (psalteryref14_Line.f (k + 1) a0 a1) := by
  intro a0 a1 k
  unfold psalteryref14_Line.f
  with_reducible repeat' first
   | exact psalteryref14_At.mono _ _
   | exact psalteryref14_post.mono _ _
   | exact LeO.refl _
   | exact LeO.none _
   | refine LeO.ite ?_ ?_
   | refine LeO.bind ?_ (fun _ => ?_)
set_option maxHeartbeats 8000000 in
set_option maxRecDepth 100000 in
theorem psalteryref14_Line.calls (k : Nat) (A0 : Option Addr) (c0 : Nat) (l0 : List Int) (a1 : Int) (r : Int) (w : World) (hr0 : Kd.C (Kd.int .i64) w A0 l0.length l0) (hc0 : l0.length ≤ c0) (h : psalteryref14_Line.f k l0 a1 = some r) :
    Calls Try.prog 90 #[.slice A0 l0.length c0, .int .i64 a1] w fun e w' => e = .returned (.int .i64 r) ∧ Drawn0 w w' := by
 have HR0 := Aside0.mk hr0
 have HC0 := Aside0.mk hc0
 clear hr0 hc0
 have H : ((psalteryref14_post.f k a1).bind fun t753 => (if t753 = 5 then (if 5 < (l0.length : Int) then (some (rd l0 5)) else (none)) else (if 0 ≤ (wrap64 (t753 + 1)) then (if (wrap64 (t753 + 1)) < (l0.length : Int) then (if 0 ≤ t753 then (if t753 < (l0.length : Int) then ((psalteryref14_At.f k t753).bind fun t757 => ((psalteryref14_At.f k (wrap64 (t753 + 1))).bind fun t758 => (if (wrap64 ((wrap64 ((rd l0 (wrap64 (t753 + 1))) - (rd l0 t753))) * (wrap64 (a1 - t757)))) < 0 then (if (wrap64 (t758 - t757)) = 0 then (none) else (some (wrap64 ((rd l0 t753) - (wrap64 (Int.tdiv (wrap64 (-(wrap64 ((wrap64 ((rd l0 (wrap64 (t753 + 1))) - (rd l0 t753))) * (wrap64 (a1 - t757)))))) (wrap64 (t758 - t757)))))))) else (if (wrap64 (t758 - t757)) = 0 then (none) else (some (wrap64 ((rd l0 t753) + (wrap64 (Int.tdiv (wrap64 ((wrap64 ((rd l0 (wrap64 (t753 + 1))) - (rd l0 t753))) * (wrap64 (a1 - t757)))) (wrap64 (t758 - t757))))))))))) else (none)) else (none)) else (none)) else (none)))) = some r := h
 clear h
 obtain ⟨t753, A3, H⟩ := ob_ H
 (try dsimp only at H)
 by_cases c4 : t753 = 5
 {
 rw [if_pos c4] at H
 have c4b0 : (t753 == 5) = true := beq_iff_eq.mpr c4
 have c4b1 : (t753 != 5) = false := bne_eq_false_iff_eq.mpr c4
 clear c4
 by_cases c5 : 5 < (l0.length : Int)
 {
 rw [if_pos c5] at H
 have c5b0 : decide (5 < (l0.length : Int)) = true := decide_eq_true c5
 have c5b1 : decide (5 < l0.length) = true := decide_eq_true (by omega)
 clear c5
 obtain rfl := Option.some.inj H
 go_enter Try.func90, Try.ntmps90
 go_wp2_with (first | (go_at_call 106; (with_reducible refine (psalteryref14_post.calls k a1 t753 _ A3.out).mono ?_); rintro e w' ⟨rfl, ⟨nd, rfl⟩⟩; (try first | exact ⟨rfl, _, World.drewN_drewN _ _ _⟩ | exact ⟨rfl, _, Eq.trans (World.drewN_drewN _ _ _) (congrArg (World.drewN _) (Nat.add_assoc _ _ _))⟩); have p754 : 0 ≤ (5 : Int) := (by omega); have q754 : 5 < (l0.length : Int) := of_decide_eq_true am_; obtain ⟨ad754, e754, hx754_0⟩ := Kd.at_int HR0.out 5 p754 q754; cases e754; (try simp only [show (5 : Int).toNat = 5 from rfl, Nat.reduceMul, Nat.reduceEqDiff, Go.Addr.add, ↓reduceIte] at hx754_0); have qi754 : (5 < l0.length) = True := eq_true (by omega); (try rw [show ((5 : Int)).toNat = 5 from rfl] at hx754_0); replace p754 := eq_true p754; replace q754 := eq_true q754))
 repeat (go_quiet (first | (go_at_call 106; (with_reducible refine (psalteryref14_post.calls k a1 t753 _ A3.out).mono ?_); rintro e w' ⟨rfl, ⟨nd, rfl⟩⟩; (try first | exact ⟨rfl, _, World.drewN_drewN _ _ _⟩ | exact ⟨rfl, _, Eq.trans (World.drewN_drewN _ _ _) (congrArg (World.drewN _) (Nat.add_assoc _ _ _))⟩); have p754 : 0 ≤ (5 : Int) := (by omega); have q754 : 5 < (l0.length : Int) := of_decide_eq_true am_; obtain ⟨ad754, e754, hx754_0⟩ := Kd.at_int HR0.out 5 p754 q754; cases e754; (try simp only [show (5 : Int).toNat = 5 from rfl, Nat.reduceMul, Nat.reduceEqDiff, Go.Addr.add, ↓reduceIte] at hx754_0); have qi754 : (5 < l0.length) = True := eq_true (by omega); (try rw [show ((5 : Int)).toNat = 5 from rfl] at hx754_0); replace p754 := eq_true p754; replace q754 := eq_true q754)); try go_wp2_with (first | (go_at_call 106; (with_reducible refine (psalteryref14_post.calls k a1 t753 _ A3.out).mono ?_); rintro e w' ⟨rfl, ⟨nd, rfl⟩⟩; (try first | exact ⟨rfl, _, World.drewN_drewN _ _ _⟩ | exact ⟨rfl, _, Eq.trans (World.drewN_drewN _ _ _) (congrArg (World.drewN _) (Nat.add_assoc _ _ _))⟩); have p754 : 0 ≤ (5 : Int) := (by omega); have q754 : 5 < (l0.length : Int) := of_decide_eq_true am_; obtain ⟨ad754, e754, hx754_0⟩ := Kd.at_int HR0.out 5 p754 q754; cases e754; (try simp only [show (5 : Int).toNat = 5 from rfl, Nat.reduceMul, Nat.reduceEqDiff, Go.Addr.add, ↓reduceIte] at hx754_0); have qi754 : (5 < l0.length) = True := eq_true (by omega); (try rw [show ((5 : Int)).toNat = 5 from rfl] at hx754_0); replace p754 := eq_true p754; replace q754 := eq_true q754)))
 go_ret
 exact ⟨by first | rfl | (simp; done) | (simp [*]; done), by repeat (first | exact Drawn0.refl _ | apply Drawn0.step)⟩}
 {
 rw [if_neg c5] at H
 exact absurd H (by simp)}}
 {
 rw [if_neg c4] at H
 have c4b0 : (t753 == 5) = false := beq_eq_false_iff_ne.mpr c4
 have c4b1 : (t753 != 5) = true := bne_iff_ne.mpr c4
 obtain ⟨ji6, hji6⟩ : ∃ j_ : Int, (wrap64 (t753 + 1)) = j_ := ⟨_, rfl⟩
 replace H : (if 0 ≤ (ji6) then (if (ji6) < (l0.length : Int) then (if 0 ≤ t753 then (if t753 < (l0.length : Int) then ((psalteryref14_At.f k t753).bind fun t757 => ((psalteryref14_At.f k (ji6)).bind fun t758 => (if (wrap64 ((wrap64 ((rd l0 (ji6)) - (rd l0 t753))) * (wrap64 (a1 - t757)))) < 0 then (if (wrap64 (t758 - t757)) = 0 then (none) else (some (wrap64 ((rd l0 t753) - (wrap64 (Int.tdiv (wrap64 (-(wrap64 ((wrap64 ((rd l0 (ji6)) - (rd l0 t753))) * (wrap64 (a1 - t757)))))) (wrap64 (t758 - t757)))))))) else (if (wrap64 (t758 - t757)) = 0 then (none) else (some (wrap64 ((rd l0 t753) + (wrap64 (Int.tdiv (wrap64 ((wrap64 ((rd l0 (ji6)) - (rd l0 t753))) * (wrap64 (a1 - t757)))) (wrap64 (t758 - t757))))))))))) else (none)) else (none)) else (none)) else (none)) = some r := by first | (rw [hji6] at H; exact H) | (simp only [hji6] at H ⊢; exact H)
 (try rw [hji6] at A3)
 have hji6w : (IntKind.i64.wrap (t753 + 1)) = ji6 := (i64_w _).trans hji6
 by_cases c7 : 0 ≤ (ji6)
 {
 rw [if_pos c7] at H
 have c7b0 : decide (0 ≤ (ji6)) = true := decide_eq_true c7
 clear c7
 by_cases c8 : (ji6) < (l0.length : Int)
 {
 rw [if_pos c8] at H
 have c8b0 : decide ((ji6) < (l0.length : Int)) = true := decide_eq_true c8
 clear c8
 by_cases c9 : 0 ≤ t753
 {
 rw [if_pos c9] at H
 have c9b0 : decide (0 ≤ t753) = true := decide_eq_true c9
 clear c9
 by_cases c10 : t753 < (l0.length : Int)
 {
 rw [if_pos c10] at H
 have c10b0 : decide (t753 < (l0.length : Int)) = true := decide_eq_true c10
 clear c10
 obtain ⟨t757, A11, H⟩ := ob_ H
 (try dsimp only at H)
 obtain ⟨t758, A12, H⟩ := ob_ H
 (try dsimp only at H)
 by_cases c13 : (wrap64 ((wrap64 ((rd l0 (ji6)) - (rd l0 t753))) * (wrap64 (a1 - t757)))) < 0
 {
 rw [if_pos c13] at H
 have c13b0 : decide ((wrap64 ((wrap64 ((rd l0 (ji6)) - (rd l0 t753))) * (wrap64 (a1 - t757)))) < 0) = true := decide_eq_true c13
 clear c13
 by_cases c14 : (wrap64 (t758 - t757)) = 0
 {
 rw [if_pos c14] at H
 exact absurd H (by simp)}
 {
 rw [if_neg c14] at H
 have c14b0 : ((wrap64 (t758 - t757)) == 0) = false := beq_eq_false_iff_ne.mpr c14
 have c14b1 : ((wrap64 (t758 - t757)) != 0) = true := bne_iff_ne.mpr c14
 obtain rfl := Option.some.inj H
 go_enter Try.func90, Try.ntmps90
 go_wp2_with (first | (go_at_call 106; (with_reducible refine (psalteryref14_post.calls k a1 t753 _ A3.out).mono ?_); rintro e w' ⟨rfl, ⟨nd, rfl⟩⟩; (try first | exact ⟨rfl, _, World.drewN_drewN _ _ _⟩ | exact ⟨rfl, _, Eq.trans (World.drewN_drewN _ _ _) (congrArg (World.drewN _) (Nat.add_assoc _ _ _))⟩); have p755 : 0 ≤ ((ji6) : Int) := of_decide_eq_true am_; have q755 : (ji6) < (l0.length : Int) := of_decide_eq_true am_; obtain ⟨ad755, e755, hx755_0⟩ := Kd.at_int HR0.out (ji6) p755 q755; cases e755; replace p755 := eq_true p755; replace q755 := eq_true q755; have p756 : 0 ≤ (t753 : Int) := of_decide_eq_true am_; have q756 : t753 < (l0.length : Int) := of_decide_eq_true am_; obtain ⟨ad756, e756, hx756_0⟩ := Kd.at_int HR0.out t753 p756 q756; obtain rfl : ad755 = ad756 := (by injection e756); replace p756 := eq_true p756; replace q756 := eq_true q756) | (go_at_call 107; (with_reducible refine (psalteryref14_At.calls k t753 t757 _ A11.out).mono ?_); rintro e w' ⟨rfl, ⟨nd, rfl⟩⟩; (try first | exact ⟨rfl, _, World.drewN_drewN _ _ _⟩ | exact ⟨rfl, _, Eq.trans (World.drewN_drewN _ _ _) (congrArg (World.drewN _) (Nat.add_assoc _ _ _))⟩)) | (go_at_call 107; (with_reducible refine (psalteryref14_At.calls k ji6 t758 _ A12.out).mono ?_); rintro e w' ⟨rfl, ⟨nd, rfl⟩⟩; (try first | exact ⟨rfl, _, World.drewN_drewN _ _ _⟩ | exact ⟨rfl, _, Eq.trans (World.drewN_drewN _ _ _) (congrArg (World.drewN _) (Nat.add_assoc _ _ _))⟩); have p759 : 0 ≤ (t753 : Int) := of_decide_eq_true am_; have q759 : t753 < (l0.length : Int) := of_decide_eq_true am_; obtain ⟨ad759, e759, hx759_0⟩ := Kd.at_int HR0.out t753 p759 q759; obtain rfl : ad755 = ad759 := (by injection e759); replace p759 := eq_true p759; replace q759 := eq_true q759))
 repeat (go_quiet (first | (go_at_call 106; (with_reducible refine (psalteryref14_post.calls k a1 t753 _ A3.out).mono ?_); rintro e w' ⟨rfl, ⟨nd, rfl⟩⟩; (try first | exact ⟨rfl, _, World.drewN_drewN _ _ _⟩ | exact ⟨rfl, _, Eq.trans (World.drewN_drewN _ _ _) (congrArg (World.drewN _) (Nat.add_assoc _ _ _))⟩); have p755 : 0 ≤ ((ji6) : Int) := of_decide_eq_true am_; have q755 : (ji6) < (l0.length : Int) := of_decide_eq_true am_; obtain ⟨ad755, e755, hx755_0⟩ := Kd.at_int HR0.out (ji6) p755 q755; cases e755; replace p755 := eq_true p755; replace q755 := eq_true q755; have p756 : 0 ≤ (t753 : Int) := of_decide_eq_true am_; have q756 : t753 < (l0.length : Int) := of_decide_eq_true am_; obtain ⟨ad756, e756, hx756_0⟩ := Kd.at_int HR0.out t753 p756 q756; obtain rfl : ad755 = ad756 := (by injection e756); replace p756 := eq_true p756; replace q756 := eq_true q756) | (go_at_call 107; (with_reducible refine (psalteryref14_At.calls k t753 t757 _ A11.out).mono ?_); rintro e w' ⟨rfl, ⟨nd, rfl⟩⟩; (try first | exact ⟨rfl, _, World.drewN_drewN _ _ _⟩ | exact ⟨rfl, _, Eq.trans (World.drewN_drewN _ _ _) (congrArg (World.drewN _) (Nat.add_assoc _ _ _))⟩)) | (go_at_call 107; (with_reducible refine (psalteryref14_At.calls k ji6 t758 _ A12.out).mono ?_); rintro e w' ⟨rfl, ⟨nd, rfl⟩⟩; (try first | exact ⟨rfl, _, World.drewN_drewN _ _ _⟩ | exact ⟨rfl, _, Eq.trans (World.drewN_drewN _ _ _) (congrArg (World.drewN _) (Nat.add_assoc _ _ _))⟩); have p759 : 0 ≤ (t753 : Int) := of_decide_eq_true am_; have q759 : t753 < (l0.length : Int) := of_decide_eq_true am_; obtain ⟨ad759, e759, hx759_0⟩ := Kd.at_int HR0.out t753 p759 q759; obtain rfl : ad755 = ad759 := (by injection e759); replace p759 := eq_true p759; replace q759 := eq_true q759)); try go_wp2_with (first | (go_at_call 106; (with_reducible refine (psalteryref14_post.calls k a1 t753 _ A3.out).mono ?_); rintro e w' ⟨rfl, ⟨nd, rfl⟩⟩; (try first | exact ⟨rfl, _, World.drewN_drewN _ _ _⟩ | exact ⟨rfl, _, Eq.trans (World.drewN_drewN _ _ _) (congrArg (World.drewN _) (Nat.add_assoc _ _ _))⟩); have p755 : 0 ≤ ((ji6) : Int) := of_decide_eq_true am_; have q755 : (ji6) < (l0.length : Int) := of_decide_eq_true am_; obtain ⟨ad755, e755, hx755_0⟩ := Kd.at_int HR0.out (ji6) p755 q755; cases e755; replace p755 := eq_true p755; replace q755 := eq_true q755; have p756 : 0 ≤ (t753 : Int) := of_decide_eq_true am_; have q756 : t753 < (l0.length : Int) := of_decide_eq_true am_; obtain ⟨ad756, e756, hx756_0⟩ := Kd.at_int HR0.out t753 p756 q756; obtain rfl : ad755 = ad756 := (by injection e756); replace p756 := eq_true p756; replace q756 := eq_true q756) | (go_at_call 107; (with_reducible refine (psalteryref14_At.calls k t753 t757 _ A11.out).mono ?_); rintro e w' ⟨rfl, ⟨nd, rfl⟩⟩; (try first | exact ⟨rfl, _, World.drewN_drewN _ _ _⟩ | exact ⟨rfl, _, Eq.trans (World.drewN_drewN _ _ _) (congrArg (World.drewN _) (Nat.add_assoc _ _ _))⟩)) | (go_at_call 107; (with_reducible refine (psalteryref14_At.calls k ji6 t758 _ A12.out).mono ?_); rintro e w' ⟨rfl, ⟨nd, rfl⟩⟩; (try first | exact ⟨rfl, _, World.drewN_drewN _ _ _⟩ | exact ⟨rfl, _, Eq.trans (World.drewN_drewN _ _ _) (congrArg (World.drewN _) (Nat.add_assoc _ _ _))⟩); have p759 : 0 ≤ (t753 : Int) := of_decide_eq_true am_; have q759 : t753 < (l0.length : Int) := of_decide_eq_true am_; obtain ⟨ad759, e759, hx759_0⟩ := Kd.at_int HR0.out t753 p759 q759; obtain rfl : ad755 = ad759 := (by injection e759); replace p759 := eq_true p759; replace q759 := eq_true q759)))
 go_ret
 exact ⟨by first | rfl | (simp; done) | (simp only [← hji6] <;> (first | rfl | simp)) | (simp [*]; done), by repeat (first | exact Drawn0.refl _ | apply Drawn0.step)⟩}}
 {
 rw [if_neg c13] at H
 have c13b0 : decide ((wrap64 ((wrap64 ((rd l0 (ji6)) - (rd l0 t753))) * (wrap64 (a1 - t757)))) < 0) = false := decide_eq_false c13
 clear c13
 by_cases c15 : (wrap64 (t758 - t757)) = 0
 {
 rw [if_pos c15] at H
 exact absurd H (by simp)}
 {
 rw [if_neg c15] at H
 have c15b0 : ((wrap64 (t758 - t757)) == 0) = false := beq_eq_false_iff_ne.mpr c15
 have c15b1 : ((wrap64 (t758 - t757)) != 0) = true := bne_iff_ne.mpr c15
 obtain rfl := Option.some.inj H
 go_enter Try.func90, Try.ntmps90
 go_wp2_with (first | (go_at_call 106; (with_reducible refine (psalteryref14_post.calls k a1 t753 _ A3.out).mono ?_); rintro e w' ⟨rfl, ⟨nd, rfl⟩⟩; (try first | exact ⟨rfl, _, World.drewN_drewN _ _ _⟩ | exact ⟨rfl, _, Eq.trans (World.drewN_drewN _ _ _) (congrArg (World.drewN _) (Nat.add_assoc _ _ _))⟩); have p755 : 0 ≤ ((ji6) : Int) := of_decide_eq_true am_; have q755 : (ji6) < (l0.length : Int) := of_decide_eq_true am_; obtain ⟨ad755, e755, hx755_0⟩ := Kd.at_int HR0.out (ji6) p755 q755; cases e755; replace p755 := eq_true p755; replace q755 := eq_true q755; have p756 : 0 ≤ (t753 : Int) := of_decide_eq_true am_; have q756 : t753 < (l0.length : Int) := of_decide_eq_true am_; obtain ⟨ad756, e756, hx756_0⟩ := Kd.at_int HR0.out t753 p756 q756; obtain rfl : ad755 = ad756 := (by injection e756); replace p756 := eq_true p756; replace q756 := eq_true q756) | (go_at_call 107; (with_reducible refine (psalteryref14_At.calls k t753 t757 _ A11.out).mono ?_); rintro e w' ⟨rfl, ⟨nd, rfl⟩⟩; (try first | exact ⟨rfl, _, World.drewN_drewN _ _ _⟩ | exact ⟨rfl, _, Eq.trans (World.drewN_drewN _ _ _) (congrArg (World.drewN _) (Nat.add_assoc _ _ _))⟩)) | (go_at_call 107; (with_reducible refine (psalteryref14_At.calls k ji6 t758 _ A12.out).mono ?_); rintro e w' ⟨rfl, ⟨nd, rfl⟩⟩; (try first | exact ⟨rfl, _, World.drewN_drewN _ _ _⟩ | exact ⟨rfl, _, Eq.trans (World.drewN_drewN _ _ _) (congrArg (World.drewN _) (Nat.add_assoc _ _ _))⟩); have p760 : 0 ≤ (t753 : Int) := of_decide_eq_true am_; have q760 : t753 < (l0.length : Int) := of_decide_eq_true am_; obtain ⟨ad760, e760, hx760_0⟩ := Kd.at_int HR0.out t753 p760 q760; obtain rfl : ad755 = ad760 := (by injection e760); replace p760 := eq_true p760; replace q760 := eq_true q760))
 repeat (go_quiet (first | (go_at_call 106; (with_reducible refine (psalteryref14_post.calls k a1 t753 _ A3.out).mono ?_); rintro e w' ⟨rfl, ⟨nd, rfl⟩⟩; (try first | exact ⟨rfl, _, World.drewN_drewN _ _ _⟩ | exact ⟨rfl, _, Eq.trans (World.drewN_drewN _ _ _) (congrArg (World.drewN _) (Nat.add_assoc _ _ _))⟩); have p755 : 0 ≤ ((ji6) : Int) := of_decide_eq_true am_; have q755 : (ji6) < (l0.length : Int) := of_decide_eq_true am_; obtain ⟨ad755, e755, hx755_0⟩ := Kd.at_int HR0.out (ji6) p755 q755; cases e755; replace p755 := eq_true p755; replace q755 := eq_true q755; have p756 : 0 ≤ (t753 : Int) := of_decide_eq_true am_; have q756 : t753 < (l0.length : Int) := of_decide_eq_true am_; obtain ⟨ad756, e756, hx756_0⟩ := Kd.at_int HR0.out t753 p756 q756; obtain rfl : ad755 = ad756 := (by injection e756); replace p756 := eq_true p756; replace q756 := eq_true q756) | (go_at_call 107; (with_reducible refine (psalteryref14_At.calls k t753 t757 _ A11.out).mono ?_); rintro e w' ⟨rfl, ⟨nd, rfl⟩⟩; (try first | exact ⟨rfl, _, World.drewN_drewN _ _ _⟩ | exact ⟨rfl, _, Eq.trans (World.drewN_drewN _ _ _) (congrArg (World.drewN _) (Nat.add_assoc _ _ _))⟩)) | (go_at_call 107; (with_reducible refine (psalteryref14_At.calls k ji6 t758 _ A12.out).mono ?_); rintro e w' ⟨rfl, ⟨nd, rfl⟩⟩; (try first | exact ⟨rfl, _, World.drewN_drewN _ _ _⟩ | exact ⟨rfl, _, Eq.trans (World.drewN_drewN _ _ _) (congrArg (World.drewN _) (Nat.add_assoc _ _ _))⟩); have p760 : 0 ≤ (t753 : Int) := of_decide_eq_true am_; have q760 : t753 < (l0.length : Int) := of_decide_eq_true am_; obtain ⟨ad760, e760, hx760_0⟩ := Kd.at_int HR0.out t753 p760 q760; obtain rfl : ad755 = ad760 := (by injection e760); replace p760 := eq_true p760; replace q760 := eq_true q760)); try go_wp2_with (first | (go_at_call 106; (with_reducible refine (psalteryref14_post.calls k a1 t753 _ A3.out).mono ?_); rintro e w' ⟨rfl, ⟨nd, rfl⟩⟩; (try first | exact ⟨rfl, _, World.drewN_drewN _ _ _⟩ | exact ⟨rfl, _, Eq.trans (World.drewN_drewN _ _ _) (congrArg (World.drewN _) (Nat.add_assoc _ _ _))⟩); have p755 : 0 ≤ ((ji6) : Int) := of_decide_eq_true am_; have q755 : (ji6) < (l0.length : Int) := of_decide_eq_true am_; obtain ⟨ad755, e755, hx755_0⟩ := Kd.at_int HR0.out (ji6) p755 q755; cases e755; replace p755 := eq_true p755; replace q755 := eq_true q755; have p756 : 0 ≤ (t753 : Int) := of_decide_eq_true am_; have q756 : t753 < (l0.length : Int) := of_decide_eq_true am_; obtain ⟨ad756, e756, hx756_0⟩ := Kd.at_int HR0.out t753 p756 q756; obtain rfl : ad755 = ad756 := (by injection e756); replace p756 := eq_true p756; replace q756 := eq_true q756) | (go_at_call 107; (with_reducible refine (psalteryref14_At.calls k t753 t757 _ A11.out).mono ?_); rintro e w' ⟨rfl, ⟨nd, rfl⟩⟩; (try first | exact ⟨rfl, _, World.drewN_drewN _ _ _⟩ | exact ⟨rfl, _, Eq.trans (World.drewN_drewN _ _ _) (congrArg (World.drewN _) (Nat.add_assoc _ _ _))⟩)) | (go_at_call 107; (with_reducible refine (psalteryref14_At.calls k ji6 t758 _ A12.out).mono ?_); rintro e w' ⟨rfl, ⟨nd, rfl⟩⟩; (try first | exact ⟨rfl, _, World.drewN_drewN _ _ _⟩ | exact ⟨rfl, _, Eq.trans (World.drewN_drewN _ _ _) (congrArg (World.drewN _) (Nat.add_assoc _ _ _))⟩); have p760 : 0 ≤ (t753 : Int) := of_decide_eq_true am_; have q760 : t753 < (l0.length : Int) := of_decide_eq_true am_; obtain ⟨ad760, e760, hx760_0⟩ := Kd.at_int HR0.out t753 p760 q760; obtain rfl : ad755 = ad760 := (by injection e760); replace p760 := eq_true p760; replace q760 := eq_true q760)))
 go_ret
 exact ⟨by first | rfl | (simp; done) | (simp only [← hji6] <;> (first | rfl | simp)) | (simp [*]; done), by repeat (first | exact Drawn0.refl _ | apply Drawn0.step)⟩}}}
 {
 rw [if_neg c10] at H
 exact absurd H (by simp)}}
 {
 rw [if_neg c9] at H
 exact absurd H (by simp)}}
 {
 rw [if_neg c8] at H
 exact absurd H (by simp)}}
 {
 rw [if_neg c7] at H
 exact absurd H (by simp)}}
def psalteryref14_Floor.f (k : Nat) (l0 : List Int) (a1 : Int) : Option (Int) := (psalteryref14_Line.f k l0 a1).bind fun t761 => ((psalteryref10_Value.f k t761).bind fun t762 => (if t762 < 1 then (some 1) else (some t762)))
theorem psalteryref14_Floor.mono : ∀ a0 a1 k, LeO (psalteryref14_Floor.f k a0 a1) (psalteryref14_Floor.f (k + 1) a0 a1) := by
  intro a0 a1 k
  unfold psalteryref14_Floor.f
  with_reducible repeat' first
   | exact psalteryref10_Value.mono _ _
   | exact psalteryref14_Line.mono _ _ _
   | exact LeO.refl _
   | exact LeO.none _
   | refine LeO.ite ?_ ?_
   | refine LeO.bind ?_ (fun _ => ?_)
set_option maxHeartbeats 8000000 in
set_option maxRecDepth 100000 in
theorem psalteryref14_Floor.calls (k : Nat) (A0 : Option Addr) (c0 : Nat) (l0 : List Int) (a1 : Int) (r : Int) (w : World) (hr0 : Kd.C (Kd.int .i64) w A0 l0.length l0) (hc0 : l0.length ≤ c0) (h : psalteryref14_Floor.f k l0 a1 = some r) :
    Calls Try.prog 60 #[.slice A0 l0.length c0, .int .i64 a1] w fun e w' => e = .returned (.int .i64 r) ∧ Drawn0 w w' := by
 have HR0 := Aside0.mk hr0
 have HC0 := Aside0.mk hc0
 clear hr0 hc0
 have H : ((psalteryref14_Line.f k l0 a1).bind fun t761 => ((psalteryref10_Value.f k t761).bind fun t762 => (if t762 < 1 then (some 1) else (some t762)))) = some r := h
 clear h
 obtain ⟨t761, A3, H⟩ := ob_ H
 (try dsimp only at H)
 obtain ⟨t762, A4, H⟩ := ob_ H
 (try dsimp only at H)
 by_cases c5 : t762 < 1
 {
 rw [if_pos c5] at H
 have c5b0 : decide (t762 < 1) = true := decide_eq_true c5
 clear c5
 obtain rfl := Option.some.inj H
 go_enter Try.func60, Try.ntmps60
 go_wp2_with (first | ((with_reducible refine gate_callee (f := 90) rfl ?_); refine gL_ (some 8) Try.func90 #[.slice A0 l0.length c0, .int .i64 a1] ?_; (with_reducible refine (psalteryref14_Line.calls k _ _ l0 a1 t761 _ ?side1 ?side2 A3.out).mono ?_); (case side1 => repeat (first | exact HR0.out | (with_reducible refine Kd.C_alloc ?_ _) | (with_reducible refine Kd.C_drewN ?_ _) | (with_reducible refine Kd.C_drew ?_))); (case side2 => exact HC0.out); rintro e w' ⟨rfl, ⟨nd, rfl⟩⟩; refine ⟨_, rfl, ?_⟩) | ((with_reducible refine gate_callee (f := 89) rfl ?_); refine gL_ (some 9) Try.func89 #[.int .i64 t761] ?_; (with_reducible refine (psalteryref10_Value.calls k t761 t762 _ A4.out).mono ?_); rintro e w' ⟨rfl, ⟨nd, rfl⟩⟩; refine ⟨_, rfl, ?_⟩))
 go_ret
 exact ⟨by first | rfl | (simp; done) | (simp [*]; done), by repeat (first | exact Drawn0.refl _ | apply Drawn0.step)⟩}
 {
 rw [if_neg c5] at H
 have c5b0 : decide (t762 < 1) = false := decide_eq_false c5
 clear c5
 obtain rfl := Option.some.inj H
 go_enter Try.func60, Try.ntmps60
 go_wp2_with (first | ((with_reducible refine gate_callee (f := 90) rfl ?_); refine gL_ (some 8) Try.func90 #[.slice A0 l0.length c0, .int .i64 a1] ?_; (with_reducible refine (psalteryref14_Line.calls k _ _ l0 a1 t761 _ ?side1 ?side2 A3.out).mono ?_); (case side1 => repeat (first | exact HR0.out | (with_reducible refine Kd.C_alloc ?_ _) | (with_reducible refine Kd.C_drewN ?_ _) | (with_reducible refine Kd.C_drew ?_))); (case side2 => exact HC0.out); rintro e w' ⟨rfl, ⟨nd, rfl⟩⟩; refine ⟨_, rfl, ?_⟩) | ((with_reducible refine gate_callee (f := 89) rfl ?_); refine gL_ (some 9) Try.func89 #[.int .i64 t761] ?_; (with_reducible refine (psalteryref10_Value.calls k t761 t762 _ A4.out).mono ?_); rintro e w' ⟨rfl, ⟨nd, rfl⟩⟩; refine ⟨_, rfl, ?_⟩))
 go_ret
 exact ⟨by first | rfl | (simp; done) | (simp [*]; done), by repeat (first | exact Drawn0.refl _ | apply Drawn0.step)⟩}
def psalteryref22_Floors.l0 : Nat → List Int → List Int → Int → Option (List Int)
  | 0, _, _, _ => none
  | k + 1, x0, x3, x4 => if x4 < 16 then ((psalteryref14_Floor.f k x0 x4).bind fun t763 => (if x3.length < 17592186044416 then (psalteryref22_Floors.l0 k x0 (x3 ++ [t763]) (wrap64 (x4 + 1))) else (none))) else (some x3)
def psalteryref22_Floors.f (k : Nat) (l0 : List Int) : Option (List Int) := psalteryref22_Floors.l0 k l0 ([] : List Int) 0
theorem psalteryref22_Floors.mono_l : ∀ k, (∀ y0 y1 y2, LeO (psalteryref22_Floors.l0 k y0 y1 y2) (psalteryref22_Floors.l0 (k + 1) y0 y1 y2))
  | 0 => fun _ _ _ r h => by simp [psalteryref22_Floors.l0] at h
  | k + 1 => by
    have ih0 := psalteryref22_Floors.mono_l k
    · intro y0 y1 y2
      unfold psalteryref22_Floors.l0
      with_reducible repeat' first
   | exact ih0 _ _ _
   | exact psalteryref14_Floor.mono _ _ _
   | exact LeO.refl _
   | exact LeO.none _
   | refine LeO.ite ?_ ?_
   | refine LeO.bind ?_ (fun _ => ?_)
theorem psalteryref22_Floors.mono : ∀ a0 k, LeO (psalteryref22_Floors.f k a0) (psalteryref22_Floors.f (k + 1) a0) := by
  intro a0 k
  have ih0 := psalteryref22_Floors.mono_l k
  unfold psalteryref22_Floors.f
  with_reducible repeat' first
   | exact ih0 _ _ _
   | exact psalteryref14_Floor.mono _ _ _
   | exact LeO.refl _
   | exact LeO.none _
   | refine LeO.ite ?_ ?_
   | refine LeO.bind ?_ (fun _ => ?_)
set_option maxHeartbeats 8000000 in
set_option maxRecDepth 100000 in
theorem psalteryref22_Floors.calls (k : Nat) (A0 : Option Addr) (c0 : Nat) (l0 : List Int) (r : List Int) (w : World) (hr0 : Kd.C (Kd.int .i64) w A0 l0.length l0) (hc0 : l0.length ≤ c0) (h : psalteryref22_Floors.f k l0 = some r) :
    Calls Try.prog 26 #[.slice A0 l0.length c0] w fun e w' => ∃ v0_ : Value, e = .returned (v0_) ∧ Kd.R (Kd.int .i64) 2 w' w.heap.size (fun _ => True) v0_ r ∧ Below w.heap.size w w' := by
 have HR0 := Aside0.mk hr0
 have HC0 := Aside0.mk hc0
 clear hr0 hc0
 have HB := Aside0.mk (Below.refl w.heap.size w)
 have H : (psalteryref22_Floors.l0 k l0 ([] : List Int) 0) = some r := h
 clear h
 have H' := Aside0.mk H
 clear H
 go_enter Try.func26, Try.ntmps26
 go_wp2
 go_loopg [3, 4] k (fun kq v3 v4 w' => ∃ (x3_1 : List Int) (x4_1 : Int), v4 = .int .i64 x4_1 ∧ Aside0 (psalteryref22_Floors.l0 kq l0 x3_1 x4_1 = some r) ∧ Aside0 (kq ≤ k) ∧ Aside0 (Kd.R (Kd.int .i64) 2 w' w.heap.size (fun _ => True) v3 x3_1) ∧ Aside0 (Below w.heap.size w w'))
 case atStart => exact ⟨(([] : List Int)), (0), rs_, H', ⟨Nat.le_refl _⟩, ⟨by first | exact Kd.R_nil _ _ _ _ _ | exact Kd.N_nil _ _ _ _ _ | exact Kd.V_nil _ _ _ _ _ | exact Kd.Q_nil _ _ _ _ _ | exact Kd.S_nil _ _ _ _ _⟩, ⟨bl_ HB⟩⟩
 case round => (
 clear H'
 obtain ⟨x3_1, x4_1, rfl, HA, HK1, HO_3, HB⟩ := hrel
 cases gk with
 | zero => exact absurd HA.out (by simp [psalteryref22_Floors.l0])
 | succ k1 => (
 have H := HA.out
 clear HA
 simp only [psalteryref22_Floors.l0] at H
 by_cases c2 : x4_1 < 16
 {
 rw [if_pos c2] at H
 have c2b0 : decide (x4_1 < 16) = true := decide_eq_true c2
 clear c2
 obtain ⟨t763, A3, H⟩ := ob_ H
 (try dsimp only at H)
 by_cases c4 : x3_1.length < 17592186044416
 {
 rw [if_pos c4] at H
 have LMc4 := Aside0.mk c4
 clear c4
 obtain ⟨y764, hy764⟩ : ∃ y_ : List Int, y_ = (x3_1 ++ [t763]) := ⟨_, rfl⟩
 replace H : (psalteryref22_Floors.l0 k1 l0 y764 (wrap64 (x4_1 + 1))) = some r := by first | (rw [hy764]; with_reducible exact H) | (have H2_ := (Option.bind_some _ _).symm.trans H; rw [hy764]; with_reducible exact H2_) | (have H2_ := (Option.bind_some _ _).symm.trans H; with_reducible exact H2_) | with_reducible exact H | (rw [hy764]; exact H) | exact H
 have Ny764 := Aside0.mk hy764
 clear hy764
 have H' := Aside0.mk H
 clear H
 go_wp2_with (first | ((with_reducible refine gate_callee (f := 60) rfl ?_); refine gL_ (some 12) Try.func60 #[.slice A0 l0.length c0, .int .i64 x4_1] ?_; (with_reducible refine (psalteryref14_Floor.calls k1 _ _ l0 x4_1 t763 _ ?side1 ?side2 A3.out).mono ?_); (case side1 => exact kC_ HR0 HB); (case side2 => exact HC0.out); rintro e w' ⟨rfl, ⟨nd, rfl⟩⟩; refine ⟨_, rfl, ?_⟩) | ((with_reducible refine gate_builtin (b := .append) (xs := #[.tmp 9, .tmp 13]) rfl ?_); at_builtin; refine Kd.R_append (Kd.int .i64) (w0 := w) w.heap.size rfl (.tmp 9) (.tmp 13) 53 2 (.int .i64 0) 8 rfl Try.underlying53 info2 rfl (by decide) (by omega) u3 x3_1 t763 [.int .i64 t763] (fun _ => True) (fun _ => False) rfl rfl ?aP (fun _ hk => hk.elim) ?aF ?aO ?aB ?aS ?aL ?_; (case aP => exact rfl); (case aB => exact (bl_ HB)); (case aF => exact (fun _ _ => trivial)); (case aO => exact (kR_ HO_3)); (case aS => exact (bs_ HB)); (case aL => have := LMc4.out; omega); intro v765 w5 ho hb hg hat; rw [← Ny764.out] at ho; replace HB := Aside0.mk (hb); have HO766 := Aside0.mk (ho); clear HO_3; clear ho hb hg hat))
 go_roundg k1
 case measure => have := HK1.out; omega
 case rel => exact ⟨(y764), (wrap64 (x4_1 + 1)), rs_, H', ⟨by have := HK1.out; omega⟩, ⟨kR_ HO766⟩, ⟨bl_ HB⟩⟩}
 {
 rw [if_neg c4] at H
 exact absurd H (by simp)}}
 {
 rw [if_neg c2] at H
 have c2b0 : decide (x4_1 < 16) = false := decide_eq_false c2
 clear c2
 obtain rfl := Option.some.inj H
 go_wp2
 go_ret
 exact ⟨_, by first | rfl | (simp [errW_none, errW_some] <;> rfl) | (simp [*, errW_none, errW_some] <;> rfl), by (with_reducible repeat (first | apply Kd.R_alloc | apply Kd.R_drewN | apply Kd.R_drew)); exact HO_3.out, bl_ HB⟩}))
mutual
def psalteryref22_Settled.l0 : Nat → List Int → Int → Option (Int)
  | 0, _, _ => none
  | k + 1, x0, x5 => if x5 ≥ 0 then (if 0 ≤ x5 then (if x5 < (x0.length : Int) then (if (rd x0 x5) > 0 then (some x5) else (psalteryref22_Settled.l0 k x0 (wrap64 (x5 - 1)))) else (none)) else (none)) else (psalteryref22_Settled.l1 k x0 0)
def psalteryref22_Settled.l1 : Nat → List Int → Int → Option (Int)
  | 0, _, _ => none
  | k + 1, x0, x6 => if x6 < (x0.length : Int) then (if 0 ≤ x6 then (if (rd x0 x6) > 0 then (some x6) else (psalteryref22_Settled.l1 k x0 (wrap64 (x6 + 1)))) else (none)) else (some 0)
end
def psalteryref22_Settled.f (k : Nat) (l0 : List Int) (a1 : Int) : Option (Int) := psalteryref22_Settled.l0 k l0 a1
theorem psalteryref22_Settled.mono_l : ∀ k, (∀ y0 y1, LeO (psalteryref22_Settled.l0 k y0 y1) (psalteryref22_Settled.l0 (k + 1) y0 y1)) ∧ (∀ y0 y1, LeO (psalteryref22_Settled.l1 k y0 y1) (psalteryref22_Settled.l1 (k + 1) y0 y1))
  | 0 => ⟨fun _ _ r h => by simp [psalteryref22_Settled.l0] at h, fun _ _ r h => by simp [psalteryref22_Settled.l1] at h⟩
  | k + 1 => by
    obtain ⟨ih0, ih1⟩ := psalteryref22_Settled.mono_l k
    refine ⟨?_, ?_⟩
    all_goals (intros; first | unfold psalteryref22_Settled.l0 | unfold psalteryref22_Settled.l1)
    all_goals with_reducible repeat' first
     | exact ih0 _ _
     | exact ih1 _ _
     | exact LeO.refl _
     | exact LeO.none _
     | refine LeO.ite ?_ ?_
     | refine LeO.bind ?_ (fun _ => ?_)
theorem psalteryref22_Settled.mono : ∀ a0 a1 k, LeO (psalteryref22_Settled.f k a0 a1) (psalteryref22_Settled.f (k + 1) a0 a1) := by
  intro a0 a1 k
  obtain ⟨ih0, ih1⟩ := psalteryref22_Settled.mono_l k
  unfold psalteryref22_Settled.f
  with_reducible repeat' first
   | exact ih0 _ _
   | exact ih1 _ _
   | exact LeO.refl _
   | exact LeO.none _
   | refine LeO.ite ?_ ?_
   | refine LeO.bind ?_ (fun _ => ?_)
set_option maxHeartbeats 8000000 in
set_option maxRecDepth 100000 in
theorem psalteryref22_Settled.calls (k : Nat) (A0 : Option Addr) (c0 : Nat) (l0 : List Int) (a1 : Int) (r : Int) (w : World) (hr0 : Kd.C (Kd.int .i64) w A0 l0.length l0) (hc0 : l0.length ≤ c0) (h : psalteryref22_Settled.f k l0 a1 = some r) :
    Calls Try.prog 61 #[.slice A0 l0.length c0, .int .i64 a1] w fun e w' => e = .returned (.int .i64 r) ∧ Drawn0 w w' := by
 have HR0 := Aside0.mk hr0
 have HC0 := Aside0.mk hc0
 clear hr0 hc0
 have H : (psalteryref22_Settled.l0 k l0 a1) = some r := h
 clear h
 have H' := Aside0.mk H
 clear H
 go_enter Try.func61, Try.ntmps61
 go_wp2
 go_loopg [5] k (fun kq v5 w' => ∃ (x5_1 : Int), v5 = .int .i64 x5_1 ∧ Aside0 (psalteryref22_Settled.l0 kq l0 x5_1 = some r) ∧ Aside0 (kq ≤ k) ∧ Drawn0 w w')
 case atStart => exact ⟨(a1), rs_, H', ⟨Nat.le_refl _⟩, by repeat (first | exact Drawn0.refl _ | apply Drawn0.step)⟩
 case round => (
 clear H'
 obtain ⟨x5_1, rfl, HA, HK1, ⟨m1, rfl⟩⟩ := hrel
 cases gk with
 | zero => exact absurd HA.out (by simp [psalteryref22_Settled.l0])
 | succ k1 => (
 have H := HA.out
 clear HA
 simp only [psalteryref22_Settled.l0] at H
 by_cases c3 : x5_1 ≥ 0
 {
 rw [if_pos c3] at H
 have c3b0 : decide (0 ≤ x5_1) = true := decide_eq_true c3
 clear c3
 by_cases c4 : 0 ≤ x5_1
 {
 rw [if_pos c4] at H
 have c4b0 : decide (0 ≤ x5_1) = true := decide_eq_true c4
 clear c4
 by_cases c5 : x5_1 < (l0.length : Int)
 {
 rw [if_pos c5] at H
 have c5b0 : decide (x5_1 < (l0.length : Int)) = true := decide_eq_true c5
 clear c5
 by_cases c6 : (rd l0 x5_1) > 0
 {
 rw [if_pos c6] at H
 have c6b0 : decide (0 < (rd l0 x5_1)) = true := decide_eq_true c6
 clear c6
 obtain rfl := Option.some.inj H
 have p767 : 0 ≤ (x5_1 : Int) := of_decide_eq_true am_
 have q767 : x5_1 < (l0.length : Int) := of_decide_eq_true am_
 obtain ⟨ad767, e767, hx767_0⟩ := Kd.at_int HR0.out x5_1 p767 q767
 cases e767
 replace p767 := eq_true p767
 replace q767 := eq_true q767
 go_wp2
 go_ret
 exact ⟨by first | rfl | (simp; done) | (simp [*]; done), by repeat (first | exact Drawn0.refl _ | apply Drawn0.step)⟩}
 {
 rw [if_neg c6] at H
 have c6b0 : decide (0 < (rd l0 x5_1)) = false := decide_eq_false c6
 clear c6
 have H' := Aside0.mk H
 clear H
 have p767 : 0 ≤ (x5_1 : Int) := of_decide_eq_true am_
 have q767 : x5_1 < (l0.length : Int) := of_decide_eq_true am_
 obtain ⟨ad767, e767, hx767_0⟩ := Kd.at_int HR0.out x5_1 p767 q767
 cases e767
 replace p767 := eq_true p767
 replace q767 := eq_true q767
 go_wp2
 go_roundg k1
 case measure => have := HK1.out; omega
 case rel => exact ⟨(wrap64 (x5_1 - 1)), rs_, H', ⟨by have := HK1.out; omega⟩, by repeat (first | exact Drawn0.refl _ | apply Drawn0.step)⟩}}
 {
 rw [if_neg c5] at H
 exact absurd H (by simp)}}
 {
 rw [if_neg c4] at H
 exact absurd H (by simp)}}
 {
 rw [if_neg c3] at H
 have c3b0 : decide (0 ≤ x5_1) = false := decide_eq_false c3
 clear c3
 have H' := Aside0.mk H
 clear H
 go_wp2
 go_loopg [6] k1 (fun kq v6 w' => ∃ (x6_2 : Int), v6 = .int .i64 x6_2 ∧ Aside0 (psalteryref22_Settled.l1 kq l0 x6_2 = some r) ∧ Aside0 (kq ≤ k1) ∧ Drawn0 w w')
 case atStart => exact ⟨(0), rs_, H', ⟨Nat.le_refl _⟩, by repeat (first | exact Drawn0.refl _ | apply Drawn0.step)⟩
 case round => (
 clear H'
 try clear c3
 try clear c3b0
 obtain ⟨x6_2, rfl, HA, HK2, ⟨m2, rfl⟩⟩ := hrel
 cases gk with
 | zero => exact absurd HA.out (by simp [psalteryref22_Settled.l1])
 | succ k2 => (
 have H := HA.out
 clear HA
 simp only [psalteryref22_Settled.l1] at H
 by_cases c7 : x6_2 < (l0.length : Int)
 {
 rw [if_pos c7] at H
 have c7b0 : decide (x6_2 < (l0.length : Int)) = true := decide_eq_true c7
 clear c7
 by_cases c8 : 0 ≤ x6_2
 {
 rw [if_pos c8] at H
 have c8b0 : decide (0 ≤ x6_2) = true := decide_eq_true c8
 clear c8
 by_cases c9 : (rd l0 x6_2) > 0
 {
 rw [if_pos c9] at H
 have c9b0 : decide (0 < (rd l0 x6_2)) = true := decide_eq_true c9
 clear c9
 obtain rfl := Option.some.inj H
 have p768 : 0 ≤ (x6_2 : Int) := of_decide_eq_true am_
 have q768 : x6_2 < (l0.length : Int) := of_decide_eq_true am_
 obtain ⟨ad768, e768, hx768_0⟩ := Kd.at_int HR0.out x6_2 p768 q768
 cases e768
 replace p768 := eq_true p768
 replace q768 := eq_true q768
 go_wp2
 go_ret
 exact ⟨by first | rfl | (simp; done) | (simp [*]; done), by repeat (first | exact Drawn0.refl _ | apply Drawn0.step)⟩}
 {
 rw [if_neg c9] at H
 have c9b0 : decide (0 < (rd l0 x6_2)) = false := decide_eq_false c9
 clear c9
 have H' := Aside0.mk H
 clear H
 have p768 : 0 ≤ (x6_2 : Int) := of_decide_eq_true am_
 have q768 : x6_2 < (l0.length : Int) := of_decide_eq_true am_
 obtain ⟨ad768, e768, hx768_0⟩ := Kd.at_int HR0.out x6_2 p768 q768
 cases e768
 replace p768 := eq_true p768
 replace q768 := eq_true q768
 go_wp2
 go_roundg k2
 case measure => have := HK1.out; have := HK2.out; omega
 case rel => exact ⟨(wrap64 (x6_2 + 1)), rs_, H', ⟨by have := HK1.out; have := HK2.out; omega⟩, by repeat (first | exact Drawn0.refl _ | apply Drawn0.step)⟩}}
 {
 rw [if_neg c8] at H
 exact absurd H (by simp)}}
 {
 rw [if_neg c7] at H
 have c7b0 : decide (x6_2 < (l0.length : Int)) = false := decide_eq_false c7
 clear c7
 obtain rfl := Option.some.inj H
 go_wp2
 go_ret
 exact ⟨by first | rfl | (simp; done) | (simp [*]; done), by repeat (first | exact Drawn0.refl _ | apply Drawn0.step)⟩}))}))
def psalteryref14_Fit.j0 : Nat → Int → Int → Option (Int)
  | 0, _, _ => none
  | k + 1, x1, x7 => if (wrap64 ((wrap64 (x7 - 13)) + x1)) < 0 then (some 0) else (if (wrap64 ((wrap64 (x7 - 13)) + x1)) > 44 then (some 44) else (some (wrap64 ((wrap64 (x7 - 13)) + x1))))
def psalteryref14_Fit.f (k : Nat) (l0 : List Int) (a1 : Int) (a2 : Int) : Option (Int) := if a1 = 0 then (some 0) else (if 4 < (l0.length : Int) then (if a2 < 4 then (if 0 ≤ a2 then (if a2 < (l0.length : Int) then (psalteryref14_Fit.j0 k a1 (rd l0 a2)) else (none)) else (none)) else (psalteryref14_Fit.j0 k a1 (rd l0 4))) else (none))
theorem psalteryref14_Fit.mono_l : ∀ k, (∀ y0 y1, LeO (psalteryref14_Fit.j0 k y0 y1) (psalteryref14_Fit.j0 (k + 1) y0 y1))
  | 0 => fun _ _ r h => by simp [psalteryref14_Fit.j0] at h
  | k + 1 => by
    have ih0 := psalteryref14_Fit.mono_l k
    · intro y0 y1
      unfold psalteryref14_Fit.j0
      with_reducible repeat' first
   | exact ih0 _ _
   | exact LeO.refl _
   | exact LeO.none _
   | refine LeO.ite ?_ ?_
   | refine LeO.bind ?_ (fun _ => ?_)
theorem psalteryref14_Fit.mono : ∀ a0 a1 a2 k, LeO (psalteryref14_Fit.f k a0 a1 a2) (psalteryref14_Fit.f (k + 1) a0 a1 a2) := by
  intro a0 a1 a2 k
  have ih0 := psalteryref14_Fit.mono_l k
  unfold psalteryref14_Fit.f
  with_reducible repeat' first
   | exact ih0 _ _
   | exact LeO.refl _
   | exact LeO.none _
   | refine LeO.ite ?_ ?_
   | refine LeO.bind ?_ (fun _ => ?_)
set_option maxHeartbeats 8000000 in
set_option maxRecDepth 100000 in
theorem psalteryref14_Fit.calls (k : Nat) (A0 : Option Addr) (c0 : Nat) (l0 : List Int) (a1 : Int) (a2 : Int) (r : Int) (w : World) (hr0 : Kd.C (Kd.int .i64) w A0 l0.length l0) (hc0 : l0.length ≤ c0) (h : psalteryref14_Fit.f k l0 a1 a2 = some r) :
    Calls Try.prog 62 #[.slice A0 l0.length c0, .int .i64 a1, .int .i64 a2] w fun e w' => e = .returned (.int .i64 r) ∧ Drawn0 w w' := by
 have HR0 := Aside0.mk hr0
 have HC0 := Aside0.mk hc0
 clear hr0 hc0
 have H : (if a1 = 0 then (some 0) else (if 4 < (l0.length : Int) then (if a2 < 4 then (if 0 ≤ a2 then (if a2 < (l0.length : Int) then (psalteryref14_Fit.j0 k a1 (rd l0 a2)) else (none)) else (none)) else (psalteryref14_Fit.j0 k a1 (rd l0 4))) else (none))) = some r := h
 clear h
 by_cases c4 : a1 = 0
 {
 rw [if_pos c4] at H
 have c4b0 : (a1 == 0) = true := beq_iff_eq.mpr c4
 have c4b1 : (a1 != 0) = false := bne_eq_false_iff_eq.mpr c4
 clear c4
 obtain rfl := Option.some.inj H
 go_enter Try.func62, Try.ntmps62
 go_wp2
 go_ret
 exact ⟨by first | rfl | (simp; done) | (simp [*]; done), by repeat (first | exact Drawn0.refl _ | apply Drawn0.step)⟩}
 {
 rw [if_neg c4] at H
 have c4b0 : (a1 == 0) = false := beq_eq_false_iff_ne.mpr c4
 have c4b1 : (a1 != 0) = true := bne_iff_ne.mpr c4
 by_cases c5 : 4 < (l0.length : Int)
 {
 rw [if_pos c5] at H
 have c5b0 : decide (4 < (l0.length : Int)) = true := decide_eq_true c5
 have c5b1 : decide (4 < l0.length) = true := decide_eq_true (by omega)
 clear c5
 have HC6 := Aside0.mk H
 clear H
 have p769 : 0 ≤ (4 : Int) := (by omega)
 have q769 : 4 < (l0.length : Int) := of_decide_eq_true am_
 obtain ⟨ad769, e769, hx769_0⟩ := Kd.at_int HR0.out 4 p769 q769
 cases e769
 (try simp only [show (4 : Int).toNat = 4 from rfl, Nat.reduceMul, Nat.reduceEqDiff, Go.Addr.add, ↓reduceIte] at hx769_0)
 have qi769 : (4 < l0.length) = True := eq_true (by omega)
 (try rw [show ((4 : Int)).toNat = 4 from rfl] at hx769_0)
 replace p769 := eq_true p769
 replace q769 := eq_true q769
 go_enter Try.func62, Try.ntmps62
 go_upto_if 14 with (fail)
 go_cut [7] (fun v7 wc => ∃ (kq : Nat) (x7_5 : Int), v7 = .int .i64 x7_5 ∧ Aside0 (psalteryref14_Fit.j0 kq a1 x7_5 = some r) ∧ Aside0 (kq ≤ k) ∧ Drawn0 w wc)
 case first => (
 have H := HC6.out
 clear HC6
 by_cases c7 : a2 < 4
 {
 rw [if_pos c7] at H
 have c7b0 : decide (a2 < 4) = true := decide_eq_true c7
 clear c7
 (first | rw [c7b0] | (simp only [i64_w, i32_w]; rw [c7b0]) | skip)
 by_cases c8 : 0 ≤ a2
 {
 rw [if_pos c8] at H
 have c8b0 : decide (0 ≤ a2) = true := decide_eq_true c8
 clear c8
 by_cases c9 : a2 < (l0.length : Int)
 {
 rw [if_pos c9] at H
 have c9b0 : decide (a2 < (l0.length : Int)) = true := decide_eq_true c9
 clear c9
 have H' := Aside0.mk H
 clear H
 have p770 : 0 ≤ (a2 : Int) := of_decide_eq_true am_
 have q770 : a2 < (l0.length : Int) := of_decide_eq_true am_
 obtain ⟨ad770, e770, hx770_0⟩ := Kd.at_int HR0.out a2 p770 q770
 obtain rfl : ad769 = ad770 := (by injection e770)
 replace p770 := eq_true p770
 replace q770 := eq_true q770
 go_wp2
 go_meet
 case rel => exact ⟨_, (rd l0 a2), rs_, H', ⟨ol_⟩, by repeat (first | exact Drawn0.refl _ | apply Drawn0.step)⟩}
 {
 rw [if_neg c9] at H
 exact absurd H (by simp)}}
 {
 rw [if_neg c8] at H
 exact absurd H (by simp)}}
 {
 rw [if_neg c7] at H
 have c7b0 : decide (a2 < 4) = false := decide_eq_false c7
 clear c7
 (first | rw [c7b0] | (simp only [i64_w, i32_w]; rw [c7b0]) | skip)
 have H' := Aside0.mk H
 clear H
 go_wp2
 go_meet
 case rel => exact ⟨_, (rd l0 4), rs_, H', ⟨ol_⟩, by repeat (first | exact Drawn0.refl _ | apply Drawn0.step)⟩})
 case rest => (
 clear HC6
 try clear c4
 try clear c4b0
 try clear c4b1
 try clear c5
 try clear c5b0
 try clear c5b1
 try clear hx769_0
 try clear p769
 try clear q769
 obtain ⟨kq, x7_5, rfl, HA, HJ5, ⟨mc5, rfl⟩⟩ := hcut
 cases kq with
 | zero => exact absurd HA.out (by simp [psalteryref14_Fit.j0])
 | succ kj5 => (
 have H := HA.out
 clear HA
 simp only [psalteryref14_Fit.j0] at H
 by_cases c10 : (wrap64 ((wrap64 (x7_5 - 13)) + a1)) < 0
 {
 rw [if_pos c10] at H
 have c10b0 : decide ((wrap64 ((wrap64 (x7_5 - 13)) + a1)) < 0) = true := decide_eq_true c10
 clear c10
 obtain rfl := Option.some.inj H
 go_wp2
 go_ret
 exact ⟨by first | rfl | (simp; done) | (simp [*]; done), by repeat (first | exact Drawn0.refl _ | apply Drawn0.step)⟩}
 {
 rw [if_neg c10] at H
 have c10b0 : decide ((wrap64 ((wrap64 (x7_5 - 13)) + a1)) < 0) = false := decide_eq_false c10
 clear c10
 by_cases c11 : (wrap64 ((wrap64 (x7_5 - 13)) + a1)) > 44
 {
 rw [if_pos c11] at H
 have c11b0 : decide (44 < (wrap64 ((wrap64 (x7_5 - 13)) + a1))) = true := decide_eq_true c11
 clear c11
 obtain rfl := Option.some.inj H
 go_wp2
 go_ret
 exact ⟨by first | rfl | (simp; done) | (simp [*]; done), by repeat (first | exact Drawn0.refl _ | apply Drawn0.step)⟩}
 {
 rw [if_neg c11] at H
 have c11b0 : decide (44 < (wrap64 ((wrap64 (x7_5 - 13)) + a1))) = false := decide_eq_false c11
 clear c11
 obtain rfl := Option.some.inj H
 go_wp2
 go_ret
 exact ⟨by first | rfl | (simp; done) | (simp [*]; done), by repeat (first | exact Drawn0.refl _ | apply Drawn0.step)⟩}}))}
 {
 rw [if_neg c5] at H
 exact absurd H (by simp)}}
def psalteryref07_size.f (a0 : Int) : Option (Int) := if a0 < 0 then (some (wrap64 (-a0))) else (some a0)
set_option maxHeartbeats 8000000 in
set_option maxRecDepth 100000 in
theorem psalteryref07_size.calls (a0 : Int) (r : Int) (w : World) (h : psalteryref07_size.f a0 = some r) :
    Calls Try.prog 117 #[.int .i64 a0] w fun e w' => e = .returned (.int .i64 r) ∧ Drawn0 w w' := by
 have H : (if a0 < 0 then (some (wrap64 (-a0))) else (some a0)) = some r := h
 clear h
 by_cases c2 : a0 < 0
 {
 rw [if_pos c2] at H
 have c2b0 : decide (a0 < 0) = true := decide_eq_true c2
 clear c2
 obtain rfl := Option.some.inj H
 go_enter Try.func117, Try.ntmps117
 go_wp2
 go_ret
 exact ⟨by first | rfl | (simp; done) | (simp [*]; done), by repeat (first | exact Drawn0.refl _ | apply Drawn0.step)⟩}
 {
 rw [if_neg c2] at H
 have c2b0 : decide (a0 < 0) = false := decide_eq_false c2
 clear c2
 obtain rfl := Option.some.inj H
 go_enter Try.func117, Try.ntmps117
 go_wp2
 go_ret
 exact ⟨by first | rfl | (simp; done) | (simp [*]; done), by repeat (first | exact Drawn0.refl _ | apply Drawn0.step)⟩}
def psalteryref07_Square.l0 : Nat → List Int → Int → Int → Option (Int)
  | 0, _, _, _ => none
  | k + 1, x0, x3, x4 => if x4 < (x0.length : Int) then (if 0 ≤ x4 then ((psalteryref07_size.f (rd x0 x4)).bind fun t772 => (psalteryref07_Square.l0 k x0 (IntKind.u64.wrap (x3 + (IntKind.u64.wrap ((IntKind.u64.wrap (t772)) * (IntKind.u64.wrap (t772)))))) (wrap64 (x4 + 1)))) else (none)) else (some x3)
def psalteryref07_Square.f (k : Nat) (l0 : List Int) : Option (Int) := psalteryref07_Square.l0 k l0 0 0
theorem psalteryref07_Square.mono_l : ∀ k, (∀ y0 y1 y2, LeO (psalteryref07_Square.l0 k y0 y1 y2) (psalteryref07_Square.l0 (k + 1) y0 y1 y2))
  | 0 => fun _ _ _ r h => by simp [psalteryref07_Square.l0] at h
  | k + 1 => by
    have ih0 := psalteryref07_Square.mono_l k
    · intro y0 y1 y2
      unfold psalteryref07_Square.l0
      with_reducible repeat' first
   | exact ih0 _ _ _
   | exact LeO.refl _
   | exact LeO.none _
   | refine LeO.ite ?_ ?_
   | refine LeO.bind ?_ (fun _ => ?_)
theorem psalteryref07_Square.mono : ∀ a0 k, LeO (psalteryref07_Square.f k a0) (psalteryref07_Square.f (k + 1) a0) := by
  intro a0 k
  have ih0 := psalteryref07_Square.mono_l k
  unfold psalteryref07_Square.f
  with_reducible repeat' first
   | exact ih0 _ _ _
   | exact LeO.refl _
   | exact LeO.none _
   | refine LeO.ite ?_ ?_
   | refine LeO.bind ?_ (fun _ => ?_)
set_option maxHeartbeats 8000000 in
set_option maxRecDepth 100000 in
theorem psalteryref07_Square.calls (k : Nat) (A0 : Option Addr) (c0 : Nat) (l0 : List Int) (r : Int) (w : World) (hr0 : Kd.C (Kd.int .i64) w A0 l0.length l0) (hc0 : l0.length ≤ c0) (h : psalteryref07_Square.f k l0 = some r) :
    Calls Try.prog 108 #[.slice A0 l0.length c0] w fun e w' => e = .returned (.int .u64 r) ∧ Drawn0 w w' := by
 have HR0 := Aside0.mk hr0
 have HC0 := Aside0.mk hc0
 clear hr0 hc0
 have H : (psalteryref07_Square.l0 k l0 0 0) = some r := h
 clear h
 have H' := Aside0.mk H
 clear H
 go_enter Try.func108, Try.ntmps108
 go_wp2
 go_loopg [3, 4] k (fun kq v3 v4 w' => ∃ (x3_1 : Int) (x4_1 : Int), v3 = .int .u64 x3_1 ∧ v4 = .int .i64 x4_1 ∧ Aside0 (psalteryref07_Square.l0 kq l0 x3_1 x4_1 = some r) ∧ Aside0 (kq ≤ k) ∧ Drawn0 w w')
 case atStart => exact ⟨(0), (0), rs_, rs_, H', ⟨Nat.le_refl _⟩, by repeat (first | exact Drawn0.refl _ | apply Drawn0.step)⟩
 case round => (
 clear H'
 obtain ⟨x3_1, x4_1, rfl, rfl, HA, HK1, ⟨m1, rfl⟩⟩ := hrel
 cases gk with
 | zero => exact absurd HA.out (by simp [psalteryref07_Square.l0])
 | succ k1 => (
 have H := HA.out
 clear HA
 simp only [psalteryref07_Square.l0] at H
 by_cases c2 : x4_1 < (l0.length : Int)
 {
 rw [if_pos c2] at H
 have c2b0 : decide (x4_1 < (l0.length : Int)) = true := decide_eq_true c2
 clear c2
 by_cases c3 : 0 ≤ x4_1
 {
 rw [if_pos c3] at H
 have c3b0 : decide (0 ≤ x4_1) = true := decide_eq_true c3
 clear c3
 obtain ⟨t772, A4, H⟩ := ob_ H
 (try dsimp only at H)
 have H' := Aside0.mk H
 clear H
 have p771 : 0 ≤ (x4_1 : Int) := of_decide_eq_true am_
 have q771 : x4_1 < (l0.length : Int) := of_decide_eq_true am_
 obtain ⟨ad771, e771, hx771_0⟩ := Kd.at_int HR0.out x4_1 p771 q771
 cases e771
 replace p771 := eq_true p771
 replace q771 := eq_true q771
 go_wp2_with (first | ((with_reducible refine gate_callee (f := 117) rfl ?_); refine gL_ (some 16) Try.func117 #[.int .i64 (rd l0 x4_1)] ?_; (with_reducible refine (psalteryref07_size.calls (rd l0 x4_1) t772 _ A4.out).mono ?_); rintro e w' ⟨rfl, ⟨nd, rfl⟩⟩; refine ⟨_, rfl, ?_⟩))
 go_roundg k1
 case measure => have := HK1.out; omega
 case rel => exact ⟨(IntKind.u64.wrap (x3_1 + (IntKind.u64.wrap ((IntKind.u64.wrap (t772)) * (IntKind.u64.wrap (t772)))))), (wrap64 (x4_1 + 1)), rs_, rs_, H', ⟨by have := HK1.out; omega⟩, by repeat (first | exact Drawn0.refl _ | apply Drawn0.step)⟩}
 {
 rw [if_neg c3] at H
 exact absurd H (by simp)}}
 {
 rw [if_neg c2] at H
 have c2b0 : decide (x4_1 < (l0.length : Int)) = false := decide_eq_false c2
 clear c2
 obtain rfl := Option.some.inj H
 go_wp2
 go_ret
 exact ⟨by first | rfl | (simp; done) | (simp [*]; done), by repeat (first | exact Drawn0.refl _ | apply Drawn0.step)⟩}))
def psalteryref10_Gain.l0 : Nat → Int → Int → Option (Int)
  | 0, _, _ => none
  | k + 1, x3, x4 => if x3 > 0 then (psalteryref10_Gain.l0 k (IntKind.u64.wrap (Int.tdiv x3 2)) (wrap64 (x4 + 1))) else (some x4)
def psalteryref10_Gain.f (k : Nat) (l0 : List Int) : Option (Int) := (psalteryref07_Square.f k l0).bind fun t773 => (psalteryref10_Gain.l0 k t773 0)
theorem psalteryref10_Gain.mono_l : ∀ k, (∀ y0 y1, LeO (psalteryref10_Gain.l0 k y0 y1) (psalteryref10_Gain.l0 (k + 1) y0 y1))
  | 0 => fun _ _ r h => by simp [psalteryref10_Gain.l0] at h
  | k + 1 => by
    have ih0 := psalteryref10_Gain.mono_l k
    · intro y0 y1
      unfold psalteryref10_Gain.l0
      with_reducible repeat' first
   | exact ih0 _ _
   | exact psalteryref07_Square.mono _ _
   | exact LeO.refl _
   | exact LeO.none _
   | refine LeO.ite ?_ ?_
   | refine LeO.bind ?_ (fun _ => ?_)
theorem psalteryref10_Gain.mono : ∀ a0 k, LeO (psalteryref10_Gain.f k a0) (psalteryref10_Gain.f (k + 1) a0) := by
  intro a0 k
  have ih0 := psalteryref10_Gain.mono_l k
  unfold psalteryref10_Gain.f
  with_reducible repeat' first
   | exact ih0 _ _
   | exact psalteryref07_Square.mono _ _
   | exact LeO.refl _
   | exact LeO.none _
   | refine LeO.ite ?_ ?_
   | refine LeO.bind ?_ (fun _ => ?_)
set_option maxHeartbeats 8000000 in
set_option maxRecDepth 100000 in
theorem psalteryref10_Gain.calls (k : Nat) (A0 : Option Addr) (c0 : Nat) (l0 : List Int) (r : Int) (w : World) (hr0 : Kd.C (Kd.int .i64) w A0 l0.length l0) (hc0 : l0.length ≤ c0) (h : psalteryref10_Gain.f k l0 = some r) :
    Calls Try.prog 91 #[.slice A0 l0.length c0] w fun e w' => e = .returned (.int .i64 r) ∧ Drawn0 w w' := by
 have HR0 := Aside0.mk hr0
 have HC0 := Aside0.mk hc0
 clear hr0 hc0
 have H : ((psalteryref07_Square.f k l0).bind fun t773 => (psalteryref10_Gain.l0 k t773 0)) = some r := h
 clear h
 obtain ⟨t773, A2, H⟩ := ob_ H
 (try dsimp only at H)
 have H' := Aside0.mk H
 clear H
 go_enter Try.func91, Try.ntmps91
 go_wp2_with (first | ((with_reducible refine gate_callee (f := 108) rfl ?_); refine gL_ (some 6) Try.func108 #[.slice A0 l0.length c0] ?_; (with_reducible refine (psalteryref07_Square.calls k _ _ l0 t773 _ ?side1 ?side2 A2.out).mono ?_); (case side1 => repeat (first | exact HR0.out | (with_reducible refine Kd.C_alloc ?_ _) | (with_reducible refine Kd.C_drewN ?_ _) | (with_reducible refine Kd.C_drew ?_))); (case side2 => exact HC0.out); rintro e w' ⟨rfl, ⟨nd, rfl⟩⟩; refine ⟨_, rfl, ?_⟩))
 go_loopg [3, 4] k (fun kq v3 v4 w' => ∃ (x3_1 : Int) (x4_1 : Int), v3 = .int .u64 x3_1 ∧ v4 = .int .i64 x4_1 ∧ Aside0 (psalteryref10_Gain.l0 kq x3_1 x4_1 = some r) ∧ Aside0 (kq ≤ k) ∧ Drawn0 w w')
 case atStart => exact ⟨(t773), (0), rs_, rs_, H', ⟨Nat.le_refl _⟩, by repeat (first | exact Drawn0.refl _ | apply Drawn0.step)⟩
 case round => (
 clear H'
 obtain ⟨x3_1, x4_1, rfl, rfl, HA, HK1, ⟨m1, rfl⟩⟩ := hrel
 cases gk with
 | zero => exact absurd HA.out (by simp [psalteryref10_Gain.l0])
 | succ k1 => (
 have H := HA.out
 clear HA
 simp only [psalteryref10_Gain.l0] at H
 by_cases c3 : x3_1 > 0
 {
 rw [if_pos c3] at H
 have c3b0 : decide (0 < x3_1) = true := decide_eq_true c3
 clear c3
 have H' := Aside0.mk H
 clear H
 go_wp2
 go_roundg k1
 case measure => have := HK1.out; omega
 case rel => exact ⟨(IntKind.u64.wrap (Int.tdiv x3_1 2)), (wrap64 (x4_1 + 1)), rs_, rs_, H', ⟨by have := HK1.out; omega⟩, by repeat (first | exact Drawn0.refl _ | apply Drawn0.step)⟩}
 {
 rw [if_neg c3] at H
 have c3b0 : decide (0 < x3_1) = false := decide_eq_false c3
 clear c3
 obtain rfl := Option.some.inj H
 go_wp2
 go_ret
 exact ⟨by first | rfl | (simp; done) | (simp [*]; done), by repeat (first | exact Drawn0.refl _ | apply Drawn0.step)⟩}))
def psalteryref10_Width.j0 : Nat → Int → Bool → Option (Int)
  | 0, _, _ => none
  | k + 1, x3, x4 => if x4 = true then (some 1) else (if x3 = 2 then (some 2) else (if x3 = 3 then (some 4) else (if x3 = 4 then (some 8) else (some 0))))
def psalteryref10_Width.f (k : Nat) (a0 : Int) : Option (Int) := if a0 = 0 then (psalteryref10_Width.j0 k a0 (a0 == 0)) else (psalteryref10_Width.j0 k a0 (a0 == 1))
theorem psalteryref10_Width.mono_l : ∀ k, (∀ y0 y1, LeO (psalteryref10_Width.j0 k y0 y1) (psalteryref10_Width.j0 (k + 1) y0 y1))
  | 0 => fun _ _ r h => by simp [psalteryref10_Width.j0] at h
  | k + 1 => by
    have ih0 := psalteryref10_Width.mono_l k
    · intro y0 y1
      unfold psalteryref10_Width.j0
      with_reducible repeat' first
   | exact ih0 _ _
   | exact LeO.refl _
   | exact LeO.none _
   | refine LeO.ite ?_ ?_
   | refine LeO.bind ?_ (fun _ => ?_)
theorem psalteryref10_Width.mono : ∀ a0 k, LeO (psalteryref10_Width.f k a0) (psalteryref10_Width.f (k + 1) a0) := by
  intro a0 k
  have ih0 := psalteryref10_Width.mono_l k
  unfold psalteryref10_Width.f
  with_reducible repeat' first
   | exact ih0 _ _
   | exact LeO.refl _
   | exact LeO.none _
   | refine LeO.ite ?_ ?_
   | refine LeO.bind ?_ (fun _ => ?_)
set_option maxHeartbeats 8000000 in
set_option maxRecDepth 100000 in
theorem psalteryref10_Width.calls (k : Nat) (a0 : Int) (r : Int) (w : World) (h : psalteryref10_Width.f k a0 = some r) :
    Calls Try.prog 109 #[.int .i64 a0] w fun e w' => e = .returned (.int .i64 r) ∧ Drawn0 w w' := by
 have H : (if a0 = 0 then (psalteryref10_Width.j0 k a0 (a0 == 0)) else (psalteryref10_Width.j0 k a0 (a0 == 1))) = some r := h
 clear h
 have HC2 := Aside0.mk H
 clear H
 go_enter Try.func109, Try.ntmps109
 go_upto_if 4 with (fail)
 go_cut [4] (fun v4 wc => ∃ (kq : Nat) (x4_1 : Bool), v4 = .bool x4_1 ∧ Aside0 (psalteryref10_Width.j0 kq a0 x4_1 = some r) ∧ Aside0 (kq ≤ k) ∧ Drawn0 w wc)
 case first => (
 have H := HC2.out
 clear HC2
 by_cases c3 : a0 = 0
 {
 rw [if_pos c3] at H
 have c3b0 : (a0 == 0) = true := beq_iff_eq.mpr c3
 have c3b1 : (a0 != 0) = false := bne_eq_false_iff_eq.mpr c3
 clear c3
 (first | rw [c3b0] | (simp only [i64_w, i32_w]; rw [c3b0]) | skip)
 have H' := Aside0.mk H
 clear H
 go_wp2
 go_meet
 case rel => exact ⟨_, ((a0 == 0)), rs_, H', ⟨ol_⟩, by repeat (first | exact Drawn0.refl _ | apply Drawn0.step)⟩}
 {
 rw [if_neg c3] at H
 have c3b0 : (a0 == 0) = false := beq_eq_false_iff_ne.mpr c3
 have c3b1 : (a0 != 0) = true := bne_iff_ne.mpr c3
 (first | rw [c3b0] | (simp only [i64_w, i32_w]; rw [c3b0]) | skip)
 have H' := Aside0.mk H
 clear H
 go_wp2
 go_meet
 case rel => exact ⟨_, ((a0 == 1)), rs_, H', ⟨ol_⟩, by repeat (first | exact Drawn0.refl _ | apply Drawn0.step)⟩})
 case rest => (
 clear HC2
 obtain ⟨kq, x4_1, rfl, HA, HJ1, ⟨mc1, rfl⟩⟩ := hcut
 cases kq with
 | zero => exact absurd HA.out (by simp [psalteryref10_Width.j0])
 | succ kj1 => (
 have H := HA.out
 clear HA
 simp only [psalteryref10_Width.j0] at H
 by_cases c4 : x4_1 = true
 {
 subst c4
 rw [if_pos rfl] at H
 obtain rfl := Option.some.inj H
 go_wp2
 go_ret
 exact ⟨by first | rfl | (simp; done) | (simp [*]; done), by repeat (first | exact Drawn0.refl _ | apply Drawn0.step)⟩}
 {
 replace c4 := Bool.eq_false_iff.mpr c4
 subst c4
 rw [if_neg (show ¬ (false = true) by decide)] at H
 by_cases c5 : a0 = 2
 {
 rw [if_pos c5] at H
 have c5b0 : (a0 == 2) = true := beq_iff_eq.mpr c5
 have c5b1 : (a0 != 2) = false := bne_eq_false_iff_eq.mpr c5
 clear c5
 obtain rfl := Option.some.inj H
 go_wp2
 go_ret
 exact ⟨by first | rfl | (simp; done) | (simp [*]; done), by repeat (first | exact Drawn0.refl _ | apply Drawn0.step)⟩}
 {
 rw [if_neg c5] at H
 have c5b0 : (a0 == 2) = false := beq_eq_false_iff_ne.mpr c5
 have c5b1 : (a0 != 2) = true := bne_iff_ne.mpr c5
 by_cases c6 : a0 = 3
 {
 rw [if_pos c6] at H
 have c6b0 : (a0 == 3) = true := beq_iff_eq.mpr c6
 have c6b1 : (a0 != 3) = false := bne_eq_false_iff_eq.mpr c6
 clear c6
 obtain rfl := Option.some.inj H
 go_wp2
 go_ret
 exact ⟨by first | rfl | (simp; done) | (simp [*]; done), by repeat (first | exact Drawn0.refl _ | apply Drawn0.step)⟩}
 {
 rw [if_neg c6] at H
 have c6b0 : (a0 == 3) = false := beq_eq_false_iff_ne.mpr c6
 have c6b1 : (a0 != 3) = true := bne_iff_ne.mpr c6
 by_cases c7 : a0 = 4
 {
 rw [if_pos c7] at H
 have c7b0 : (a0 == 4) = true := beq_iff_eq.mpr c7
 have c7b1 : (a0 != 4) = false := bne_eq_false_iff_eq.mpr c7
 clear c7
 obtain rfl := Option.some.inj H
 go_wp2
 go_ret
 exact ⟨by first | rfl | (simp; done) | (simp [*]; done), by repeat (first | exact Drawn0.refl _ | apply Drawn0.step)⟩}
 {
 rw [if_neg c7] at H
 have c7b0 : (a0 == 4) = false := beq_eq_false_iff_ne.mpr c7
 have c7b1 : (a0 != 4) = true := bne_iff_ne.mpr c7
 obtain rfl := Option.some.inj H
 go_wp2
 go_ret
 exact ⟨by first | rfl | (simp; done) | (simp [*]; done), by repeat (first | exact Drawn0.refl _ | apply Drawn0.step)⟩}}}}))
def psalteryref10_From.f (a0 : Int) : Option (Int) := if a0 = 1 then (some 1) else (if a0 = 2 then (some 2) else (if a0 = 3 then (some 4) else (if a0 = 4 then (some 8) else (some 0))))
set_option maxHeartbeats 8000000 in
set_option maxRecDepth 100000 in
theorem psalteryref10_From.calls (a0 : Int) (r : Int) (w : World) (h : psalteryref10_From.f a0 = some r) :
    Calls Try.prog 110 #[.int .i64 a0] w fun e w' => e = .returned (.int .i64 r) ∧ Drawn0 w w' := by
 have H : (if a0 = 1 then (some 1) else (if a0 = 2 then (some 2) else (if a0 = 3 then (some 4) else (if a0 = 4 then (some 8) else (some 0))))) = some r := h
 clear h
 by_cases c2 : a0 = 1
 {
 rw [if_pos c2] at H
 have c2b0 : (a0 == 1) = true := beq_iff_eq.mpr c2
 have c2b1 : (a0 != 1) = false := bne_eq_false_iff_eq.mpr c2
 clear c2
 obtain rfl := Option.some.inj H
 go_enter Try.func110, Try.ntmps110
 go_wp2
 go_ret
 exact ⟨by first | rfl | (simp; done) | (simp [*]; done), by repeat (first | exact Drawn0.refl _ | apply Drawn0.step)⟩}
 {
 rw [if_neg c2] at H
 have c2b0 : (a0 == 1) = false := beq_eq_false_iff_ne.mpr c2
 have c2b1 : (a0 != 1) = true := bne_iff_ne.mpr c2
 by_cases c3 : a0 = 2
 {
 rw [if_pos c3] at H
 have c3b0 : (a0 == 2) = true := beq_iff_eq.mpr c3
 have c3b1 : (a0 != 2) = false := bne_eq_false_iff_eq.mpr c3
 clear c3
 obtain rfl := Option.some.inj H
 go_enter Try.func110, Try.ntmps110
 go_wp2
 go_ret
 exact ⟨by first | rfl | (simp; done) | (simp [*]; done), by repeat (first | exact Drawn0.refl _ | apply Drawn0.step)⟩}
 {
 rw [if_neg c3] at H
 have c3b0 : (a0 == 2) = false := beq_eq_false_iff_ne.mpr c3
 have c3b1 : (a0 != 2) = true := bne_iff_ne.mpr c3
 by_cases c4 : a0 = 3
 {
 rw [if_pos c4] at H
 have c4b0 : (a0 == 3) = true := beq_iff_eq.mpr c4
 have c4b1 : (a0 != 3) = false := bne_eq_false_iff_eq.mpr c4
 clear c4
 obtain rfl := Option.some.inj H
 go_enter Try.func110, Try.ntmps110
 go_wp2
 go_ret
 exact ⟨by first | rfl | (simp; done) | (simp [*]; done), by repeat (first | exact Drawn0.refl _ | apply Drawn0.step)⟩}
 {
 rw [if_neg c4] at H
 have c4b0 : (a0 == 3) = false := beq_eq_false_iff_ne.mpr c4
 have c4b1 : (a0 != 3) = true := bne_iff_ne.mpr c4
 by_cases c5 : a0 = 4
 {
 rw [if_pos c5] at H
 have c5b0 : (a0 == 4) = true := beq_iff_eq.mpr c5
 have c5b1 : (a0 != 4) = false := bne_eq_false_iff_eq.mpr c5
 clear c5
 obtain rfl := Option.some.inj H
 go_enter Try.func110, Try.ntmps110
 go_wp2
 go_ret
 exact ⟨by first | rfl | (simp; done) | (simp [*]; done), by repeat (first | exact Drawn0.refl _ | apply Drawn0.step)⟩}
 {
 rw [if_neg c5] at H
 have c5b0 : (a0 == 4) = false := beq_eq_false_iff_ne.mpr c5
 have c5b1 : (a0 != 4) = true := bne_iff_ne.mpr c5
 obtain rfl := Option.some.inj H
 go_enter Try.func110, Try.ntmps110
 go_wp2
 go_ret
 exact ⟨by first | rfl | (simp; done) | (simp [*]; done), by repeat (first | exact Drawn0.refl _ | apply Drawn0.step)⟩}}}}
def psalteryref10_Band.l0 : Nat → List Int → Int → List Int → Int → Option (List Int)
  | 0, _, _, _, _ => none
  | k + 1, x0, x1, x5, x6 => (psalteryref10_Width.f k x1).bind fun t774 => (if x6 < t774 then ((psalteryref10_From.f x1).bind fun t775 => (if 0 ≤ (wrap64 (t775 + x6)) then (if (wrap64 (t775 + x6)) < (x0.length : Int) then (if x5.length < 17592186044416 then (psalteryref10_Band.l0 k x0 x1 (x5 ++ [rd x0 (wrap64 (t775 + x6))]) (wrap64 (x6 + 1))) else (none)) else (none)) else (none))) else (some x5))
def psalteryref10_Band.f (k : Nat) (l0 : List Int) (a1 : Int) : Option (List Int) := psalteryref10_Band.l0 k l0 a1 ([] : List Int) 0
theorem psalteryref10_Band.mono_l : ∀ k, (∀ y0 y1 y2 y3, LeO (psalteryref10_Band.l0 k y0 y1 y2 y3) (psalteryref10_Band.l0 (k + 1) y0 y1 y2 y3))
  | 0 => fun _ _ _ _ r h => by simp [psalteryref10_Band.l0] at h
  | k + 1 => by
    have ih0 := psalteryref10_Band.mono_l k
    · intro y0 y1 y2 y3
      unfold psalteryref10_Band.l0
      with_reducible repeat' first
   | exact ih0 _ _ _ _
   | exact psalteryref10_Width.mono _ _
   | exact LeO.refl _
   | exact LeO.none _
   | refine LeO.ite ?_ ?_
   | refine LeO.bind ?_ (fun _ => ?_)
theorem psalteryref10_Band.mono : ∀ a0 a1 k, LeO (psalteryref10_Band.f k a0 a1) (psalteryref10_Band.f (k + 1) a0 a1) := by
  intro a0 a1 k
  have ih0 := psalteryref10_Band.mono_l k
  unfold psalteryref10_Band.f
  with_reducible repeat' first
   | exact ih0 _ _ _ _
   | exact psalteryref10_Width.mono _ _
   | exact LeO.refl _
   | exact LeO.none _
   | refine LeO.ite ?_ ?_
   | refine LeO.bind ?_ (fun _ => ?_)
set_option maxHeartbeats 8000000 in
set_option maxRecDepth 100000 in
theorem psalteryref10_Band.calls (k : Nat) (A0 : Option Addr) (c0 : Nat) (l0 : List Int) (a1 : Int) (r : List Int) (w : World) (hr0 : Kd.C (Kd.int .i64) w A0 l0.length l0) (hc0 : l0.length ≤ c0) (h : psalteryref10_Band.f k l0 a1 = some r) :
    Calls Try.prog 92 #[.slice A0 l0.length c0, .int .i64 a1] w fun e w' => ∃ v0_ : Value, e = .returned (v0_) ∧ Kd.R (Kd.int .i64) 2 w' w.heap.size (fun _ => True) v0_ r ∧ Below w.heap.size w w' := by
 have HR0 := Aside0.mk hr0
 have HC0 := Aside0.mk hc0
 clear hr0 hc0
 have HB := Aside0.mk (Below.refl w.heap.size w)
 have H : (psalteryref10_Band.l0 k l0 a1 ([] : List Int) 0) = some r := h
 clear h
 have H' := Aside0.mk H
 clear H
 go_enter Try.func92, Try.ntmps92
 go_wp2
 go_loopg [5, 6] k (fun kq v5 v6 w' => ∃ (x5_1 : List Int) (x6_1 : Int), v6 = .int .i64 x6_1 ∧ Aside0 (psalteryref10_Band.l0 kq l0 a1 x5_1 x6_1 = some r) ∧ Aside0 (kq ≤ k) ∧ Aside0 (Kd.R (Kd.int .i64) 2 w' w.heap.size (fun _ => True) v5 x5_1) ∧ Aside0 (Below w.heap.size w w'))
 case atStart => exact ⟨(([] : List Int)), (0), rs_, H', ⟨Nat.le_refl _⟩, ⟨by first | exact Kd.R_nil _ _ _ _ _ | exact Kd.N_nil _ _ _ _ _ | exact Kd.V_nil _ _ _ _ _ | exact Kd.Q_nil _ _ _ _ _ | exact Kd.S_nil _ _ _ _ _⟩, ⟨bl_ HB⟩⟩
 case round => (
 clear H'
 obtain ⟨x5_1, x6_1, rfl, HA, HK1, HO_5, HB⟩ := hrel
 cases gk with
 | zero => exact absurd HA.out (by simp [psalteryref10_Band.l0])
 | succ k1 => (
 have H := HA.out
 clear HA
 simp only [psalteryref10_Band.l0] at H
 obtain ⟨t774, A3, H⟩ := ob_ H
 (try dsimp only at H)
 by_cases c4 : x6_1 < t774
 {
 rw [if_pos c4] at H
 have c4b0 : decide (x6_1 < t774) = true := decide_eq_true c4
 clear c4
 obtain ⟨t775, A5, H⟩ := ob_ H
 (try dsimp only at H)
 obtain ⟨ji6, hji6⟩ : ∃ j_ : Int, (wrap64 (t775 + x6_1)) = j_ := ⟨_, rfl⟩
 replace H : (if 0 ≤ (ji6) then (if (ji6) < (l0.length : Int) then (if x5_1.length < 17592186044416 then (psalteryref10_Band.l0 k1 l0 a1 (x5_1 ++ [rd l0 (ji6)]) (wrap64 (x6_1 + 1))) else (none)) else (none)) else (none)) = some r := by first | (rw [hji6] at H; exact H) | (simp only [hji6] at H ⊢; exact H)
 (try rw [hji6] at A3)
 (try rw [hji6] at A5)
 have hji6w : (IntKind.i64.wrap (t775 + x6_1)) = ji6 := (i64_w _).trans hji6
 by_cases c7 : 0 ≤ (ji6)
 {
 rw [if_pos c7] at H
 have c7b0 : decide (0 ≤ (ji6)) = true := decide_eq_true c7
 clear c7
 by_cases c8 : (ji6) < (l0.length : Int)
 {
 rw [if_pos c8] at H
 have c8b0 : decide ((ji6) < (l0.length : Int)) = true := decide_eq_true c8
 clear c8
 by_cases c9 : x5_1.length < 17592186044416
 {
 rw [if_pos c9] at H
 have LMc9 := Aside0.mk c9
 clear c9
 obtain ⟨y777, hy777⟩ : ∃ y_ : List Int, y_ = (x5_1 ++ [rd l0 (ji6)]) := ⟨_, rfl⟩
 replace H : (psalteryref10_Band.l0 k1 l0 a1 y777 (wrap64 (x6_1 + 1))) = some r := by first | (rw [hy777]; with_reducible exact H) | (have H2_ := (Option.bind_some _ _).symm.trans H; rw [hy777]; with_reducible exact H2_) | (have H2_ := (Option.bind_some _ _).symm.trans H; with_reducible exact H2_) | with_reducible exact H | (rw [hy777]; exact H) | exact H
 have Ny777 := Aside0.mk hy777
 clear hy777
 have H' := Aside0.mk H
 clear H
 go_wp2_with (first | ((with_reducible refine gate_callee (f := 109) rfl ?_); refine gL_ (some 9) Try.func109 #[.int .i64 a1] ?_; (with_reducible refine (psalteryref10_Width.calls k1 a1 t774 _ A3.out).mono ?_); rintro e w' ⟨rfl, ⟨nd, rfl⟩⟩; refine ⟨_, rfl, ?_⟩) | ((with_reducible refine gate_callee (f := 110) rfl ?_); refine gL_ (some 16) Try.func110 #[.int .i64 a1] ?_; (with_reducible refine (psalteryref10_From.calls a1 t775 _ A5.out).mono ?_); rintro e w' ⟨rfl, ⟨nd, rfl⟩⟩; refine ⟨_, rfl, ?_⟩; have p776 : 0 ≤ ((ji6) : Int) := of_decide_eq_true am_; have q776 : (ji6) < (l0.length : Int) := of_decide_eq_true am_; obtain ⟨ad776, e776, hx776_0⟩ := Kd.at_int HR0.out (ji6) p776 q776; cases e776; replace hx776_0 := (HB.out.cell (World.block_lt_of_cell? w _ hx776_0)).trans hx776_0; replace p776 := eq_true p776; replace q776 := eq_true q776) | ((with_reducible refine gate_builtin (b := .append) (xs := #[.tmp 13, .tmp 21]) rfl ?_); at_builtin; refine Kd.R_append (Kd.int .i64) (w0 := w) w.heap.size rfl (.tmp 13) (.tmp 21) 53 2 (.int .i64 0) 8 rfl Try.underlying53 info2 rfl (by decide) (by omega) u5 x5_1 (rd l0 (ji6)) [.int .i64 (rd l0 (ji6))] (fun _ => True) (fun _ => False) rfl rfl ?aP (fun _ hk => hk.elim) ?aF ?aO ?aB ?aS ?aL ?_; (case aP => exact rfl); (case aB => exact (bl_ HB)); (case aF => exact (fun _ _ => trivial)); (case aO => exact (kR_ HO_5)); (case aS => exact (bs_ HB)); (case aL => have := LMc9.out; omega); intro v778 w10 ho hb hg hat; rw [← Ny777.out] at ho; replace HB := Aside0.mk (hb); have HO779 := Aside0.mk (ho); clear HO_5; clear ho hb hg hat))
 first | go_roundg k1 | (subst hji6; go_roundg k1)
 case measure => have := HK1.out; omega
 case rel => exact ⟨(y777), (wrap64 (x6_1 + 1)), rs_, H', ⟨by have := HK1.out; omega⟩, ⟨kR_ HO779⟩, ⟨bl_ HB⟩⟩}
 {
 rw [if_neg c9] at H
 exact absurd H (by simp)}}
 {
 rw [if_neg c8] at H
 exact absurd H (by simp)}}
 {
 rw [if_neg c7] at H
 exact absurd H (by simp)}}
 {
 rw [if_neg c4] at H
 have c4b0 : decide (x6_1 < t774) = false := decide_eq_false c4
 clear c4
 obtain rfl := Option.some.inj H
 go_wp2_with (first | ((with_reducible refine gate_callee (f := 109) rfl ?_); refine gL_ (some 9) Try.func109 #[.int .i64 a1] ?_; (with_reducible refine (psalteryref10_Width.calls k1 a1 t774 _ A3.out).mono ?_); rintro e w' ⟨rfl, ⟨nd, rfl⟩⟩; refine ⟨_, rfl, ?_⟩))
 go_ret
 exact ⟨_, by first | rfl | (simp [errW_none, errW_some] <;> rfl) | (simp [*, errW_none, errW_some] <;> rfl), by (with_reducible repeat (first | apply Kd.R_alloc | apply Kd.R_drewN | apply Kd.R_drew)); exact HO_5.out, bl_ HB⟩}))
def psalteryref10_Gains.l0 : Nat → List Int → List Int → Int → Option (List Int)
  | 0, _, _, _ => none
  | k + 1, x0, x3, x4 => if x4 < 5 then ((psalteryref10_Band.f k x0 x4).bind fun t780 => ((psalteryref10_Gain.f k t780).bind fun t783 => (if x3.length < 17592186044416 then (psalteryref10_Gains.l0 k x0 (x3 ++ [t783]) (wrap64 (x4 + 1))) else (none)))) else (some x3)
def psalteryref10_Gains.f (k : Nat) (l0 : List Int) : Option (List Int) := psalteryref10_Gains.l0 k l0 ([] : List Int) 0
theorem psalteryref10_Gains.mono_l : ∀ k, (∀ y0 y1 y2, LeO (psalteryref10_Gains.l0 k y0 y1 y2) (psalteryref10_Gains.l0 (k + 1) y0 y1 y2))
  | 0 => fun _ _ _ r h => by simp [psalteryref10_Gains.l0] at h
  | k + 1 => by
    have ih0 := psalteryref10_Gains.mono_l k
    · intro y0 y1 y2
      unfold psalteryref10_Gains.l0
      with_reducible repeat' first
   | exact ih0 _ _ _
   | exact psalteryref10_Band.mono _ _ _
   | exact psalteryref10_Gain.mono _ _
   | exact LeO.refl _
   | exact LeO.none _
   | refine LeO.ite ?_ ?_
   | refine LeO.bind ?_ (fun _ => ?_)
theorem psalteryref10_Gains.mono : ∀ a0 k, LeO (psalteryref10_Gains.f k a0) (psalteryref10_Gains.f (k + 1) a0) := by
  intro a0 k
  have ih0 := psalteryref10_Gains.mono_l k
  unfold psalteryref10_Gains.f
  with_reducible repeat' first
   | exact ih0 _ _ _
   | exact psalteryref10_Band.mono _ _ _
   | exact psalteryref10_Gain.mono _ _
   | exact LeO.refl _
   | exact LeO.none _
   | refine LeO.ite ?_ ?_
   | refine LeO.bind ?_ (fun _ => ?_)
set_option maxHeartbeats 8000000 in
set_option maxRecDepth 100000 in
theorem psalteryref10_Gains.calls (k : Nat) (A0 : Option Addr) (c0 : Nat) (l0 : List Int) (r : List Int) (w : World) (hr0 : Kd.C (Kd.int .i64) w A0 l0.length l0) (hc0 : l0.length ≤ c0) (h : psalteryref10_Gains.f k l0 = some r) :
    Calls Try.prog 63 #[.slice A0 l0.length c0] w fun e w' => ∃ v0_ : Value, e = .returned (v0_) ∧ Kd.R (Kd.int .i64) 3 w' w.heap.size (fun _ => True) v0_ r ∧ Below w.heap.size w w' := by
 have HR0 := Aside0.mk hr0
 have HC0 := Aside0.mk hc0
 clear hr0 hc0
 have HB := Aside0.mk (Below.refl w.heap.size w)
 have H : (psalteryref10_Gains.l0 k l0 ([] : List Int) 0) = some r := h
 clear h
 have H' := Aside0.mk H
 clear H
 go_enter Try.func63, Try.ntmps63
 go_wp2
 go_loopg [3, 4] k (fun kq v3 v4 w' => ∃ (x3_1 : List Int) (x4_1 : Int), v4 = .int .i64 x4_1 ∧ Aside0 (psalteryref10_Gains.l0 kq l0 x3_1 x4_1 = some r) ∧ Aside0 (kq ≤ k) ∧ Aside0 (Kd.R (Kd.int .i64) 3 w' w.heap.size (fun _ => True) v3 x3_1) ∧ Aside0 (Below w.heap.size w w'))
 case atStart => exact ⟨(([] : List Int)), (0), rs_, H', ⟨Nat.le_refl _⟩, ⟨by first | exact Kd.R_nil _ _ _ _ _ | exact Kd.N_nil _ _ _ _ _ | exact Kd.V_nil _ _ _ _ _ | exact Kd.Q_nil _ _ _ _ _ | exact Kd.S_nil _ _ _ _ _⟩, ⟨bl_ HB⟩⟩
 case round => (
 clear H'
 obtain ⟨x3_1, x4_1, rfl, HA, HK1, HO_3, HB⟩ := hrel
 cases gk with
 | zero => exact absurd HA.out (by simp [psalteryref10_Gains.l0])
 | succ k1 => (
 have H := HA.out
 clear HA
 simp only [psalteryref10_Gains.l0] at H
 by_cases c2 : x4_1 < 5
 {
 rw [if_pos c2] at H
 have c2b0 : decide (x4_1 < 5) = true := decide_eq_true c2
 clear c2
 obtain ⟨t780, A3, H⟩ := ob_ H
 (try dsimp only at H)
 obtain ⟨t783, A4, H⟩ := ob_ H
 (try dsimp only at H)
 by_cases c5 : x3_1.length < 17592186044416
 {
 rw [if_pos c5] at H
 have LMc5 := Aside0.mk c5
 clear c5
 obtain ⟨y784, hy784⟩ : ∃ y_ : List Int, y_ = (x3_1 ++ [t783]) := ⟨_, rfl⟩
 replace H : (psalteryref10_Gains.l0 k1 l0 y784 (wrap64 (x4_1 + 1))) = some r := by first | (rw [hy784]; with_reducible exact H) | (have H2_ := (Option.bind_some _ _).symm.trans H; rw [hy784]; with_reducible exact H2_) | (have H2_ := (Option.bind_some _ _).symm.trans H; with_reducible exact H2_) | with_reducible exact H | (rw [hy784]; exact H) | exact H
 have Ny784 := Aside0.mk hy784
 clear hy784
 have H' := Aside0.mk H
 clear H
 go_wp2_with (first | ((with_reducible refine gate_callee (f := 92) rfl ?_); refine gL_ (some 12) Try.func92 #[.slice A0 l0.length c0, .int .i64 x4_1] ?_; (with_reducible refine (psalteryref10_Band.calls k1 _ _ l0 x4_1 t780 _ ?side1 ?side2 A3.out).mono ?_); (case side1 => exact kC_ HR0 HB); (case side2 => exact HC0.out); rintro e w6 ⟨v781, rfl, ho0, hb⟩; refine ⟨_, rfl, ?_⟩; replace HO_3 := FR_ HO_3 hb; have HO782 := Aside0.mk (Kd.R_lower ho0 (bs_ HB)); replace HB := BS_ HB hb; (try clear hb); (try clear hk); (try clear ho0); obtain ⟨Ao7, co7, eo7⟩ := Kd.R_slice HO782.out; subst eo7) | ((with_reducible refine gate_callee (f := 91) rfl ?_); refine gL_ (some 13) Try.func91 #[.slice Ao7 t780.length co7] ?_; (with_reducible refine (psalteryref10_Gain.calls k1 _ _ t780 t783 _ ?side1 ?side2 A4.out).mono ?_); (case side1 => exact kCt_ (Kd.R_reads' HO782.out).2.2); (case side2 => exact (Kd.R_reads' HO782.out).2.1); rintro e w' ⟨rfl, ⟨nd, rfl⟩⟩; refine ⟨_, rfl, ?_⟩) | ((with_reducible refine gate_builtin (b := .append) (xs := #[.tmp 9, .tmp 14]) rfl ?_); at_builtin; refine Kd.R_append (Kd.int .i64) (w0 := w) w.heap.size rfl (.tmp 9) (.tmp 14) 22 3 (.int .i64 0) 8 rfl Try.underlying22 info3 rfl (by decide) (by omega) u3 x3_1 t783 [.int .i64 t783] (fun _ => True) (fun _ => False) rfl rfl ?aP (fun _ hk => hk.elim) ?aF ?aO ?aB ?aS ?aL ?_; (case aP => exact rfl); (case aB => exact (bl_ HB)); (case aF => exact (fun _ _ => trivial)); (case aO => exact (kR_ HO_3)); (case aS => exact (bs_ HB)); (case aL => have := LMc5.out; omega); intro v785 w8 ho hb hg hat; rw [← Ny784.out] at ho; replace HO782 := Aside0.mk (Kd.R_over' (kR_ HO782) (Kd.R_typed (kR_ HO_3)) (by decide) hg); replace HB := Aside0.mk (hb); have HO786 := Aside0.mk (ho); clear HO_3; clear ho hb hg hat))
 go_roundg k1
 case measure => have := HK1.out; omega
 case rel => exact ⟨(y784), (wrap64 (x4_1 + 1)), rs_, H', ⟨by have := HK1.out; omega⟩, ⟨kR_ HO786⟩, ⟨bl_ HB⟩⟩}
 {
 rw [if_neg c5] at H
 exact absurd H (by simp)}}
 {
 rw [if_neg c2] at H
 have c2b0 : decide (x4_1 < 5) = false := decide_eq_false c2
 clear c2
 obtain rfl := Option.some.inj H
 go_wp2
 go_ret
 exact ⟨_, by first | rfl | (simp [errW_none, errW_some] <;> rfl) | (simp [*, errW_none, errW_some] <;> rfl), by (with_reducible repeat (first | apply Kd.R_alloc | apply Kd.R_drewN | apply Kd.R_drew)); exact HO_3.out, bl_ HB⟩}))
def psalteryref22_Posts.l0 : Nat → List Int → List Int → Int → Int → Int → List Int → List Int → Option (List Int)
  | 0, _, _, _, _, _, _, _ => none
  | k + 1, x1, x5, x6, x788000, x788001, x788002, x788003 => if x6 < 6 then ((psalteryref10_Gains.f k x1).bind fun t788 => ((psalteryref14_Fit.f k t788 x788001 x6).bind fun t791 => ((psalteryref22_Settled.f k x788002 t791).bind fun t792 => (if x5.length < 17592186044416 then (psalteryref22_Posts.l0 k x1 (x5 ++ [t792]) (wrap64 (x6 + 1)) x788000 x788001 x788002 x788003) else (none))))) else (some x5)
def psalteryref22_Posts.f (k : Nat) (a0_0 : Int) (a0_1 : Int) (l0_2 : List Int) (l0_3 : List Int) (l1 : List Int) : Option (List Int) := psalteryref22_Posts.l0 k l1 ([] : List Int) 0 a0_0 a0_1 l0_2 l0_3
theorem psalteryref22_Posts.mono_l : ∀ k, (∀ y0 y1 y2 y3 y4 y5 y6, LeO (psalteryref22_Posts.l0 k y0 y1 y2 y3 y4 y5 y6) (psalteryref22_Posts.l0 (k + 1) y0 y1 y2 y3 y4 y5 y6))
  | 0 => fun _ _ _ _ _ _ _ r h => by simp [psalteryref22_Posts.l0] at h
  | k + 1 => by
    have ih0 := psalteryref22_Posts.mono_l k
    · intro y0 y1 y2 y3 y4 y5 y6
      unfold psalteryref22_Posts.l0
      with_reducible repeat' first
   | exact ih0 _ _ _ _ _ _ _
   | exact psalteryref10_Gains.mono _ _
   | exact psalteryref14_Fit.mono _ _ _ _
   | exact psalteryref22_Settled.mono _ _ _
   | exact LeO.refl _
   | exact LeO.none _
   | refine LeO.ite ?_ ?_
   | refine LeO.bind ?_ (fun _ => ?_)
theorem psalteryref22_Posts.mono : ∀ a0 a1 a2 a3 a4 k, LeO (psalteryref22_Posts.f k a0 a1 a2 a3 a4) (psalteryref22_Posts.f (k + 1) a0 a1 a2 a3 a4) := by
  intro a0 a1 a2 a3 a4 k
  have ih0 := psalteryref22_Posts.mono_l k
  unfold psalteryref22_Posts.f
  with_reducible repeat' first
   | exact ih0 _ _ _ _ _ _ _
   | exact psalteryref10_Gains.mono _ _
   | exact psalteryref14_Fit.mono _ _ _ _
   | exact psalteryref22_Settled.mono _ _ _
   | exact LeO.refl _
   | exact LeO.none _
   | refine LeO.ite ?_ ?_
   | refine LeO.bind ?_ (fun _ => ?_)
def psalteryref22_Posts.T5 : Bool × List (List Nat × List Nat) := (true, [([], []), ([], []), ([1], [1]), ([], []), ([3], [3]), ([], []), ([5], [5]), ([], []), ([4, 6, 7, 4], [4, 6, 7]), ([2, 8, 8], [2, 8]), ([9], [9]), ([0, 10, 9], [0, 10]), ([11, 11, 0, 1, 2, 3, 4, 5, 6, 7, 8, 9, 10, 11], [0, 11])])
def psalteryref22_Posts.B5 : List Nat := [0, 0, 2, 0, 8, 0, 32, 0, 248, 510, 1022, 2047, 4095]
theorem psalteryref22_Posts.tab5 : rtab .any (opsOf Try.f27 5) = psalteryref22_Posts.T5 := by kernel_rfl
theorem psalteryref22_Posts.bits5 : waitsOk psalteryref22_Posts.T5.2 psalteryref22_Posts.B5 = true := by kernel_rfl
set_option maxHeartbeats 8000000 in
set_option maxRecDepth 100000 in
theorem psalteryref22_Posts.calls (k : Nat) (a0_0 : Int) (a0_1 : Int) (A0_2 : Option Addr) (c0_2 : Nat) (l0_2 : List Int) (A0_3 : Option Addr) (c0_3 : Nat) (l0_3 : List Int) (A1 : Option Addr) (c1 : Nat) (l1 : List Int) (r : List Int) (w : World) (hr0_2 : Kd.C (Kd.int .i64) w A0_2 l0_2.length l0_2) (hc0_2 : l0_2.length ≤ c0_2) (hr0_3 : Kd.C (Kd.int .i64) w A0_3 l0_3.length l0_3) (hc0_3 : l0_3.length ≤ c0_3) (hr1 : Kd.C (Kd.int .i64) w A1 l1.length l1) (hc1 : l1.length ≤ c1) (h : psalteryref22_Posts.f k a0_0 a0_1 l0_2 l0_3 l1 = some r) :
    Calls Try.prog 27 #[.agg #[.int .i64 a0_0, .int .i64 a0_1, .slice A0_2 l0_2.length c0_2, .slice A0_3 l0_3.length c0_3], .slice A1 l1.length c1] w fun e w' => ∃ v0_ : Value, e = .returned (v0_) ∧ Kd.R (Kd.int .i64) 3 w' w.heap.size (fun _ => True) v0_ r ∧ Below w.heap.size w w' := by
 have hu31 := Try.underlying31
 have HR0_2 := Aside0.mk hr0_2
 have HC0_2 := Aside0.mk hc0_2
 clear hr0_2 hc0_2
 have HR0_3 := Aside0.mk hr0_3
 have HC0_3 := Aside0.mk hc0_3
 clear hr0_3 hc0_3
 have HR1 := Aside0.mk hr1
 have HC1 := Aside0.mk hc1
 clear hr1 hc1
 have HB := Aside0.mk (Below.refl w.heap.size w)
 have H : (psalteryref22_Posts.l0 k l1 ([] : List Int) 0 a0_0 a0_1 l0_2 l0_3) = some r := h
 clear h
 have H' := Aside0.mk H
 clear H
 go_enter Try.func27, Try.ntmps27
 go_wp2_with (first | ((with_reducible refine gate_dst (N := 2) rfl ?_); refine bx_ HB 2 #[.int .i64 a0_0, .int .i64 a0_1, .slice A0_2 l0_2.length c0_2, .slice A0_3 l0_3.length c0_3] 31 ?_; clear HB; intro gb787 hg w3 hb BK787 GE787 HB; have GW787 := GE787; clear hb hg))
 go_loopg [5, 6] k (fun kq v5 v6 w' => ∃ (x5_1 : List Int) (x6_1 : Int), v6 = .int .i64 x6_1 ∧ Aside0 (psalteryref22_Posts.l0 kq l1 x5_1 x6_1 a0_0 a0_1 l0_2 l0_3 = some r) ∧ Aside0 (kq ≤ k) ∧ Aside0 (Kd.R (Kd.int .i64) 3 w' w.heap.size (fun _ => True) v5 x5_1) ∧ Aside0 (w'.heap[gb787]? = some (.cells #[.int .i64 a0_0, .int .i64 a0_1, (.slice A0_2 l0_2.length c0_2), (.slice A0_3 l0_3.length c0_3)] 31 (0, 0))) ∧ Aside0 (Below w.heap.size w w'))
 case atStart => exact ⟨(([] : List Int)), (0), rs_, H', ⟨Nat.le_refl _⟩, ⟨by first | exact Kd.R_nil _ _ _ _ _ | exact Kd.N_nil _ _ _ _ _ | exact Kd.V_nil _ _ _ _ _ | exact Kd.Q_nil _ _ _ _ _ | exact Kd.S_nil _ _ _ _ _⟩, ⟨bk_ BK787⟩, ⟨bl_ HB⟩⟩
 case round => (
 clear H'
 obtain ⟨x5_1, x6_1, rfl, HA, HK1, HO_5, BK787, HB⟩ := hrel
 cases gk with
 | zero => exact absurd HA.out (by simp [psalteryref22_Posts.l0])
 | succ k1 => (
 have H := HA.out
 clear HA
 simp only [psalteryref22_Posts.l0] at H
 by_cases c4 : x6_1 < 6
 {
 rw [if_pos c4] at H
 have c4b0 : decide (x6_1 < 6) = true := decide_eq_true c4
 clear c4
 obtain ⟨t788, A5, H⟩ := ob_ H
 (try dsimp only at H)
 obtain ⟨t791, A6, H⟩ := ob_ H
 (try dsimp only at H)
 obtain ⟨t792, A7, H⟩ := ob_ H
 (try dsimp only at H)
 by_cases c8 : x5_1.length < 17592186044416
 {
 rw [if_pos c8] at H
 have LMc8 := Aside0.mk c8
 clear c8
 obtain ⟨y793, hy793⟩ : ∃ y_ : List Int, y_ = (x5_1 ++ [t792]) := ⟨_, rfl⟩
 replace H : (psalteryref22_Posts.l0 k1 l1 y793 (wrap64 (x6_1 + 1)) a0_0 a0_1 l0_2 l0_3) = some r := by first | (rw [hy793]; with_reducible exact H) | (have H2_ := (Option.bind_some _ _).symm.trans H; rw [hy793]; with_reducible exact H2_) | (have H2_ := (Option.bind_some _ _).symm.trans H; with_reducible exact H2_) | with_reducible exact H | (rw [hy793]; exact H) | exact H
 have Ny793 := Aside0.mk hy793
 clear hy793
 have H' := Aside0.mk H
 clear H
 try go_wp2
 replace HO_5 := Aside0.mk (Kd.R_drew HO_5.out)
 replace BK787 := Aside0.mk (blk_drew BK787.out)
 replace HB := Aside0.mk (below_drew1 HB.out)
 refine start_ (n := 13) (S := fun w' => w'.cell? ⟨gb787, 0, none⟩ = some (.int .i64 a0_0) ∧ w'.cell? ⟨gb787, 1, none⟩ = some (.int .i64 a0_1) ∧ w'.cell? ⟨gb787, 2, none⟩ = some (.slice A0_2 l0_2.length c0_2) ∧ w'.cell? ⟨gb787, 3, none⟩ = some (.slice A0_3 l0_3.length c0_3)) (ds := []) (B_ 13 0) kf_ rfl rfl ⟨ce_ BK787 0, ce_ BK787 1, ce_ BK787 2, ce_ BK787 3⟩ (fun hHeld => ?_); refine with_tabW psalteryref22_Posts.tab5 psalteryref22_Posts.bits5 (fun HT_ HW_ => ?_)
 generalize wr.drew = w9 at HO_5 BK787 HB hHeld ⊢
 refine pu_ 0 (some 11) (B_ 13 1) HT_ ?_
 refine pu_ 1 (some 12) (B_ 13 3) HT_ ?_
 refine pu_ 3 (some 14) (B_ 13 11) HT_ ?_
 refine pu_ 5 (some 16) (B_ 13 43) HT_ ?_
 refine pu_ 7 (some 18) (B_ 13 171) HT_ ?_
 refine take_ (i := 2) (N := some 13) (v := ?_) (a' := ?_) (B_ 13 175) rfl rfl (take_ofW HT_.out HW_.out kf_) (fun _ _ _ h => h) (Or.inl ⟨by rfl, ?_⟩) hHeld ?_ ?_
 rotate_left
 {
 rintro w' ⟨s0, s1, s2, s3⟩
 go_simp
 with_reducible rfl}
 rotate_left
 {
 exact sp_}
 refine take_ (i := 6) (N := some 17) (v := ?_) (a' := ?_) (B_ 13 239) rfl rfl (take_ofW HT_.out HW_.out kf_) (fun _ _ _ h => h) (Or.inl ⟨by rfl, ?_⟩) hHeld ?_ ?_
 rotate_left
 {
 rintro w' ⟨s0, s1, s2, s3⟩
 go_simp
 with_reducible rfl}
 rotate_left
 {
 exact sp_}
 refine one_ (i := 4) (N := some 15) (B_ 13 255) rfl rfl (one_of HT_.out kf_) (by decide) (fun K hK => ?_)
 refine goes_ Try.func63 kf_ rfl #[.slice A1 l1.length c1] (by rfl) rfl rfl ar_ ?_
 with_reducible refine (psalteryref10_Gains.calls k1 _ _ l1 t788 _ ?side1 ?side2 A5.out).mono ?_
 (case side1 => exact kC_ HR1 HB)
 (case side2 => exact HC1.out)
 rintro e w10 ⟨v789, rfl, ho0, hb⟩
 refine ⟨_, rfl, ?_⟩
 have HO790 := Aside0.mk (Kd.R_lower (Kd.R_new' ho0 (Kd.R_lt (kR_ HO_5))) (bs_ HB))
 replace HO_5 := Aside0.mk (Kd.R_elder' (kR_ HO_5) (Kd.R_base ho0) hb)
 replace BK787 := FB_ BK787 hb
 replace HB := BS_ HB hb
 (try clear hb)
 (try clear ho0)
 obtain ⟨Ao11, co11, eo11⟩ := Kd.R_slice HO790.out
 (first | subst eo11 | (injection eo11 with f1_ f2_ f3_; have f4_ := f1_.symm; have f5_ := f3_.symm; clear f1_ f2_ f3_; subst f4_; subst f5_))
 refine hK.out _ _ ⟨ce_ BK787 0, ce_ BK787 1, ce_ BK787 2, ce_ BK787 3⟩ (fun hHeld => ?_)
 clear hK K
 refine norm_ (a' := ?_) ?_ ?_
 rotate_left
 {
 show Act.put _ (some 15) _ = _
 exact sp_}
 refine one_ (i := 8) (N := some 19) (B_ 13 511) rfl rfl (one_of HT_.out kf_) (by decide) (fun K hK => ?_)
 refine goes_ Try.func62 kf_ rfl #[.slice Ao11 t788.length co11, .int .i64 a0_1, .int .i64 x6_1] (by rfl) rfl rfl ar_ ?_
 with_reducible refine (psalteryref14_Fit.calls k1 _ _ t788 a0_1 x6_1 t791 _ ?side1 ?side2 A6.out).mono ?_
 (case side1 => exact kCt_ (Kd.R_reads' HO790.out).2.2)
 (case side2 => exact (Kd.R_reads' HO790.out).2.1)
 rintro e w' ⟨rfl, ⟨nd, rfl⟩⟩
 refine ⟨_, rfl, ?_⟩
 refine hK.out _ _ ⟨ce_ BK787 0, ce_ BK787 1, ce_ BK787 2, ce_ BK787 3⟩ (fun hHeld => ?_)
 clear hK K
 refine norm_ (a' := ?_) ?_ ?_
 rotate_left
 {
 show Act.put _ (some 19) _ = _
 exact sp_}
 refine one_ (i := 9) (N := some 20) (B_ 13 1023) rfl rfl (one_of HT_.out kf_) (by decide) (fun K hK => ?_)
 refine goes_ Try.func61 kf_ rfl #[.slice A0_2 l0_2.length c0_2, .int .i64 t791] (by rfl) rfl rfl ar_ ?_
 with_reducible refine (psalteryref22_Settled.calls k1 _ _ l0_2 t791 t792 _ ?side1 ?side2 A7.out).mono ?_
 (case side1 => repeat (first | exact (Kd.C_below HR0_2.out (bl_ HB)) | (with_reducible refine Kd.C_alloc ?_ _) | (with_reducible refine Kd.C_drewN ?_ _) | (with_reducible refine Kd.C_drew ?_)))
 (case side2 => exact HC0_2.out)
 rintro e w' ⟨rfl, ⟨nd, rfl⟩⟩
 refine ⟨_, rfl, ?_⟩
 refine hK.out _ _ ⟨ce_ BK787 0, ce_ BK787 1, ce_ BK787 2, ce_ BK787 3⟩ (fun hHeld => ?_)
 clear hK K
 refine norm_ (a' := ?_) ?_ ?_
 rotate_left
 {
 show Act.put _ (some 20) _ = _
 exact sp_}
 refine one_ (i := 10) (N := some 21) (B_ 13 2047) rfl rfl (one_of HT_.out kf_) (by decide) (fun K hK => ?_)
 refine value_ (w1 := ?_) (v := ?_) (by rfl) rfl ?_ ?_
 rotate_left 2
 {
 go_simp
 constructor
 {
 rfl}
 {
 rfl}}
 refine hK.out _ _ ⟨(blk_cell (blk_alloc BK787.out _) 0).trans rfl, (blk_cell (blk_alloc BK787.out _) 1).trans rfl, (blk_cell (blk_alloc BK787.out _) 2).trans rfl, (blk_cell (blk_alloc BK787.out _) 3).trans rfl⟩ (fun hHeld => ?_)
 clear hK K
 refine norm_ (a' := ?_) ?_ ?_
 rotate_left
 {
 show Act.put _ (some 21) _ = _
 exact sp_}
 refine one_ (i := 11) (N := some 22) (B_ 13 4095) rfl rfl (one_of HT_.out kf_) (by decide) (fun K hK => ?_)
 refine Kd.R_append_step (Kd.int .i64) (w0 := w) w.heap.size (by rfl) (.tmp 11) (.tmp 21) 22 3 (.int .i64 0) 8 rfl Try.underlying22 info3 rfl (by decide) (by omega) u5 x5_1 t792 [.int .i64 t792] (fun k_ => some k_ ≠ (.slice Ao11 t788.length co11 : Value).ownBlock) (fun _ => False) rfl rfl ?aP (fun _ hk => hk.elim) ?aF ?aO ?aB ?aS ?aL ?_
 (case aP => exact rfl)
 (case aB => exact (bl_ HB))
 (case aF => exact (fun k_ hk => Kd.fresh' (Kd.R_lt (kR_ HO790)) k_ hk))
 (case aO => exact (by (with_reducible repeat (first | apply Kd.R_alloc | apply Kd.R_drewN | apply Kd.R_drew)); exact Kd.R_mono HO_5.out (fun _ hk => hk.2)))
 (case aS => exact (bs_ HB))
 (case aL => have := LMc8.out; omega)
 intro v794 w12 ho hb hg hat
 rw [← Ny793.out] at ho
 replace BK787 := (FG_ BK787 hg (Kd.R_ne HO_5.out BK787.out (by decide)))
 replace HO790 := Aside0.mk (Kd.R_after (ok := (fun _ => True)) (kR_ HO790) hg hat)
 replace HB := Aside0.mk (hb)
 have HO795 := Aside0.mk (ho)
 clear HO_5
 clear ho hb hg hat
 refine hK.out _ _ ⟨ce_ BK787 0, ce_ BK787 1, ce_ BK787 2, ce_ BK787 3⟩ (fun hHeld => ?_)
 clear hK K
 refine norm_ (a' := ?_) ?_ ?_
 rotate_left
 {
 show Act.put _ (some 22) _ = _
 exact sp_}
 refine pu_ 12 (some 5) (B_ 13 8191) HT_ ?_
 refine done_ (done_of HT_.out kf_) ?_
 try go_wp2
 go_roundg k1
 case measure => have := HK1.out; omega
 case rel => exact ⟨(y793), (wrap64 (x6_1 + 1)), rs_, H', ⟨by have := HK1.out; omega⟩, ⟨by (with_reducible repeat (first | apply Kd.R_alloc | apply Kd.R_drewN | apply Kd.R_drew)); exact Kd.R_mono HO795.out (fun _ hk => trivial)⟩, ⟨bk_ BK787⟩, ⟨bl_ HB⟩⟩}
 {
 rw [if_neg c8] at H
 exact absurd H (by simp)}}
 {
 rw [if_neg c4] at H
 have c4b0 : decide (x6_1 < 6) = false := decide_eq_false c4
 clear c4
 obtain rfl := Option.some.inj H
 go_wp2
 go_ret
 exact ⟨_, by first | rfl | (simp [errW_none, errW_some] <;> rfl) | (simp [*, errW_none, errW_some] <;> rfl), by (with_reducible repeat (first | apply Kd.R_alloc | apply Kd.R_drewN | apply Kd.R_drew)); exact HO_5.out, bl_ HB⟩}))
end Go.Proofs.Ytdajlfijkbafiaa.P
