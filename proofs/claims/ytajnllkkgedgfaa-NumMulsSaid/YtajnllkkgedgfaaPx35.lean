-- PRINTED by print.py (a twelfth state) out of the translation. Not trusted: Lean checks it.
import Derived.Test.YtajnllkkgedgfaaPx0
namespace Go.Proofs.Ytajnllkkgedgfaa.P
open Go.RowKit Go.Proofs.YtajnllkkgedgfaaW.PrintWords Go.Proofs.YtajnllkkgedgfaaW.PrintLast Go.Proofs.YtajnllkkgedgfaaW.PrintMore
attribute [local go_sem] max2_int min2_int max_two min_two max_three min_three max_four min_four   -- for this text's walks alone
set_option linter.unusedVariables false
set_option linter.unusedSimpArgs false

/-! ### psalteryref03_Mul: function 34 -/
def psalteryref03_Mul.l0 : Nat → Int → Int → Int → Int → Int → Option (Int × Int)
  | 0, _, _, _, _, _ => none
  | k + 1, x0, x1, x6, x7, x8 => if x8 < 64 then (if (IntKind.u64.wrap (Int.tdiv x1 9223372036854775808)) = 1 then (if (IntKind.u64.wrap ((IntKind.u64.wrap (x7 * 2)) + x0)) < (IntKind.u64.wrap (x7 * 2)) then (psalteryref03_Mul.l0 k x0 (IntKind.u64.wrap (x1 * 2)) (IntKind.u64.wrap ((IntKind.u64.wrap ((IntKind.u64.wrap (x6 * 2)) + (IntKind.u64.wrap (Int.tdiv x7 9223372036854775808)))) + 1)) (IntKind.u64.wrap ((IntKind.u64.wrap (x7 * 2)) + x0)) (wrap64 (x8 + 1))) else (psalteryref03_Mul.l0 k x0 (IntKind.u64.wrap (x1 * 2)) (IntKind.u64.wrap ((IntKind.u64.wrap (x6 * 2)) + (IntKind.u64.wrap (Int.tdiv x7 9223372036854775808)))) (IntKind.u64.wrap ((IntKind.u64.wrap (x7 * 2)) + x0)) (wrap64 (x8 + 1)))) else (psalteryref03_Mul.l0 k x0 (IntKind.u64.wrap (x1 * 2)) (IntKind.u64.wrap ((IntKind.u64.wrap (x6 * 2)) + (IntKind.u64.wrap (Int.tdiv x7 9223372036854775808)))) (IntKind.u64.wrap (x7 * 2)) (wrap64 (x8 + 1)))) else (some (x6, x7))
def psalteryref03_Mul.f (k : Nat) (a0 : Int) (a1 : Int) : Option (Int × Int) := psalteryref03_Mul.l0 k a0 a1 0 0 0
theorem psalteryref03_Mul.mono_l : ∀ k, (∀ y0 y1 y2 y3 y4, LeO (psalteryref03_Mul.l0 k y0 y1 y2 y3 y4) (psalteryref03_Mul.l0 (k + 1) y0 y1 y2 y3 y4))
  | 0 => fun _ _ _ _ _ r h => by simp [psalteryref03_Mul.l0] at h
  | k + 1 => by
    have ih0 := psalteryref03_Mul.mono_l k
    · intro y0 y1 y2 y3 y4
      unfold psalteryref03_Mul.l0
      repeat' first
      | (with_reducible exact ih0 _ _ _ _ _)
      | (with_reducible exact LeO.refl _)
      | (with_reducible exact LeO.none _)
      | (with_reducible refine LeO.ite ?_ ?_)
      | (with_reducible refine LeO.bind ?_ (fun _ => ?_))
      | exact ih0 _ _ _ _ _
      | exact LeO.none _
      | refine LeO.ite ?_ ?_
      | refine LeO.bind ?_ (fun _ => ?_)
theorem psalteryref03_Mul.mono : ∀ a0 a1 k, LeO (psalteryref03_Mul.f k a0 a1) (psalteryref03_Mul.f (k + 1) a0 a1) := by
  intro a0 a1 k
  have ih0 := psalteryref03_Mul.mono_l k
  unfold psalteryref03_Mul.f
  repeat' first
      | (with_reducible exact ih0 _ _ _ _ _)
      | (with_reducible exact LeO.refl _)
      | (with_reducible exact LeO.none _)
      | (with_reducible refine LeO.ite ?_ ?_)
      | (with_reducible refine LeO.bind ?_ (fun _ => ?_))
      | exact ih0 _ _ _ _ _
      | exact LeO.none _
      | refine LeO.ite ?_ ?_
      | refine LeO.bind ?_ (fun _ => ?_)
set_option maxHeartbeats 8000000 in
set_option maxRecDepth 100000 in
theorem psalteryref03_Mul.calls (k : Nat) (a0 : Int) (a1 : Int) (r1 : Int) (r2 : Int) (w : World) (h : psalteryref03_Mul.f k a0 a1 = some (r1, r2)) :
    Calls Try.prog 34 #[.int .u64 a0, .int .u64 a1] w fun e w' => e = .returned (.tuple #[.int .u64 r1, .int .u64 r2]) ∧ Drawn0 w w' := by
  have H : (psalteryref03_Mul.l0 k a0 a1 0 0 0) = some (r1, r2) := h
  clear h
  have H' := Aside0.mk H
  clear H
  go_enter Try.func34, Try.ntmps34
  go_wp2
  go_loopg [1, 6, 7, 8] k (fun kq v1 v6 v7 v8 w' => ∃ (x1_1 : Int) (x6_1 : Int) (x7_1 : Int) (x8_1 : Int), v1 = .int .u64 x1_1 ∧ v6 = .int .u64 x6_1 ∧ v7 = .int .u64 x7_1 ∧ v8 = .int .i64 x8_1 ∧ Aside0 (psalteryref03_Mul.l0 kq a0 x1_1 x6_1 x7_1 x8_1 = some (r1, r2)) ∧ Aside0 (kq ≤ k) ∧ Drawn0 w w')
  case atStart => exact ⟨(a1), (0), (0), (0), (by first | rfl | (simp; done) | (simp [*]; done)), (by first | rfl | (simp; done) | (simp [*]; done)), (by first | rfl | (simp; done) | (simp [*]; done)), (by first | rfl | (simp; done) | (simp [*]; done)), H', ⟨Nat.le_refl _⟩, by repeat (first | exact Drawn0.refl _ | apply Drawn0.step)⟩
  case round =>
    clear H'
    try clear p2
    obtain ⟨x1_1, x6_1, x7_1, x8_1, rfl, rfl, rfl, rfl, HA, HK1, ⟨m1, rfl⟩⟩ := hrel
    cases gk with
    | zero => exact absurd HA.out (by simp [psalteryref03_Mul.l0])
    | succ k1 =>
      have H := HA.out
      clear HA
      simp only [psalteryref03_Mul.l0] at H
      by_cases c3 : x8_1 < 64
      · rw [if_pos c3] at H
        have c3b0 : decide (x8_1 < 64) = true := decide_eq_true c3
        clear c3
        by_cases c4 : (IntKind.u64.wrap (Int.tdiv x1_1 9223372036854775808)) = 1
        · rw [if_pos c4] at H
          have c4b0 : ((IntKind.u64.wrap (Int.tdiv x1_1 9223372036854775808)) == 1) = true := beq_iff_eq.mpr c4
          have c4b1 : ((IntKind.u64.wrap (Int.tdiv x1_1 9223372036854775808)) != 1) = false := bne_eq_false_iff_eq.mpr c4
          clear c4
          by_cases c5 : (IntKind.u64.wrap ((IntKind.u64.wrap (x7_1 * 2)) + a0)) < (IntKind.u64.wrap (x7_1 * 2))
          · rw [if_pos c5] at H
            have c5b0 : decide ((IntKind.u64.wrap ((IntKind.u64.wrap (x7_1 * 2)) + a0)) < (IntKind.u64.wrap (x7_1 * 2))) = true := decide_eq_true c5
            clear c5
            have H' := Aside0.mk H
            clear H
            go_wp2
            go_roundg k1
            case measure => have := HK1.out; omega
            case rel => exact ⟨(IntKind.u64.wrap (x1_1 * 2)), (IntKind.u64.wrap ((IntKind.u64.wrap ((IntKind.u64.wrap (x6_1 * 2)) + (IntKind.u64.wrap (Int.tdiv x7_1 9223372036854775808)))) + 1)), (IntKind.u64.wrap ((IntKind.u64.wrap (x7_1 * 2)) + a0)), (wrap64 (x8_1 + 1)), (by first | rfl | (simp; done) | (simp [*]; done)), (by first | rfl | (simp; done) | (simp [*]; done)), (by first | rfl | (simp; done) | (simp [*]; done)), (by first | rfl | (simp; done) | (simp [*]; done)), H', ⟨by have := HK1.out; omega⟩, by repeat (first | exact Drawn0.refl _ | apply Drawn0.step)⟩
          · rw [if_neg c5] at H
            have c5b0 : decide ((IntKind.u64.wrap ((IntKind.u64.wrap (x7_1 * 2)) + a0)) < (IntKind.u64.wrap (x7_1 * 2))) = false := decide_eq_false c5
            clear c5
            have H' := Aside0.mk H
            clear H
            go_wp2
            go_roundg k1
            case measure => have := HK1.out; omega
            case rel => exact ⟨(IntKind.u64.wrap (x1_1 * 2)), (IntKind.u64.wrap ((IntKind.u64.wrap (x6_1 * 2)) + (IntKind.u64.wrap (Int.tdiv x7_1 9223372036854775808)))), (IntKind.u64.wrap ((IntKind.u64.wrap (x7_1 * 2)) + a0)), (wrap64 (x8_1 + 1)), (by first | rfl | (simp; done) | (simp [*]; done)), (by first | rfl | (simp; done) | (simp [*]; done)), (by first | rfl | (simp; done) | (simp [*]; done)), (by first | rfl | (simp; done) | (simp [*]; done)), H', ⟨by have := HK1.out; omega⟩, by repeat (first | exact Drawn0.refl _ | apply Drawn0.step)⟩
        · rw [if_neg c4] at H
          have c4b0 : ((IntKind.u64.wrap (Int.tdiv x1_1 9223372036854775808)) == 1) = false := beq_eq_false_iff_ne.mpr c4
          have c4b1 : ((IntKind.u64.wrap (Int.tdiv x1_1 9223372036854775808)) != 1) = true := bne_iff_ne.mpr c4
          have H' := Aside0.mk H
          clear H
          go_wp2
          go_roundg k1
          case measure => have := HK1.out; omega
          case rel => exact ⟨(IntKind.u64.wrap (x1_1 * 2)), (IntKind.u64.wrap ((IntKind.u64.wrap (x6_1 * 2)) + (IntKind.u64.wrap (Int.tdiv x7_1 9223372036854775808)))), (IntKind.u64.wrap (x7_1 * 2)), (wrap64 (x8_1 + 1)), (by first | rfl | (simp; done) | (simp [*]; done)), (by first | rfl | (simp; done) | (simp [*]; done)), (by first | rfl | (simp; done) | (simp [*]; done)), (by first | rfl | (simp; done) | (simp [*]; done)), H', ⟨by have := HK1.out; omega⟩, by repeat (first | exact Drawn0.refl _ | apply Drawn0.step)⟩
      · rw [if_neg c3] at H
        have c3b0 : decide (x8_1 < 64) = false := decide_eq_false c3
        clear c3
        simp only [Option.some.injEq, Prod.mk.injEq] at H
        obtain ⟨rfl, rfl⟩ := H
        go_wp2
        go_ret2
        exact ⟨by first | rfl | (simp; done) | (simp [*]; done), by repeat (first | exact Drawn0.refl _ | apply Drawn0.step)⟩

end Go.Proofs.Ytajnllkkgedgfaa.P
