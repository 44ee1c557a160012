-- PRINTED by print.py (a twelfth state) out of the translation. Not trusted: Lean checks it.
import Derived.Test.YtfipeildlleoeaaPx0
import Derived.Test.YtfipeildlleoeaaPx4
namespace Go.Proofs.Ytfipeildlleoeaa.P
open Go.RowKit Go.Proofs.YtfipeildlleoeaaW.PrintWords Go.Proofs.YtfipeildlleoeaaW.PrintLast Go.Proofs.YtfipeildlleoeaaW.PrintMore
attribute [local go_sem] max2_int min2_int max_two min_two max_three min_three max_four min_four   -- for this text's walks alone
set_option linter.unusedVariables false
set_option linter.unusedSimpArgs false

/-! ### num_Div: function 44 -/
def num_Div.f (a0 : Int) (a1 : Int) : Option (Int × Int) := if a1 < 1 then (some (0, 1)) else ((num_size.f a0).bind fun t103 => (if (IntKind.u64.wrap (a1)) = 0 then (none) else (if (Int.tmod t103 (IntKind.u64.wrap (a1))) ≥ (IntKind.u64.wrap ((IntKind.u64.wrap (a1)) - (Int.tmod t103 (IntKind.u64.wrap (a1))))) then (if a0 < 0 then (some (wrap64 (IntKind.u64.wrap (-(IntKind.u64.wrap ((IntKind.u64.wrap (Int.tdiv t103 (IntKind.u64.wrap (a1)))) + 1)))), 0)) else (some (wrap64 (IntKind.u64.wrap ((IntKind.u64.wrap (Int.tdiv t103 (IntKind.u64.wrap (a1)))) + 1)), 0))) else (if a0 < 0 then (some (wrap64 (IntKind.u64.wrap (-(IntKind.u64.wrap (Int.tdiv t103 (IntKind.u64.wrap (a1)))))), 0)) else (some (wrap64 (IntKind.u64.wrap (Int.tdiv t103 (IntKind.u64.wrap (a1)))), 0))))))
set_option maxHeartbeats 8000000 in
set_option maxRecDepth 100000 in
theorem num_Div.calls (a0 : Int) (a1 : Int) (r1 : Int) (r2 : Int) (w : World) (h : num_Div.f a0 a1 = some (r1, r2)) :
    Calls Try.prog 44 #[.int .i64 a0, .int .i64 a1] w fun e w' => e = .returned (.tuple #[.int .i64 r1, .int .i64 r2]) ∧ Drawn0 w w' := by
  have H : (if a1 < 1 then (some (0, 1)) else ((num_size.f a0).bind fun t103 => (if (IntKind.u64.wrap (a1)) = 0 then (none) else (if (Int.tmod t103 (IntKind.u64.wrap (a1))) ≥ (IntKind.u64.wrap ((IntKind.u64.wrap (a1)) - (Int.tmod t103 (IntKind.u64.wrap (a1))))) then (if a0 < 0 then (some (wrap64 (IntKind.u64.wrap (-(IntKind.u64.wrap ((IntKind.u64.wrap (Int.tdiv t103 (IntKind.u64.wrap (a1)))) + 1)))), 0)) else (some (wrap64 (IntKind.u64.wrap ((IntKind.u64.wrap (Int.tdiv t103 (IntKind.u64.wrap (a1)))) + 1)), 0))) else (if a0 < 0 then (some (wrap64 (IntKind.u64.wrap (-(IntKind.u64.wrap (Int.tdiv t103 (IntKind.u64.wrap (a1)))))), 0)) else (some (wrap64 (IntKind.u64.wrap (Int.tdiv t103 (IntKind.u64.wrap (a1)))), 0))))))) = some (r1, r2) := h
  clear h
  by_cases c3 : a1 < 1
  · rw [if_pos c3] at H
    have c3b0 : decide (a1 < 1) = true := decide_eq_true c3
    clear c3
    simp only [Option.some.injEq, Prod.mk.injEq] at H
    obtain ⟨rfl, rfl⟩ := H
    go_enter Try.func44, Try.ntmps44
    go_wp2
    repeat (go_quiet (fail); try go_wp2)
    go_ret2
    exact ⟨by first | rfl | (simp; done) | (simp [*]; done), by repeat (first | exact Drawn0.refl _ | apply Drawn0.step)⟩
  · rw [if_neg c3] at H
    have c3b0 : decide (a1 < 1) = false := decide_eq_false c3
    clear c3
    replace H := Option.bind_eq_some_iff.mp H
    obtain ⟨t103, A40, H⟩ := H
    replace H : (if (IntKind.u64.wrap (a1)) = 0 then (none) else (if (Int.tmod t103 (IntKind.u64.wrap (a1))) ≥ (IntKind.u64.wrap ((IntKind.u64.wrap (a1)) - (Int.tmod t103 (IntKind.u64.wrap (a1))))) then (if a0 < 0 then (some (wrap64 (IntKind.u64.wrap (-(IntKind.u64.wrap ((IntKind.u64.wrap (Int.tdiv t103 (IntKind.u64.wrap (a1)))) + 1)))), 0)) else (some (wrap64 (IntKind.u64.wrap ((IntKind.u64.wrap (Int.tdiv t103 (IntKind.u64.wrap (a1)))) + 1)), 0))) else (if a0 < 0 then (some (wrap64 (IntKind.u64.wrap (-(IntKind.u64.wrap (Int.tdiv t103 (IntKind.u64.wrap (a1)))))), 0)) else (some (wrap64 (IntKind.u64.wrap (Int.tdiv t103 (IntKind.u64.wrap (a1)))), 0))))) = some (r1, r2) := H
    have A4 := Aside0.mk A40
    clear A40
    by_cases c5 : (IntKind.u64.wrap (a1)) = 0
    · rw [if_pos c5] at H
      exact absurd H (by simp)
    · rw [if_neg c5] at H
      have c5b0 : ((IntKind.u64.wrap (a1)) == 0) = false := beq_eq_false_iff_ne.mpr c5
      have c5b1 : ((IntKind.u64.wrap (a1)) != 0) = true := bne_iff_ne.mpr c5
      by_cases c6 : (Int.tmod t103 (IntKind.u64.wrap (a1))) ≥ (IntKind.u64.wrap ((IntKind.u64.wrap (a1)) - (Int.tmod t103 (IntKind.u64.wrap (a1)))))
      · rw [if_pos c6] at H
        have c6b0 : decide ((IntKind.u64.wrap ((IntKind.u64.wrap (a1)) - (Int.tmod t103 (IntKind.u64.wrap (a1))))) ≤ (Int.tmod t103 (IntKind.u64.wrap (a1)))) = true := decide_eq_true c6
        clear c6
        by_cases c7 : a0 < 0
        · rw [if_pos c7] at H
          have c7b0 : decide (a0 < 0) = true := decide_eq_true c7
          clear c7
          simp only [Option.some.injEq, Prod.mk.injEq] at H
          obtain ⟨rfl, rfl⟩ := H
          go_enter Try.func44, Try.ntmps44
          go_wp2_with (first | (go_at_call 48; (with_reducible refine (num_size.calls a0 t103 _ A4.out).mono ?_); rintro e w' ⟨rfl, ⟨nd, rfl⟩⟩; (try first | exact ⟨rfl, _, World.drewN_drewN _ _ _⟩ | exact ⟨rfl, _, Eq.trans (World.drewN_drewN _ _ _) (congrArg (World.drewN _) (Nat.add_assoc _ _ _))⟩)))
          repeat (go_quiet (first | (go_at_call 48; (with_reducible refine (num_size.calls a0 t103 _ A4.out).mono ?_); rintro e w' ⟨rfl, ⟨nd, rfl⟩⟩; (try first | exact ⟨rfl, _, World.drewN_drewN _ _ _⟩ | exact ⟨rfl, _, Eq.trans (World.drewN_drewN _ _ _) (congrArg (World.drewN _) (Nat.add_assoc _ _ _))⟩))); try go_wp2_with (first | (go_at_call 48; (with_reducible refine (num_size.calls a0 t103 _ A4.out).mono ?_); rintro e w' ⟨rfl, ⟨nd, rfl⟩⟩; (try first | exact ⟨rfl, _, World.drewN_drewN _ _ _⟩ | exact ⟨rfl, _, Eq.trans (World.drewN_drewN _ _ _) (congrArg (World.drewN _) (Nat.add_assoc _ _ _))⟩))))
          go_ret2
          exact ⟨by first | rfl | (simp; done) | (simp [*]; done), by repeat (first | exact Drawn0.refl _ | apply Drawn0.step)⟩
        · rw [if_neg c7] at H
          have c7b0 : decide (a0 < 0) = false := decide_eq_false c7
          clear c7
          simp only [Option.some.injEq, Prod.mk.injEq] at H
          obtain ⟨rfl, rfl⟩ := H
          go_enter Try.func44, Try.ntmps44
          go_wp2_with (first | (go_at_call 48; (with_reducible refine (num_size.calls a0 t103 _ A4.out).mono ?_); rintro e w' ⟨rfl, ⟨nd, rfl⟩⟩; (try first | exact ⟨rfl, _, World.drewN_drewN _ _ _⟩ | exact ⟨rfl, _, Eq.trans (World.drewN_drewN _ _ _) (congrArg (World.drewN _) (Nat.add_assoc _ _ _))⟩)))
          repeat (go_quiet (first | (go_at_call 48; (with_reducible refine (num_size.calls a0 t103 _ A4.out).mono ?_); rintro e w' ⟨rfl, ⟨nd, rfl⟩⟩; (try first | exact ⟨rfl, _, World.drewN_drewN _ _ _⟩ | exact ⟨rfl, _, Eq.trans (World.drewN_drewN _ _ _) (congrArg (World.drewN _) (Nat.add_assoc _ _ _))⟩))); try go_wp2_with (first | (go_at_call 48; (with_reducible refine (num_size.calls a0 t103 _ A4.out).mono ?_); rintro e w' ⟨rfl, ⟨nd, rfl⟩⟩; (try first | exact ⟨rfl, _, World.drewN_drewN _ _ _⟩ | exact ⟨rfl, _, Eq.trans (World.drewN_drewN _ _ _) (congrArg (World.drewN _) (Nat.add_assoc _ _ _))⟩))))
          go_ret2
          exact ⟨by first | rfl | (simp; done) | (simp [*]; done), by repeat (first | exact Drawn0.refl _ | apply Drawn0.step)⟩
      · rw [if_neg c6] at H
        have c6b0 : decide ((IntKind.u64.wrap ((IntKind.u64.wrap (a1)) - (Int.tmod t103 (IntKind.u64.wrap (a1))))) ≤ (Int.tmod t103 (IntKind.u64.wrap (a1)))) = false := decide_eq_false c6
        clear c6
        by_cases c8 : a0 < 0
        · rw [if_pos c8] at H
          have c8b0 : decide (a0 < 0) = true := decide_eq_true c8
          clear c8
          simp only [Option.some.injEq, Prod.mk.injEq] at H
          obtain ⟨rfl, rfl⟩ := H
          go_enter Try.func44, Try.ntmps44
          go_wp2_with (first | (go_at_call 48; (with_reducible refine (num_size.calls a0 t103 _ A4.out).mono ?_); rintro e w' ⟨rfl, ⟨nd, rfl⟩⟩; (try first | exact ⟨rfl, _, World.drewN_drewN _ _ _⟩ | exact ⟨rfl, _, Eq.trans (World.drewN_drewN _ _ _) (congrArg (World.drewN _) (Nat.add_assoc _ _ _))⟩)))
          repeat (go_quiet (first | (go_at_call 48; (with_reducible refine (num_size.calls a0 t103 _ A4.out).mono ?_); rintro e w' ⟨rfl, ⟨nd, rfl⟩⟩; (try first | exact ⟨rfl, _, World.drewN_drewN _ _ _⟩ | exact ⟨rfl, _, Eq.trans (World.drewN_drewN _ _ _) (congrArg (World.drewN _) (Nat.add_assoc _ _ _))⟩))); try go_wp2_with (first | (go_at_call 48; (with_reducible refine (num_size.calls a0 t103 _ A4.out).mono ?_); rintro e w' ⟨rfl, ⟨nd, rfl⟩⟩; (try first | exact ⟨rfl, _, World.drewN_drewN _ _ _⟩ | exact ⟨rfl, _, Eq.trans (World.drewN_drewN _ _ _) (congrArg (World.drewN _) (Nat.add_assoc _ _ _))⟩))))
          go_ret2
          exact ⟨by first | rfl | (simp; done) | (simp [*]; done), by repeat (first | exact Drawn0.refl _ | apply Drawn0.step)⟩
        · rw [if_neg c8] at H
          have c8b0 : decide (a0 < 0) = false := decide_eq_false c8
          clear c8
          simp only [Option.some.injEq, Prod.mk.injEq] at H
          obtain ⟨rfl, rfl⟩ := H
          go_enter Try.func44, Try.ntmps44
          go_wp2_with (first | (go_at_call 48; (with_reducible refine (num_size.calls a0 t103 _ A4.out).mono ?_); rintro e w' ⟨rfl, ⟨nd, rfl⟩⟩; (try first | exact ⟨rfl, _, World.drewN_drewN _ _ _⟩ | exact ⟨rfl, _, Eq.trans (World.drewN_drewN _ _ _) (congrArg (World.drewN _) (Nat.add_assoc _ _ _))⟩)))
          repeat (go_quiet (first | (go_at_call 48; (with_reducible refine (num_size.calls a0 t103 _ A4.out).mono ?_); rintro e w' ⟨rfl, ⟨nd, rfl⟩⟩; (try first | exact ⟨rfl, _, World.drewN_drewN _ _ _⟩ | exact ⟨rfl, _, Eq.trans (World.drewN_drewN _ _ _) (congrArg (World.drewN _) (Nat.add_assoc _ _ _))⟩))); try go_wp2_with (first | (go_at_call 48; (with_reducible refine (num_size.calls a0 t103 _ A4.out).mono ?_); rintro e w' ⟨rfl, ⟨nd, rfl⟩⟩; (try first | exact ⟨rfl, _, World.drewN_drewN _ _ _⟩ | exact ⟨rfl, _, Eq.trans (World.drewN_drewN _ _ _) (congrArg (World.drewN _) (Nat.add_assoc _ _ _))⟩))))
          go_ret2
          exact ⟨by first | rfl | (simp; done) | (simp [*]; done), by repeat (first | exact Drawn0.refl _ | apply Drawn0.step)⟩

end Go.Proofs.Ytfipeildlleoeaa.P
