-- PRINTED by print.py (a twelfth state) out of the translation. Not trusted: Lean checks it.
import Derived.Test.YtfipeildlleoeaaPx0
namespace Go.Proofs.Ytfipeildlleoeaa.P
open Go.RowKit Go.Proofs.YtfipeildlleoeaaW.PrintWords Go.Proofs.YtfipeildlleoeaaW.PrintLast Go.Proofs.YtfipeildlleoeaaW.PrintMore
attribute [local go_sem] max2_int min2_int max_two min_two max_three min_three max_four min_four   -- for this text's walks alone
set_option linter.unusedVariables false
set_option linter.unusedSimpArgs false

/-! ### couple_couple: function 45 -/
def couple_couple.f (a0 : Int) (a1 : Int) : Option (Int × Int) := if (mx a0 (wrap64 (-a0))) > (mx a1 (wrap64 (-a1))) then (if a0 > 0 then (some (a0, wrap64 (a0 - a1))) else (some (a0, wrap64 (a1 - a0)))) else (if a1 > 0 then (some (a1, wrap64 (a0 - a1))) else (some (a1, wrap64 (a1 - a0))))
set_option maxHeartbeats 8000000 in
set_option maxRecDepth 100000 in
theorem couple_couple.calls (a0 : Int) (a1 : Int) (r1 : Int) (r2 : Int) (w : World) (h : couple_couple.f a0 a1 = some (r1, r2)) :
    Calls Try.prog 45 #[.int .i64 a0, .int .i64 a1] w fun e w' => e = .returned (.tuple #[.int .i64 r1, .int .i64 r2]) ∧ Below w.heap.size w w' := by
  have HB := Aside0.mk (Below.refl w.heap.size w)
  have H : (if (mx a0 (wrap64 (-a0))) > (mx a1 (wrap64 (-a1))) then (if a0 > 0 then (some (a0, wrap64 (a0 - a1))) else (some (a0, wrap64 (a1 - a0)))) else (if a1 > 0 then (some (a1, wrap64 (a0 - a1))) else (some (a1, wrap64 (a1 - a0))))) = some (r1, r2) := h
  clear h
  obtain ⟨ji3, hji3⟩ : ∃ j_ : Int, (mx a0 (wrap64 (-a0))) = j_ := ⟨_, rfl⟩
  replace H : (if (ji3) > (mx a1 (wrap64 (-a1))) then (if a0 > 0 then (some (a0, wrap64 (a0 - a1))) else (some (a0, wrap64 (a1 - a0)))) else (if a1 > 0 then (some (a1, wrap64 (a0 - a1))) else (some (a1, wrap64 (a1 - a0))))) = some (r1, r2) := by first | (rw [hji3] at H; exact H) | (simp only [hji3] at H ⊢; exact H)
  have hji3_ : (if a0 < (wrap64 (-a0)) then (wrap64 (-a0)) else a0) = ji3 := hji3
  obtain ⟨ji4, hji4⟩ : ∃ j_ : Int, (mx a1 (wrap64 (-a1))) = j_ := ⟨_, rfl⟩
  replace H : (if (ji3) > (ji4) then (if a0 > 0 then (some (a0, wrap64 (a0 - a1))) else (some (a0, wrap64 (a1 - a0)))) else (if a1 > 0 then (some (a1, wrap64 (a0 - a1))) else (some (a1, wrap64 (a1 - a0))))) = some (r1, r2) := by first | (rw [hji4] at H; exact H) | (simp only [hji4] at H ⊢; exact H)
  have hji4_ : (if a1 < (wrap64 (-a1)) then (wrap64 (-a1)) else a1) = ji4 := hji4
  by_cases c5 : (ji3) > (ji4)
  · rw [if_pos c5] at H
    have c5b0 : decide ((ji4) < (ji3)) = true := decide_eq_true c5
    clear c5
    by_cases c6 : a0 > 0
    · rw [if_pos c6] at H
      have c6b0 : decide (0 < a0) = true := decide_eq_true c6
      clear c6
      simp only [Option.some.injEq, Prod.mk.injEq] at H
      obtain ⟨rfl, rfl⟩ := H
      go_enter Try.func45, Try.ntmps45
      go_wp2
      go_ret2
      exact ⟨by first | rfl | (simp [errW_none, errW_some] <;> rfl) | (simp only [← hji3, ← hji4]; first | rfl | (simp [errW_none, errW_some] <;> rfl)) | (simp [*, errW_none, errW_some] <;> rfl), by repeat (first | (with_reducible first | exact HB.out | apply below_alloc | apply pw_below_drewN | apply below_drew1) | exact HB.out)⟩
    · rw [if_neg c6] at H
      have c6b0 : decide (0 < a0) = false := decide_eq_false c6
      clear c6
      simp only [Option.some.injEq, Prod.mk.injEq] at H
      obtain ⟨rfl, rfl⟩ := H
      go_enter Try.func45, Try.ntmps45
      go_wp2
      go_ret2
      exact ⟨by first | rfl | (simp [errW_none, errW_some] <;> rfl) | (simp only [← hji3, ← hji4]; first | rfl | (simp [errW_none, errW_some] <;> rfl)) | (simp [*, errW_none, errW_some] <;> rfl), by repeat (first | (with_reducible first | exact HB.out | apply below_alloc | apply pw_below_drewN | apply below_drew1) | exact HB.out)⟩
  · rw [if_neg c5] at H
    have c5b0 : decide ((ji4) < (ji3)) = false := decide_eq_false c5
    clear c5
    by_cases c7 : a1 > 0
    · rw [if_pos c7] at H
      have c7b0 : decide (0 < a1) = true := decide_eq_true c7
      clear c7
      simp only [Option.some.injEq, Prod.mk.injEq] at H
      obtain ⟨rfl, rfl⟩ := H
      go_enter Try.func45, Try.ntmps45
      go_wp2
      go_ret2
      exact ⟨by first | rfl | (simp [errW_none, errW_some] <;> rfl) | (simp only [← hji3, ← hji4]; first | rfl | (simp [errW_none, errW_some] <;> rfl)) | (simp [*, errW_none, errW_some] <;> rfl), by repeat (first | (with_reducible first | exact HB.out | apply below_alloc | apply pw_below_drewN | apply below_drew1) | exact HB.out)⟩
    · rw [if_neg c7] at H
      have c7b0 : decide (0 < a1) = false := decide_eq_false c7
      clear c7
      simp only [Option.some.injEq, Prod.mk.injEq] at H
      obtain ⟨rfl, rfl⟩ := H
      go_enter Try.func45, Try.ntmps45
      go_wp2
      go_ret2
      exact ⟨by first | rfl | (simp [errW_none, errW_some] <;> rfl) | (simp only [← hji3, ← hji4]; first | rfl | (simp [errW_none, errW_some] <;> rfl)) | (simp [*, errW_none, errW_some] <;> rfl), by repeat (first | (with_reducible first | exact HB.out | apply below_alloc | apply pw_below_drewN | apply below_drew1) | exact HB.out)⟩

end Go.Proofs.Ytfipeildlleoeaa.P
