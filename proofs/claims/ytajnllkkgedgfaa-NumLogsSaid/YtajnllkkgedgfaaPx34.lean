-- PRINTED by print.py (a twelfth state) out of the translation. Not trusted: Lean checks it.
import Derived.Test.YtajnllkkgedgfaaPx0
import Derived.Test.YtajnllkkgedgfaaPx25
import Derived.Test.YtajnllkkgedgfaaPx31
import Derived.Test.YtajnllkkgedgfaaPx33
namespace Go.Proofs.Ytajnllkkgedgfaa.P
open Go.RowKit Go.Proofs.YtajnllkkgedgfaaW.PrintWords Go.Proofs.YtajnllkkgedgfaaW.PrintLast Go.Proofs.YtajnllkkgedgfaaW.PrintMore
attribute [local go_sem] max2_int min2_int max_two min_two max_three min_three max_four min_four   -- for this text's walks alone
set_option linter.unusedVariables false
set_option linter.unusedSimpArgs false

/-! ### psalterylaw03_NumLogs: function 10 -/
def psalterylaw03_NumLogs.f (k : Nat) (a0 : Int) (a1 : Int) : Option (Bool) := (num_Log2.f k a0).bind fun t330 => ((psalteryref03_Log2.f k a0).bind fun t331 => (if t330 = t331 then (if a0 > a1 then ((psalterylaw03_knows.f k).bind fun t332 => (some t332)) else ((num_Log2.f k a0).bind fun t333 => ((num_Log2.f k a1).bind fun t334 => (if t333 ≤ t334 then ((psalterylaw03_knows.f k).bind fun t335 => (some t335)) else (some false))))) else (some false)))
theorem psalterylaw03_NumLogs.mono : ∀ a0 a1 k, LeO (psalterylaw03_NumLogs.f k a0 a1) (psalterylaw03_NumLogs.f (k + 1) a0 a1) := by
  intro a0 a1 k
  unfold psalterylaw03_NumLogs.f
  repeat' first
      | (with_reducible exact num_Log2.mono _ _)
      | (with_reducible exact psalterylaw03_knows.mono _)
      | (with_reducible exact psalteryref03_Log2.mono _ _)
      | (with_reducible exact LeO.refl _)
      | (with_reducible exact LeO.none _)
      | (with_reducible refine LeO.ite ?_ ?_)
      | (with_reducible refine LeO.bind ?_ (fun _ => ?_))
      | exact num_Log2.mono _ _
      | exact psalterylaw03_knows.mono _
      | exact psalteryref03_Log2.mono _ _
      | exact LeO.none _
      | refine LeO.ite ?_ ?_
      | refine LeO.bind ?_ (fun _ => ?_)
set_option maxHeartbeats 8000000 in
set_option maxRecDepth 100000 in
theorem psalterylaw03_NumLogs.calls (k : Nat) (a0 : Int) (a1 : Int) (r : Bool) (w : World) (h : psalterylaw03_NumLogs.f k a0 a1 = some r) (hT : r = true) :
    Calls Try.prog 10 #[.int .u64 a0, .int .u64 a1] w fun e w' => e = .returned (.bool r) ∧ Below w.heap.size w w' := by
  have HB := Aside0.mk (Below.refl w.heap.size w)
  have H : ((num_Log2.f k a0).bind fun t330 => ((psalteryref03_Log2.f k a0).bind fun t331 => (if t330 = t331 then (if a0 > a1 then ((psalterylaw03_knows.f k).bind fun t332 => (some t332)) else ((num_Log2.f k a0).bind fun t333 => ((num_Log2.f k a1).bind fun t334 => (if t333 ≤ t334 then ((psalterylaw03_knows.f k).bind fun t335 => (some t335)) else (some false))))) else (some false)))) = some r := h
  clear h
  have HT := Aside0.mk hT
  clear hT
  replace H := Option.bind_eq_some_iff.mp H
  obtain ⟨t330, A30, H⟩ := H
  replace H : ((psalteryref03_Log2.f k a0).bind fun t331 => (if t330 = t331 then (if a0 > a1 then ((psalterylaw03_knows.f k).bind fun t332 => (some t332)) else ((num_Log2.f k a0).bind fun t333 => ((num_Log2.f k a1).bind fun t334 => (if t333 ≤ t334 then ((psalterylaw03_knows.f k).bind fun t335 => (some t335)) else (some false))))) else (some false))) = some r := H
  have A3 := Aside0.mk A30
  clear A30
  replace H := Option.bind_eq_some_iff.mp H
  obtain ⟨t331, A40, H⟩ := H
  replace H : (if t330 = t331 then (if a0 > a1 then ((psalterylaw03_knows.f k).bind fun t332 => (some t332)) else ((num_Log2.f k a0).bind fun t333 => ((num_Log2.f k a1).bind fun t334 => (if t333 ≤ t334 then ((psalterylaw03_knows.f k).bind fun t335 => (some t335)) else (some false))))) else (some false)) = some r := H
  have A4 := Aside0.mk A40
  clear A40
  by_cases c5 : t330 = t331
  · rw [if_pos c5] at H
    have c5b0 : (t330 == t331) = true := beq_iff_eq.mpr c5
    have c5b1 : (t330 != t331) = false := bne_eq_false_iff_eq.mpr c5
    clear c5
    by_cases c6 : a0 > a1
    · rw [if_pos c6] at H
      have c6b0 : decide (a1 < a0) = true := decide_eq_true c6
      clear c6
      replace H := Option.bind_eq_some_iff.mp H
      obtain ⟨t332, A70, H⟩ := H
      replace H : (some t332) = some r := H
      have A7 := Aside0.mk A70
      clear A70
      obtain rfl := Option.some.inj H
      go_enter Try.func10, Try.ntmps10
      go_wp2_with (first | ((with_reducible refine gate_callee (f := 31) rfl ?_); refine goesL_ (some 6) rfl rfl Try.func31 (by kernel_rfl) rfl #[.int .u64 a0] rfl (by (try simp only [List.map_toArray, List.map_cons, List.map_nil]); first | done | rfl | (simp only [List.length_drop, List.length_take]; rfl)) ?_; (with_reducible refine (num_Log2.calls k a0 t330 _ A3.out).mono ?_); rintro e w' ⟨rfl, ⟨nd, rfl⟩⟩; refine ⟨_, rfl, ?_⟩) | ((with_reducible refine gate_callee (f := 32) rfl ?_); refine goesL_ (some 8) rfl rfl Try.func32 (by kernel_rfl) rfl #[.int .u64 a0] rfl (by (try simp only [List.map_toArray, List.map_cons, List.map_nil]); first | done | rfl | (simp only [List.length_drop, List.length_take]; rfl)) ?_; (with_reducible refine (psalteryref03_Log2.calls k a0 t331 _ A4.out).mono ?_); rintro e w' ⟨rfl, ⟨nd, rfl⟩⟩; refine ⟨_, rfl, ?_⟩) | (go_at_call 30; (with_reducible refine (psalterylaw03_knows.calls k  t332 _ A7.out).mono ?_); rintro e w8 ⟨rfl, hb⟩; have n0_ := Aside0.mk (below_step (by repeat (first | (with_reducible first | exact HB.out | apply below_alloc | apply pw_below_drewN | apply below_drew1) | exact HB.out)) hb); clear HB; have HB := n0_; clear n0_; (try clear hb); (try clear hb2); (try clear hk); (try clear hi)))
      go_ret
      exact ⟨by first | rfl | (simp [errW_none, errW_some] <;> rfl) | (simp [*, errW_none, errW_some] <;> rfl), by repeat (first | (with_reducible first | exact HB.out | apply below_alloc | apply pw_below_drewN | apply below_drew1) | exact HB.out)⟩
    · rw [if_neg c6] at H
      have c6b0 : decide (a1 < a0) = false := decide_eq_false c6
      clear c6
      replace H := Option.bind_eq_some_iff.mp H
      obtain ⟨t333, A90, H⟩ := H
      replace H : ((num_Log2.f k a1).bind fun t334 => (if t333 ≤ t334 then ((psalterylaw03_knows.f k).bind fun t335 => (some t335)) else (some false))) = some r := H
      have A9 := Aside0.mk A90
      clear A90
      replace H := Option.bind_eq_some_iff.mp H
      obtain ⟨t334, A100, H⟩ := H
      replace H : (if t333 ≤ t334 then ((psalterylaw03_knows.f k).bind fun t335 => (some t335)) else (some false)) = some r := H
      have A10 := Aside0.mk A100
      clear A100
      by_cases c11 : t333 ≤ t334
      · rw [if_pos c11] at H
        have c11b0 : decide (t333 ≤ t334) = true := decide_eq_true c11
        clear c11
        replace H := Option.bind_eq_some_iff.mp H
        obtain ⟨t335, A120, H⟩ := H
        replace H : (some t335) = some r := H
        have A12 := Aside0.mk A120
        clear A120
        obtain rfl := Option.some.inj H
        go_enter Try.func10, Try.ntmps10
        go_wp2_with (first | ((with_reducible refine gate_callee (f := 31) rfl ?_); refine goesL_ (some 6) rfl rfl Try.func31 (by kernel_rfl) rfl #[.int .u64 a0] rfl (by (try simp only [List.map_toArray, List.map_cons, List.map_nil]); first | done | rfl | (simp only [List.length_drop, List.length_take]; rfl)) ?_; (with_reducible refine (num_Log2.calls k a0 t330 _ A3.out).mono ?_); rintro e w' ⟨rfl, ⟨nd, rfl⟩⟩; refine ⟨_, rfl, ?_⟩) | ((with_reducible refine gate_callee (f := 32) rfl ?_); refine goesL_ (some 8) rfl rfl Try.func32 (by kernel_rfl) rfl #[.int .u64 a0] rfl (by (try simp only [List.map_toArray, List.map_cons, List.map_nil]); first | done | rfl | (simp only [List.length_drop, List.length_take]; rfl)) ?_; (with_reducible refine (psalteryref03_Log2.calls k a0 t331 _ A4.out).mono ?_); rintro e w' ⟨rfl, ⟨nd, rfl⟩⟩; refine ⟨_, rfl, ?_⟩) | (go_at_call 31; (with_reducible refine (num_Log2.calls k a0 t333 _ A9.out).mono ?_); rintro e w' ⟨rfl, ⟨nd, rfl⟩⟩) | (go_at_call 31; (with_reducible refine (num_Log2.calls k a1 t334 _ A10.out).mono ?_); rintro e w' ⟨rfl, ⟨nd, rfl⟩⟩) | (go_at_call 30; (with_reducible refine (psalterylaw03_knows.calls k  t335 _ A12.out).mono ?_); rintro e w13 ⟨rfl, hb⟩; have n0_ := Aside0.mk (below_step (by repeat (first | (with_reducible first | exact HB.out | apply below_alloc | apply pw_below_drewN | apply below_drew1) | exact HB.out)) hb); clear HB; have HB := n0_; clear n0_; (try clear hb); (try clear hb2); (try clear hk); (try clear hi)))
        go_ret
        exact ⟨by first | rfl | (simp [errW_none, errW_some] <;> rfl) | (simp [*, errW_none, errW_some] <;> rfl), by repeat (first | (with_reducible first | exact HB.out | apply below_alloc | apply pw_below_drewN | apply below_drew1) | exact HB.out)⟩
      · rw [if_neg c11] at H
        have c11b0 : decide (t333 ≤ t334) = false := decide_eq_false c11
        clear c11
        exact absurd ((Option.some.inj H).trans HT.out) (by decide)
  · rw [if_neg c5] at H
    have c5b0 : (t330 == t331) = false := beq_eq_false_iff_ne.mpr c5
    have c5b1 : (t330 != t331) = true := bne_iff_ne.mpr c5
    exact absurd ((Option.some.inj H).trans HT.out) (by decide)

/-- THE ONE PURE STATEMENT of psalterylaw03_NumLogs: yours. -/
def psalterylaw03_NumLogs.Pure : Prop := ∀ (a0 : Int) (a1 : Int), (Lit.int .u64 a0).wf = true → (Lit.int .u64 a1).wf = true → ∃ k, psalterylaw03_NumLogs.f k a0 a1 = some true
theorem psalterylaw03_NumLogs.walk (P : psalterylaw03_NumLogs.Pure) (a0 : Int) (a1 : Int) (w : World) (w0 : (Lit.int .u64 a0).wf = true) (w1 : (Lit.int .u64 a1).wf = true) :
    Calls Try.prog 10 #[.int .u64 a0, .int .u64 a1] w fun e w' => e = .returned (.bool true) ∧ Below w.heap.size w w' := by
  obtain ⟨k, h⟩ := P a0 a1 w0 w1
  refine (psalterylaw03_NumLogs.calls k a0 a1 true w h rfl).mono ?_
  rintro e w' ⟨rfl, hd⟩
  exact ⟨rfl, hd⟩

end Go.Proofs.Ytajnllkkgedgfaa.P
