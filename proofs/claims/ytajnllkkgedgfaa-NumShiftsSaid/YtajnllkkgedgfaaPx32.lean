-- PRINTED by print.py (a twelfth state) out of the translation. Not trusted: Lean checks it.
import Derived.Test.YtajnllkkgedgfaaPx0
import Derived.Test.YtajnllkkgedgfaaPx23
import Derived.Test.YtajnllkkgedgfaaPx24
import Derived.Test.YtajnllkkgedgfaaPx31
namespace Go.Proofs.Ytajnllkkgedgfaa.P
open Go.RowKit Go.Proofs.YtajnllkkgedgfaaW.PrintWords Go.Proofs.YtajnllkkgedgfaaW.PrintLast Go.Proofs.YtajnllkkgedgfaaW.PrintMore
attribute [local go_sem] max2_int min2_int max_two min_two max_three min_three max_four min_four   -- for this text's walks alone
set_option linter.unusedVariables false
set_option linter.unusedSimpArgs false

/-! ### psalterylaw03_NumRoots: function 9 -/
def psalterylaw03_NumRoots.f (k : Nat) (a0 : Int) (a1 : Int) : Option (Bool) := (num_Sqrt.f k a0).bind fun t324 => ((num_Sqrt.f k a1).bind fun t325 => ((psalteryref03_Sqrt.f k a0).bind fun t326 => (if t324 = t326 then (if a0 > a1 then ((psalterylaw03_knows.f k).bind fun t327 => (some t327)) else (if t324 ≤ t325 then ((psalterylaw03_knows.f k).bind fun t328 => (some t328)) else (some false))) else (some false))))
theorem psalterylaw03_NumRoots.mono : ∀ a0 a1 k, LeO (psalterylaw03_NumRoots.f k a0 a1) (psalterylaw03_NumRoots.f (k + 1) a0 a1) := by
  intro a0 a1 k
  unfold psalterylaw03_NumRoots.f
  repeat' first
      | (with_reducible exact num_Sqrt.mono _ _)
      | (with_reducible exact psalterylaw03_knows.mono _)
      | (with_reducible exact psalteryref03_Sqrt.mono _ _)
      | (with_reducible exact LeO.refl _)
      | (with_reducible exact LeO.none _)
      | (with_reducible refine LeO.ite ?_ ?_)
      | (with_reducible refine LeO.bind ?_ (fun _ => ?_))
      | exact num_Sqrt.mono _ _
      | exact psalterylaw03_knows.mono _
      | exact psalteryref03_Sqrt.mono _ _
      | exact LeO.none _
      | refine LeO.ite ?_ ?_
      | refine LeO.bind ?_ (fun _ => ?_)
set_option maxHeartbeats 8000000 in
set_option maxRecDepth 100000 in
theorem psalterylaw03_NumRoots.calls (k : Nat) (a0 : Int) (a1 : Int) (r : Bool) (w : World) (h : psalterylaw03_NumRoots.f k a0 a1 = some r) (hT : r = true) :
    Calls Try.prog 9 #[.int .u64 a0, .int .u64 a1] w fun e w' => e = .returned (.bool r) ∧ Below w.heap.size w w' := by
  have HB := Aside0.mk (Below.refl w.heap.size w)
  have H : ((num_Sqrt.f k a0).bind fun t324 => ((num_Sqrt.f k a1).bind fun t325 => ((psalteryref03_Sqrt.f k a0).bind fun t326 => (if t324 = t326 then (if a0 > a1 then ((psalterylaw03_knows.f k).bind fun t327 => (some t327)) else (if t324 ≤ t325 then ((psalterylaw03_knows.f k).bind fun t328 => (some t328)) else (some false))) else (some false))))) = some r := h
  clear h
  have HT := Aside0.mk hT
  clear hT
  replace H := Option.bind_eq_some_iff.mp H
  obtain ⟨t324, A30, H⟩ := H
  replace H : ((num_Sqrt.f k a1).bind fun t325 => ((psalteryref03_Sqrt.f k a0).bind fun t326 => (if t324 = t326 then (if a0 > a1 then ((psalterylaw03_knows.f k).bind fun t327 => (some t327)) else (if t324 ≤ t325 then ((psalterylaw03_knows.f k).bind fun t328 => (some t328)) else (some false))) else (some false)))) = some r := H
  have A3 := Aside0.mk A30
  clear A30
  replace H := Option.bind_eq_some_iff.mp H
  obtain ⟨t325, A40, H⟩ := H
  replace H : ((psalteryref03_Sqrt.f k a0).bind fun t326 => (if t324 = t326 then (if a0 > a1 then ((psalterylaw03_knows.f k).bind fun t327 => (some t327)) else (if t324 ≤ t325 then ((psalterylaw03_knows.f k).bind fun t328 => (some t328)) else (some false))) else (some false))) = some r := H
  have A4 := Aside0.mk A40
  clear A40
  replace H := Option.bind_eq_some_iff.mp H
  obtain ⟨t326, A50, H⟩ := H
  replace H : (if t324 = t326 then (if a0 > a1 then ((psalterylaw03_knows.f k).bind fun t327 => (some t327)) else (if t324 ≤ t325 then ((psalterylaw03_knows.f k).bind fun t328 => (some t328)) else (some false))) else (some false)) = some r := H
  have A5 := Aside0.mk A50
  clear A50
  by_cases c6 : t324 = t326
  · rw [if_pos c6] at H
    have c6b0 : (t324 == t326) = true := beq_iff_eq.mpr c6
    have c6b1 : (t324 != t326) = false := bne_eq_false_iff_eq.mpr c6
    clear c6
    by_cases c7 : a0 > a1
    · rw [if_pos c7] at H
      have c7b0 : decide (a1 < a0) = true := decide_eq_true c7
      clear c7
      replace H := Option.bind_eq_some_iff.mp H
      obtain ⟨t327, A80, H⟩ := H
      replace H : (some t327) = some r := H
      have A8 := Aside0.mk A80
      clear A80
      obtain rfl := Option.some.inj H
      go_enter Try.func9, Try.ntmps9
      go_wp2_with (first | ((with_reducible refine gate_callee (f := 28) rfl ?_); refine goesL_ (some 8) rfl rfl Try.func28 (by kernel_rfl) rfl #[.int .u64 a0] rfl (by (try simp only [List.map_toArray, List.map_cons, List.map_nil]); first | done | rfl | (simp only [List.length_drop, List.length_take]; rfl)) ?_; (with_reducible refine (num_Sqrt.calls k a0 t324 _ A3.out).mono ?_); rintro e w' ⟨rfl, ⟨nd, rfl⟩⟩; refine ⟨_, rfl, ?_⟩) | ((with_reducible refine gate_callee (f := 28) rfl ?_); refine goesL_ (some 10) rfl rfl Try.func28 (by kernel_rfl) rfl #[.int .u64 a1] rfl (by (try simp only [List.map_toArray, List.map_cons, List.map_nil]); first | done | rfl | (simp only [List.length_drop, List.length_take]; rfl)) ?_; (with_reducible refine (num_Sqrt.calls k a1 t325 _ A4.out).mono ?_); rintro e w' ⟨rfl, ⟨nd, rfl⟩⟩; refine ⟨_, rfl, ?_⟩) | ((with_reducible refine gate_callee (f := 29) rfl ?_); refine goesL_ (some 13) rfl rfl Try.func29 (by kernel_rfl) rfl #[.int .u64 a0] rfl (by (try simp only [List.map_toArray, List.map_cons, List.map_nil]); first | done | rfl | (simp only [List.length_drop, List.length_take]; rfl)) ?_; (with_reducible refine (psalteryref03_Sqrt.calls k a0 t326 _ A5.out).mono ?_); rintro e w' ⟨rfl, ⟨nd, rfl⟩⟩; refine ⟨_, rfl, ?_⟩) | (go_at_call 30; (with_reducible refine (psalterylaw03_knows.calls k  t327 _ A8.out).mono ?_); rintro e w9 ⟨rfl, hb⟩; have n0_ := Aside0.mk (below_step (by repeat (first | (with_reducible first | exact HB.out | apply below_alloc | apply pw_below_drewN | apply below_drew1) | exact HB.out)) hb); clear HB; have HB := n0_; clear n0_; (try clear hb); (try clear hb2); (try clear hk); (try clear hi)))
      go_ret
      exact ⟨by first | rfl | (simp [errW_none, errW_some] <;> rfl) | (simp [*, errW_none, errW_some] <;> rfl), by repeat (first | (with_reducible first | exact HB.out | apply below_alloc | apply pw_below_drewN | apply below_drew1) | exact HB.out)⟩
    · rw [if_neg c7] at H
      have c7b0 : decide (a1 < a0) = false := decide_eq_false c7
      clear c7
      by_cases c10 : t324 ≤ t325
      · rw [if_pos c10] at H
        have c10b0 : decide (t324 ≤ t325) = true := decide_eq_true c10
        clear c10
        replace H := Option.bind_eq_some_iff.mp H
        obtain ⟨t328, A110, H⟩ := H
        replace H : (some t328) = some r := H
        have A11 := Aside0.mk A110
        clear A110
        obtain rfl := Option.some.inj H
        go_enter Try.func9, Try.ntmps9
        go_wp2_with (first | ((with_reducible refine gate_callee (f := 28) rfl ?_); refine goesL_ (some 8) rfl rfl Try.func28 (by kernel_rfl) rfl #[.int .u64 a0] rfl (by (try simp only [List.map_toArray, List.map_cons, List.map_nil]); first | done | rfl | (simp only [List.length_drop, List.length_take]; rfl)) ?_; (with_reducible refine (num_Sqrt.calls k a0 t324 _ A3.out).mono ?_); rintro e w' ⟨rfl, ⟨nd, rfl⟩⟩; refine ⟨_, rfl, ?_⟩) | ((with_reducible refine gate_callee (f := 28) rfl ?_); refine goesL_ (some 10) rfl rfl Try.func28 (by kernel_rfl) rfl #[.int .u64 a1] rfl (by (try simp only [List.map_toArray, List.map_cons, List.map_nil]); first | done | rfl | (simp only [List.length_drop, List.length_take]; rfl)) ?_; (with_reducible refine (num_Sqrt.calls k a1 t325 _ A4.out).mono ?_); rintro e w' ⟨rfl, ⟨nd, rfl⟩⟩; refine ⟨_, rfl, ?_⟩) | ((with_reducible refine gate_callee (f := 29) rfl ?_); refine goesL_ (some 13) rfl rfl Try.func29 (by kernel_rfl) rfl #[.int .u64 a0] rfl (by (try simp only [List.map_toArray, List.map_cons, List.map_nil]); first | done | rfl | (simp only [List.length_drop, List.length_take]; rfl)) ?_; (with_reducible refine (psalteryref03_Sqrt.calls k a0 t326 _ A5.out).mono ?_); rintro e w' ⟨rfl, ⟨nd, rfl⟩⟩; refine ⟨_, rfl, ?_⟩) | (go_at_call 30; (with_reducible refine (psalterylaw03_knows.calls k  t328 _ A11.out).mono ?_); rintro e w12 ⟨rfl, hb⟩; have n0_ := Aside0.mk (below_step (by repeat (first | (with_reducible first | exact HB.out | apply below_alloc | apply pw_below_drewN | apply below_drew1) | exact HB.out)) hb); clear HB; have HB := n0_; clear n0_; (try clear hb); (try clear hb2); (try clear hk); (try clear hi)))
        go_ret
        exact ⟨by first | rfl | (simp [errW_none, errW_some] <;> rfl) | (simp [*, errW_none, errW_some] <;> rfl), by repeat (first | (with_reducible first | exact HB.out | apply below_alloc | apply pw_below_drewN | apply below_drew1) | exact HB.out)⟩
      · rw [if_neg c10] at H
        have c10b0 : decide (t324 ≤ t325) = false := decide_eq_false c10
        clear c10
        exact absurd ((Option.some.inj H).trans HT.out) (by decide)
  · rw [if_neg c6] at H
    have c6b0 : (t324 == t326) = false := beq_eq_false_iff_ne.mpr c6
    have c6b1 : (t324 != t326) = true := bne_iff_ne.mpr c6
    exact absurd ((Option.some.inj H).trans HT.out) (by decide)

/-- THE ONE PURE STATEMENT of psalterylaw03_NumRoots: yours. -/
def psalterylaw03_NumRoots.Pure : Prop := ∀ (a0 : Int) (a1 : Int), (Lit.int .u64 a0).wf = true → (Lit.int .u64 a1).wf = true → ∃ k, psalterylaw03_NumRoots.f k a0 a1 = some true
theorem psalterylaw03_NumRoots.walk (P : psalterylaw03_NumRoots.Pure) (a0 : Int) (a1 : Int) (w : World) (w0 : (Lit.int .u64 a0).wf = true) (w1 : (Lit.int .u64 a1).wf = true) :
    Calls Try.prog 9 #[.int .u64 a0, .int .u64 a1] w fun e w' => e = .returned (.bool true) ∧ Below w.heap.size w w' := by
  obtain ⟨k, h⟩ := P a0 a1 w0 w1
  refine (psalterylaw03_NumRoots.calls k a0 a1 true w h rfl).mono ?_
  rintro e w' ⟨rfl, hd⟩
  exact ⟨rfl, hd⟩

end Go.Proofs.Ytajnllkkgedgfaa.P
