-- PRINTED by print.py (a twelfth state) out of the translation. Not trusted: Lean checks it.
import Derived.Test.YtajnllkkgedgfaaPx0
import Derived.Test.YtajnllkkgedgfaaPx28
import Derived.Test.YtajnllkkgedgfaaPx31
import Derived.Test.YtajnllkkgedgfaaPx37
namespace Go.Proofs.Ytajnllkkgedgfaa.P
open Go.RowKit Go.Proofs.YtajnllkkgedgfaaW.PrintWords Go.Proofs.YtajnllkkgedgfaaW.PrintLast Go.Proofs.YtajnllkkgedgfaaW.PrintMore
attribute [local go_sem] max2_int min2_int max_two min_two max_three min_three max_four min_four   -- for this text's walks alone
set_option linter.unusedVariables false
set_option linter.unusedSimpArgs false

/-! ### psalterylaw03_NumDivs: function 12 -/
def psalterylaw03_NumDivs.f (k : Nat) (a0 : Int) (a1 : Int) : Option (Bool) := (num_Div.f a0 a1).bind fun bt341 => (if a1 < 1 then (if bt341.1 = 0 then (if bt341.2 = 1 then ((psalterylaw03_knows.f k).bind fun t343 => (some t343)) else (some false)) else (some false)) else ((psalteryref03_Div.f k a0 a1).bind fun t344 => (if bt341.1 = t344 then (if bt341.2 = 0 then ((psalterylaw03_knows.f k).bind fun t345 => (some t345)) else (some false)) else (some false))))
theorem psalterylaw03_NumDivs.mono : ∀ a0 a1 k, LeO (psalterylaw03_NumDivs.f k a0 a1) (psalterylaw03_NumDivs.f (k + 1) a0 a1) := by
  intro a0 a1 k
  unfold psalterylaw03_NumDivs.f
  repeat' first
      | (with_reducible exact psalterylaw03_knows.mono _)
      | (with_reducible exact psalteryref03_Div.mono _ _ _)
      | (with_reducible exact LeO.refl _)
      | (with_reducible exact LeO.none _)
      | (with_reducible refine LeO.ite ?_ ?_)
      | (with_reducible refine LeO.bind ?_ (fun _ => ?_))
      | exact psalterylaw03_knows.mono _
      | exact psalteryref03_Div.mono _ _ _
      | exact LeO.none _
      | refine LeO.ite ?_ ?_
      | refine LeO.bind ?_ (fun _ => ?_)
set_option maxHeartbeats 8000000 in
set_option maxRecDepth 100000 in
theorem psalterylaw03_NumDivs.calls (k : Nat) (a0 : Int) (a1 : Int) (r : Bool) (w : World) (h : psalterylaw03_NumDivs.f k a0 a1 = some r) (hT : r = true) :
    Calls Try.prog 12 #[.int .i64 a0, .int .i64 a1] w fun e w' => e = .returned (.bool r) ∧ Below w.heap.size w w' := by
  have HB := Aside0.mk (Below.refl w.heap.size w)
  have H : ((num_Div.f a0 a1).bind fun bt341 => (if a1 < 1 then (if bt341.1 = 0 then (if bt341.2 = 1 then ((psalterylaw03_knows.f k).bind fun t343 => (some t343)) else (some false)) else (some false)) else ((psalteryref03_Div.f k a0 a1).bind fun t344 => (if bt341.1 = t344 then (if bt341.2 = 0 then ((psalterylaw03_knows.f k).bind fun t345 => (some t345)) else (some false)) else (some false))))) = some r := h
  clear h
  have HT := Aside0.mk hT
  clear hT
  replace H := Option.bind_eq_some_iff.mp H
  obtain ⟨⟨t341, t342⟩, A30, H⟩ := H
  replace H : (if a1 < 1 then (if t341 = 0 then (if t342 = 1 then ((psalterylaw03_knows.f k).bind fun t343 => (some t343)) else (some false)) else (some false)) else ((psalteryref03_Div.f k a0 a1).bind fun t344 => (if t341 = t344 then (if t342 = 0 then ((psalterylaw03_knows.f k).bind fun t345 => (some t345)) else (some false)) else (some false)))) = some r := H
  have A3 := Aside0.mk A30
  clear A30
  by_cases c4 : a1 < 1
  · rw [if_pos c4] at H
    have c4b0 : decide (a1 < 1) = true := decide_eq_true c4
    clear c4
    by_cases c5 : t341 = 0
    · rw [if_pos c5] at H
      have c5b0 : (t341 == 0) = true := beq_iff_eq.mpr c5
      have c5b1 : (t341 != 0) = false := bne_eq_false_iff_eq.mpr c5
      clear c5
      by_cases c6 : t342 = 1
      · rw [if_pos c6] at H
        have c6b0 : (t342 == 1) = true := beq_iff_eq.mpr c6
        have c6b1 : (t342 != 1) = false := bne_eq_false_iff_eq.mpr c6
        clear c6
        replace H := Option.bind_eq_some_iff.mp H
        obtain ⟨t343, A70, H⟩ := H
        replace H : (some t343) = some r := H
        have A7 := Aside0.mk A70
        clear A70
        obtain rfl := Option.some.inj H
        go_enter Try.func12, Try.ntmps12
        go_wp2_with (first | ((with_reducible refine gate_callee (f := 35) rfl ?_); refine goesL_ (some 10) rfl rfl Try.func35 (by kernel_rfl) rfl #[.int .i64 a0, .int .i64 a1] rfl (by (try simp only [List.map_toArray, List.map_cons, List.map_nil]); first | done | rfl | (simp only [List.length_drop, List.length_take]; rfl)) ?_; (with_reducible refine (num_Div.calls a0 a1 t341 t342 _ A3.out).mono ?_); rintro e w' ⟨rfl, ⟨nd, rfl⟩⟩; refine ⟨_, rfl, ?_⟩) | (go_at_call 30; (with_reducible refine (psalterylaw03_knows.calls k  t343 _ A7.out).mono ?_); rintro e w8 ⟨rfl, hb⟩; have n0_ := Aside0.mk (below_step (by repeat (first | (with_reducible first | exact HB.out | apply below_alloc | apply pw_below_drewN | apply below_drew1) | exact HB.out)) hb); clear HB; have HB := n0_; clear n0_; (try clear hb); (try clear hb2); (try clear hk); (try clear hi)))
        go_ret
        exact ⟨by first | rfl | (simp [errW_none, errW_some] <;> rfl) | (simp [*, errW_none, errW_some] <;> rfl), by repeat (first | (with_reducible first | exact HB.out | apply below_alloc | apply pw_below_drewN | apply below_drew1) | exact HB.out)⟩
      · rw [if_neg c6] at H
        have c6b0 : (t342 == 1) = false := beq_eq_false_iff_ne.mpr c6
        have c6b1 : (t342 != 1) = true := bne_iff_ne.mpr c6
        exact absurd ((Option.some.inj H).trans HT.out) (by decide)
    · rw [if_neg c5] at H
      have c5b0 : (t341 == 0) = false := beq_eq_false_iff_ne.mpr c5
      have c5b1 : (t341 != 0) = true := bne_iff_ne.mpr c5
      exact absurd ((Option.some.inj H).trans HT.out) (by decide)
  · rw [if_neg c4] at H
    have c4b0 : decide (a1 < 1) = false := decide_eq_false c4
    clear c4
    replace H := Option.bind_eq_some_iff.mp H
    obtain ⟨t344, A90, H⟩ := H
    replace H : (if t341 = t344 then (if t342 = 0 then ((psalterylaw03_knows.f k).bind fun t345 => (some t345)) else (some false)) else (some false)) = some r := H
    have A9 := Aside0.mk A90
    clear A90
    by_cases c10 : t341 = t344
    · rw [if_pos c10] at H
      have c10b0 : (t341 == t344) = true := beq_iff_eq.mpr c10
      have c10b1 : (t341 != t344) = false := bne_eq_false_iff_eq.mpr c10
      clear c10
      by_cases c11 : t342 = 0
      · rw [if_pos c11] at H
        have c11b0 : (t342 == 0) = true := beq_iff_eq.mpr c11
        have c11b1 : (t342 != 0) = false := bne_eq_false_iff_eq.mpr c11
        clear c11
        replace H := Option.bind_eq_some_iff.mp H
        obtain ⟨t345, A120, H⟩ := H
        replace H : (some t345) = some r := H
        have A12 := Aside0.mk A120
        clear A120
        obtain rfl := Option.some.inj H
        go_enter Try.func12, Try.ntmps12
        go_wp2_with (first | ((with_reducible refine gate_callee (f := 35) rfl ?_); refine goesL_ (some 10) rfl rfl Try.func35 (by kernel_rfl) rfl #[.int .i64 a0, .int .i64 a1] rfl (by (try simp only [List.map_toArray, List.map_cons, List.map_nil]); first | done | rfl | (simp only [List.length_drop, List.length_take]; rfl)) ?_; (with_reducible refine (num_Div.calls a0 a1 t341 t342 _ A3.out).mono ?_); rintro e w' ⟨rfl, ⟨nd, rfl⟩⟩; refine ⟨_, rfl, ?_⟩) | ((with_reducible refine gate_callee (f := 36) rfl ?_); refine goesL_ (some 27) rfl rfl Try.func36 (by kernel_rfl) rfl #[.int .i64 a0, .int .i64 a1] rfl (by (try simp only [List.map_toArray, List.map_cons, List.map_nil]); first | done | rfl | (simp only [List.length_drop, List.length_take]; rfl)) ?_; (with_reducible refine (psalteryref03_Div.calls k a0 a1 t344 _ A9.out).mono ?_); rintro e w' ⟨rfl, ⟨nd, rfl⟩⟩; refine ⟨_, rfl, ?_⟩) | (go_at_call 30; (with_reducible refine (psalterylaw03_knows.calls k  t345 _ A12.out).mono ?_); rintro e w13 ⟨rfl, hb⟩; have n0_ := Aside0.mk (below_step (by repeat (first | (with_reducible first | exact HB.out | apply below_alloc | apply pw_below_drewN | apply below_drew1) | exact HB.out)) hb); clear HB; have HB := n0_; clear n0_; (try clear hb); (try clear hb2); (try clear hk); (try clear hi)))
        go_ret
        exact ⟨by first | rfl | (simp [errW_none, errW_some] <;> rfl) | (simp [*, errW_none, errW_some] <;> rfl), by repeat (first | (with_reducible first | exact HB.out | apply below_alloc | apply pw_below_drewN | apply below_drew1) | exact HB.out)⟩
      · rw [if_neg c11] at H
        have c11b0 : (t342 == 0) = false := beq_eq_false_iff_ne.mpr c11
        have c11b1 : (t342 != 0) = true := bne_iff_ne.mpr c11
        exact absurd ((Option.some.inj H).trans HT.out) (by decide)
    · rw [if_neg c10] at H
      have c10b0 : (t341 == t344) = false := beq_eq_false_iff_ne.mpr c10
      have c10b1 : (t341 != t344) = true := bne_iff_ne.mpr c10
      exact absurd ((Option.some.inj H).trans HT.out) (by decide)

/-- THE ONE PURE STATEMENT of psalterylaw03_NumDivs: yours. -/
def psalterylaw03_NumDivs.Pure : Prop := ∀ (a0 : Int) (a1 : Int), (Lit.int .i64 a0).wf = true → (Lit.int .i64 a1).wf = true → ∃ k, psalterylaw03_NumDivs.f k a0 a1 = some true
theorem psalterylaw03_NumDivs.walk (P : psalterylaw03_NumDivs.Pure) (a0 : Int) (a1 : Int) (w : World) (w0 : (Lit.int .i64 a0).wf = true) (w1 : (Lit.int .i64 a1).wf = true) :
    Calls Try.prog 12 #[.int .i64 a0, .int .i64 a1] w fun e w' => e = .returned (.bool true) ∧ Below w.heap.size w w' := by
  obtain ⟨k, h⟩ := P a0 a1 w0 w1
  refine (psalterylaw03_NumDivs.calls k a0 a1 true w h rfl).mono ?_
  rintro e w' ⟨rfl, hd⟩
  exact ⟨rfl, hd⟩

end Go.Proofs.Ytajnllkkgedgfaa.P
