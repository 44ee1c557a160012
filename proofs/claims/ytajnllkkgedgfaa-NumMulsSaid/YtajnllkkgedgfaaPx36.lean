-- PRINTED by print.py (a twelfth state) out of the translation. Not trusted: Lean checks it.
import Derived.Test.YtajnllkkgedgfaaPx0
import Derived.Test.YtajnllkkgedgfaaPx26
import Derived.Test.YtajnllkkgedgfaaPx31
import Derived.Test.YtajnllkkgedgfaaPx35
namespace Go.Proofs.Ytajnllkkgedgfaa.P
open Go.RowKit Go.Proofs.YtajnllkkgedgfaaW.PrintWords Go.Proofs.YtajnllkkgedgfaaW.PrintLast Go.Proofs.YtajnllkkgedgfaaW.PrintMore
attribute [local go_sem] max2_int min2_int max_two min_two max_three min_three max_four min_four   -- for this text's walks alone
set_option linter.unusedVariables false
set_option linter.unusedSimpArgs false

/-! ### psalterylaw03_NumMuls: function 11 -/
def psalterylaw03_NumMuls.f (k : Nat) (a0 : Int) (a1 : Int) : Option (Bool) := (num_Mul.f a0 a1).bind fun bt336 => ((psalteryref03_Mul.f k a0 a1).bind fun bt338 => (if bt336.1 = bt338.1 then (if bt336.2 = bt338.2 then ((psalterylaw03_knows.f k).bind fun t340 => (some t340)) else (some false)) else (some false)))
theorem psalterylaw03_NumMuls.mono : ∀ a0 a1 k, LeO (psalterylaw03_NumMuls.f k a0 a1) (psalterylaw03_NumMuls.f (k + 1) a0 a1) := by
  intro a0 a1 k
  unfold psalterylaw03_NumMuls.f
  repeat' first
      | (with_reducible exact psalterylaw03_knows.mono _)
      | (with_reducible exact psalteryref03_Mul.mono _ _ _)
      | (with_reducible exact LeO.refl _)
      | (with_reducible exact LeO.none _)
      | (with_reducible refine LeO.ite ?_ ?_)
      | (with_reducible refine LeO.bind ?_ (fun _ => ?_))
      | exact psalterylaw03_knows.mono _
      | exact psalteryref03_Mul.mono _ _ _
      | exact LeO.none _
      | refine LeO.ite ?_ ?_
      | refine LeO.bind ?_ (fun _ => ?_)
set_option maxHeartbeats 8000000 in
set_option maxRecDepth 100000 in
theorem psalterylaw03_NumMuls.calls (k : Nat) (a0 : Int) (a1 : Int) (r : Bool) (w : World) (h : psalterylaw03_NumMuls.f k a0 a1 = some r) (hT : r = true) :
    Calls Try.prog 11 #[.int .u64 a0, .int .u64 a1] w fun e w' => e = .returned (.bool r) ∧ Below w.heap.size w w' := by
  have HB := Aside0.mk (Below.refl w.heap.size w)
  have H : ((num_Mul.f a0 a1).bind fun bt336 => ((psalteryref03_Mul.f k a0 a1).bind fun bt338 => (if bt336.1 = bt338.1 then (if bt336.2 = bt338.2 then ((psalterylaw03_knows.f k).bind fun t340 => (some t340)) else (some false)) else (some false)))) = some r := h
  clear h
  have HT := Aside0.mk hT
  clear hT
  replace H := Option.bind_eq_some_iff.mp H
  obtain ⟨⟨t336, t337⟩, A30, H⟩ := H
  replace H : ((psalteryref03_Mul.f k a0 a1).bind fun bt338 => (if t336 = bt338.1 then (if t337 = bt338.2 then ((psalterylaw03_knows.f k).bind fun t340 => (some t340)) else (some false)) else (some false))) = some r := H
  have A3 := Aside0.mk A30
  clear A30
  replace H := Option.bind_eq_some_iff.mp H
  obtain ⟨⟨t338, t339⟩, A40, H⟩ := H
  replace H : (if t336 = t338 then (if t337 = t339 then ((psalterylaw03_knows.f k).bind fun t340 => (some t340)) else (some false)) else (some false)) = some r := H
  have A4 := Aside0.mk A40
  clear A40
  by_cases c5 : t336 = t338
  · rw [if_pos c5] at H
    have c5b0 : (t336 == t338) = true := beq_iff_eq.mpr c5
    have c5b1 : (t336 != t338) = false := bne_eq_false_iff_eq.mpr c5
    clear c5
    by_cases c6 : t337 = t339
    · rw [if_pos c6] at H
      have c6b0 : (t337 == t339) = true := beq_iff_eq.mpr c6
      have c6b1 : (t337 != t339) = false := bne_eq_false_iff_eq.mpr c6
      clear c6
      replace H := Option.bind_eq_some_iff.mp H
      obtain ⟨t340, A70, H⟩ := H
      replace H : (some t340) = some r := H
      have A7 := Aside0.mk A70
      clear A70
      obtain rfl := Option.some.inj H
      go_enter Try.func11, Try.ntmps11
      go_wp2_with (first | ((with_reducible refine gate_callee (f := 33) rfl ?_); refine goesL_ (some 12) rfl rfl Try.func33 (by kernel_rfl) rfl #[.int .u64 a0, .int .u64 a1] rfl (by (try simp only [List.map_toArray, List.map_cons, List.map_nil]); first | done | rfl | (simp only [List.length_drop, List.length_take]; rfl)) ?_; (with_reducible refine (num_Mul.calls a0 a1 t336 t337 _ A3.out).mono ?_); rintro e w8 ⟨rfl, hb⟩; refine ⟨_, rfl, ?_⟩; have n0_ := Aside0.mk (below_step (by repeat (first | (with_reducible first | exact HB.out | apply below_alloc | apply pw_below_drewN | apply below_drew1) | exact HB.out)) hb); clear HB; have HB := n0_; clear n0_; (try clear hb); (try clear hb2); (try clear hk); (try clear hi)) | ((with_reducible refine gate_callee (f := 34) rfl ?_); refine goesL_ (some 18) rfl rfl Try.func34 (by kernel_rfl) rfl #[.int .u64 a0, .int .u64 a1] rfl (by (try simp only [List.map_toArray, List.map_cons, List.map_nil]); first | done | rfl | (simp only [List.length_drop, List.length_take]; rfl)) ?_; (with_reducible refine (psalteryref03_Mul.calls k a0 a1 t338 t339 _ A4.out).mono ?_); rintro e w' ⟨rfl, ⟨nd, rfl⟩⟩; refine ⟨_, rfl, ?_⟩) | (go_at_call 30; (with_reducible refine (psalterylaw03_knows.calls k  t340 _ A7.out).mono ?_); rintro e w9 ⟨rfl, hb⟩; have n0_ := Aside0.mk (below_step (by repeat (first | (with_reducible first | exact HB.out | apply below_alloc | apply pw_below_drewN | apply below_drew1) | exact HB.out)) hb); clear HB; have HB := n0_; clear n0_; (try clear hb); (try clear hb2); (try clear hk); (try clear hi)))
      go_ret
      exact ⟨by first | rfl | (simp [errW_none, errW_some] <;> rfl) | (simp [*, errW_none, errW_some] <;> rfl), by repeat (first | (with_reducible first | exact HB.out | apply below_alloc | apply pw_below_drewN | apply below_drew1) | exact HB.out)⟩
    · rw [if_neg c6] at H
      have c6b0 : (t337 == t339) = false := beq_eq_false_iff_ne.mpr c6
      have c6b1 : (t337 != t339) = true := bne_iff_ne.mpr c6
      exact absurd ((Option.some.inj H).trans HT.out) (by decide)
  · rw [if_neg c5] at H
    have c5b0 : (t336 == t338) = false := beq_eq_false_iff_ne.mpr c5
    have c5b1 : (t336 != t338) = true := bne_iff_ne.mpr c5
    exact absurd ((Option.some.inj H).trans HT.out) (by decide)

/-- THE ONE PURE STATEMENT of psalterylaw03_NumMuls: yours. -/
def psalterylaw03_NumMuls.Pure : Prop := ∀ (a0 : Int) (a1 : Int), (Lit.int .u64 a0).wf = true → (Lit.int .u64 a1).wf = true → ∃ k, psalterylaw03_NumMuls.f k a0 a1 = some true
theorem psalterylaw03_NumMuls.walk (P : psalterylaw03_NumMuls.Pure) (a0 : Int) (a1 : Int) (w : World) (w0 : (Lit.int .u64 a0).wf = true) (w1 : (Lit.int .u64 a1).wf = true) :
    Calls Try.prog 11 #[.int .u64 a0, .int .u64 a1] w fun e w' => e = .returned (.bool true) ∧ Below w.heap.size w w' := by
  obtain ⟨k, h⟩ := P a0 a1 w0 w1
  refine (psalterylaw03_NumMuls.calls k a0 a1 true w h rfl).mono ?_
  rintro e w' ⟨rfl, hd⟩
  exact ⟨rfl, hd⟩

end Go.Proofs.Ytajnllkkgedgfaa.P
