-- PRINTED by print.py (a twelfth state) out of the translation. Not trusted: Lean checks it.
import Derived.Test.YtajnllkkgedgfaaPx0
import Derived.Test.YtajnllkkgedgfaaPx23
import Derived.Test.YtajnllkkgedgfaaPx25
import Derived.Test.YtajnllkkgedgfaaPx26
import Derived.Test.YtajnllkkgedgfaaPx28
import Derived.Test.YtajnllkkgedgfaaPx29
import Derived.Test.YtajnllkkgedgfaaPx30
namespace Go.Proofs.Ytajnllkkgedgfaa.P
open Go.RowKit Go.Proofs.YtajnllkkgedgfaaW.PrintWords Go.Proofs.YtajnllkkgedgfaaW.PrintLast Go.Proofs.YtajnllkkgedgfaaW.PrintMore
attribute [local go_sem] max2_int min2_int max_two min_two max_three min_three max_four min_four   -- for this text's walks alone
set_option linter.unusedVariables false
set_option linter.unusedSimpArgs false

/-! ### psalterylaw03_knows: function 30 -/
def psalterylaw03_knows.f (k : Nat)  : Option (Bool) := (num_Mul.f 9223372036854775808 6).bind fun bt313 => ((num_Div.f (-5) 2).bind fun bt315 => ((num_Shift.f (-5) 1).bind fun bt317 => ((num_Sqrt.f k 24).bind fun t319 => (if t319 = 4 then ((num_Sqrt.f k 25).bind fun t320 => (if t320 = 5 then ((num_Log2.f k 0).bind fun t321 => (if t321 = (-1) then ((num_Log2.f k 1023).bind fun t322 => (if t322 = 9 then (if bt313.1 = 3 then (if bt313.2 = 0 then (if bt315.1 = (-3) then (if bt315.2 = 0 then (if bt317.1 = (-3) then (if bt317.2 = 0 then ((num_Clamp.f 9 1 5).bind fun t323 => (some (t323 == 5))) else (some false)) else (some false)) else (some false)) else (some false)) else (some false)) else (some false)) else (some false))) else (some false))) else (some false))) else (some false)))))
theorem psalterylaw03_knows.mono : ∀ k, LeO (psalterylaw03_knows.f k ) (psalterylaw03_knows.f (k + 1) ) := by
  intro  k
  unfold psalterylaw03_knows.f
  repeat' first
      | (with_reducible exact num_Log2.mono _ _)
      | (with_reducible exact num_Sqrt.mono _ _)
      | (with_reducible exact LeO.refl _)
      | (with_reducible exact LeO.none _)
      | (with_reducible refine LeO.ite ?_ ?_)
      | (with_reducible refine LeO.bind ?_ (fun _ => ?_))
      | exact num_Log2.mono _ _
      | exact num_Sqrt.mono _ _
      | exact LeO.none _
      | refine LeO.ite ?_ ?_
      | refine LeO.bind ?_ (fun _ => ?_)
set_option maxHeartbeats 8000000 in
set_option maxRecDepth 100000 in
theorem psalterylaw03_knows.callsT (k : Nat)  (r : Bool) (w : World) (h : psalterylaw03_knows.f k  = some r) (hT : r = true) :
    Calls Try.prog 30 #[] w fun e w' => e = .returned (.bool r) ∧ Below w.heap.size w w' := by
  have HB := Aside0.mk (Below.refl w.heap.size w)
  have H : ((num_Mul.f 9223372036854775808 6).bind fun bt313 => ((num_Div.f (-5) 2).bind fun bt315 => ((num_Shift.f (-5) 1).bind fun bt317 => ((num_Sqrt.f k 24).bind fun t319 => (if t319 = 4 then ((num_Sqrt.f k 25).bind fun t320 => (if t320 = 5 then ((num_Log2.f k 0).bind fun t321 => (if t321 = (-1) then ((num_Log2.f k 1023).bind fun t322 => (if t322 = 9 then (if bt313.1 = 3 then (if bt313.2 = 0 then (if bt315.1 = (-3) then (if bt315.2 = 0 then (if bt317.1 = (-3) then (if bt317.2 = 0 then ((num_Clamp.f 9 1 5).bind fun t323 => (some (t323 == 5))) else (some false)) else (some false)) else (some false)) else (some false)) else (some false)) else (some false)) else (some false))) else (some false))) else (some false))) else (some false)))))) = some r := h
  clear h
  have HT := Aside0.mk hT
  clear hT
  replace H := Option.bind_eq_some_iff.mp H
  obtain ⟨⟨t313, t314⟩, A10, H⟩ := H
  replace H : ((num_Div.f (-5) 2).bind fun bt315 => ((num_Shift.f (-5) 1).bind fun bt317 => ((num_Sqrt.f k 24).bind fun t319 => (if t319 = 4 then ((num_Sqrt.f k 25).bind fun t320 => (if t320 = 5 then ((num_Log2.f k 0).bind fun t321 => (if t321 = (-1) then ((num_Log2.f k 1023).bind fun t322 => (if t322 = 9 then (if t313 = 3 then (if t314 = 0 then (if bt315.1 = (-3) then (if bt315.2 = 0 then (if bt317.1 = (-3) then (if bt317.2 = 0 then ((num_Clamp.f 9 1 5).bind fun t323 => (some (t323 == 5))) else (some false)) else (some false)) else (some false)) else (some false)) else (some false)) else (some false)) else (some false))) else (some false))) else (some false))) else (some false))))) = some r := H
  have A1 := Aside0.mk A10
  clear A10
  replace H := Option.bind_eq_some_iff.mp H
  obtain ⟨⟨t315, t316⟩, A20, H⟩ := H
  replace H : ((num_Shift.f (-5) 1).bind fun bt317 => ((num_Sqrt.f k 24).bind fun t319 => (if t319 = 4 then ((num_Sqrt.f k 25).bind fun t320 => (if t320 = 5 then ((num_Log2.f k 0).bind fun t321 => (if t321 = (-1) then ((num_Log2.f k 1023).bind fun t322 => (if t322 = 9 then (if t313 = 3 then (if t314 = 0 then (if t315 = (-3) then (if t316 = 0 then (if bt317.1 = (-3) then (if bt317.2 = 0 then ((num_Clamp.f 9 1 5).bind fun t323 => (some (t323 == 5))) else (some false)) else (some false)) else (some false)) else (some false)) else (some false)) else (some false)) else (some false))) else (some false))) else (some false))) else (some false)))) = some r := H
  have A2 := Aside0.mk A20
  clear A20
  replace H := Option.bind_eq_some_iff.mp H
  obtain ⟨⟨t317, t318⟩, A30, H⟩ := H
  replace H : ((num_Sqrt.f k 24).bind fun t319 => (if t319 = 4 then ((num_Sqrt.f k 25).bind fun t320 => (if t320 = 5 then ((num_Log2.f k 0).bind fun t321 => (if t321 = (-1) then ((num_Log2.f k 1023).bind fun t322 => (if t322 = 9 then (if t313 = 3 then (if t314 = 0 then (if t315 = (-3) then (if t316 = 0 then (if t317 = (-3) then (if t318 = 0 then ((num_Clamp.f 9 1 5).bind fun t323 => (some (t323 == 5))) else (some false)) else (some false)) else (some false)) else (some false)) else (some false)) else (some false)) else (some false))) else (some false))) else (some false))) else (some false))) = some r := H
  have A3 := Aside0.mk A30
  clear A30
  replace H := Option.bind_eq_some_iff.mp H
  obtain ⟨t319, A40, H⟩ := H
  replace H : (if t319 = 4 then ((num_Sqrt.f k 25).bind fun t320 => (if t320 = 5 then ((num_Log2.f k 0).bind fun t321 => (if t321 = (-1) then ((num_Log2.f k 1023).bind fun t322 => (if t322 = 9 then (if t313 = 3 then (if t314 = 0 then (if t315 = (-3) then (if t316 = 0 then (if t317 = (-3) then (if t318 = 0 then ((num_Clamp.f 9 1 5).bind fun t323 => (some (t323 == 5))) else (some false)) else (some false)) else (some false)) else (some false)) else (some false)) else (some false)) else (some false))) else (some false))) else (some false))) else (some false)) = some r := H
  have A4 := Aside0.mk A40
  clear A40
  by_cases c5 : t319 = 4
  · rw [if_pos c5] at H
    have c5b0 : (t319 == 4) = true := beq_iff_eq.mpr c5
    have c5b1 : (t319 != 4) = false := bne_eq_false_iff_eq.mpr c5
    clear c5
    replace H := Option.bind_eq_some_iff.mp H
    obtain ⟨t320, A60, H⟩ := H
    replace H : (if t320 = 5 then ((num_Log2.f k 0).bind fun t321 => (if t321 = (-1) then ((num_Log2.f k 1023).bind fun t322 => (if t322 = 9 then (if t313 = 3 then (if t314 = 0 then (if t315 = (-3) then (if t316 = 0 then (if t317 = (-3) then (if t318 = 0 then ((num_Clamp.f 9 1 5).bind fun t323 => (some (t323 == 5))) else (some false)) else (some false)) else (some false)) else (some false)) else (some false)) else (some false)) else (some false))) else (some false))) else (some false)) = some r := H
    have A6 := Aside0.mk A60
    clear A60
    by_cases c7 : t320 = 5
    · rw [if_pos c7] at H
      have c7b0 : (t320 == 5) = true := beq_iff_eq.mpr c7
      have c7b1 : (t320 != 5) = false := bne_eq_false_iff_eq.mpr c7
      clear c7
      replace H := Option.bind_eq_some_iff.mp H
      obtain ⟨t321, A80, H⟩ := H
      replace H : (if t321 = (-1) then ((num_Log2.f k 1023).bind fun t322 => (if t322 = 9 then (if t313 = 3 then (if t314 = 0 then (if t315 = (-3) then (if t316 = 0 then (if t317 = (-3) then (if t318 = 0 then ((num_Clamp.f 9 1 5).bind fun t323 => (some (t323 == 5))) else (some false)) else (some false)) else (some false)) else (some false)) else (some false)) else (some false)) else (some false))) else (some false)) = some r := H
      have A8 := Aside0.mk A80
      clear A80
      by_cases c9 : t321 = (-1)
      · rw [if_pos c9] at H
        have c9b0 : (t321 == (-1)) = true := beq_iff_eq.mpr c9
        have c9b1 : (t321 != (-1)) = false := bne_eq_false_iff_eq.mpr c9
        clear c9
        replace H := Option.bind_eq_some_iff.mp H
        obtain ⟨t322, A100, H⟩ := H
        replace H : (if t322 = 9 then (if t313 = 3 then (if t314 = 0 then (if t315 = (-3) then (if t316 = 0 then (if t317 = (-3) then (if t318 = 0 then ((num_Clamp.f 9 1 5).bind fun t323 => (some (t323 == 5))) else (some false)) else (some false)) else (some false)) else (some false)) else (some false)) else (some false)) else (some false)) = some r := H
        have A10 := Aside0.mk A100
        clear A100
        by_cases c11 : t322 = 9
        · rw [if_pos c11] at H
          have c11b0 : (t322 == 9) = true := beq_iff_eq.mpr c11
          have c11b1 : (t322 != 9) = false := bne_eq_false_iff_eq.mpr c11
          clear c11
          by_cases c12 : t313 = 3
          · rw [if_pos c12] at H
            have c12b0 : (t313 == 3) = true := beq_iff_eq.mpr c12
            have c12b1 : (t313 != 3) = false := bne_eq_false_iff_eq.mpr c12
            clear c12
            by_cases c13 : t314 = 0
            · rw [if_pos c13] at H
              have c13b0 : (t314 == 0) = true := beq_iff_eq.mpr c13
              have c13b1 : (t314 != 0) = false := bne_eq_false_iff_eq.mpr c13
              clear c13
              by_cases c14 : t315 = (-3)
              · rw [if_pos c14] at H
                have c14b0 : (t315 == (-3)) = true := beq_iff_eq.mpr c14
                have c14b1 : (t315 != (-3)) = false := bne_eq_false_iff_eq.mpr c14
                clear c14
                by_cases c15 : t316 = 0
                · rw [if_pos c15] at H
                  have c15b0 : (t316 == 0) = true := beq_iff_eq.mpr c15
                  have c15b1 : (t316 != 0) = false := bne_eq_false_iff_eq.mpr c15
                  clear c15
                  by_cases c16 : t317 = (-3)
                  · rw [if_pos c16] at H
                    have c16b0 : (t317 == (-3)) = true := beq_iff_eq.mpr c16
                    have c16b1 : (t317 != (-3)) = false := bne_eq_false_iff_eq.mpr c16
                    clear c16
                    by_cases c17 : t318 = 0
                    · rw [if_pos c17] at H
                      have c17b0 : (t318 == 0) = true := beq_iff_eq.mpr c17
                      have c17b1 : (t318 != 0) = false := bne_eq_false_iff_eq.mpr c17
                      clear c17
                      replace H := Option.bind_eq_some_iff.mp H
                      obtain ⟨t323, A180, H⟩ := H
                      replace H : (some (t323 == 5)) = some r := H
                      have A18 := Aside0.mk A180
                      clear A180
                      obtain rfl := Option.some.inj H
                      go_enter Try.func30, Try.ntmps30
                      go_wp2_with (first | ((with_reducible refine gate_callee (f := 33) rfl ?_); refine goesL_ (some 8) rfl rfl Try.func33 (by kernel_rfl) rfl #[.int .u64 9223372036854775808, .int .u64 6] rfl (by (try simp only [List.map_toArray, List.map_cons, List.map_nil]); first | done | rfl | (simp only [List.length_drop, List.length_take]; rfl)) ?_; (with_reducible refine (num_Mul.calls 9223372036854775808 6 t313 t314 _ A1.out).mono ?_); rintro e w19 ⟨rfl, hb⟩; refine ⟨_, rfl, ?_⟩; have n0_ := Aside0.mk (below_step (by repeat (first | (with_reducible first | exact HB.out | apply below_alloc | apply pw_below_drewN | apply below_drew1) | exact HB.out)) hb); clear HB; have HB := n0_; clear n0_; (try clear hb); (try clear hb2); (try clear hk); (try clear hi)) | ((with_reducible refine gate_callee (f := 35) rfl ?_); refine goesL_ (some 12) rfl rfl Try.func35 (by kernel_rfl) rfl #[.int .i64 (-5), .int .i64 2] rfl (by (try simp only [List.map_toArray, List.map_cons, List.map_nil]); first | done | rfl | (simp only [List.length_drop, List.length_take]; rfl)) ?_; (with_reducible refine (num_Div.calls (-5) 2 t315 t316 _ A2.out).mono ?_); rintro e w' ⟨rfl, ⟨nd, rfl⟩⟩; refine ⟨_, rfl, ?_⟩) | ((with_reducible refine gate_callee (f := 39) rfl ?_); refine goesL_ (some 16) rfl rfl Try.func39 (by kernel_rfl) rfl #[.int .i64 (-5), .int .i64 1] rfl (by (try simp only [List.map_toArray, List.map_cons, List.map_nil]); first | done | rfl | (simp only [List.length_drop, List.length_take]; rfl)) ?_; (with_reducible refine (num_Shift.calls (-5) 1 t317 t318 _ A3.out).mono ?_); rintro e w' ⟨rfl, ⟨nd, rfl⟩⟩; refine ⟨_, rfl, ?_⟩) | ((with_reducible refine gate_callee (f := 28) rfl ?_); refine goesL_ (some 19) rfl rfl Try.func28 (by kernel_rfl) rfl #[.int .u64 24] rfl (by (try simp only [List.map_toArray, List.map_cons, List.map_nil]); first | done | rfl | (simp only [List.length_drop, List.length_take]; rfl)) ?_; (with_reducible refine (num_Sqrt.calls k 24 t319 _ A4.out).mono ?_); rintro e w' ⟨rfl, ⟨nd, rfl⟩⟩; refine ⟨_, rfl, ?_⟩) | (go_at_call 28; (with_reducible refine (num_Sqrt.calls k 25 t320 _ A6.out).mono ?_); rintro e w' ⟨rfl, ⟨nd, rfl⟩⟩) | (go_at_call 31; (with_reducible refine (num_Log2.calls k 0 t321 _ A8.out).mono ?_); rintro e w' ⟨rfl, ⟨nd, rfl⟩⟩) | (go_at_call 31; (with_reducible refine (num_Log2.calls k 1023 t322 _ A10.out).mono ?_); rintro e w' ⟨rfl, ⟨nd, rfl⟩⟩) | (go_at_call 37; (with_reducible refine (num_Clamp.calls 9 1 5 t323 _ A18.out).mono ?_); rintro e w' ⟨rfl, ⟨nd, rfl⟩⟩))
                      go_ret
                      exact ⟨by first | rfl | (simp [errW_none, errW_some] <;> rfl) | (simp [*, errW_none, errW_some] <;> rfl), by repeat (first | (with_reducible first | exact HB.out | apply below_alloc | apply pw_below_drewN | apply below_drew1) | exact HB.out)⟩
                    · rw [if_neg c17] at H
                      have c17b0 : (t318 == 0) = false := beq_eq_false_iff_ne.mpr c17
                      have c17b1 : (t318 != 0) = true := bne_iff_ne.mpr c17
                      exact absurd ((Option.some.inj H).trans HT.out) (by decide)
                  · rw [if_neg c16] at H
                    have c16b0 : (t317 == (-3)) = false := beq_eq_false_iff_ne.mpr c16
                    have c16b1 : (t317 != (-3)) = true := bne_iff_ne.mpr c16
                    exact absurd ((Option.some.inj H).trans HT.out) (by decide)
                · rw [if_neg c15] at H
                  have c15b0 : (t316 == 0) = false := beq_eq_false_iff_ne.mpr c15
                  have c15b1 : (t316 != 0) = true := bne_iff_ne.mpr c15
                  exact absurd ((Option.some.inj H).trans HT.out) (by decide)
              · rw [if_neg c14] at H
                have c14b0 : (t315 == (-3)) = false := beq_eq_false_iff_ne.mpr c14
                have c14b1 : (t315 != (-3)) = true := bne_iff_ne.mpr c14
                exact absurd ((Option.some.inj H).trans HT.out) (by decide)
            · rw [if_neg c13] at H
              have c13b0 : (t314 == 0) = false := beq_eq_false_iff_ne.mpr c13
              have c13b1 : (t314 != 0) = true := bne_iff_ne.mpr c13
              exact absurd ((Option.some.inj H).trans HT.out) (by decide)
          · rw [if_neg c12] at H
            have c12b0 : (t313 == 3) = false := beq_eq_false_iff_ne.mpr c12
            have c12b1 : (t313 != 3) = true := bne_iff_ne.mpr c12
            exact absurd ((Option.some.inj H).trans HT.out) (by decide)
        · rw [if_neg c11] at H
          have c11b0 : (t322 == 9) = false := beq_eq_false_iff_ne.mpr c11
          have c11b1 : (t322 != 9) = true := bne_iff_ne.mpr c11
          exact absurd ((Option.some.inj H).trans HT.out) (by decide)
      · rw [if_neg c9] at H
        have c9b0 : (t321 == (-1)) = false := beq_eq_false_iff_ne.mpr c9
        have c9b1 : (t321 != (-1)) = true := bne_iff_ne.mpr c9
        exact absurd ((Option.some.inj H).trans HT.out) (by decide)
    · rw [if_neg c7] at H
      have c7b0 : (t320 == 5) = false := beq_eq_false_iff_ne.mpr c7
      have c7b1 : (t320 != 5) = true := bne_iff_ne.mpr c7
      exact absurd ((Option.some.inj H).trans HT.out) (by decide)
  · rw [if_neg c5] at H
    have c5b0 : (t319 == 4) = false := beq_eq_false_iff_ne.mpr c5
    have c5b1 : (t319 != 4) = true := bne_iff_ne.mpr c5
    exact absurd ((Option.some.inj H).trans HT.out) (by decide)
/-- The examples hold: by the kernel's own reckoning. -/
theorem psalterylaw03_knows.sure : psalterylaw03_knows.f 200 = some true := by decide +kernel
theorem psalterylaw03_knows.calls (k : Nat)  (r : Bool) (w : World) (h : psalterylaw03_knows.f k  = some r) :
    Calls Try.prog 30 #[] w fun e w' => e = .returned (.bool r) ∧ Below w.heap.size w w' :=
  psalterylaw03_knows.callsT k r w h (by
    have h1 := at_rounds (g := fun k => psalterylaw03_knows.f k) (fun k => psalterylaw03_knows.mono k) (Nat.le_add_right k 200) h
    have h2 := at_rounds (g := fun k => psalterylaw03_knows.f k) (fun k => psalterylaw03_knows.mono k) (Nat.le_add_left 200 k) psalterylaw03_knows.sure
    exact Option.some.inj (h1.symm.trans h2))

end Go.Proofs.Ytajnllkkgedgfaa.P
