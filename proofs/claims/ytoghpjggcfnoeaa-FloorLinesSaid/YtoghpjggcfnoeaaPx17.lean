-- PRINTED by print.py (a twelfth state) out of the translation. Not trusted: Lean checks it.
import Derived.Test.YtoghpjggcfnoeaaPx0
import Derived.Test.YtoghpjggcfnoeaaPx13
import Derived.Test.YtoghpjggcfnoeaaPx16
namespace Go.Proofs.Ytoghpjggcfnoeaa.P
open Go.RowKit Go.Proofs.YtoghpjggcfnoeaaW.PrintWords Go.Proofs.YtoghpjggcfnoeaaW.PrintLast Go.Proofs.YtoghpjggcfnoeaaW.PrintMore
attribute [local go_sem] max2_int min2_int max_two min_two max_three min_three max_four min_four   -- for this text's walks alone
set_option linter.unusedVariables false
set_option linter.unusedSimpArgs false

/-! ### psalteryref14_Line: function 22 -/
def psalteryref14_Line.f (k : Nat) (l0 : List Int) (a1 : Int) : Option (Int) := (psalteryref14_post.f k a1).bind fun t174 => (if t174 = 5 then (if 5 < (l0.length : Int) then (some (rd l0 5)) else (none)) else (if 0 ≤ (wrap64 (t174 + 1)) then (if (wrap64 (t174 + 1)) < (l0.length : Int) then (if 0 ≤ t174 then (if t174 < (l0.length : Int) then ((psalteryref14_At.f k t174).bind fun t178 => ((psalteryref14_At.f k (wrap64 (t174 + 1))).bind fun t179 => (if (wrap64 ((wrap64 ((rd l0 (wrap64 (t174 + 1))) - (rd l0 t174))) * (wrap64 (a1 - t178)))) < 0 then (if (wrap64 (t179 - t178)) = 0 then (none) else (some (wrap64 ((rd l0 t174) - (wrap64 (Int.tdiv (wrap64 (-(wrap64 ((wrap64 ((rd l0 (wrap64 (t174 + 1))) - (rd l0 t174))) * (wrap64 (a1 - t178)))))) (wrap64 (t179 - t178)))))))) else (if (wrap64 (t179 - t178)) = 0 then (none) else (some (wrap64 ((rd l0 t174) + (wrap64 (Int.tdiv (wrap64 ((wrap64 ((rd l0 (wrap64 (t174 + 1))) - (rd l0 t174))) * (wrap64 (a1 - t178)))) (wrap64 (t179 - t178))))))))))) else (none)) else (none)) else (none)) else (none)))
theorem psalteryref14_Line.mono : ∀ a0 a1 k, LeO (psalteryref14_Line.f k a0 a1) (psalteryref14_Line.f (k + 1) a0 a1) := by
  intro a0 a1 k
  unfold psalteryref14_Line.f
  repeat' first
      | (with_reducible exact psalteryref14_At.mono _ _)
      | (with_reducible exact psalteryref14_post.mono _ _)
      | (with_reducible exact LeO.refl _)
      | (with_reducible exact LeO.none _)
      | (with_reducible refine LeO.ite ?_ ?_)
      | (with_reducible refine LeO.bind ?_ (fun _ => ?_))
      | exact psalteryref14_At.mono _ _
      | exact psalteryref14_post.mono _ _
      | exact LeO.none _
      | refine LeO.ite ?_ ?_
      | refine LeO.bind ?_ (fun _ => ?_)
set_option maxHeartbeats 8000000 in
set_option maxRecDepth 100000 in
theorem psalteryref14_Line.calls (k : Nat) (A0 : Option Addr) (c0 : Nat) (l0 : List Int) (a1 : Int) (r : Int) (w : World) (hr0 : Kd.C (Kd.int .i64) w A0 l0.length l0) (hc0 : l0.length ≤ c0) (h : psalteryref14_Line.f k l0 a1 = some r) :
    Calls Try.prog 22 #[.slice A0 l0.length c0, .int .i64 a1] w fun e w' => e = .returned (.int .i64 r) ∧ Drawn0 w w' := by
  have HR0 := Aside0.mk hr0
  have HC0 := Aside0.mk hc0
  clear hr0 hc0
  have H : ((psalteryref14_post.f k a1).bind fun t174 => (if t174 = 5 then (if 5 < (l0.length : Int) then (some (rd l0 5)) else (none)) else (if 0 ≤ (wrap64 (t174 + 1)) then (if (wrap64 (t174 + 1)) < (l0.length : Int) then (if 0 ≤ t174 then (if t174 < (l0.length : Int) then ((psalteryref14_At.f k t174).bind fun t178 => ((psalteryref14_At.f k (wrap64 (t174 + 1))).bind fun t179 => (if (wrap64 ((wrap64 ((rd l0 (wrap64 (t174 + 1))) - (rd l0 t174))) * (wrap64 (a1 - t178)))) < 0 then (if (wrap64 (t179 - t178)) = 0 then (none) else (some (wrap64 ((rd l0 t174) - (wrap64 (Int.tdiv (wrap64 (-(wrap64 ((wrap64 ((rd l0 (wrap64 (t174 + 1))) - (rd l0 t174))) * (wrap64 (a1 - t178)))))) (wrap64 (t179 - t178)))))))) else (if (wrap64 (t179 - t178)) = 0 then (none) else (some (wrap64 ((rd l0 t174) + (wrap64 (Int.tdiv (wrap64 ((wrap64 ((rd l0 (wrap64 (t174 + 1))) - (rd l0 t174))) * (wrap64 (a1 - t178)))) (wrap64 (t179 - t178))))))))))) else (none)) else (none)) else (none)) else (none)))) = some r := h
  clear h
  replace H := Option.bind_eq_some_iff.mp H
  obtain ⟨t174, A30, H⟩ := H
  replace H : (if t174 = 5 then (if 5 < (l0.length : Int) then (some (rd l0 5)) else (none)) else (if 0 ≤ (wrap64 (t174 + 1)) then (if (wrap64 (t174 + 1)) < (l0.length : Int) then (if 0 ≤ t174 then (if t174 < (l0.length : Int) then ((psalteryref14_At.f k t174).bind fun t178 => ((psalteryref14_At.f k (wrap64 (t174 + 1))).bind fun t179 => (if (wrap64 ((wrap64 ((rd l0 (wrap64 (t174 + 1))) - (rd l0 t174))) * (wrap64 (a1 - t178)))) < 0 then (if (wrap64 (t179 - t178)) = 0 then (none) else (some (wrap64 ((rd l0 t174) - (wrap64 (Int.tdiv (wrap64 (-(wrap64 ((wrap64 ((rd l0 (wrap64 (t174 + 1))) - (rd l0 t174))) * (wrap64 (a1 - t178)))))) (wrap64 (t179 - t178)))))))) else (if (wrap64 (t179 - t178)) = 0 then (none) else (some (wrap64 ((rd l0 t174) + (wrap64 (Int.tdiv (wrap64 ((wrap64 ((rd l0 (wrap64 (t174 + 1))) - (rd l0 t174))) * (wrap64 (a1 - t178)))) (wrap64 (t179 - t178))))))))))) else (none)) else (none)) else (none)) else (none))) = some r := H
  have A3 := Aside0.mk A30
  clear A30
  by_cases c4 : t174 = 5
  · rw [if_pos c4] at H
    have c4b0 : (t174 == 5) = true := beq_iff_eq.mpr c4
    have c4b1 : (t174 != 5) = false := bne_eq_false_iff_eq.mpr c4
    clear c4
    by_cases c5 : 5 < (l0.length : Int)
    · rw [if_pos c5] at H
      have c5b0 : decide (5 < (l0.length : Int)) = true := decide_eq_true c5
      have c5b1 : decide (5 < l0.length) = true := decide_eq_true (by omega)
      clear c5
      obtain rfl := Option.some.inj H
      go_enter Try.func22, Try.ntmps22
      go_wp2_with (first | (go_at_call 48; (with_reducible refine (psalteryref14_post.calls k a1 t174 _ A3.out).mono ?_); rintro e w' ⟨rfl, ⟨nd, rfl⟩⟩; (try first | exact ⟨rfl, _, World.drewN_drewN _ _ _⟩ | exact ⟨rfl, _, Eq.trans (World.drewN_drewN _ _ _) (congrArg (World.drewN _) (Nat.add_assoc _ _ _))⟩); have p175 : 0 ≤ (5 : Int) := (by omega); have q175 : 5 < (l0.length : Int) := of_decide_eq_true (by first | (with_reducible assumption) | assumption); obtain ⟨ad175, e175, hx175_0⟩ := Kd.at_int HR0.out 5 p175 q175; cases e175; (try simp only [show (5 : Int).toNat = 5 from rfl, Nat.reduceMul, Nat.reduceEqDiff, Go.Addr.add, ↓reduceIte] at hx175_0); have qi175 : (5 < l0.length) = True := eq_true (by omega); (try rw [show ((5 : Int)).toNat = 5 from rfl] at hx175_0); replace p175 := eq_true p175; replace q175 := eq_true q175))
      repeat (go_quiet (first | (go_at_call 48; (with_reducible refine (psalteryref14_post.calls k a1 t174 _ A3.out).mono ?_); rintro e w' ⟨rfl, ⟨nd, rfl⟩⟩; (try first | exact ⟨rfl, _, World.drewN_drewN _ _ _⟩ | exact ⟨rfl, _, Eq.trans (World.drewN_drewN _ _ _) (congrArg (World.drewN _) (Nat.add_assoc _ _ _))⟩); have p175 : 0 ≤ (5 : Int) := (by omega); have q175 : 5 < (l0.length : Int) := of_decide_eq_true (by first | (with_reducible assumption) | assumption); obtain ⟨ad175, e175, hx175_0⟩ := Kd.at_int HR0.out 5 p175 q175; cases e175; (try simp only [show (5 : Int).toNat = 5 from rfl, Nat.reduceMul, Nat.reduceEqDiff, Go.Addr.add, ↓reduceIte] at hx175_0); have qi175 : (5 < l0.length) = True := eq_true (by omega); (try rw [show ((5 : Int)).toNat = 5 from rfl] at hx175_0); replace p175 := eq_true p175; replace q175 := eq_true q175)); try go_wp2_with (first | (go_at_call 48; (with_reducible refine (psalteryref14_post.calls k a1 t174 _ A3.out).mono ?_); rintro e w' ⟨rfl, ⟨nd, rfl⟩⟩; (try first | exact ⟨rfl, _, World.drewN_drewN _ _ _⟩ | exact ⟨rfl, _, Eq.trans (World.drewN_drewN _ _ _) (congrArg (World.drewN _) (Nat.add_assoc _ _ _))⟩); have p175 : 0 ≤ (5 : Int) := (by omega); have q175 : 5 < (l0.length : Int) := of_decide_eq_true (by first | (with_reducible assumption) | assumption); obtain ⟨ad175, e175, hx175_0⟩ := Kd.at_int HR0.out 5 p175 q175; cases e175; (try simp only [show (5 : Int).toNat = 5 from rfl, Nat.reduceMul, Nat.reduceEqDiff, Go.Addr.add, ↓reduceIte] at hx175_0); have qi175 : (5 < l0.length) = True := eq_true (by omega); (try rw [show ((5 : Int)).toNat = 5 from rfl] at hx175_0); replace p175 := eq_true p175; replace q175 := eq_true q175)))
      go_ret
      exact ⟨by first | rfl | (simp; done) | (simp [*]; done), by repeat (first | exact Drawn0.refl _ | apply Drawn0.step)⟩
    · rw [if_neg c5] at H
      exact absurd H (by simp)
  · rw [if_neg c4] at H
    have c4b0 : (t174 == 5) = false := beq_eq_false_iff_ne.mpr c4
    have c4b1 : (t174 != 5) = true := bne_iff_ne.mpr c4
    obtain ⟨ji6, hji6⟩ : ∃ j_ : Int, (wrap64 (t174 + 1)) = j_ := ⟨_, rfl⟩
    replace H : (if 0 ≤ (ji6) then (if (ji6) < (l0.length : Int) then (if 0 ≤ t174 then (if t174 < (l0.length : Int) then ((psalteryref14_At.f k t174).bind fun t178 => ((psalteryref14_At.f k (ji6)).bind fun t179 => (if (wrap64 ((wrap64 ((rd l0 (ji6)) - (rd l0 t174))) * (wrap64 (a1 - t178)))) < 0 then (if (wrap64 (t179 - t178)) = 0 then (none) else (some (wrap64 ((rd l0 t174) - (wrap64 (Int.tdiv (wrap64 (-(wrap64 ((wrap64 ((rd l0 (ji6)) - (rd l0 t174))) * (wrap64 (a1 - t178)))))) (wrap64 (t179 - t178)))))))) else (if (wrap64 (t179 - t178)) = 0 then (none) else (some (wrap64 ((rd l0 t174) + (wrap64 (Int.tdiv (wrap64 ((wrap64 ((rd l0 (ji6)) - (rd l0 t174))) * (wrap64 (a1 - t178)))) (wrap64 (t179 - t178))))))))))) else (none)) else (none)) else (none)) else (none)) = some r := by first | (rw [hji6] at H; exact H) | (simp only [hji6] at H ⊢; exact H)
    (try rw [hji6] at A3)
    have hji6w : (IntKind.i64.wrap (t174 + 1)) = ji6 := (i64_w _).trans hji6
    by_cases c7 : 0 ≤ (ji6)
    · rw [if_pos c7] at H
      have c7b0 : decide (0 ≤ (ji6)) = true := decide_eq_true c7
      clear c7
      by_cases c8 : (ji6) < (l0.length : Int)
      · rw [if_pos c8] at H
        have c8b0 : decide ((ji6) < (l0.length : Int)) = true := decide_eq_true c8
        clear c8
        by_cases c9 : 0 ≤ t174
        · rw [if_pos c9] at H
          have c9b0 : decide (0 ≤ t174) = true := decide_eq_true c9
          clear c9
          by_cases c10 : t174 < (l0.length : Int)
          · rw [if_pos c10] at H
            have c10b0 : decide (t174 < (l0.length : Int)) = true := decide_eq_true c10
            clear c10
            replace H := Option.bind_eq_some_iff.mp H
            obtain ⟨t178, A110, H⟩ := H
            replace H : ((psalteryref14_At.f k (ji6)).bind fun t179 => (if (wrap64 ((wrap64 ((rd l0 (ji6)) - (rd l0 t174))) * (wrap64 (a1 - t178)))) < 0 then (if (wrap64 (t179 - t178)) = 0 then (none) else (some (wrap64 ((rd l0 t174) - (wrap64 (Int.tdiv (wrap64 (-(wrap64 ((wrap64 ((rd l0 (ji6)) - (rd l0 t174))) * (wrap64 (a1 - t178)))))) (wrap64 (t179 - t178)))))))) else (if (wrap64 (t179 - t178)) = 0 then (none) else (some (wrap64 ((rd l0 t174) + (wrap64 (Int.tdiv (wrap64 ((wrap64 ((rd l0 (ji6)) - (rd l0 t174))) * (wrap64 (a1 - t178)))) (wrap64 (t179 - t178)))))))))) = some r := H
            have A11 := Aside0.mk A110
            clear A110
            replace H := Option.bind_eq_some_iff.mp H
            obtain ⟨t179, A120, H⟩ := H
            replace H : (if (wrap64 ((wrap64 ((rd l0 (ji6)) - (rd l0 t174))) * (wrap64 (a1 - t178)))) < 0 then (if (wrap64 (t179 - t178)) = 0 then (none) else (some (wrap64 ((rd l0 t174) - (wrap64 (Int.tdiv (wrap64 (-(wrap64 ((wrap64 ((rd l0 (ji6)) - (rd l0 t174))) * (wrap64 (a1 - t178)))))) (wrap64 (t179 - t178)))))))) else (if (wrap64 (t179 - t178)) = 0 then (none) else (some (wrap64 ((rd l0 t174) + (wrap64 (Int.tdiv (wrap64 ((wrap64 ((rd l0 (ji6)) - (rd l0 t174))) * (wrap64 (a1 - t178)))) (wrap64 (t179 - t178))))))))) = some r := H
            have A12 := Aside0.mk A120
            clear A120
            by_cases c13 : (wrap64 ((wrap64 ((rd l0 (ji6)) - (rd l0 t174))) * (wrap64 (a1 - t178)))) < 0
            · rw [if_pos c13] at H
              have c13b0 : decide ((wrap64 ((wrap64 ((rd l0 (ji6)) - (rd l0 t174))) * (wrap64 (a1 - t178)))) < 0) = true := decide_eq_true c13
              clear c13
              by_cases c14 : (wrap64 (t179 - t178)) = 0
              · rw [if_pos c14] at H
                exact absurd H (by simp)
              · rw [if_neg c14] at H
                have c14b0 : ((wrap64 (t179 - t178)) == 0) = false := beq_eq_false_iff_ne.mpr c14
                have c14b1 : ((wrap64 (t179 - t178)) != 0) = true := bne_iff_ne.mpr c14
                obtain rfl := Option.some.inj H
                go_enter Try.func22, Try.ntmps22
                go_wp2_with (first | (go_at_call 48; (with_reducible refine (psalteryref14_post.calls k a1 t174 _ A3.out).mono ?_); rintro e w' ⟨rfl, ⟨nd, rfl⟩⟩; (try first | exact ⟨rfl, _, World.drewN_drewN _ _ _⟩ | exact ⟨rfl, _, Eq.trans (World.drewN_drewN _ _ _) (congrArg (World.drewN _) (Nat.add_assoc _ _ _))⟩); have p176 : 0 ≤ ((ji6) : Int) := of_decide_eq_true (by first | (with_reducible assumption) | assumption); have q176 : (ji6) < (l0.length : Int) := of_decide_eq_true (by first | (with_reducible assumption) | assumption); obtain ⟨ad176, e176, hx176_0⟩ := Kd.at_int HR0.out (ji6) p176 q176; cases e176; replace p176 := eq_true p176; replace q176 := eq_true q176; have p177 : 0 ≤ (t174 : Int) := of_decide_eq_true (by first | (with_reducible assumption) | assumption); have q177 : t174 < (l0.length : Int) := of_decide_eq_true (by first | (with_reducible assumption) | assumption); obtain ⟨ad177, e177, hx177_0⟩ := Kd.at_int HR0.out t174 p177 q177; obtain rfl : ad176 = ad177 := (by injection e177); replace p177 := eq_true p177; replace q177 := eq_true q177) | (go_at_call 17; (with_reducible refine (psalteryref14_At.calls k t174 t178 _ A11.out).mono ?_); rintro e w' ⟨rfl, ⟨nd, rfl⟩⟩; (try first | exact ⟨rfl, _, World.drewN_drewN _ _ _⟩ | exact ⟨rfl, _, Eq.trans (World.drewN_drewN _ _ _) (congrArg (World.drewN _) (Nat.add_assoc _ _ _))⟩)) | (go_at_call 17; (with_reducible refine (psalteryref14_At.calls k ji6 t179 _ A12.out).mono ?_); rintro e w' ⟨rfl, ⟨nd, rfl⟩⟩; (try first | exact ⟨rfl, _, World.drewN_drewN _ _ _⟩ | exact ⟨rfl, _, Eq.trans (World.drewN_drewN _ _ _) (congrArg (World.drewN _) (Nat.add_assoc _ _ _))⟩); have p180 : 0 ≤ (t174 : Int) := of_decide_eq_true (by first | (with_reducible assumption) | assumption); have q180 : t174 < (l0.length : Int) := of_decide_eq_true (by first | (with_reducible assumption) | assumption); obtain ⟨ad180, e180, hx180_0⟩ := Kd.at_int HR0.out t174 p180 q180; obtain rfl : ad176 = ad180 := (by injection e180); replace p180 := eq_true p180; replace q180 := eq_true q180))
                repeat (go_quiet (first | (go_at_call 48; (with_reducible refine (psalteryref14_post.calls k a1 t174 _ A3.out).mono ?_); rintro e w' ⟨rfl, ⟨nd, rfl⟩⟩; (try first | exact ⟨rfl, _, World.drewN_drewN _ _ _⟩ | exact ⟨rfl, _, Eq.trans (World.drewN_drewN _ _ _) (congrArg (World.drewN _) (Nat.add_assoc _ _ _))⟩); have p176 : 0 ≤ ((ji6) : Int) := of_decide_eq_true (by first | (with_reducible assumption) | assumption); have q176 : (ji6) < (l0.length : Int) := of_decide_eq_true (by first | (with_reducible assumption) | assumption); obtain ⟨ad176, e176, hx176_0⟩ := Kd.at_int HR0.out (ji6) p176 q176; cases e176; replace p176 := eq_true p176; replace q176 := eq_true q176; have p177 : 0 ≤ (t174 : Int) := of_decide_eq_true (by first | (with_reducible assumption) | assumption); have q177 : t174 < (l0.length : Int) := of_decide_eq_true (by first | (with_reducible assumption) | assumption); obtain ⟨ad177, e177, hx177_0⟩ := Kd.at_int HR0.out t174 p177 q177; obtain rfl : ad176 = ad177 := (by injection e177); replace p177 := eq_true p177; replace q177 := eq_true q177) | (go_at_call 17; (with_reducible refine (psalteryref14_At.calls k t174 t178 _ A11.out).mono ?_); rintro e w' ⟨rfl, ⟨nd, rfl⟩⟩; (try first | exact ⟨rfl, _, World.drewN_drewN _ _ _⟩ | exact ⟨rfl, _, Eq.trans (World.drewN_drewN _ _ _) (congrArg (World.drewN _) (Nat.add_assoc _ _ _))⟩)) | (go_at_call 17; (with_reducible refine (psalteryref14_At.calls k ji6 t179 _ A12.out).mono ?_); rintro e w' ⟨rfl, ⟨nd, rfl⟩⟩; (try first | exact ⟨rfl, _, World.drewN_drewN _ _ _⟩ | exact ⟨rfl, _, Eq.trans (World.drewN_drewN _ _ _) (congrArg (World.drewN _) (Nat.add_assoc _ _ _))⟩); have p180 : 0 ≤ (t174 : Int) := of_decide_eq_true (by first | (with_reducible assumption) | assumption); have q180 : t174 < (l0.length : Int) := of_decide_eq_true (by first | (with_reducible assumption) | assumption); obtain ⟨ad180, e180, hx180_0⟩ := Kd.at_int HR0.out t174 p180 q180; obtain rfl : ad176 = ad180 := (by injection e180); replace p180 := eq_true p180; replace q180 := eq_true q180)); try go_wp2_with (first | (go_at_call 48; (with_reducible refine (psalteryref14_post.calls k a1 t174 _ A3.out).mono ?_); rintro e w' ⟨rfl, ⟨nd, rfl⟩⟩; (try first | exact ⟨rfl, _, World.drewN_drewN _ _ _⟩ | exact ⟨rfl, _, Eq.trans (World.drewN_drewN _ _ _) (congrArg (World.drewN _) (Nat.add_assoc _ _ _))⟩); have p176 : 0 ≤ ((ji6) : Int) := of_decide_eq_true (by first | (with_reducible assumption) | assumption); have q176 : (ji6) < (l0.length : Int) := of_decide_eq_true (by first | (with_reducible assumption) | assumption); obtain ⟨ad176, e176, hx176_0⟩ := Kd.at_int HR0.out (ji6) p176 q176; cases e176; replace p176 := eq_true p176; replace q176 := eq_true q176; have p177 : 0 ≤ (t174 : Int) := of_decide_eq_true (by first | (with_reducible assumption) | assumption); have q177 : t174 < (l0.length : Int) := of_decide_eq_true (by first | (with_reducible assumption) | assumption); obtain ⟨ad177, e177, hx177_0⟩ := Kd.at_int HR0.out t174 p177 q177; obtain rfl : ad176 = ad177 := (by injection e177); replace p177 := eq_true p177; replace q177 := eq_true q177) | (go_at_call 17; (with_reducible refine (psalteryref14_At.calls k t174 t178 _ A11.out).mono ?_); rintro e w' ⟨rfl, ⟨nd, rfl⟩⟩; (try first | exact ⟨rfl, _, World.drewN_drewN _ _ _⟩ | exact ⟨rfl, _, Eq.trans (World.drewN_drewN _ _ _) (congrArg (World.drewN _) (Nat.add_assoc _ _ _))⟩)) | (go_at_call 17; (with_reducible refine (psalteryref14_At.calls k ji6 t179 _ A12.out).mono ?_); rintro e w' ⟨rfl, ⟨nd, rfl⟩⟩; (try first | exact ⟨rfl, _, World.drewN_drewN _ _ _⟩ | exact ⟨rfl, _, Eq.trans (World.drewN_drewN _ _ _) (congrArg (World.drewN _) (Nat.add_assoc _ _ _))⟩); have p180 : 0 ≤ (t174 : Int) := of_decide_eq_true (by first | (with_reducible assumption) | assumption); have q180 : t174 < (l0.length : Int) := of_decide_eq_true (by first | (with_reducible assumption) | assumption); obtain ⟨ad180, e180, hx180_0⟩ := Kd.at_int HR0.out t174 p180 q180; obtain rfl : ad176 = ad180 := (by injection e180); replace p180 := eq_true p180; replace q180 := eq_true q180)))
                go_ret
                exact ⟨by first | rfl | (simp; done) | (simp only [← hji6] <;> (first | rfl | simp)) | (simp [*]; done), by repeat (first | exact Drawn0.refl _ | apply Drawn0.step)⟩
            · rw [if_neg c13] at H
              have c13b0 : decide ((wrap64 ((wrap64 ((rd l0 (ji6)) - (rd l0 t174))) * (wrap64 (a1 - t178)))) < 0) = false := decide_eq_false c13
              clear c13
              by_cases c15 : (wrap64 (t179 - t178)) = 0
              · rw [if_pos c15] at H
                exact absurd H (by simp)
              · rw [if_neg c15] at H
                have c15b0 : ((wrap64 (t179 - t178)) == 0) = false := beq_eq_false_iff_ne.mpr c15
                have c15b1 : ((wrap64 (t179 - t178)) != 0) = true := bne_iff_ne.mpr c15
                obtain rfl := Option.some.inj H
                go_enter Try.func22, Try.ntmps22
                go_wp2_with (first | (go_at_call 48; (with_reducible refine (psalteryref14_post.calls k a1 t174 _ A3.out).mono ?_); rintro e w' ⟨rfl, ⟨nd, rfl⟩⟩; (try first | exact ⟨rfl, _, World.drewN_drewN _ _ _⟩ | exact ⟨rfl, _, Eq.trans (World.drewN_drewN _ _ _) (congrArg (World.drewN _) (Nat.add_assoc _ _ _))⟩); have p176 : 0 ≤ ((ji6) : Int) := of_decide_eq_true (by first | (with_reducible assumption) | assumption); have q176 : (ji6) < (l0.length : Int) := of_decide_eq_true (by first | (with_reducible assumption) | assumption); obtain ⟨ad176, e176, hx176_0⟩ := Kd.at_int HR0.out (ji6) p176 q176; cases e176; replace p176 := eq_true p176; replace q176 := eq_true q176; have p177 : 0 ≤ (t174 : Int) := of_decide_eq_true (by first | (with_reducible assumption) | assumption); have q177 : t174 < (l0.length : Int) := of_decide_eq_true (by first | (with_reducible assumption) | assumption); obtain ⟨ad177, e177, hx177_0⟩ := Kd.at_int HR0.out t174 p177 q177; obtain rfl : ad176 = ad177 := (by injection e177); replace p177 := eq_true p177; replace q177 := eq_true q177) | (go_at_call 17; (with_reducible refine (psalteryref14_At.calls k t174 t178 _ A11.out).mono ?_); rintro e w' ⟨rfl, ⟨nd, rfl⟩⟩; (try first | exact ⟨rfl, _, World.drewN_drewN _ _ _⟩ | exact ⟨rfl, _, Eq.trans (World.drewN_drewN _ _ _) (congrArg (World.drewN _) (Nat.add_assoc _ _ _))⟩)) | (go_at_call 17; (with_reducible refine (psalteryref14_At.calls k ji6 t179 _ A12.out).mono ?_); rintro e w' ⟨rfl, ⟨nd, rfl⟩⟩; (try first | exact ⟨rfl, _, World.drewN_drewN _ _ _⟩ | exact ⟨rfl, _, Eq.trans (World.drewN_drewN _ _ _) (congrArg (World.drewN _) (Nat.add_assoc _ _ _))⟩); have p181 : 0 ≤ (t174 : Int) := of_decide_eq_true (by first | (with_reducible assumption) | assumption); have q181 : t174 < (l0.length : Int) := of_decide_eq_true (by first | (with_reducible assumption) | assumption); obtain ⟨ad181, e181, hx181_0⟩ := Kd.at_int HR0.out t174 p181 q181; obtain rfl : ad176 = ad181 := (by injection e181); replace p181 := eq_true p181; replace q181 := eq_true q181))
                repeat (go_quiet (first | (go_at_call 48; (with_reducible refine (psalteryref14_post.calls k a1 t174 _ A3.out).mono ?_); rintro e w' ⟨rfl, ⟨nd, rfl⟩⟩; (try first | exact ⟨rfl, _, World.drewN_drewN _ _ _⟩ | exact ⟨rfl, _, Eq.trans (World.drewN_drewN _ _ _) (congrArg (World.drewN _) (Nat.add_assoc _ _ _))⟩); have p176 : 0 ≤ ((ji6) : Int) := of_decide_eq_true (by first | (with_reducible assumption) | assumption); have q176 : (ji6) < (l0.length : Int) := of_decide_eq_true (by first | (with_reducible assumption) | assumption); obtain ⟨ad176, e176, hx176_0⟩ := Kd.at_int HR0.out (ji6) p176 q176; cases e176; replace p176 := eq_true p176; replace q176 := eq_true q176; have p177 : 0 ≤ (t174 : Int) := of_decide_eq_true (by first | (with_reducible assumption) | assumption); have q177 : t174 < (l0.length : Int) := of_decide_eq_true (by first | (with_reducible assumption) | assumption); obtain ⟨ad177, e177, hx177_0⟩ := Kd.at_int HR0.out t174 p177 q177; obtain rfl : ad176 = ad177 := (by injection e177); replace p177 := eq_true p177; replace q177 := eq_true q177) | (go_at_call 17; (with_reducible refine (psalteryref14_At.calls k t174 t178 _ A11.out).mono ?_); rintro e w' ⟨rfl, ⟨nd, rfl⟩⟩; (try first | exact ⟨rfl, _, World.drewN_drewN _ _ _⟩ | exact ⟨rfl, _, Eq.trans (World.drewN_drewN _ _ _) (congrArg (World.drewN _) (Nat.add_assoc _ _ _))⟩)) | (go_at_call 17; (with_reducible refine (psalteryref14_At.calls k ji6 t179 _ A12.out).mono ?_); rintro e w' ⟨rfl, ⟨nd, rfl⟩⟩; (try first | exact ⟨rfl, _, World.drewN_drewN _ _ _⟩ | exact ⟨rfl, _, Eq.trans (World.drewN_drewN _ _ _) (congrArg (World.drewN _) (Nat.add_assoc _ _ _))⟩); have p181 : 0 ≤ (t174 : Int) := of_decide_eq_true (by first | (with_reducible assumption) | assumption); have q181 : t174 < (l0.length : Int) := of_decide_eq_true (by first | (with_reducible assumption) | assumption); obtain ⟨ad181, e181, hx181_0⟩ := Kd.at_int HR0.out t174 p181 q181; obtain rfl : ad176 = ad181 := (by injection e181); replace p181 := eq_true p181; replace q181 := eq_true q181)); try go_wp2_with (first | (go_at_call 48; (with_reducible refine (psalteryref14_post.calls k a1 t174 _ A3.out).mono ?_); rintro e w' ⟨rfl, ⟨nd, rfl⟩⟩; (try first | exact ⟨rfl, _, World.drewN_drewN _ _ _⟩ | exact ⟨rfl, _, Eq.trans (World.drewN_drewN _ _ _) (congrArg (World.drewN _) (Nat.add_assoc _ _ _))⟩); have p176 : 0 ≤ ((ji6) : Int) := of_decide_eq_true (by first | (with_reducible assumption) | assumption); have q176 : (ji6) < (l0.length : Int) := of_decide_eq_true (by first | (with_reducible assumption) | assumption); obtain ⟨ad176, e176, hx176_0⟩ := Kd.at_int HR0.out (ji6) p176 q176; cases e176; replace p176 := eq_true p176; replace q176 := eq_true q176; have p177 : 0 ≤ (t174 : Int) := of_decide_eq_true (by first | (with_reducible assumption) | assumption); have q177 : t174 < (l0.length : Int) := of_decide_eq_true (by first | (with_reducible assumption) | assumption); obtain ⟨ad177, e177, hx177_0⟩ := Kd.at_int HR0.out t174 p177 q177; obtain rfl : ad176 = ad177 := (by injection e177); replace p177 := eq_true p177; replace q177 := eq_true q177) | (go_at_call 17; (with_reducible refine (psalteryref14_At.calls k t174 t178 _ A11.out).mono ?_); rintro e w' ⟨rfl, ⟨nd, rfl⟩⟩; (try first | exact ⟨rfl, _, World.drewN_drewN _ _ _⟩ | exact ⟨rfl, _, Eq.trans (World.drewN_drewN _ _ _) (congrArg (World.drewN _) (Nat.add_assoc _ _ _))⟩)) | (go_at_call 17; (with_reducible refine (psalteryref14_At.calls k ji6 t179 _ A12.out).mono ?_); rintro e w' ⟨rfl, ⟨nd, rfl⟩⟩; (try first | exact ⟨rfl, _, World.drewN_drewN _ _ _⟩ | exact ⟨rfl, _, Eq.trans (World.drewN_drewN _ _ _) (congrArg (World.drewN _) (Nat.add_assoc _ _ _))⟩); have p181 : 0 ≤ (t174 : Int) := of_decide_eq_true (by first | (with_reducible assumption) | assumption); have q181 : t174 < (l0.length : Int) := of_decide_eq_true (by first | (with_reducible assumption) | assumption); obtain ⟨ad181, e181, hx181_0⟩ := Kd.at_int HR0.out t174 p181 q181; obtain rfl : ad176 = ad181 := (by injection e181); replace p181 := eq_true p181; replace q181 := eq_true q181)))
                go_ret
                exact ⟨by first | rfl | (simp; done) | (simp only [← hji6] <;> (first | rfl | simp)) | (simp [*]; done), by repeat (first | exact Drawn0.refl _ | apply Drawn0.step)⟩
          · rw [if_neg c10] at H
            exact absurd H (by simp)
        · rw [if_neg c9] at H
          exact absurd H (by simp)
      · rw [if_neg c8] at H
        exact absurd H (by simp)
    · rw [if_neg c7] at H
      exact absurd H (by simp)

end Go.Proofs.Ytoghpjggcfnoeaa.P
