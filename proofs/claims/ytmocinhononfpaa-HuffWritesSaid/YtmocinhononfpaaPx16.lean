-- PRINTED by print.py (a twelfth state) out of the translation. Not trusted: Lean checks it.
import Derived.Test.YtmocinhononfpaaPx0
import Derived.Test.YtmocinhononfpaaPx15
namespace Go.Proofs.Ytmocinhononfpaa.P
open Go.RowKit Go.Proofs.YtmocinhononfpaaW.PrintWords Go.Proofs.YtmocinhononfpaaW.PrintLast Go.Proofs.YtmocinhononfpaaW.PrintMore
attribute [local go_sem] max2_int min2_int max_two min_two max_three min_three max_four min_four   -- for this text's walks alone
set_option linter.unusedVariables false
set_option linter.unusedSimpArgs false

/-! ### psalteryref04_Code: function 15 -/
mutual
def psalteryref04_Code.l0 : Nat → List Int → Int → Int → Int → Option (List Int)
  | 0, _, _, _, _ => none
  | k + 1, x0, x1, x5, x6 => if x6 ≤ 16 then (psalteryref04_Code.l1 k x0 x1 x5 x6 0) else (some ([] : List Int))
def psalteryref04_Code.l1 : Nat → List Int → Int → Int → Int → Int → Option (List Int)
  | 0, _, _, _, _, _ => none
  | k + 1, x0, x1, x5, x6, x7 => if x7 < (x0.length : Int) then (if 0 ≤ x7 then (if (rd x0 x7) = x6 then (if x7 = x1 then ((psalteryref04_spread.f k x5 x6).bind fun t217 => (some t217)) else (psalteryref04_Code.l1 k x0 x1 (wrap64 (x5 + 1)) x6 (wrap64 (x7 + 1)))) else (psalteryref04_Code.l1 k x0 x1 x5 x6 (wrap64 (x7 + 1)))) else (none)) else (psalteryref04_Code.l0 k x0 x1 (wrap64 (x5 * 2)) (wrap64 (x6 + 1)))
end
def psalteryref04_Code.f (k : Nat) (l0 : List Int) (a1 : Int) : Option (List Int) := psalteryref04_Code.l0 k l0 a1 0 1
theorem psalteryref04_Code.mono_l : ∀ k, (∀ y0 y1 y2 y3, LeO (psalteryref04_Code.l0 k y0 y1 y2 y3) (psalteryref04_Code.l0 (k + 1) y0 y1 y2 y3)) ∧ (∀ y0 y1 y2 y3 y4, LeO (psalteryref04_Code.l1 k y0 y1 y2 y3 y4) (psalteryref04_Code.l1 (k + 1) y0 y1 y2 y3 y4))
  | 0 => ⟨fun _ _ _ _ r h => by simp [psalteryref04_Code.l0] at h, fun _ _ _ _ _ r h => by simp [psalteryref04_Code.l1] at h⟩
  | k + 1 => by
    obtain ⟨ih0, ih1⟩ := psalteryref04_Code.mono_l k
    refine ⟨?_, ?_⟩
    · intro y0 y1 y2 y3
      unfold psalteryref04_Code.l0
      repeat' first
      | (with_reducible exact ih0 _ _ _ _)
      | (with_reducible exact ih1 _ _ _ _ _)
      | (with_reducible exact psalteryref04_spread.mono _ _ _)
      | (with_reducible exact LeO.refl _)
      | (with_reducible exact LeO.none _)
      | (with_reducible refine LeO.ite ?_ ?_)
      | (with_reducible refine LeO.bind ?_ (fun _ => ?_))
      | exact ih0 _ _ _ _
      | exact ih1 _ _ _ _ _
      | exact psalteryref04_spread.mono _ _ _
      | exact LeO.none _
      | refine LeO.ite ?_ ?_
      | refine LeO.bind ?_ (fun _ => ?_)
    · intro y0 y1 y2 y3 y4
      unfold psalteryref04_Code.l1
      repeat' first
      | (with_reducible exact ih0 _ _ _ _)
      | (with_reducible exact ih1 _ _ _ _ _)
      | (with_reducible exact psalteryref04_spread.mono _ _ _)
      | (with_reducible exact LeO.refl _)
      | (with_reducible exact LeO.none _)
      | (with_reducible refine LeO.ite ?_ ?_)
      | (with_reducible refine LeO.bind ?_ (fun _ => ?_))
      | exact ih0 _ _ _ _
      | exact ih1 _ _ _ _ _
      | exact psalteryref04_spread.mono _ _ _
      | exact LeO.none _
      | refine LeO.ite ?_ ?_
      | refine LeO.bind ?_ (fun _ => ?_)
theorem psalteryref04_Code.mono : ∀ a0 a1 k, LeO (psalteryref04_Code.f k a0 a1) (psalteryref04_Code.f (k + 1) a0 a1) := by
  intro a0 a1 k
  obtain ⟨ih0, ih1⟩ := psalteryref04_Code.mono_l k
  unfold psalteryref04_Code.f
  repeat' first
      | (with_reducible exact ih0 _ _ _ _)
      | (with_reducible exact ih1 _ _ _ _ _)
      | (with_reducible exact psalteryref04_spread.mono _ _ _)
      | (with_reducible exact LeO.refl _)
      | (with_reducible exact LeO.none _)
      | (with_reducible refine LeO.ite ?_ ?_)
      | (with_reducible refine LeO.bind ?_ (fun _ => ?_))
      | exact ih0 _ _ _ _
      | exact ih1 _ _ _ _ _
      | exact psalteryref04_spread.mono _ _ _
      | exact LeO.none _
      | refine LeO.ite ?_ ?_
      | refine LeO.bind ?_ (fun _ => ?_)
set_option maxHeartbeats 8000000 in
set_option maxRecDepth 100000 in
theorem psalteryref04_Code.calls (k : Nat) (A0 : Option Addr) (c0 : Nat) (l0 : List Int) (a1 : Int) (r : List Int) (w : World) (hr0 : Kd.C (Kd.int .i64) w A0 l0.length l0) (hc0 : l0.length ≤ c0) (h : psalteryref04_Code.f k l0 a1 = some r) :
    Calls Try.prog 15 #[.slice A0 l0.length c0, .int .i64 a1] w fun e w' => ∃ v0_ : Value, e = .returned (v0_) ∧ Kd.R (Kd.int .i64) 3 w' w.heap.size (fun _ => True) v0_ r ∧ Below w.heap.size w w' := by
  have HR0 := Aside0.mk hr0
  have HC0 := Aside0.mk hc0
  clear hr0 hc0
  have HB := Aside0.mk (Below.refl w.heap.size w)
  have H : (psalteryref04_Code.l0 k l0 a1 0 1) = some r := h
  clear h
  have H' := Aside0.mk H
  clear H
  go_enter Try.func15, Try.ntmps15
  go_wp2
  go_loopg [5, 6] k (fun kq v5 v6 w' => ∃ (x5_1 : Int) (x6_1 : Int), v5 = .int .i64 x5_1 ∧ v6 = .int .i64 x6_1 ∧ Aside0 (psalteryref04_Code.l0 kq l0 a1 x5_1 x6_1 = some r) ∧ Aside0 (kq ≤ k) ∧ Aside0 (Below w.heap.size w w'))
  case atStart => exact ⟨(0), (1), (by first | rfl | (simp; done) | (simp [*]; done)), (by first | rfl | (simp; done) | (simp [*]; done)), H', ⟨Nat.le_refl _⟩, ⟨by repeat (first | (with_reducible first | exact HB.out | apply below_alloc | apply pw_below_drewN | apply below_drew1) | exact HB.out)⟩⟩
  case round =>
    clear H'
    try clear c1
    try clear p2
    obtain ⟨x5_1, x6_1, rfl, rfl, HA, HK1, HB⟩ := hrel
    cases gk with
    | zero => exact absurd HA.out (by simp [psalteryref04_Code.l0])
    | succ k1 =>
      have H := HA.out
      clear HA
      simp only [psalteryref04_Code.l0] at H
      by_cases c3 : x6_1 ≤ 16
      · rw [if_pos c3] at H
        have c3b0 : decide (x6_1 ≤ 16) = true := decide_eq_true c3
        clear c3
        have H' := Aside0.mk H
        clear H
        go_wp2
        go_loopg [5, 7] k1 (fun kq v5 v7 w' => ∃ (x5_2 : Int) (x7_2 : Int), v5 = .int .i64 x5_2 ∧ v7 = .int .i64 x7_2 ∧ Aside0 (psalteryref04_Code.l1 kq l0 a1 x5_2 x6_1 x7_2 = some r) ∧ Aside0 (kq ≤ k1) ∧ Aside0 (Below w.heap.size w w'))
        case atStart => exact ⟨(x5_1), (0), (by first | rfl | (simp; done) | (simp [*]; done)), (by first | rfl | (simp; done) | (simp [*]; done)), H', ⟨Nat.le_refl _⟩, ⟨by repeat (first | (with_reducible first | exact HB.out | apply below_alloc | apply pw_below_drewN | apply below_drew1) | exact HB.out)⟩⟩
        case round =>
          clear H'
          try clear c1
          try clear p2
          try clear c3
          try clear c3b0
          try clear p2
          obtain ⟨x5_2, x7_2, rfl, rfl, HA, HK2, HB⟩ := hrel
          cases gk with
          | zero => exact absurd HA.out (by simp [psalteryref04_Code.l1])
          | succ k2 =>
            have H := HA.out
            clear HA
            simp only [psalteryref04_Code.l1] at H
            by_cases c4 : x7_2 < (l0.length : Int)
            · rw [if_pos c4] at H
              have c4b0 : decide (x7_2 < (l0.length : Int)) = true := decide_eq_true c4
              clear c4
              by_cases c5 : 0 ≤ x7_2
              · rw [if_pos c5] at H
                have c5b0 : decide (0 ≤ x7_2) = true := decide_eq_true c5
                clear c5
                by_cases c6 : (rd l0 x7_2) = x6_1
                · rw [if_pos c6] at H
                  have c6b0 : ((rd l0 x7_2) == x6_1) = true := beq_iff_eq.mpr c6
                  have c6b1 : ((rd l0 x7_2) != x6_1) = false := bne_eq_false_iff_eq.mpr c6
                  clear c6
                  by_cases c7 : x7_2 = a1
                  · rw [if_pos c7] at H
                    have c7b0 : (x7_2 == a1) = true := beq_iff_eq.mpr c7
                    have c7b1 : (x7_2 != a1) = false := bne_eq_false_iff_eq.mpr c7
                    clear c7
                    replace H := Option.bind_eq_some_iff.mp H
                    obtain ⟨t217, A80, H⟩ := H
                    replace H : (some t217) = some r := H
                    have A8 := Aside0.mk A80
                    clear A80
                    obtain rfl := Option.some.inj H
                    have p216 : 0 ≤ (x7_2 : Int) := of_decide_eq_true (by first | (with_reducible assumption) | assumption)
                    have q216 : x7_2 < (l0.length : Int) := of_decide_eq_true (by first | (with_reducible assumption) | assumption)
                    obtain ⟨ad216, e216, hx216_0⟩ := Kd.at_int HR0.out x7_2 p216 q216
                    cases e216
                    replace hx216_0 := (HB.out.cell (World.block_lt_of_cell? w _ hx216_0)).trans hx216_0
                    replace p216 := eq_true p216
                    replace q216 := eq_true q216
                    go_wp2_with (first | ((with_reducible refine gate_callee (f := 25) rfl ?_); refine goesL_ (some 27) rfl rfl Try.func25 (by kernel_rfl) rfl #[.int .i64 x5_2, .int .i64 x6_1] rfl (by (try simp only [List.map_toArray, List.map_cons, List.map_nil]); first | done | rfl | (simp only [List.length_drop, List.length_take]; rfl)) ?_; (with_reducible refine (psalteryref04_spread.calls k2 x5_2 x6_1 t217 _ A8.out).mono ?_); rintro e w9 ⟨v218, rfl, ho0, hb⟩; refine ⟨_, rfl, ?_⟩; have n0_ := Aside0.mk (Kd.R_lower ho0 (below_size (by repeat (first | (with_reducible first | exact HB.out | apply below_alloc | apply pw_below_drewN | apply below_drew1) | exact HB.out)))); have n1_ := Aside0.mk (below_step (by repeat (first | (with_reducible first | exact HB.out | apply below_alloc | apply pw_below_drewN | apply below_drew1) | exact HB.out)) hb); clear HB; have HO219 := n0_; have HB := n1_; clear n0_ n1_; (try clear hb); (try clear hb2); (try clear hk); (try clear hi); (try clear ho0)))
                    go_ret
                    exact ⟨_, by first | rfl | (simp [errW_none, errW_some] <;> rfl) | (simp [*, errW_none, errW_some] <;> rfl), by (with_reducible repeat (first | apply Kd.R_alloc | apply Kd.R_drewN | apply Kd.R_drew)); exact HO219.out, by repeat (first | (with_reducible first | exact HB.out | apply below_alloc | apply pw_below_drewN | apply below_drew1) | exact HB.out)⟩
                  · rw [if_neg c7] at H
                    have c7b0 : (x7_2 == a1) = false := beq_eq_false_iff_ne.mpr c7
                    have c7b1 : (x7_2 != a1) = true := bne_iff_ne.mpr c7
                    have H' := Aside0.mk H
                    clear H
                    have p216 : 0 ≤ (x7_2 : Int) := of_decide_eq_true (by first | (with_reducible assumption) | assumption)
                    have q216 : x7_2 < (l0.length : Int) := of_decide_eq_true (by first | (with_reducible assumption) | assumption)
                    obtain ⟨ad216, e216, hx216_0⟩ := Kd.at_int HR0.out x7_2 p216 q216
                    cases e216
                    replace hx216_0 := (HB.out.cell (World.block_lt_of_cell? w _ hx216_0)).trans hx216_0
                    replace p216 := eq_true p216
                    replace q216 := eq_true q216
                    go_wp2
                    go_roundg k2
                    case measure => have := HK1.out; have := HK2.out; omega
                    case rel => exact ⟨(wrap64 (x5_2 + 1)), (wrap64 (x7_2 + 1)), (by first | rfl | (simp; done) | (simp [*]; done)), (by first | rfl | (simp; done) | (simp [*]; done)), H', ⟨by have := HK1.out; have := HK2.out; omega⟩, ⟨by repeat (first | (with_reducible first | exact HB.out | apply below_alloc | apply pw_below_drewN | apply below_drew1) | exact HB.out)⟩⟩
                · rw [if_neg c6] at H
                  have c6b0 : ((rd l0 x7_2) == x6_1) = false := beq_eq_false_iff_ne.mpr c6
                  have c6b1 : ((rd l0 x7_2) != x6_1) = true := bne_iff_ne.mpr c6
                  have H' := Aside0.mk H
                  clear H
                  have p216 : 0 ≤ (x7_2 : Int) := of_decide_eq_true (by first | (with_reducible assumption) | assumption)
                  have q216 : x7_2 < (l0.length : Int) := of_decide_eq_true (by first | (with_reducible assumption) | assumption)
                  obtain ⟨ad216, e216, hx216_0⟩ := Kd.at_int HR0.out x7_2 p216 q216
                  cases e216
                  replace hx216_0 := (HB.out.cell (World.block_lt_of_cell? w _ hx216_0)).trans hx216_0
                  replace p216 := eq_true p216
                  replace q216 := eq_true q216
                  go_wp2
                  go_roundg k2
                  case measure => have := HK1.out; have := HK2.out; omega
                  case rel => exact ⟨(x5_2), (wrap64 (x7_2 + 1)), (by first | rfl | (simp; done) | (simp [*]; done)), (by first | rfl | (simp; done) | (simp [*]; done)), H', ⟨by have := HK1.out; have := HK2.out; omega⟩, ⟨by repeat (first | (with_reducible first | exact HB.out | apply below_alloc | apply pw_below_drewN | apply below_drew1) | exact HB.out)⟩⟩
              · rw [if_neg c5] at H
                exact absurd H (by simp)
            · rw [if_neg c4] at H
              have c4b0 : decide (x7_2 < (l0.length : Int)) = false := decide_eq_false c4
              clear c4
              have H' := Aside0.mk H
              clear H
              go_wp2
              go_roundg k2
              case measure => have := HK1.out; have := HK2.out; omega
              case rel => exact ⟨(wrap64 (x5_2 * 2)), (wrap64 (x6_1 + 1)), (by first | rfl | (simp; done) | (simp [*]; done)), (by first | rfl | (simp; done) | (simp [*]; done)), H', ⟨by have := HK1.out; have := HK2.out; omega⟩, ⟨by repeat (first | (with_reducible first | exact HB.out | apply below_alloc | apply pw_below_drewN | apply below_drew1) | exact HB.out)⟩⟩
      · rw [if_neg c3] at H
        have c3b0 : decide (x6_1 ≤ 16) = false := decide_eq_false c3
        clear c3
        obtain rfl := Option.some.inj H
        go_wp2
        go_ret
        exact ⟨_, by first | rfl | (simp [errW_none, errW_some] <;> rfl) | (simp [*, errW_none, errW_some] <;> rfl), by first | exact Kd.R_nil _ _ _ _ _ | exact Kd.N_nil _ _ _ _ _ | exact Kd.V_nil _ _ _ _ _ | exact Kd.Q_nil _ _ _ _ _ | exact Kd.S_nil _ _ _ _ _, by repeat (first | (with_reducible first | exact HB.out | apply below_alloc | apply pw_below_drewN | apply below_drew1) | exact HB.out)⟩

end Go.Proofs.Ytmocinhononfpaa.P
