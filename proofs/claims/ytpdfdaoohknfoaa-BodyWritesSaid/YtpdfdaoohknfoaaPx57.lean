/- Walks. -/
import Derived.Test.YtpdfdaoohknfoaaQ1
namespace Go.Proofs.Ytpdfdaoohknfoaa.P
open Go.RowKit Go.Proofs.YtpdfdaoohknfoaaW.PrintWords Go.Proofs.YtpdfdaoohknfoaaW.PrintLast Go.Proofs.YtpdfdaoohknfoaaW.PrintMore
attribute [local go_sem] max2_int min2_int max_two min_two max_three min_three max_four min_four   -- for this text's walks alone
set_option linter.unusedVariables false
set_option linter.unusedSimpArgs false

def psalteryref17_low.l0 : Nat → Int → Int → List Int → Int → Option (List Int)
  | 0, _, _, _, _ => none
  | k + 1, x0, x1, x5, x6 => if x6 < x1 then (if x5.length < 17592186044416 then (psalteryref17_low.l0 k (wrap64 (Int.tdiv x0 2)) x1 (x5 ++ [Int.tmod x0 2]) (wrap64 (x6 + 1))) else (none)) else (some x5)
def psalteryref17_low.f (k : Nat) (a0 : Int) (a1 : Int) : Option (List Int) := psalteryref17_low.l0 k a0 a1 ([] : List Int) 0
theorem psalteryref17_low.mono_l : ∀ k, (∀ y0 y1 y2 y3, LeO (psalteryref17_low.l0 k y0 y1 y2 y3) (psalteryref17_low.l0 (k + 1) y0 y1 y2 y3))
  | 0 => fun _ _ _ _ r h => by simp [psalteryref17_low.l0] at h
  | k + 1 => by
    have ih0 := psalteryref17_low.mono_l k
    · intro y0 y1 y2 y3
      unfold psalteryref17_low.l0
      with_reducible repeat' first
   | exact ih0 _ _ _ _
   | exact LeO.refl _
   | exact LeO.none _
   | refine LeO.ite ?_ ?_
   | refine LeO.bind ?_ (fun _ => ?_)
theorem psalteryref17_low.mono : ∀ a0 a1 k, LeO (psalteryref17_low.f k a0 a1) (psalteryref17_low.f (k + 1) a0 a1) := by
  intro a0 a1 k
  have ih0 := psalteryref17_low.mono_l k
  unfold psalteryref17_low.f
  with_reducible repeat' first
   | exact ih0 _ _ _ _
   | exact LeO.refl _
   | exact LeO.none _
   | refine LeO.ite ?_ ?_
   | refine LeO.bind ?_ (fun _ => ?_)
set_option maxHeartbeats 8000000 in
set_option maxRecDepth 100000 in
theorem psalteryref17_low.calls (k : Nat) (a0 : Int) (a1 : Int) (r : List Int) (w : World) (h : psalteryref17_low.f k a0 a1 = some r) :
    Calls Try.prog 54 #[.int .i64 a0, .int .i64 a1] w fun e w' => ∃ v0_ : Value, e = .returned (v0_) ∧ Kd.R (Kd.int .i64) 3 w' w.heap.size (fun _ => True) v0_ r ∧ Below w.heap.size w w' := by
 have HB := Aside0.mk (Below.refl w.heap.size w)
 have H : (psalteryref17_low.l0 k a0 a1 ([] : List Int) 0) = some r := h
 clear h
 have H' := Aside0.mk H
 clear H
 go_enter Try.func54, Try.ntmps54
 go_wp2
 go_loopg [0, 5, 6] k (fun kq v0 v5 v6 w' => ∃ (x0_1 : Int) (x5_1 : List Int) (x6_1 : Int), v0 = .int .i64 x0_1 ∧ v6 = .int .i64 x6_1 ∧ Aside0 (psalteryref17_low.l0 kq x0_1 a1 x5_1 x6_1 = some r) ∧ Aside0 (kq ≤ k) ∧ Aside0 (Kd.R (Kd.int .i64) 3 w' w.heap.size (fun _ => True) v5 x5_1) ∧ Aside0 (Below w.heap.size w w'))
 case atStart => exact ⟨(a0), (([] : List Int)), (0), rs_, rs_, H', ⟨Nat.le_refl _⟩, ⟨by first | exact Kd.R_nil _ _ _ _ _ | exact Kd.N_nil _ _ _ _ _ | exact Kd.V_nil _ _ _ _ _ | exact Kd.Q_nil _ _ _ _ _ | exact Kd.S_nil _ _ _ _ _⟩, ⟨bl_ HB⟩⟩
 case round => (
 clear H'
 obtain ⟨x0_1, x5_1, x6_1, rfl, rfl, HA, HK1, HO_5, HB⟩ := hrel
 cases gk with
 | zero => exact absurd HA.out (by simp [psalteryref17_low.l0])
 | succ k1 => (
 have H := HA.out
 clear HA
 simp only [psalteryref17_low.l0] at H
 by_cases c3 : x6_1 < a1
 {
 rw [if_pos c3] at H
 have c3b0 : decide (x6_1 < a1) = true := decide_eq_true c3
 clear c3
 by_cases c4 : x5_1.length < 17592186044416
 {
 rw [if_pos c4] at H
 have LMc4 := Aside0.mk c4
 clear c4
 obtain ⟨y677, hy677⟩ : ∃ y_ : List Int, y_ = (x5_1 ++ [Int.tmod x0_1 2]) := ⟨_, rfl⟩
 replace H : (psalteryref17_low.l0 k1 (wrap64 (Int.tdiv x0_1 2)) a1 y677 (wrap64 (x6_1 + 1))) = some r := by first | (rw [hy677]; with_reducible exact H) | (have H2_ := (Option.bind_some _ _).symm.trans H; rw [hy677]; with_reducible exact H2_) | (have H2_ := (Option.bind_some _ _).symm.trans H; with_reducible exact H2_) | with_reducible exact H | (rw [hy677]; exact H) | exact H
 have Ny677 := Aside0.mk hy677
 clear hy677
 have H' := Aside0.mk H
 clear H
 go_wp2_with (first | ((with_reducible refine gate_builtin (b := .append) (xs := #[.tmp 12, .tmp 15]) rfl ?_); at_builtin; refine Kd.R_append (Kd.int .i64) (w0 := w) w.heap.size rfl (.tmp 12) (.tmp 15) 22 3 (.int .i64 0) 8 rfl Try.underlying22 info3 rfl (by decide) (by omega) u5 x5_1 (Int.tmod x0_1 2) [.int .i64 (Int.tmod x0_1 2)] (fun _ => True) (fun _ => False) rfl rfl ?aP (fun _ hk => hk.elim) ?aF ?aO ?aB ?aS ?aL ?_; (case aP => exact rfl); (case aB => exact (bl_ HB)); (case aF => exact (fun _ _ => trivial)); (case aO => exact (kR_ HO_5)); (case aS => exact (bs_ HB)); (case aL => have := LMc4.out; omega); intro v678 w5 ho hb hg hat; rw [← Ny677.out] at ho; replace HB := Aside0.mk (hb); have HO679 := Aside0.mk (ho); clear HO_5; clear ho hb hg hat))
 go_roundg k1
 case measure => have := HK1.out; omega
 case rel => exact ⟨(wrap64 (Int.tdiv x0_1 2)), (y677), (wrap64 (x6_1 + 1)), rs_, rs_, H', ⟨by have := HK1.out; omega⟩, ⟨kR_ HO679⟩, ⟨bl_ HB⟩⟩}
 {
 rw [if_neg c4] at H
 exact absurd H (by simp)}}
 {
 rw [if_neg c3] at H
 have c3b0 : decide (x6_1 < a1) = false := decide_eq_false c3
 clear c3
 obtain rfl := Option.some.inj H
 go_wp2
 go_ret
 exact ⟨_, by first | rfl | (simp [errW_none, errW_some] <;> rfl) | (simp [*, errW_none, errW_some] <;> rfl), by (with_reducible repeat (first | apply Kd.R_alloc | apply Kd.R_drewN | apply Kd.R_drew)); exact HO_5.out, bl_ HB⟩}))
end Go.Proofs.Ytpdfdaoohknfoaa.P
