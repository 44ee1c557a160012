/- Walks. -/
import Derived.Test.YtpdfdaoohknfoaaQ1
namespace Go.Proofs.Ytpdfdaoohknfoaa.P
open Go.RowKit Go.Proofs.YtpdfdaoohknfoaaW.PrintWords Go.Proofs.YtpdfdaoohknfoaaW.PrintLast Go.Proofs.YtpdfdaoohknfoaaW.PrintMore
attribute [local go_sem] max2_int min2_int max_two min_two max_three min_three max_four min_four   -- for this text's walks alone
set_option linter.unusedVariables false
set_option linter.unusedSimpArgs false

mutual
def psalteryref01_Bytes.l0 : Nat → List Int → List Int → Int → Option (List Int)
  | 0, _, _, _ => none
  | k + 1, x0, x3, x4 => if x4 < (x0.length : Int) then (psalteryref01_Bytes.l1 k x0 x3 x4 0 7) else (some x3)
def psalteryref01_Bytes.l1 : Nat → List Int → List Int → Int → Int → Int → Option (List Int)
  | 0, _, _, _, _, _ => none
  | k + 1, x0, x3, x4, x5, x6 => if x6 ≥ 0 then (if (wrap64 (x4 + x6)) < (x0.length : Int) then (if 0 ≤ (wrap64 (x4 + x6)) then (psalteryref01_Bytes.l1 k x0 x3 x4 (wrap64 ((wrap64 (x5 * 2)) + (rd x0 (wrap64 (x4 + x6))))) (wrap64 (x6 - 1))) else (none)) else (psalteryref01_Bytes.l1 k x0 x3 x4 (wrap64 (x5 * 2)) (wrap64 (x6 - 1)))) else (if x3.length < 140737488355328 then (psalteryref01_Bytes.l0 k x0 (x3 ++ [(x5) % 256]) (wrap64 (x4 + 8))) else (none))
end
def psalteryref01_Bytes.f (k : Nat) (l0 : List Int) : Option (List Int) := psalteryref01_Bytes.l0 k l0 ([] : List Int) 0
theorem psalteryref01_Bytes.mono_l : ∀ k, (∀ y0 y1 y2, LeO (psalteryref01_Bytes.l0 k y0 y1 y2) (psalteryref01_Bytes.l0 (k + 1) y0 y1 y2)) ∧ (∀ y0 y1 y2 y3 y4, LeO (psalteryref01_Bytes.l1 k y0 y1 y2 y3 y4) (psalteryref01_Bytes.l1 (k + 1) y0 y1 y2 y3 y4))
  | 0 => ⟨fun _ _ _ r h => by simp [psalteryref01_Bytes.l0] at h, fun _ _ _ _ _ r h => by simp [psalteryref01_Bytes.l1] at h⟩
  | k + 1 => by
    obtain ⟨ih0, ih1⟩ := psalteryref01_Bytes.mono_l k
    refine ⟨?_, ?_⟩
    all_goals (intros; first | unfold psalteryref01_Bytes.l0 | unfold psalteryref01_Bytes.l1)
    all_goals with_reducible repeat' first
     | exact ih0 _ _ _
     | exact ih1 _ _ _ _ _
     | exact LeO.refl _
     | exact LeO.none _
     | refine LeO.ite ?_ ?_
     | refine LeO.bind ?_ (fun _ => ?_)
theorem psalteryref01_Bytes.mono : ∀ a0 k, LeO (psalteryref01_Bytes.f k a0) (psalteryref01_Bytes.f (k + 1) a0) := by
  intro a0 k
  obtain ⟨ih0, ih1⟩ := psalteryref01_Bytes.mono_l k
  unfold psalteryref01_Bytes.f
  with_reducible repeat' first
   | exact ih0 _ _ _
   | exact ih1 _ _ _ _ _
   | exact LeO.refl _
   | exact LeO.none _
   | refine LeO.ite ?_ ?_
   | refine LeO.bind ?_ (fun _ => ?_)
set_option maxHeartbeats 8000000 in
set_option maxRecDepth 100000 in
theorem psalteryref01_Bytes.calls (k : Nat) (A0 : Option Addr) (c0 : Nat) (l0 : List Int) (r : List Int) (w : World) (hr0 : Kd.C (Kd.int .i64) w A0 l0.length l0) (hc0 : l0.length ≤ c0) (h : psalteryref01_Bytes.f k l0 = some r) :
    Calls Try.prog 43 #[.slice A0 l0.length c0] w fun e w' => ∃ v0_ : Value, e = .returned (v0_) ∧ Kd.R (Kd.int .u8) 5 w' w.heap.size (fun _ => True) v0_ r ∧ Below w.heap.size w w' := by
 have HR0 := Aside0.mk hr0
 have HC0 := Aside0.mk hc0
 clear hr0 hc0
 have HB := Aside0.mk (Below.refl w.heap.size w)
 have H : (psalteryref01_Bytes.l0 k l0 ([] : List Int) 0) = some r := h
 clear h
 have H' := Aside0.mk H
 clear H
 go_enter Try.func43, Try.ntmps43
 go_wp2
 go_loopg [3, 4] k (fun kq v3 v4 w' => ∃ (x3_1 : List Int) (x4_1 : Int), v4 = .int .i64 x4_1 ∧ Aside0 (psalteryref01_Bytes.l0 kq l0 x3_1 x4_1 = some r) ∧ Aside0 (kq ≤ k) ∧ Aside0 (Kd.R (Kd.int .u8) 5 w' w.heap.size (fun _ => True) v3 x3_1) ∧ Aside0 (Below w.heap.size w w'))
 case atStart => exact ⟨(([] : List Int)), (0), rs_, H', ⟨Nat.le_refl _⟩, ⟨by first | exact Kd.R_nil _ _ _ _ _ | exact Kd.N_nil _ _ _ _ _ | exact Kd.V_nil _ _ _ _ _ | exact Kd.Q_nil _ _ _ _ _ | exact Kd.S_nil _ _ _ _ _⟩, ⟨bl_ HB⟩⟩
 case round => (
 clear H'
 obtain ⟨x3_1, x4_1, rfl, HA, HK1, HO_3, HB⟩ := hrel
 cases gk with
 | zero => exact absurd HA.out (by simp [psalteryref01_Bytes.l0])
 | succ k1 => (
 have H := HA.out
 clear HA
 simp only [psalteryref01_Bytes.l0] at H
 by_cases c2 : x4_1 < (l0.length : Int)
 {
 rw [if_pos c2] at H
 have c2b0 : decide (x4_1 < (l0.length : Int)) = true := decide_eq_true c2
 clear c2
 have H' := Aside0.mk H
 clear H
 go_wp2
 go_loopg [5, 6] k1 (fun kq v5 v6 w' => ∃ (x5_2 : Int) (x6_2 : Int), v5 = .int .i64 x5_2 ∧ v6 = .int .i64 x6_2 ∧ Aside0 (psalteryref01_Bytes.l1 kq l0 x3_1 x4_1 x5_2 x6_2 = some r) ∧ Aside0 (kq ≤ k1) ∧ Aside0 (Kd.R (Kd.int .u8) 5 w' w.heap.size (fun _ => True) u3 x3_1) ∧ Aside0 (Below w.heap.size w w'))
 case atStart => exact ⟨(0), (7), rs_, rs_, H', ⟨Nat.le_refl _⟩, ⟨kR_ HO_3⟩, ⟨bl_ HB⟩⟩
 case round => (
 clear H'
 try clear c2
 try clear c2b0
 obtain ⟨x5_2, x6_2, rfl, rfl, HA, HK2, HO_3, HB⟩ := hrel
 cases gk with
 | zero => exact absurd HA.out (by simp [psalteryref01_Bytes.l1])
 | succ k2 => (
 have H := HA.out
 clear HA
 simp only [psalteryref01_Bytes.l1] at H
 by_cases c3 : x6_2 ≥ 0
 {
 rw [if_pos c3] at H
 have c3b0 : decide (0 ≤ x6_2) = true := decide_eq_true c3
 clear c3
 by_cases c4 : (wrap64 (x4_1 + x6_2)) < (l0.length : Int)
 {
 rw [if_pos c4] at H
 have c4b0 : decide ((wrap64 (x4_1 + x6_2)) < (l0.length : Int)) = true := decide_eq_true c4
 clear c4
 obtain ⟨ji5, hji5⟩ : ∃ j_ : Int, (wrap64 (x4_1 + x6_2)) = j_ := ⟨_, rfl⟩
 replace H : (if 0 ≤ (ji5) then (psalteryref01_Bytes.l1 k2 l0 x3_1 x4_1 (wrap64 ((wrap64 (x5_2 * 2)) + (rd l0 (ji5)))) (wrap64 (x6_2 - 1))) else (none)) = some r := by first | (rw [hji5] at H; exact H) | (simp only [hji5] at H ⊢; exact H)
 (try rw [hji5] at c4b0)
 have hji5w : (IntKind.i64.wrap (x4_1 + x6_2)) = ji5 := (i64_w _).trans hji5
 by_cases c6 : 0 ≤ (ji5)
 {
 rw [if_pos c6] at H
 have c6b0 : decide (0 ≤ (ji5)) = true := decide_eq_true c6
 clear c6
 have H' := Aside0.mk H
 clear H
 have p212 : 0 ≤ ((ji5) : Int) := of_decide_eq_true am_
 have q212 : (ji5) < (l0.length : Int) := of_decide_eq_true am_
 obtain ⟨ad212, e212, hx212_0⟩ := Kd.at_int HR0.out (ji5) p212 q212
 cases e212
 replace hx212_0 := (HB.out.cell (World.block_lt_of_cell? w _ hx212_0)).trans hx212_0
 replace p212 := eq_true p212
 replace q212 := eq_true q212
 go_wp2
 first | go_roundg k2 | (subst hji5; go_roundg k2)
 case measure => have := HK1.out; have := HK2.out; omega
 case rel => exact ⟨(wrap64 ((wrap64 (x5_2 * 2)) + (rd l0 (ji5)))), (wrap64 (x6_2 - 1)), (by first | rfl | (simp; done) | (simp only [← hji5] <;> (first | rfl | simp)) | (simp [*]; done)), rs_, H', ⟨by have := HK1.out; have := HK2.out; omega⟩, ⟨kR_ HO_3⟩, ⟨bl_ HB⟩⟩}
 {
 rw [if_neg c6] at H
 exact absurd H (by simp)}}
 {
 rw [if_neg c4] at H
 have c4b0 : decide ((wrap64 (x4_1 + x6_2)) < (l0.length : Int)) = false := decide_eq_false c4
 clear c4
 have H' := Aside0.mk H
 clear H
 go_wp2
 go_roundg k2
 case measure => have := HK1.out; have := HK2.out; omega
 case rel => exact ⟨(wrap64 (x5_2 * 2)), (wrap64 (x6_2 - 1)), rs_, rs_, H', ⟨by have := HK1.out; have := HK2.out; omega⟩, ⟨kR_ HO_3⟩, ⟨bl_ HB⟩⟩}}
 {
 rw [if_neg c3] at H
 have c3b0 : decide (0 ≤ x6_2) = false := decide_eq_false c3
 clear c3
 by_cases c7 : x3_1.length < 140737488355328
 {
 rw [if_pos c7] at H
 have LMc7 := Aside0.mk c7
 clear c7
 obtain ⟨y213, hy213⟩ : ∃ y_ : List Int, y_ = (x3_1 ++ [(x5_2) % 256]) := ⟨_, rfl⟩
 replace H : (psalteryref01_Bytes.l0 k2 l0 y213 (wrap64 (x4_1 + 8))) = some r := by first | (rw [hy213]; with_reducible exact H) | (have H2_ := (Option.bind_some _ _).symm.trans H; rw [hy213]; with_reducible exact H2_) | (have H2_ := (Option.bind_some _ _).symm.trans H; with_reducible exact H2_) | with_reducible exact H | (rw [hy213]; exact H) | exact H
 have Ny213 := Aside0.mk hy213
 clear hy213
 have H' := Aside0.mk H
 clear H
 go_wp2_with (first | ((with_reducible refine gate_builtin (b := .append) (xs := #[.tmp 33, .tmp 36]) rfl ?_); at_builtin; refine Kd.R_append (Kd.int .u8) (w0 := w) w.heap.size rfl (.tmp 33) (.tmp 36) 34 5 (.int .u8 0) 1 rfl Try.underlying34 info5 rfl (by decide) (by omega) u3 x3_1 ((x5_2) % 256) [.int .u8 ((x5_2) % 256)] (fun _ => True) (fun _ => False) rfl rfl ?aP (fun _ hk => hk.elim) ?aF ?aO ?aB ?aS ?aL ?_; (case aP => exact rfl); (case aB => exact (bl_ HB)); (case aF => exact (fun _ _ => trivial)); (case aO => exact (kR_ HO_3)); (case aS => exact (bs_ HB)); (case aL => have := LMc7.out; omega); intro v214 w8 ho hb hg hat; rw [← Ny213.out] at ho; replace HB := Aside0.mk (hb); have HO215 := Aside0.mk (ho); clear HO_3; clear ho hb hg hat))
 go_roundg k2
 case measure => have := HK1.out; have := HK2.out; omega
 case rel => exact ⟨(y213), (wrap64 (x4_1 + 8)), rs_, H', ⟨by have := HK1.out; have := HK2.out; omega⟩, ⟨kR_ HO215⟩, ⟨bl_ HB⟩⟩}
 {
 rw [if_neg c7] at H
 exact absurd H (by simp)}}))}
 {
 rw [if_neg c2] at H
 have c2b0 : decide (x4_1 < (l0.length : Int)) = false := decide_eq_false c2
 clear c2
 obtain rfl := Option.some.inj H
 go_wp2
 go_ret
 exact ⟨_, by first | rfl | (simp [errW_none, errW_some] <;> rfl) | (simp [*, errW_none, errW_some] <;> rfl), by (with_reducible repeat (first | apply Kd.R_alloc | apply Kd.R_drewN | apply Kd.R_drew)); exact HO_3.out, bl_ HB⟩}))
end Go.Proofs.Ytpdfdaoohknfoaa.P
