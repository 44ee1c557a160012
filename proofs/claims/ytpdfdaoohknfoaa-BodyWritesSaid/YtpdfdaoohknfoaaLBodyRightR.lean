/- Which bodies the document's Right takes. -/
import Derived.Test.YtpdfdaoohknfoaaPx52
import Derived.Test.YtpdfdaoohknfoaaT1
namespace Go.Proofs.Ytpdfdaoohknfoaa.LK
set_option linter.unusedVariables false
set_option linter.unusedSimpArgs false
open Go.RowKit Go.Proofs.YtpdfdaoohknfoaaW.PrintWords Go.Proofs.YtpdfdaoohknfoaaW.PrintLast Go.Proofs.YtpdfdaoohknfoaaW.PrintMore Go.Proofs.Ytpdfdaoohknfoaa.P Go.Proofs.Ytpdfdaoohknfoaa.LB Go.Proofs.Ytpdfdaoohknfoaa.HT Go.Proofs.Ytpdfdaoohknfoaa.LH Go.Proofs.Ytpdfdaoohknfoaa.BT Go.Proofs.Ytpdfdaoohknfoaa.LV
theorem ref14_loop (l : List Int) (hl : l.length ≤ 1000) (d : Nat) : ∀ (i k : Nat) (b : Bool), i + d = l.length → d < k → psalteryref14_Right.l0 k l b (i : Int) = some (b && (l.drop i).all inG) := by
  induction d with
  | zero =>
    intro i k b hi hk
    obtain ⟨k, rfl⟩ : ∃ j, k = j + 1 := ⟨k - 1, by omega⟩
    simp only [psalteryref14_Right.l0]
    rw [if_neg (by omega), List.drop_eq_nil_of_le (by omega), List.all_nil, Bool.and_true]
  | succ d ih =>
    intro i k b hi hk
    obtain ⟨k, rfl⟩ : ∃ j, k = j + 1 := ⟨k - 1, by omega⟩
    have hil : i < l.length := by omega
    simp only [psalteryref14_Right.l0]
    rw [if_pos (by omega), List.drop_eq_getElem_cons hil, List.all_cons, w64 (x := (i : Int) + 1) (by omega) (by omega)]
    cases b
    · rw [if_neg (by decide)]
      have nx := ih (i + 1) k false (by omega) (by omega)
      rw [Bool.false_and] at nx ⊢
      exact nx
    · rw [if_pos rfl, if_pos (by omega), rd_get l i hil, Bool.true_and]
      by_cases c1 : l[i] ≥ 0
      · rw [if_pos c1]
        have nx := ih (i + 1) k (decide (l[i] ≤ 44)) (by omega) (by omega)
        rw [show inG l[i] = decide (l[i] ≤ 44) by unfold inG; rw [decide_eq_decide]; omega]
        exact nx
      · rw [if_neg c1, show inG l[i] = false from decide_eq_false (by omega), Bool.false_and]
        have nx := ih (i + 1) k false (by omega) (by omega)
        rw [Bool.false_and] at nx
        exact nx
theorem ref14_eq (l : List Int) (hl : l.length ≤ 1000) (k : Nat) (hk : 1001 < k) : psalteryref14_Right.f k l = some (decide (l.length = 6) && l.all inG) := by
  unfold psalteryref14_Right.f
  have := ref14_loop l hl l.length 0 k ((l.length : Int) == 6) (by omega) (by omega)
  rw [show ((0 : Nat) : Int) = 0 from rfl, List.drop_zero] at this
  rw [this]
  congr 2
  by_cases c : l.length = 6
  · rw [decide_eq_true c]; exact beq_iff_eq.mpr (by omega)
  · rw [decide_eq_false c]; exact beq_eq_false_iff_ne.mpr (by omega)
theorem chan_l1 (r : List Int) (hr : r.length = 16) (d : Nat) : ∀ (i k : Nat), i + d = 16 → d < k → psalteryref17_channel.l1 k r (i : Int) = some ((r.drop i).all resOk) := by
  induction d with
  | zero =>
    intro i k hi hk
    obtain ⟨k, rfl⟩ : ∃ j, k = j + 1 := ⟨k - 1, by omega⟩
    simp only [psalteryref17_channel.l1]
    rw [if_neg (by omega), List.drop_eq_nil_of_le (by omega)]; rfl
  | succ d ih =>
    intro i k hi hk
    obtain ⟨k, rfl⟩ : ∃ j, k = j + 1 := ⟨k - 1, by omega⟩
    have hil : i < r.length := by omega
    have nx := ih (i + 1) k (by omega) (by omega)
    simp only [psalteryref17_channel.l1]
    rw [if_pos (by omega), if_pos (by omega), if_pos (by omega), rd_get r i hil, List.drop_eq_getElem_cons hil, List.all_cons, w64 (x := (i : Int) + 1) (by omega) (by omega)]
    by_cases c1 : r[i] > 4194303
    · rw [if_pos c1, show resOk r[i] = false from decide_eq_false (by omega)]; rfl
    · rw [if_neg c1]
      by_cases c2 : r[i] < -4194303
      · rw [if_pos c2, show resOk r[i] = false from decide_eq_false (by omega)]; rfl
      · rw [if_neg c2, show resOk r[i] = true from decide_eq_true (by omega), Bool.true_and]
        exact nx
theorem chan_l0 (fl : List Int) (hfl : fl.length = 45) (l r : List Int) (hl : l.length = 6) (hr : r.length = 16) (hin : ∀ g ∈ l, 0 ≤ g ∧ g ≤ 44) (c q : Int) (rs : List Int) (d : Nat) : ∀ (i k : Nat), i + d = 6 → d + 20 < k → psalteryref17_channel.l0 k l r (i : Int) c q fl rs = some ((l.drop i).all (nz fl) && r.all resOk) := by
  induction d with
  | zero =>
    intro i k hi hk
    obtain ⟨k, rfl⟩ : ∃ j, k = j + 1 := ⟨k - 1, by omega⟩
    simp only [psalteryref17_channel.l0]
    rw [if_neg (by omega), List.drop_eq_nil_of_le (by omega)]
    exact chan_l1 r hr 16 0 k (by omega) (by omega)
  | succ d ih =>
    intro i k hi hk
    obtain ⟨k, rfl⟩ : ∃ j, k = j + 1 := ⟨k - 1, by omega⟩
    have hil : i < l.length := by omega
    have nx := ih (i + 1) k (by omega) (by omega)
    have hg := hin l[i] (List.getElem_mem hil)
    simp only [psalteryref17_channel.l0]
    rw [if_pos (by omega), if_pos (by omega), if_pos (by omega), rd_get l i hil, if_pos hg.1, if_pos (by omega), List.drop_eq_getElem_cons hil, List.all_cons, w64 (x := (i : Int) + 1) (by omega) (by omega)]
    by_cases c1 : rd fl l[i] = 0
    · rw [if_pos c1, show nz fl l[i] = false from decide_eq_false (by omega)]; rfl
    · rw [if_neg c1, show nz fl l[i] = true from decide_eq_true c1, Bool.true_and]
      exact nx
theorem channel_eq (c q : Int) (fl rs : List Int) (hfl : fl.length = 45) (p r : List Int) (hp : p.length ≤ 1000) (k : Nat) (hk : 1100 < k) : psalteryref17_channel.f k c q fl rs p r = some (chanOk fl p r) := by
  obtain ⟨k, rfl⟩ : ∃ j, k = j + 1 := ⟨k - 1, by omega⟩
  unfold psalteryref17_channel.f chanOk
  by_cases c0 : p.length = 0
  · rw [if_pos (by omega)]
    by_cases c1 : r.length = 0
    · rw [decide_eq_true ⟨c0, c1⟩, Bool.true_or]
      exact congrArg some (beq_iff_eq.mpr (by omega))
    · rw [decide_eq_false (p := p.length = 0 ∧ r.length = 0) (fun h => c1 h.2), decide_eq_false (p := p.length = 6) (by omega), show ((r.length : Int) == 0) = false from beq_eq_false_iff_ne.mpr (by omega)]; rfl
  · rw [if_neg (by omega), decide_eq_false (p := p.length = 0 ∧ r.length = 0) (fun h => c0 h.1), Bool.false_or, ref14_eq p hp (k + 1) (by omega), Option.bind_some, postOk_all]
    have bad : psalteryref17_channel.j0 (k + 1) p r true c q fl rs = some false := by simp only [psalteryref17_channel.j0, if_true]
    by_cases c6 : p.length = 6
    · rw [decide_eq_true c6, Bool.true_and, Bool.true_and]
      cases h1 : p.all inG
      · rw [if_neg (by decide), bad]; simp
      · rw [if_pos rfl, Bool.true_and]
        by_cases c16 : r.length = 16
        · rw [show ((r.length : Int) != 16) = false from bne_eq_false_iff_eq.mpr (by omega), decide_eq_true c16, Bool.and_true]
          simp only [psalteryref17_channel.j0, Bool.false_eq_true, if_false]
          exact chan_l0 fl hfl p r c6 c16 (fun g hg => by have := List.all_eq_true.1 h1 g hg; simpa [inG] using this) c q rs 6 0 k (by omega) (by omega)
        · rw [show ((r.length : Int) != 16) = true from bne_iff_ne.mpr (by omega), bad, decide_eq_false c16]; simp
    · rw [decide_eq_false c6, Bool.false_and, if_neg (by decide), bad]; simp
theorem rright_l0 (fl rs : List Int) (hfl : fl.length = 45) (q : Int) (P R : List (List Int)) (hPR : P.length = R.length) (hn : P.length ≤ 100) (hP : ∀ p ∈ P, p.length ≤ 1000) (d : Nat) :
    ∀ (i k : Nat), i + d = P.length → d + 1200 ≤ k → psalteryref17_Right.l0 k (i : Int) (P.length : Int) q fl rs P R = some (chansOk fl (P.drop i) (R.drop i)) := by
  induction d with
  | zero =>
    intro i k hi hk
    obtain ⟨k, rfl⟩ : ∃ j, k = j + 1 := ⟨k - 1, by omega⟩
    simp only [psalteryref17_Right.l0]
    rw [if_neg (by omega), List.drop_eq_nil_of_le (by omega)]
    simp [chansOk]
  | succ d ih =>
    intro i k hi hk
    obtain ⟨k, rfl⟩ : ∃ j, k = j + 1 := ⟨k - 1, by omega⟩
    have hiP : i < P.length := by omega
    have hiR : i < R.length := by omega
    simp only [psalteryref17_Right.l0]
    rw [if_pos (by omega), if_pos (by omega), if_pos (by omega), if_pos (by omega), L1_at' P i hiP, L5_at R i hiR, channel_eq _ q fl rs hfl P[i] R[i] (hP _ (List.getElem_mem hiP)) k (by omega), Option.bind_some, List.drop_eq_getElem_cons hiP, List.drop_eq_getElem_cons hiR, chansOk, w64 (x := (i : Int) + 1) (by omega) (by omega)]
    cases h : chanOk fl P[i] R[i]
    · rw [if_neg (by decide), Bool.false_and]
    · rw [if_pos rfl, Bool.true_and]
      exact ih (i + 1) k (by omega) (by omega)
theorem rbdRight_eq (c q : Int) (fl rs : List Int) (P R : List (List Int)) (hP : ∀ p ∈ P, p.length ≤ 1000) (k : Nat) (hk : 5000 ≤ k) : psalteryref17_Right.f k c q fl rs P R = some (rightBd c q fl rs P R) := by
  obtain ⟨k, rfl⟩ : ∃ j, k = j + 1 := ⟨k - 1, by omega⟩
  unfold psalteryref17_Right.f rightBd
  rw [ref_right c q fl rs (k + 1) (by omega), Option.bind_some]
  have bad : psalteryref17_Right.j0 (k + 1) true c q fl rs P R = some false := by simp only [psalteryref17_Right.j0, if_true]
  by_cases hr : rightHd c q fl rs = true
  · obtain ⟨a1, a2, a3, a4, a5, a6, a7, a8, a9⟩ := right_parts hr
    rw [if_pos hr, hr, Bool.true_and]
    by_cases c1 : (P.length : Int) = c
    · rw [if_pos c1]
      by_cases c2 : (R.length : Int) = c
      · rw [show ((R.length : Int) != c) = false from bne_eq_false_iff_eq.mpr c2, decide_eq_true ⟨c1, c2⟩, Bool.true_and]
        simp only [psalteryref17_Right.j0, Bool.false_eq_true, if_false]
        have := rright_l0 fl rs a5 q P R (by omega) (by omega) hP P.length 0 k (by omega) (by omega)
        rw [show ((0 : Nat) : Int) = 0 from rfl, List.drop_zero, List.drop_zero, c1] at this
        exact this
      · rw [show ((R.length : Int) != c) = true from bne_iff_ne.mpr c2, decide_eq_false (fun h => c2 h.2), bad]; rfl
    · rw [if_neg c1, decide_eq_false (fun h => c1 h.1), bad]; rfl
  · rw [if_neg hr, bad]
    cases h : rightHd c q fl rs
    · rfl
    · exact absurd h hr
end Go.Proofs.Ytpdfdaoohknfoaa.LK
