/- Two bodies that are alike: the document's Same. -/
import Derived.Test.YtpdfdaoohknfoaaPx67
import Derived.Test.YtpdfdaoohknfoaaT1
namespace Go.Proofs.Ytpdfdaoohknfoaa.LK
set_option linter.unusedVariables false
set_option linter.unusedSimpArgs false
open Go.RowKit Go.Proofs.YtpdfdaoohknfoaaW.PrintWords Go.Proofs.YtpdfdaoohknfoaaW.PrintLast Go.Proofs.YtpdfdaoohknfoaaW.PrintMore Go.Proofs.Ytpdfdaoohknfoaa.P Go.Proofs.Ytpdfdaoohknfoaa.LB Go.Proofs.Ytpdfdaoohknfoaa.HT Go.Proofs.Ytpdfdaoohknfoaa.LH Go.Proofs.Ytpdfdaoohknfoaa.BT Go.Proofs.Ytpdfdaoohknfoaa.LV
theorem same7_loop (l : List Int) (hl : l.length ≤ 1000000) (d : Nat) : ∀ (i k : Nat), i + d = l.length → d < k → psalteryref07_Same.l0 k l l (i : Int) = some true := by
  induction d with
  | zero =>
    intro i k hi hk
    obtain ⟨k, rfl⟩ : ∃ j, k = j + 1 := ⟨k - 1, by omega⟩
    simp only [psalteryref07_Same.l0]
    rw [if_neg (by omega)]
  | succ d ih =>
    intro i k hi hk
    obtain ⟨k, rfl⟩ : ∃ j, k = j + 1 := ⟨k - 1, by omega⟩
    simp only [psalteryref07_Same.l0]
    rw [if_pos (by omega), if_pos (by omega), if_pos (by omega), if_pos trivial, w64 (x := (i : Int) + 1) (by omega) (by omega)]
    exact ih (i + 1) k (by omega) (by omega)
theorem same7 (l : List Int) (hl : l.length ≤ 1000000) (k : Nat) (hk : l.length < k) : psalteryref07_Same.f k l l = some true := by
  unfold psalteryref07_Same.f
  rw [if_pos rfl]
  exact same7_loop l hl l.length 0 k (by omega) hk
theorem same17_l1 (P R : List (List Int)) (hR : R.length ≤ 1000) (h2 : ∀ r ∈ R, r.length ≤ 1000) (d : Nat) : ∀ (i k : Nat), i + d = R.length → d + 1001 < k → psalteryref17_Same.l1 k (i : Int) P R P R = some true := by
  induction d with
  | zero =>
    intro i k hi hk
    obtain ⟨k, rfl⟩ : ∃ j, k = j + 1 := ⟨k - 1, by omega⟩
    simp only [psalteryref17_Same.l1]
    rw [if_neg (by omega)]
  | succ d ih =>
    intro i k hi hk
    obtain ⟨k, rfl⟩ : ∃ j, k = j + 1 := ⟨k - 1, by omega⟩
    have hi2 : i < R.length := by omega
    have hr := h2 R[i] (List.getElem_mem hi2)
    simp only [psalteryref17_Same.l1]
    rw [if_pos (by omega), if_pos (by omega), if_pos (by omega), L5_at R i hi2, same7 R[i] (by omega) k (by omega), Option.bind_some, if_pos rfl, w64 (x := (i : Int) + 1) (by omega) (by omega)]
    exact ih (i + 1) k (by omega) (by omega)
theorem same17_l0 (P R : List (List Int)) (hP : P.length ≤ 1000) (hR : R.length ≤ 1000) (h1 : ∀ p ∈ P, p.length ≤ 1000) (h2 : ∀ r ∈ R, r.length ≤ 1000) (d : Nat) : ∀ (i k : Nat), i + d = P.length → d + 2003 < k → psalteryref17_Same.l0 k (i : Int) P R P R = some true := by
  induction d with
  | zero =>
    intro i k hi hk
    obtain ⟨k, rfl⟩ : ∃ j, k = j + 1 := ⟨k - 1, by omega⟩
    simp only [psalteryref17_Same.l0]
    rw [if_neg (by omega)]
    exact same17_l1 P R hR h2 R.length 0 k (by omega) (by omega)
  | succ d ih =>
    intro i k hi hk
    obtain ⟨k, rfl⟩ : ∃ j, k = j + 1 := ⟨k - 1, by omega⟩
    have hi2 : i < P.length := by omega
    have hp := h1 P[i] (List.getElem_mem hi2)
    simp only [psalteryref17_Same.l0]
    rw [if_pos (by omega), if_pos (by omega), if_pos (by omega), L1_at' P i hi2, same6 P[i] (by omega) k (by omega), Option.bind_some, if_pos rfl, w64 (x := (i : Int) + 1) (by omega) (by omega)]
    exact ih (i + 1) k (by omega) (by omega)
theorem same17 (P R : List (List Int)) (hP : P.length ≤ 1000) (hR : R.length ≤ 1000) (h1 : ∀ p ∈ P, p.length ≤ 1000) (h2 : ∀ r ∈ R, r.length ≤ 1000) (k : Nat) (hk : 5000 ≤ k) : psalteryref17_Same.f k P R P R = some true := by
  obtain ⟨k, rfl⟩ : ∃ j, k = j + 1 := ⟨k - 1, by omega⟩
  unfold psalteryref17_Same.f
  rw [if_pos rfl]
  simp only [psalteryref17_Same.j0]
  rw [if_neg (by simp)]
  exact same17_l0 P R hP hR h1 h2 P.length 0 k (by omega) (by omega)
theorem rows_small {fl : List Int} : ∀ P R : List (List Int), P.length = R.length → chansOk fl P R = true → (∀ p ∈ P, p.length ≤ 1000) ∧ (∀ r ∈ R, r.length ≤ 1000)
  | [], [], _, _ => ⟨(fun p hp => by cases hp), (fun r hr => by cases hr)⟩
  | [], r :: R, h, _ => by simp at h
  | p :: P, [], h, _ => by simp at h
  | p :: P, r :: R, h, hc => by
    simp only [chansOk, Bool.and_eq_true] at hc
    have hl := chanOk_len hc.1
    obtain ⟨h1, h2⟩ := rows_small P R (by simpa using h) hc.2
    refine ⟨fun x hx => ?_, fun x hx => ?_⟩
    · rcases List.mem_cons.1 hx with rfl | hx
      · omega
      · exact h1 x hx
    · rcases List.mem_cons.1 hx with rfl | hx
      · omega
      · exact h2 x hx
theorem same_right {c q : Int} {fl rs : List Int} {P R : List (List Int)} (h : rightBd c q fl rs P R = true) (k : Nat) (hk : 5000 ≤ k) : psalteryref17_Same.f k P R P R = some true := by
  obtain ⟨h1, h2, h3, h4⟩ := rightBd_parts h
  obtain ⟨a1, a2, a3, a4, a5, a6, a7, a8, a9⟩ := right_parts h1
  obtain ⟨h5, h6⟩ := rows_small P R (by omega) h4
  exact same17 P R (by omega) (by omega) h5 h6 k hk
theorem same_nil (k : Nat) (hk : 5000 ≤ k) : psalteryref17_Same.f k [] [] [] [] = some true := same17 [] [] (by simp) (by simp) (fun p hp => by cases hp) (fun p hp => by cases hp) k hk
end Go.Proofs.Ytpdfdaoohknfoaa.LK
