/- The header: which are right. -/
import Derived.Test.YtpdfdaoohknfoaaPx5
import Derived.Test.YtpdfdaoohknfoaaPx15
import Derived.Test.YtpdfdaoohknfoaaPx18
import Derived.Test.YtpdfdaoohknfoaaPx13
import Derived.Test.YtpdfdaoohknfoaaPx1
import Derived.Test.YtpdfdaoohknfoaaLHuffR
namespace Go.Proofs.Ytpdfdaoohknfoaa.LV
set_option linter.unusedVariables false
set_option linter.unusedSimpArgs false
open Go.RowKit Go.Proofs.YtpdfdaoohknfoaaW.PrintWords Go.Proofs.YtpdfdaoohknfoaaW.PrintLast Go.Proofs.YtpdfdaoohknfoaaW.PrintMore Go.Proofs.Ytpdfdaoohknfoaa.P Go.Proofs.Ytpdfdaoohknfoaa.LB Go.Proofs.Ytpdfdaoohknfoaa.HT Go.Proofs.Ytpdfdaoohknfoaa.LH
theorem knows16 (k : Nat) (hk : 200 ≤ k) : psalterylaw16_knows.f k = some true := at_rounds (g := fun k => psalterylaw16_knows.f k) (fun k => psalterylaw16_knows.mono k) hk psalterylaw16_knows.sure
def rightHd (c q : Int) (fl rs : List Int) : Bool := decide (1 ≤ c ∧ c ≤ 2 ∧ 0 ≤ q ∧ q ≤ 12 ∧ fl.length = 45 ∧ rs.length = 16) && (rightH fl && (rightH rs && decide (0 < rd rs 15)))
theorem right_inl {l : List Int} (h : rightH l = true) : inl l = true := by
  simp only [rightH, Bool.and_eq_true, decide_eq_true_eq] at h
  exact h.2.1
theorem book_eq (l : List Int) (n : Nat) (m : Int) (hm : m = (n : Int)) (k : Nat) (hk : 300 < k) : vhead_book.f k l m = some (decide (l.length = n) && rightH l) := by
  subst hm
  unfold vhead_book.f
  by_cases c : (l.length : Int) = (n : Int)
  · rw [if_pos c, right_eq l k hk, decide_eq_true (by omega)]; rfl
  · rw [if_neg c, decide_eq_false (by omega)]; rfl
theorem head_right (c q : Int) (fl rs : List Int) (k : Nat) (hk : 300 < k) : vhead_Right.f k c q fl rs = some (rightHd c q fl rs) := by
  unfold vhead_Right.f rightHd
  rw [book_eq fl 45 45 rfl k hk, book_eq rs 16 16 rfl k hk]
  by_cases c1 : c ≥ 1
  · rw [if_pos c1]
    by_cases c2 : c ≤ 2
    · rw [if_pos c2]
      by_cases c3 : q ≥ 0
      · rw [if_pos c3]
        by_cases c4 : q ≤ 12
        · rw [if_pos c4]
          rw [Option.bind_some, Option.bind_some]
          by_cases c5 : fl.length = 45
          · by_cases c6 : rs.length = 16
            · rw [decide_eq_true c5, decide_eq_true c6, decide_eq_true (p := _ ∧ _) ⟨c1, c2, c3, c4, c5, c6⟩, if_pos (show (15 : Int) < (rs.length : Int) by omega)]
              cases rightH fl <;> cases rightH rs <;> simp
            · rw [decide_eq_true c5, decide_eq_false c6, decide_eq_false (p := _ ∧ _) (fun h => c6 h.2.2.2.2.2)]
              cases rightH fl <;> simp
          · rw [decide_eq_false c5, decide_eq_false (p := _ ∧ _) (fun h => c5 h.2.2.2.2.1)]; simp
        · rw [if_neg c4, decide_eq_false (p := _ ∧ _) (fun h => c4 h.2.2.2.1)]; simp
      · rw [if_neg c3, decide_eq_false (p := _ ∧ _) (fun h => c3 h.2.2.1)]; simp
    · rw [if_neg c2, decide_eq_false (p := _ ∧ _) (fun h => c2 h.2.1)]; simp
  · rw [if_neg c1, decide_eq_false (p := _ ∧ _) (fun h => c1 h.1)]; simp
theorem ref_j0 (x : Bool) (c q : Int) (fl rs : List Int) (k : Nat) (hk : 1402 < k) : psalteryref16_Right.j0 k x c q fl rs = some (!x && (decide (fl.length = 45 ∧ rs.length = 16) && (rightH fl && (rightH rs && decide (0 < rd rs 15))))) := by
  obtain ⟨k, rfl⟩ : ∃ j, k = j + 1 + 1 := ⟨k - 2, by omega⟩
  simp only [psalteryref16_Right.j0]
  cases x
  · rw [if_neg (by decide)]
    by_cases c5 : (fl.length : Int) = 45
    · rw [if_pos c5]
      simp only [psalteryref16_Right.j1]
      by_cases c6 : (rs.length : Int) = 16
      · rw [show ((rs.length : Int) != 16) = false from bne_eq_false_iff_eq.mpr c6, if_neg (by decide), decide_eq_true (p := _ ∧ _) ⟨by omega, by omega⟩, refRight_eq fl k (by omega), refRight_eq rs k (by omega), Option.bind_some, Option.bind_some, if_pos (show (15 : Int) < (rs.length : Int) by omega)]
        cases h1 : rightH fl
        · simp
        · cases h2 : rightH rs
          · simp
          · have h3 := inl_at (right_inl h2) 15
            have h4 : rd rs 15 = bk rs 15 := rfl
            by_cases h5 : rd rs 15 = 0
            · rw [h5]; simp
            · rw [show (rd rs 15 != 0) = true from bne_iff_ne.mpr h5, decide_eq_true (show 0 < rd rs 15 by omega)]; simp
      · rw [show ((rs.length : Int) != 16) = true from bne_iff_ne.mpr c6, if_pos rfl, decide_eq_false (p := _ ∧ _) (fun h => c6 (by omega))]; rfl
    · rw [if_neg c5]
      simp only [psalteryref16_Right.j1]
      rw [if_pos trivial, decide_eq_false (p := _ ∧ _) (fun h => c5 (by omega))]; rfl
  · rw [if_pos rfl]; rfl
theorem ref_right (c q : Int) (fl rs : List Int) (k : Nat) (hk : 1402 < k) : psalteryref16_Right.f k c q fl rs = some (rightHd c q fl rs) := by
  unfold psalteryref16_Right.f rightHd
  rw [ref_j0 _ c q fl rs k hk, ref_j0 _ c q fl rs k hk]
  by_cases c1 : c = 1
  · rw [if_pos c1]
    by_cases c3 : q < 0
    · rw [if_pos c3, decide_eq_false (p := 1 ≤ c ∧ c ≤ 2 ∧ 0 ≤ q ∧ q ≤ 12 ∧ fl.length = 45 ∧ rs.length = 16) (fun h => by omega)]; rfl
    · rw [if_neg c3]
      by_cases c4 : q > 12
      · rw [decide_eq_true c4, decide_eq_false (p := 1 ≤ c ∧ c ≤ 2 ∧ 0 ≤ q ∧ q ≤ 12 ∧ fl.length = 45 ∧ rs.length = 16) (fun h => by omega)]; rfl
      · rw [decide_eq_false c4]
        by_cases c5 : fl.length = 45 ∧ rs.length = 16
        · rw [decide_eq_true c5, decide_eq_true (p := 1 ≤ c ∧ c ≤ 2 ∧ 0 ≤ q ∧ q ≤ 12 ∧ fl.length = 45 ∧ rs.length = 16) ⟨by omega, by omega, by omega, by omega, c5.1, c5.2⟩]; rfl
        · rw [decide_eq_false c5, decide_eq_false (p := 1 ≤ c ∧ c ≤ 2 ∧ 0 ≤ q ∧ q ≤ 12 ∧ fl.length = 45 ∧ rs.length = 16) (fun h => c5 h.2.2.2.2)]; rfl
  · rw [if_neg c1]
    by_cases c2 : c = 2
    · rw [if_pos c2]
      by_cases c3 : q < 0
      · rw [if_pos c3, decide_eq_false (p := 1 ≤ c ∧ c ≤ 2 ∧ 0 ≤ q ∧ q ≤ 12 ∧ fl.length = 45 ∧ rs.length = 16) (fun h => by omega)]; rfl
      · rw [if_neg c3]
        by_cases c4 : q > 12
        · rw [decide_eq_true c4, decide_eq_false (p := 1 ≤ c ∧ c ≤ 2 ∧ 0 ≤ q ∧ q ≤ 12 ∧ fl.length = 45 ∧ rs.length = 16) (fun h => by omega)]; rfl
        · rw [decide_eq_false c4]
          by_cases c5 : fl.length = 45 ∧ rs.length = 16
          · rw [decide_eq_true c5, decide_eq_true (p := 1 ≤ c ∧ c ≤ 2 ∧ 0 ≤ q ∧ q ≤ 12 ∧ fl.length = 45 ∧ rs.length = 16) ⟨by omega, by omega, by omega, by omega, c5.1, c5.2⟩]; rfl
          · rw [decide_eq_false c5, decide_eq_false (p := 1 ≤ c ∧ c ≤ 2 ∧ 0 ≤ q ∧ q ≤ 12 ∧ fl.length = 45 ∧ rs.length = 16) (fun h => c5 h.2.2.2.2)]; rfl
    · rw [if_neg c2, decide_eq_false (p := 1 ≤ c ∧ c ≤ 2 ∧ 0 ≤ q ∧ q ≤ 12 ∧ fl.length = 45 ∧ rs.length = 16) (fun h => by omega)]; rfl
theorem same6_loop (l : List Int) (hl : l.length ≤ 1000000) (d : Nat) : ∀ (i k : Nat), i + d = l.length → d < k → psalteryref06_Same.l0 k l l (i : Int) = some true := by
  induction d with
  | zero =>
    intro i k hi hk
    obtain ⟨k, rfl⟩ : ∃ j, k = j + 1 := ⟨k - 1, by omega⟩
    simp only [psalteryref06_Same.l0]
    rw [if_neg (by omega)]
  | succ d ih =>
    intro i k hi hk
    obtain ⟨k, rfl⟩ : ∃ j, k = j + 1 := ⟨k - 1, by omega⟩
    simp only [psalteryref06_Same.l0]
    rw [if_pos (by omega), if_pos (by omega), if_pos (by omega), if_pos trivial, w64 (x := (i : Int) + 1) (by omega) (by omega)]
    exact ih (i + 1) k (by omega) (by omega)
theorem same6 (l : List Int) (hl : l.length ≤ 1000000) (k : Nat) (hk : l.length < k) : psalteryref06_Same.f k l l = some true := by
  unfold psalteryref06_Same.f
  rw [if_pos rfl]
  exact same6_loop l hl l.length 0 k (by omega) hk
theorem same16 (c q : Int) (fl rs : List Int) (h1 : fl.length ≤ 1000000) (h2 : rs.length ≤ 1000000) (k : Nat) (hk : fl.length < k) (hk2 : rs.length < k) : psalteryref16_Same.f k c q fl rs c q fl rs = some true := by
  unfold psalteryref16_Same.f
  rw [if_pos rfl, if_pos rfl, same6 fl h1 k hk, same6 rs h2 k hk2]; rfl
theorem right_parts {c q : Int} {fl rs : List Int} (h : rightHd c q fl rs = true) : 1 ≤ c ∧ c ≤ 2 ∧ 0 ≤ q ∧ q ≤ 12 ∧ fl.length = 45 ∧ rs.length = 16 ∧ rightH fl = true ∧ rightH rs = true ∧ 0 < rd rs 15 := by
  simp only [rightHd, Bool.and_eq_true, decide_eq_true_eq] at h
  obtain ⟨⟨a, b, c, d, e, f⟩, g, h, i⟩ := h
  exact ⟨a, b, c, d, e, f, g, h, i⟩
theorem great_eq (c q : Int) (fl rs : List Int) : psalterylaw16_Great.f c q fl rs = some (decide (200 < fl.length ∨ 200 < rs.length)) := by
  unfold psalterylaw16_Great.f
  by_cases c1 : (fl.length : Int) > 200
  · rw [if_pos c1, decide_eq_true (Or.inl (by omega))]
  · rw [if_neg c1]
    by_cases c2 : (rs.length : Int) > 200
    · rw [decide_eq_true c2, decide_eq_true (Or.inr (by omega))]
    · rw [decide_eq_false c2, decide_eq_false (by omega)]
end Go.Proofs.Ytpdfdaoohknfoaa.LV
