/- The document's plain header. -/
import Derived.Test.YtpdfdaoohknfoaaPx19
import Derived.Test.YtpdfdaoohknfoaaLHeadPlain
namespace Go.Proofs.Ytpdfdaoohknfoaa.LV
set_option linter.unusedVariables false
set_option linter.unusedSimpArgs false
open Go.RowKit Go.Proofs.YtpdfdaoohknfoaaW.PrintWords Go.Proofs.YtpdfdaoohknfoaaW.PrintLast Go.Proofs.YtpdfdaoohknfoaaW.PrintMore Go.Proofs.Ytpdfdaoohknfoaa.P Go.Proofs.Ytpdfdaoohknfoaa.LB Go.Proofs.Ytpdfdaoohknfoaa.HT Go.Proofs.Ytpdfdaoohknfoaa.LH
theorem rplain_l1 (a b : Int) (fl : List Int) (d : Nat) : ∀ (i k : Nat), i + d = 16 → d < k → psalteryref16_Plain.l1 k (i : Int) a b fl (plainR i) = some (a, b, fl, plainR 16) := by
  induction d with
  | zero =>
    intro i k hi hk
    obtain ⟨k, rfl⟩ : ∃ j, k = j + 1 := ⟨k - 1, by omega⟩
    have : i = 16 := by omega
    subst this
    simp only [psalteryref16_Plain.l1]
    rw [if_neg (by omega)]
  | succ d ih =>
    intro i k hi hk
    obtain ⟨k, rfl⟩ : ∃ j, k = j + 1 := ⟨k - 1, by omega⟩
    have hl := plainR_length i
    simp only [psalteryref16_Plain.l1]
    rw [if_pos (by omega), if_pos (by omega), w64 (x := (i : Int) + 1) (by omega) (by omega), ← plainR_succ]
    exact ih (i + 1) k (by omega) (by omega)
theorem rplain_l0 (a b : Int) (d : Nat) : ∀ (i k : Nat), i + d = 45 → d + 20 < k → psalteryref16_Plain.l0 k (i : Int) a b (plainF i) = some (a, b, plainF 45, plainR 16) := by
  induction d with
  | zero =>
    intro i k hi hk
    obtain ⟨k, rfl⟩ : ∃ j, k = j + 1 := ⟨k - 1, by omega⟩
    have : i = 45 := by omega
    subst this
    simp only [psalteryref16_Plain.l0]
    rw [if_neg (by omega)]
    exact rplain_l1 a b _ 16 0 k (by omega) (by omega)
  | succ d ih =>
    intro i k hi hk
    obtain ⟨k, rfl⟩ : ∃ j, k = j + 1 := ⟨k - 1, by omega⟩
    have hl := plainF_length i
    have nx := ih (i + 1) k (by omega) (by omega)
    rw [plainF_succ] at nx
    simp only [psalteryref16_Plain.l0]
    rw [if_pos (by omega), w64 (x := (i : Int) + 1) (by omega) (by omega)]
    by_cases c : i < 19
    · rw [if_pos (show (i : Int) ≤ 18 by omega), if_pos (by omega)]
      rw [if_pos c] at nx; exact nx
    · rw [if_neg (show ¬ (i : Int) ≤ 18 by omega), if_pos (by omega)]
      rw [if_neg c] at nx; exact nx
theorem rplain_eq (a b : Int) (k : Nat) (hk : 70 < k) : psalteryref16_Plain.f k a b = some (a, b, plainF 45, plainR 16) := rplain_l0 a b 45 0 k (by omega) (by omega)
end Go.Proofs.Ytpdfdaoohknfoaa.LV
