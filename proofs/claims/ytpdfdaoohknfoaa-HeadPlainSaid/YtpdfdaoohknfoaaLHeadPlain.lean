/- The plain header. -/
import Derived.Test.YtpdfdaoohknfoaaPx6
import Derived.Test.YtpdfdaoohknfoaaLHead
namespace Go.Proofs.Ytpdfdaoohknfoaa.LV
set_option linter.unusedVariables false
set_option linter.unusedSimpArgs false
open Go.RowKit Go.Proofs.YtpdfdaoohknfoaaW.PrintWords Go.Proofs.YtpdfdaoohknfoaaW.PrintLast Go.Proofs.YtpdfdaoohknfoaaW.PrintMore Go.Proofs.Ytpdfdaoohknfoaa.P Go.Proofs.Ytpdfdaoohknfoaa.LB Go.Proofs.Ytpdfdaoohknfoaa.HT Go.Proofs.Ytpdfdaoohknfoaa.LH
def plainF (n : Nat) : List Int := (List.range n).map fun s => if s < 19 then 5 else 6
def plainR (n : Nat) : List Int := (List.range n).map fun _ => 4
theorem plainF_succ (n : Nat) : plainF (n + 1) = plainF n ++ [if n < 19 then 5 else 6] := by simp [plainF, List.range_succ]
theorem plainR_succ (n : Nat) : plainR (n + 1) = plainR n ++ [4] := by simp [plainR, List.range_succ]
theorem plainF_length (n : Nat) : (plainF n).length = n := by simp [plainF]
theorem plainR_length (n : Nat) : (plainR n).length = n := by simp [plainR]
theorem plain_l1 (a b : Int) (fl : List Int) (d : Nat) : ∀ (i k : Nat), i + d = 16 → d < k → vhead_Plain.l1 k (i : Int) a b fl (plainR i) = some (a, b, fl, plainR 16) := by
  induction d with
  | zero =>
    intro i k hi hk
    obtain ⟨k, rfl⟩ : ∃ j, k = j + 1 := ⟨k - 1, by omega⟩
    have : i = 16 := by omega
    subst this
    simp only [vhead_Plain.l1]
    rw [if_neg (by omega)]
  | succ d ih =>
    intro i k hi hk
    obtain ⟨k, rfl⟩ : ∃ j, k = j + 1 := ⟨k - 1, by omega⟩
    have hl := plainR_length i
    simp only [vhead_Plain.l1]
    rw [if_pos (by omega), if_pos (by omega), w64 (x := (i : Int) + 1) (by omega) (by omega), ← plainR_succ]
    exact ih (i + 1) k (by omega) (by omega)
theorem plain_l0 (a b : Int) (d : Nat) : ∀ (i k : Nat), i + d = 45 → d + 20 < k → vhead_Plain.l0 k (i : Int) a b (plainF i) = some (a, b, plainF 45, plainR 16) := by
  induction d with
  | zero =>
    intro i k hi hk
    obtain ⟨k, rfl⟩ : ∃ j, k = j + 1 := ⟨k - 1, by omega⟩
    have : i = 45 := by omega
    subst this
    simp only [vhead_Plain.l0]
    rw [if_neg (by omega)]
    exact plain_l1 a b _ 16 0 k (by omega) (by omega)
  | succ d ih =>
    intro i k hi hk
    obtain ⟨k, rfl⟩ : ∃ j, k = j + 1 := ⟨k - 1, by omega⟩
    have hl := plainF_length i
    have nx := ih (i + 1) k (by omega) (by omega)
    rw [plainF_succ] at nx
    simp only [vhead_Plain.l0]
    rw [if_pos (by omega), w64 (x := (i : Int) + 1) (by omega) (by omega)]
    by_cases c : i < 19
    · rw [if_pos (show (i : Int) < 19 by omega), if_pos (by omega)]
      rw [if_pos c] at nx; exact nx
    · rw [if_neg (show ¬ (i : Int) < 19 by omega), if_pos (by omega)]
      rw [if_neg c] at nx; exact nx
theorem plain_eq (a b : Int) (k : Nat) (hk : 70 < k) : vhead_Plain.f k a b = some (a, b, plainF 45, plainR 16) := plain_l0 a b 45 0 k (by omega) (by omega)
theorem plain_right (a b : Int) : rightHd a b (plainF 45) (plainR 16) = decide (1 ≤ a ∧ a ≤ 2 ∧ 0 ≤ b ∧ b ≤ 12) := by
  unfold rightHd
  have h1 : rightH (plainF 45) = true := by decide +kernel
  have h2 : rightH (plainR 16) = true := by decide +kernel
  have h3 : (0 : Int) < rd (plainR 16) 15 := by decide +kernel
  rw [h1, h2, decide_eq_true h3, plainF_length, plainR_length]
  simp
end Go.Proofs.Ytpdfdaoohknfoaa.LV
