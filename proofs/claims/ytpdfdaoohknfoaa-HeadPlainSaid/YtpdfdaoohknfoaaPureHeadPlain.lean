/- The law HeadPlain: the plain header is right, if its channels and its quality are, and is written; proved for every input. -/
import Derived.Test.YtpdfdaoohknfoaaPx32
import Derived.Test.YtpdfdaoohknfoaaLHeadW
import Derived.Test.YtpdfdaoohknfoaaLHeadPlain
namespace Go.Proofs.Ytpdfdaoohknfoaa.Pure
set_option linter.unusedVariables false
set_option linter.unusedSimpArgs false
open Go.RowKit Go.Proofs.YtpdfdaoohknfoaaW.PrintWords Go.Proofs.YtpdfdaoohknfoaaW.PrintLast Go.Proofs.YtpdfdaoohknfoaaW.PrintMore Go.Proofs.Ytpdfdaoohknfoaa.P Go.Proofs.Ytpdfdaoohknfoaa.LB Go.Proofs.Ytpdfdaoohknfoaa.HT Go.Proofs.Ytpdfdaoohknfoaa.LH Go.Proofs.Ytpdfdaoohknfoaa.LV Go.Proofs.Ytpdfdaoohknfoaa.BT
theorem HeadPlain : psalterylaw16_HeadPlain.Pure := by
  intro a b _ _
  obtain ⟨K, hK⟩ : ∃ K : Nat, 100000 ≤ K := ⟨_, Nat.le_refl _⟩
  refine ⟨K, ?_⟩
  unfold psalterylaw16_HeadPlain.f
  have hw : writeS a b (plainF 45) (plainR 16) = if (1 ≤ a ∧ a ≤ 2 ∧ 0 ≤ b ∧ b ≤ 12) then (pack (headB a b (plainF 45) (plainR 16)), 0) else ([], 1) := by
    unfold writeS
    rw [plain_right]
    by_cases h : 1 ≤ a ∧ a ≤ 2 ∧ 0 ≤ b ∧ b ≤ 12
    · rw [if_pos (decide_eq_true h), if_pos h]
    · rw [decide_eq_false h, if_neg (by decide), if_neg h]
  have hlen : ((pack (headB a b (plainF 45) (plainR 16))).length : Int) = 41 := by rw [pack_length, headB_length, plainF_length, plainR_length]; rfl
  rw [plain_eq a b K (by omega), Option.bind_some, knows16 K (by omega), write_eq _ _ _ _ K (by omega), head_right _ _ _ _ K (by omega), plain_right]
  simp only [Option.bind_some]
  by_cases h : 1 ≤ a ∧ a ≤ 2 ∧ 0 ≤ b ∧ b ≤ 12
  · rw [if_pos h] at hw
    rw [hw, decide_eq_true h]
    obtain ⟨h1, h2, h3, h4⟩ := h
    rw [if_pos (show a ≥ 1 from h1), if_pos (show a ≤ 2 from h2), if_pos (show b ≥ 0 from h3), decide_eq_true h4, hlen]; rfl
  · rw [if_neg h] at hw
    rw [hw, decide_eq_false h]
    by_cases h1 : a ≥ 1
    · rw [if_pos h1]
      by_cases h2 : a ≤ 2
      · rw [if_pos h2]
        by_cases h3 : b ≥ 0
        · rw [if_pos h3, decide_eq_false (fun h4 => h ⟨h1, h2, h3, h4⟩)]; rfl
        · rw [if_neg h3]; rfl
      · rw [if_neg h2]; rfl
    · rw [if_neg h1]; rfl
end Go.Proofs.Ytpdfdaoohknfoaa.Pure
