/- The law HeadReads: any bytes are read as the document says, or the error is told; proved for every input. -/
import Derived.Test.YtpdfdaoohknfoaaPx29
import Derived.Test.YtpdfdaoohknfoaaLHeadRR
namespace Go.Proofs.Ytpdfdaoohknfoaa.Pure
set_option linter.unusedVariables false
set_option linter.unusedSimpArgs false
open Go.RowKit Go.Proofs.YtpdfdaoohknfoaaW.PrintWords Go.Proofs.YtpdfdaoohknfoaaW.PrintLast Go.Proofs.YtpdfdaoohknfoaaW.PrintMore Go.Proofs.Ytpdfdaoohknfoaa.P Go.Proofs.Ytpdfdaoohknfoaa.LB Go.Proofs.Ytpdfdaoohknfoaa.HT Go.Proofs.Ytpdfdaoohknfoaa.LH Go.Proofs.Ytpdfdaoohknfoaa.LV Go.Proofs.Ytpdfdaoohknfoaa.BT
theorem HeadReads : psalterylaw16_HeadReads.Pure := by
  intro l hl hm hw
  obtain ⟨K, hK⟩ : ∃ K : Nat, 100000 ≤ K := ⟨_, Nat.le_refl _⟩
  refine ⟨K, ?_⟩
  have hB := wf_u8 hw
  unfold psalterylaw16_HeadReads.f
  rw [knows16 K (by omega)]
  by_cases g : (l.length : Int) > 1000
  · rw [if_pos g]; rfl
  · rw [if_neg g, Option.bind_some, if_pos (by rw [List.length_nil]; omega), List.nil_append, read_eq hB (by omega) K (by omega), Option.bind_some, refRead_eq hB K (by omega), Option.bind_some]
    unfold psalterylaw16_As.f
    rw [Option.bind_some]
    have hs : (readS l).2.2.1.length ≤ 1000 ∧ (readS l).2.2.2.1.length ≤ 1000 := by
      unfold readS readH nothing
      split
      · simp
      · split
        · simp
        · split
          · simp only [lst_length]; omega
          · simp
    rw [same16 _ _ _ _ (by omega) (by omega) K (by omega) (by omega), Option.bind_some, if_pos rfl, if_pos rfl]; rfl
end Go.Proofs.Ytpdfdaoohknfoaa.Pure
