/- The law HuffRights: which books are right; proved for every input. -/
import Derived.Test.YtmocinhononfpaaPx13
import Derived.Test.YtmocinhononfpaaLHuffCode
namespace Go.Proofs.Ytmocinhononfpaa.Pure
set_option linter.unusedVariables false
set_option linter.unusedSimpArgs false
open Go.RowKit Go.Proofs.YtmocinhononfpaaW.PrintWords Go.Proofs.YtmocinhononfpaaW.PrintLast Go.Proofs.YtmocinhononfpaaW.PrintMore Go.Proofs.Ytmocinhononfpaa.P Go.Proofs.Ytmocinhononfpaa.LB Go.Proofs.Ytmocinhononfpaa.LH
theorem HuffRights : psalterylaw04_HuffRights.Pure := by
  intro l hl hm hw
  obtain ⟨K, hK⟩ : ∃ K : Nat, 10000 ≤ K := ⟨_, Nat.le_refl _⟩
  refine ⟨K, ?_⟩
  unfold psalterylaw04_HuffRights.f
  rw [knows04 K (by omega), right_eq l K (by omega), refRight_eq l K (by omega)]
  simp only [Option.bind_some, beq_self_eq_true, if_true, ite_self]
end Go.Proofs.Ytmocinhononfpaa.Pure
