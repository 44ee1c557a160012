/- The law BitsPuts: bits.Put answers what the document's Put answers, for any writer, any number, any count of bits; proved for every input. -/
import Derived.Test.YtajnllkkgedgfaaPx17
import Derived.Test.YtajnllkkgedgfaaPx7
import Derived.Test.YtajnllkkgedgfaaPureBitsRights
namespace Go.Proofs.Ytajnllkkgedgfaa.Pure
set_option linter.unusedVariables false
set_option linter.unusedSimpArgs false
open Go.RowKit Go.Proofs.YtajnllkkgedgfaaW.PrintWords Go.Proofs.YtajnllkkgedgfaaW.PrintLast Go.Proofs.Ytajnllkkgedgfaa.P Go.Proofs.Ytajnllkkgedgfaa.BT Go.Proofs.Ytajnllkkgedgfaa.LB
theorem BitsPuts : psalterylaw01_BitsPuts.Pure := by
  intro B N v n hw hN hv hn
  have hB := wf_u8 hw.2
  have hN' := wf_i64 hN
  have hv' := wf_u64 hv
  obtain ⟨K, hK⟩ : ∃ K : Nat, 300000 ≤ K := ⟨_, Nat.le_refl _⟩
  refine ⟨K, ?_⟩
  unfold psalterylaw01_BitsPuts.f
  rw [great01]
  simp only [Option.bind_some]
  by_cases hg : (B.length : Int) > 5000
  · rw [decide_eq_true hg, if_pos rfl, knows01 _ (by omega)]; rfl
  rw [decide_eq_false hg, if_neg (by decide), put_eq hB (by omega) hN' hv' _ (by omega)]
  simp only [Option.bind_some, psalterylaw01_As.f]
  rw [refPut_eq hB (by omega) hN' hv' _ (by omega)]
  simp only [Option.bind_some]
  rw [same_refl]
  simp only [Option.bind_some, if_true]
  rw [knows01 _ (by omega)]; rfl
end Go.Proofs.Ytajnllkkgedgfaa.Pure
