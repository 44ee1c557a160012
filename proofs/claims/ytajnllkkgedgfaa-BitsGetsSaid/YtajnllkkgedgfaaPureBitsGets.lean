/- The law BitsGets: bits.Get answers what the document's Get answers, for any bytes, any place, any count of bits; proved for every input. -/
import Derived.Test.YtajnllkkgedgfaaPx19
import Derived.Test.YtajnllkkgedgfaaPx7
import Derived.Test.YtajnllkkgedgfaaPureBitsRights
namespace Go.Proofs.Ytajnllkkgedgfaa.Pure
set_option linter.unusedVariables false
set_option linter.unusedSimpArgs false
open Go.RowKit Go.Proofs.YtajnllkkgedgfaaW.PrintWords Go.Proofs.YtajnllkkgedgfaaW.PrintLast Go.Proofs.Ytajnllkkgedgfaa.P Go.Proofs.Ytajnllkkgedgfaa.BT Go.Proofs.Ytajnllkkgedgfaa.LB
theorem BitsGets : psalterylaw01_BitsGets.Pure := by
  intro B at_ n _ _ hw ha hn
  have hB := wf_u8 hw
  have ha' := wf_i64 ha
  obtain ⟨K, hK⟩ : ∃ K : Nat, 300000 ≤ K := ⟨_, Nat.le_refl _⟩
  refine ⟨K, ?_⟩
  unfold psalterylaw01_BitsGets.f
  rw [great01]
  simp only [Option.bind_some]
  by_cases hg : (B.length : Int) > 5000
  · rw [decide_eq_true hg, if_pos rfl, knows01 _ (by omega)]; rfl
  rw [decide_eq_false hg, if_neg (by decide), get_eq hB (by omega) ha' _ (by omega), refGet_eq hB (by omega) ha' _ (by omega)]
  simp only [Option.bind_some, if_true]
  rw [knows01 _ (by omega)]
  simp only [Option.bind_some]
  unfold getS
  split
  · simp
  · split
    · simp
    · rw [if_pos rfl, w64 (x := at_ + n) (by omega) (by omega), if_pos rfl]
end Go.Proofs.Ytajnllkkgedgfaa.Pure
