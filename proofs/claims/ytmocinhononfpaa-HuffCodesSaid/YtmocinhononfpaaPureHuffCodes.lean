/- The law HuffCodes: a book's codes are those that the document says, or the error is told; proved for every input. -/
import Derived.Test.YtmocinhononfpaaPx17
import Derived.Test.YtmocinhononfpaaLHuffCode
namespace Go.Proofs.Ytmocinhononfpaa.Pure
set_option linter.unusedVariables false
set_option linter.unusedSimpArgs false
open Go.RowKit Go.Proofs.YtmocinhononfpaaW.PrintWords Go.Proofs.YtmocinhononfpaaW.PrintLast Go.Proofs.YtmocinhononfpaaW.PrintMore Go.Proofs.Ytmocinhononfpaa.P Go.Proofs.Ytmocinhononfpaa.LB Go.Proofs.Ytmocinhononfpaa.LH Go.Proofs.Ytmocinhononfpaa.HT
theorem Codes_loop (l : List Int) (hr : rightH l = true) (d : Nat) : ∀ (i k : Nat), i + d = l.length → d + 3000 < k → psalterylaw04_HuffCodes.l0 k l (codesL l) (i : Int) = some true := by
  obtain ⟨h1, h2, h3, h4, _⟩ := whole_right hr
  have hlen := codesL_length l
  induction d with
  | zero =>
    intro i k hi hk
    obtain ⟨k, rfl⟩ : ∃ j, k = j + 1 := ⟨k - 1, by omega⟩
    simp only [psalterylaw04_HuffCodes.l0]
    rw [if_neg (by omega), knows04 k (by omega)]; rfl
  | succ d ih =>
    intro i k hi hk
    obtain ⟨k, rfl⟩ : ∃ j, k = j + 1 := ⟨k - 1, by omega⟩
    have nx := ih (i + 1) k (by omega) (by omega)
    have hc := codesL_rd l i (by omega)
    have hb := inl_at h3 i
    simp only [psalterylaw04_HuffCodes.l0]
    rw [if_pos (by omega), if_pos (by omega), bk_rd, w64 (x := (i : Int) + 1) (by omega) (by omega), show (i : Int) + 1 = ((i + 1 : Nat) : Int) by omega]
    by_cases c : bk l i = 0
    · have hc0 : rd (codesL l) (i : Int) = 0 := by rw [hc, if_neg (by omega)]
      rw [if_pos c, if_pos (by omega), hc0, if_pos rfl, if_neg (by omega)]
      exact nx
    · have hc0 : rd (codesL l) (i : Int) = code (bk l) l.length i := by rw [hc, if_pos (by omega)]
      rw [if_neg c, if_pos (by omega), if_pos (by omega), hc0, code_is l hr i (by omega) (by omega) k (by omega), Option.bind_some]
      obtain ⟨r1, r2, r3, r4⟩ := code_range l hr i (by omega) (by omega)
      unfold codeB
      rw [number_eq _ _ r1 r2 r3 k (by omega), Option.bind_some, if_pos rfl]
      exact nx
theorem HuffCodes : psalterylaw04_HuffCodes.Pure := by
  intro l hl hm hw
  obtain ⟨K, hK⟩ : ∃ K : Nat, l.length + 10000 ≤ K := ⟨_, Nat.le_refl _⟩
  refine ⟨K + 1, ?_⟩
  unfold psalterylaw04_HuffCodes.f
  rw [knows04 (K + 1) (by omega), codes_eq l (K + 1) (by omega), refRight_eq l (K + 1) (by omega)]
  by_cases c : (l.length : Int) > 200
  · rw [if_pos c]; rfl
  rw [if_neg c, Option.bind_some, Option.bind_some]
  by_cases c1 : rightH l = true
  · rw [if_pos c1, if_pos c1, if_pos rfl, show ((codesL l, (0 : Int)).1.length : Int) = (l.length : Int) by rw [codesL_length], show ((l.length : Int) != (l.length : Int)) = false by simp]
    simp only [psalterylaw04_HuffCodes.j0, Bool.false_eq_true, if_false]
    exact Codes_loop l c1 l.length 0 K (by omega) (by omega)
  · rw [if_neg c1, if_neg c1]; rfl
end Go.Proofs.Ytmocinhononfpaa.Pure
