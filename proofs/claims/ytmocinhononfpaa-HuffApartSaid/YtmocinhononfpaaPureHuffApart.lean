/- The law HuffApart: no code is the beginning of another one, and unlike symbols have unlike codes; proved for every input. -/
import Derived.Test.YtmocinhononfpaaPx31
import Derived.Test.YtmocinhononfpaaLHuffCode
namespace Go.Proofs.Ytmocinhononfpaa.Pure
set_option linter.unusedVariables false
set_option linter.unusedSimpArgs false
open Go.RowKit Go.Proofs.YtmocinhononfpaaW.PrintWords Go.Proofs.YtmocinhononfpaaW.PrintLast Go.Proofs.YtmocinhononfpaaW.PrintMore Go.Proofs.Ytmocinhononfpaa.P Go.Proofs.Ytmocinhononfpaa.LB Go.Proofs.Ytmocinhononfpaa.LH Go.Proofs.Ytmocinhononfpaa.HT
theorem HuffApart : psalterylaw04_HuffApart.Pure := by
  intro l a b hl hm hw ha hb
  obtain ⟨K, hK⟩ : ∃ K : Nat, l.length + 10000 ≤ K := ⟨_, Nat.le_refl _⟩
  refine ⟨K + 1, ?_⟩
  have easy : psalterylaw04_HuffApart.j0 (K + 1) l a b true = some true := by
    simp only [psalterylaw04_HuffApart.j0, if_true]; rw [knows04 K (by omega)]; rfl
  unfold psalterylaw04_HuffApart.f
  rw [easy, refRight_eq l (K + 1) (by omega), Option.bind_some]
  by_cases c : (l.length : Int) > 200
  · rw [if_pos c]
  rw [if_neg c]
  by_cases c1 : a < 0
  · rw [if_pos c1]
  rw [if_neg c1]
  by_cases c2 : b < 0
  · rw [if_pos c2]
  rw [if_neg c2]
  by_cases c3 : a ≥ (l.length : Int)
  · rw [if_pos c3]
  rw [if_neg c3]
  by_cases c4 : b ≥ (l.length : Int)
  · rw [if_pos c4]
  rw [if_neg c4]
  by_cases c5 : a = b
  · rw [if_pos c5]
  rw [if_neg c5]
  by_cases c6 : rightH l = true
  rotate_left
  · rw [if_neg c6]
  rw [if_pos c6, if_pos (by omega), if_pos (by omega)]
  by_cases c7 : rd l a = 0
  · rw [if_pos c7]
  rw [if_neg c7, if_pos (by omega), if_pos (by omega)]
  by_cases c8 : rd l b < rd l a
  · rw [decide_eq_true c8, easy]
  rw [decide_eq_false c8]
  obtain ⟨h1, h2, h3, h4, _⟩ := whole_right c6
  obtain ⟨s, rfl⟩ : ∃ s : Nat, a = s := ⟨a.toNat, by omega⟩
  obtain ⟨t, rfl⟩ : ∃ t : Nat, b = t := ⟨b.toNat, by omega⟩
  rw [bk_rd] at c7 c8
  rw [bk_rd] at c8
  have hs := inl_at h3 s
  have ht := inl_at h3 t
  have hlen := codesL_length l
  simp only [psalterylaw04_HuffApart.j0, Bool.false_eq_true, if_false]
  rw [codes_eq l K (by omega), if_pos c6, Option.bind_some, if_pos rfl, if_pos (by show ((codesL l).length : Int) = _; omega), if_pos (by omega), if_pos (by show _ < ((codesL l).length : Int); omega), if_pos (by omega), if_pos (by omega), if_pos (by omega), bk_rd, bk_rd, w64 (x := bk l t - bk l s) (by omega) (by omega), if_pos (by omega), if_pos (by show _ < ((codesL l).length : Int); omega)]
  have et : rd (codesL l) (t : Int) = code (bk l) l.length t := by rw [codesL_rd l t (by omega), if_pos (by omega)]
  have es : rd (codesL l) (s : Int) = code (bk l) l.length s := by rw [codesL_rd l s (by omega), if_pos (by omega)]
  show (if shr .u32 (rd (codesL l) (t : Int)) (bk l t - bk l s) = rd (codesL l) (s : Int) then _ else _) = _
  rw [et, es, shr_small' (by simp [IntKind.bits]; omega), if_neg, knows04 K (by omega)]
  · rfl
  · intro e
    have := prefix_free (bk l) l.length (s := s) (t := t) (by omega) (by omega) (by omega) ht.2 (by omega) e
    omega
end Go.Proofs.Ytmocinhononfpaa.Pure
