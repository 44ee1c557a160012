/- The law HuffBack: symbols that were written are read as they were; proved for every input. -/
import Derived.Test.YtmocinhononfpaaPx30
import Derived.Test.YtmocinhononfpaaLHuffWrite
namespace Go.Proofs.Ytmocinhononfpaa.Pure
set_option linter.unusedVariables false
set_option linter.unusedSimpArgs false
open Go.RowKit Go.Proofs.YtmocinhononfpaaW.PrintWords Go.Proofs.YtmocinhononfpaaW.PrintLast Go.Proofs.YtmocinhononfpaaW.PrintMore Go.Proofs.Ytmocinhononfpaa.P Go.Proofs.Ytmocinhononfpaa.LB Go.Proofs.Ytmocinhononfpaa.LH Go.Proofs.Ytmocinhononfpaa.HT Go.Proofs.Ytmocinhononfpaa.BT
/-- the bits of symbols, one behind the other -/
def flat (l : List Int) : List Int → List Int
  | [] => []
  | s :: r => codeB l s.toNat ++ flat l r
theorem flat_snoc (l : List Int) (s : Int) : ∀ r : List Int, flat l (r ++ [s]) = flat l r ++ codeB l s.toNat
  | [] => by simp [flat]
  | x :: r => by simp only [List.cons_append, flat, flat_snoc l s r, List.append_assoc]
def fine (l : List Int) (r : List Int) : Prop := ∀ s ∈ r, rightH l = true ∧ 0 ≤ s ∧ s.toNat < l.length ∧ 0 < bk l s.toNat
theorem flat_bits (l : List Int) : ∀ r : List Int, Bits01 (flat l r)
  | [] => fun x hx => by cases hx
  | s :: r => bits_append (hbits_bits _ _) (flat_bits l r)
theorem rd_mid (l r : List Int) (x : Int) : rd (l ++ x :: r) (l.length : Int) = x := by simp [rd]
theorem at_there (l p r : List Int) (s : Int) (hf : fine l (s :: r)) : At l (pack (flat l (p ++ s :: r))) (flat l p).length s.toNat := by
  obtain ⟨hr, h0, h1, h2⟩ := hf s (List.mem_cons_self ..)
  have hfl : flat l (p ++ s :: r) = flat l p ++ (codeB l s.toNat ++ flat l r) := by
    have key : ∀ p : List Int, flat l (p ++ s :: r) = flat l p ++ (codeB l s.toNat ++ flat l r) := by
      intro p
      induction p with
      | nil => rfl
      | cons x p ih => simp only [List.cons_append, flat, ih, List.append_assoc]
    exact key p
  have hbits := flat_bits l (p ++ s :: r)
  have hcl : (codeB l s.toNat).length = (bk l s.toNat).toNat := hbits_length _ _
  obtain ⟨r1, r2, r3, r4⟩ := code_range l hr s.toNat h1 h2
  refine ⟨h1, h2, ?_, ?_⟩
  · rw [pack_length, hfl, List.length_append, List.length_append, hcl]; omega
  · have e : hi (bitN (pack (flat l (p ++ s :: r)))) (flat l p).length (bk l s.toNat).toNat = hi (fun i => code (bk l) l.length s.toNat / 2 ^ ((bk l s.toNat).toNat - 1 - i) % 2) 0 (bk l s.toNat).toNat := by
      apply hi_congr
      intro i hi'
      rw [bitN_pack hbits, hfl, nth_append, if_neg (by omega), nth_append, if_pos (by omega), show (flat l p).length + i - (flat l p).length = i by omega, Nat.zero_add]
      exact hbits_rd _ _ i hi'
    rw [e, hi_bits _ _ r1 r2]
theorem Back_l1 (l : List Int) : ∀ (r p : List Int) (k : Nat), fine l (p ++ r) → (flat l (p ++ r)).length ≤ 32000 → r.length + 2000 < k → (p ++ r).length ≤ 1000 →
    psalterylaw04_HuffBack.l1 k l (p ++ r) (p.length : Int) (pack (flat l (p ++ r))) ((flat l (p ++ r)).length : Int) (pack (flat l (p ++ r))) ((flat l p).length : Int) = some true
  | [], p, k, hf, hl, hk, hn => by
    obtain ⟨k, rfl⟩ : ∃ j, k = j + 1 := ⟨k - 1, by omega⟩
    simp only [psalterylaw04_HuffBack.l1, List.append_nil]
    rw [if_neg (by omega), if_pos trivial, knows04 k (by omega)]; rfl
  | s :: r, p, k, hf, hl, hk, hn => by
    obtain ⟨k, rfl⟩ : ∃ j, k = j + 1 := ⟨k - 1, by omega⟩
    have hs := hf s (List.mem_append_right _ (List.mem_cons_self ..))
    have hat := at_there l p r s (fun x hx => hf x (List.mem_append_right _ hx))
    have hbt := flat_bits l (p ++ s :: r)
    have hlen : ((p ++ s :: r).length : Int) = p.length + r.length + 1 := by simp only [List.length_append, List.length_cons]; omega
    have hpl := pack_bytes_len hl
    have hb := inl_at (whole_right hs.1).2.2.1 s.toNat
    have hin := hat.2.2.1
    have hpk := pack_length (flat l (p ++ s :: r))
    simp only [psalterylaw04_HuffBack.l1]
    simp only [List.length_cons] at hk
    rw [if_pos (by omega)]
    rcases read_spec (pack_bytes hbt) hpl hs.1 (flat l p).length (by omega) k (by omega) with ⟨t, h1, h2⟩ | ⟨h1, _⟩
    · obtain rfl := at_unique hs.1 hat h1
      rw [h2, Option.bind_some]
      show (if (0 : Int) = 0 then (if 0 ≤ (p.length : Int) then (if ((s.toNat : Nat) : Int) = rd (p ++ s :: r) (p.length : Int) then psalterylaw04_HuffBack.l1 k l (p ++ s :: r) (wrap64 ((p.length : Int) + 1)) (pack (flat l (p ++ s :: r))) ((flat l (p ++ s :: r)).length : Int) (pack (flat l (p ++ s :: r))) (((flat l p).length : Int) + bk l s.toNat) else some false) else none) else some false) = some true
      rw [if_pos rfl, if_pos (by omega), rd_mid, if_pos (by omega), w64 (by omega) (by omega)]
      have ih := Back_l1 l r (p ++ [s]) k (by simpa only [List.append_assoc, List.singleton_append] using hf) (by simpa only [List.append_assoc, List.singleton_append] using hl) (by omega) (by simpa only [List.append_assoc, List.singleton_append] using hn)
      simp only [List.append_assoc, List.singleton_append] at ih
      have hcl : (codeB l s.toNat).length = (bk l s.toNat).toNat := hbits_length _ _
      rw [show (((p ++ [s]).length : Nat) : Int) = (p.length : Int) + 1 by simp only [List.length_append, List.length_cons, List.length_nil]; omega, flat_snoc, List.length_append, hcl, show (((flat l p).length + (bk l s.toNat).toNat : Nat) : Int) = ((flat l p).length : Int) + bk l s.toNat by omega] at ih
      exact ih
    · exact absurd hat (h1 _)
theorem Back_l0 (l syms : List Int) (hw : ∀ x ∈ syms, (Lit.int .i64 x).wf = true) (hsl : syms.length ≤ maxLen) (d : Nat) : ∀ (i k : Nat) (kept : List Int), i + d = min syms.length 100 → kept.length ≤ i → fine l kept → (flat l kept).length ≤ 32000 → 2 * d + 3000 < k →
    psalterylaw04_HuffBack.l0 k l syms kept (i : Int) (pack (flat l kept)) ((flat l kept).length : Int) = some true := by
  have hM : (maxLen : Int) = 9223372036854775807 := rfl
  induction d with
  | zero =>
    intro i k kept hi' hkl hf hl hk
    obtain ⟨k, rfl⟩ : ∃ j, k = j + 2 := ⟨k - 2, by omega⟩
    have fin : psalterylaw04_HuffBack.j1 (k + 1) l syms kept (i : Int) false (pack (flat l kept)) ((flat l kept).length : Int) = some true := by
      simp only [psalterylaw04_HuffBack.j1, Bool.false_eq_true, if_false]
      exact Back_l1 l kept [] k hf hl (by omega) (by simp only [List.nil_append]; omega)
    simp only [psalterylaw04_HuffBack.l0]
    by_cases c : (i : Int) < (syms.length : Int)
    · rw [if_pos c, decide_eq_false (by omega)]; exact fin
    · rw [if_neg c]; exact fin
  | succ d ih =>
    intro i k kept hi' hkl hf hl hk
    obtain ⟨k, rfl⟩ : ∃ j, k = j + 2 := ⟨k - 2, by omega⟩
    simp only [psalterylaw04_HuffBack.l0]
    rw [if_pos (by omega), decide_eq_true (by omega)]
    simp only [psalterylaw04_HuffBack.j1, if_true]
    rw [if_pos (by omega), if_pos (by omega)]
    have hwi : -9223372036854775808 ≤ rd syms (i : Int) ∧ rd syms (i : Int) ≤ 9223372036854775807 := by
      have : rd syms (i : Int) ∈ syms := by
        have hlt : i < syms.length := by omega
        simp [rd, List.getD_eq_getElem?_getD, hlt]
      exact wf_i64 (hw _ this)
    rw [w64 (x := (i : Int) + 1) (by omega) (by omega), show (i : Int) + 1 = ((i + 1 : Nat) : Int) by omega]
    rcases write_spec l (flat_bits l kept) hl (rd syms (i : Int)) hwi k (by omega) with ⟨t, e, h1, h2, h3, h4⟩ | ⟨_, h4⟩
    · rw [h4, Option.bind_some]
      by_cases c : (flat l kept).length + (bk l t).toNat ≤ 32000
      · rw [if_pos c]
        show (if (0 : Int) = 0 then (if kept.length < 17592186044416 then psalterylaw04_HuffBack.l0 k l syms (kept ++ [rd syms (i : Int)]) ((i + 1 : Nat) : Int) (pack (flat l kept ++ codeB l t)) (((flat l kept).length + (bk l t).toNat : Nat) : Int) else none) else _) = _
        rw [if_pos rfl, if_pos (by omega)]
        have hcl : (codeB l t).length = (bk l t).toNat := hbits_length _ _
        have hfl : flat l (kept ++ [rd syms (i : Int)]) = flat l kept ++ codeB l t := by rw [flat_snoc, e, Int.toNat_natCast]
        have nx := ih (i + 1) k (kept ++ [rd syms (i : Int)]) (by omega) (by rw [List.length_append, List.length_cons, List.length_nil]; omega)
          (fun x hx => by
            rcases List.mem_append.1 hx with hx | hx
            · exact hf x hx
            · rw [List.mem_singleton] at hx; subst hx; rw [e, Int.toNat_natCast]; exact ⟨h1, by omega, h2, h3⟩)
          (by rw [hfl, List.length_append, hcl]; exact c) (by omega)
        rw [hfl, List.length_append, hcl] at nx
        exact nx
      · rw [if_neg c]
        show (if (3 : Int) = 0 then _ else psalterylaw04_HuffBack.l0 k l syms kept ((i + 1 : Nat) : Int) (pack (flat l kept)) ((flat l kept).length : Int)) = _
        rw [if_neg (by decide)]
        exact ih (i + 1) k kept (by omega) (by omega) hf hl (by omega)
    · rw [h4, Option.bind_some]
      show (if (1 : Int) = 0 then _ else psalterylaw04_HuffBack.l0 k l syms kept ((i + 1 : Nat) : Int) (pack (flat l kept)) ((flat l kept).length : Int)) = _
      rw [if_neg (by decide)]
      exact ih (i + 1) k kept (by omega) (by omega) hf hl (by omega)
theorem HuffBack : psalterylaw04_HuffBack.Pure := by
  intro l syms hll hlm hlw hsl hsm hsw
  obtain ⟨K, hK⟩ : ∃ K : Nat, 10000 ≤ K := ⟨_, Nat.le_refl _⟩
  refine ⟨K, ?_⟩
  unfold psalterylaw04_HuffBack.f
  by_cases c : (l.length : Int) > 200
  · rw [if_pos c, knows04 K (by omega)]; rfl
  rw [if_neg c]
  have h := Back_l0 l syms hsw hsl (min syms.length 100) 0 K [] (by omega) (by simp) (fun x hx => by cases hx) (by simp [flat]) (by omega)
  have e : pack (flat l []) = [] := by simp [pack, flat]
  rw [e] at h
  exact h
end Go.Proofs.Ytmocinhononfpaa.Pure
