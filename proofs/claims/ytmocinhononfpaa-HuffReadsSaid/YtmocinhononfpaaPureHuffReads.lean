/- The law HuffReads: a symbol is read as the document says, or its error is told; proved for every input. -/
import Derived.Test.YtmocinhononfpaaPx29
import Derived.Test.YtmocinhononfpaaLHuffRead
namespace Go.Proofs.Ytmocinhononfpaa.Pure
set_option linter.unusedVariables false
set_option linter.unusedSimpArgs false
open Go.RowKit Go.Proofs.YtmocinhononfpaaW.PrintWords Go.Proofs.YtmocinhononfpaaW.PrintLast Go.Proofs.YtmocinhononfpaaW.PrintMore Go.Proofs.Ytmocinhononfpaa.P Go.Proofs.Ytmocinhononfpaa.LB Go.Proofs.Ytmocinhononfpaa.LH Go.Proofs.Ytmocinhononfpaa.HT Go.Proofs.Ytmocinhononfpaa.BT
theorem bits_rd (B : List Int) (i : Nat) : rd (bitsL B) (i : Int) = bitN B i := by
  rw [rd_nth, Int.toNat_natCast, bitsL_nth]
theorem same_loop (B : List Int) (hl : B.length ≤ 1000000) (a : Nat) (c : Int) (m : Nat) (h0 : 0 ≤ c) (h1 : c < 2 ^ m) (ha : a + m ≤ 8 * B.length) (d : Nat) : ∀ (i k : Nat), i + d = m → d < k → hi (bitN B) a i = c / 2 ^ (m - i) →
    psalteryref04_same.l0 k (bitsL B) (a : Int) (hbits c m) (i : Int) = some (decide (hi (bitN B) a m = c)) := by
  have hbl := bitsL_length B
  have hlen := hbits_length c m
  induction d with
  | zero =>
    intro i k hi' hk he
    obtain ⟨k, rfl⟩ : ∃ j, k = j + 1 := ⟨k - 1, by omega⟩
    simp only [psalteryref04_same.l0]
    obtain rfl : i = m := by omega
    rw [Nat.sub_self, Int.pow_zero, Int.ediv_one] at he
    rw [if_neg (by omega), decide_eq_true he]
  | succ d ih =>
    intro i k hi' hk he
    obtain ⟨k, rfl⟩ : ∃ j, k = j + 1 := ⟨k - 1, by omega⟩
    simp only [psalteryref04_same.l0]
    have e1 : c / 2 ^ (m - i) = c / 2 ^ (m - (i + 1)) / 2 := by rw [show m - i = m - (i + 1) + 1 by omega, div_succ']
    have hb := bit01 B (a + i)
    rw [if_pos (by omega), w64 (x := (a : Int) + i) (by omega) (by omega), if_pos (by omega), if_pos (by omega), if_pos (by omega), w64 (x := (i : Int) + 1) (by omega) (by omega), hbits_rd c m i (by omega), show (a : Int) + i = ((a + i : Nat) : Int) by omega, bits_rd, show m - 1 - i = m - (i + 1) by omega, show (i : Int) + 1 = ((i + 1 : Nat) : Int) by omega]
    have eh : hi (bitN B) a (i + 1) = 2 * hi (bitN B) a i + bitN B (a + i) := rfl
    by_cases e : bitN B (a + i) = c / 2 ^ (m - (i + 1)) % 2
    · rw [if_pos e]
      exact ih (i + 1) k (by omega) (by omega) (by rw [eh, he, e1]; omega)
    · rw [if_neg e, decide_eq_false]
      intro hf
      have hd := hi_div (bit01 B) a (i + 1) (m - (i + 1))
      rw [show i + 1 + (m - (i + 1)) = m by omega, hf, eh] at hd
      omega
theorem same_eq (l B : List Int) (hl : B.length ≤ 1000000) (hr : rightH l = true) (a : Nat) (ha : a ≤ 8 * B.length) (t : Nat) (ht : t < l.length) (hu : 0 < bk l t) (k : Nat) (hk : 40 < k) :
    ∃ b, psalteryref04_same.f k (bitsL B) (a : Int) (codeB l t) = some b ∧ (b = true ↔ At l B a t) := by
  obtain ⟨r1, r2, r3, r4⟩ := code_range l hr t ht hu
  have hbl := bitsL_length B
  have hlen := hbits_length (code (bk l) l.length t) (bk l t).toNat
  unfold psalteryref04_same.f codeB
  rw [hlen, w64 (by omega) (by omega)]
  by_cases c : (a : Int) + ((bk l t).toNat : Int) > ((bitsL B).length : Int)
  · rw [if_pos c]
    exact ⟨false, rfl, (fun h => by cases h), (fun h => by have := h.2.2.1; omega)⟩
  · rw [if_neg c]
    have := same_loop B hl a (code (bk l) l.length t) (bk l t).toNat r1 r2 (by omega) (bk l t).toNat 0 k (by omega) (by omega) (by rw [Nat.sub_zero, Int.ediv_eq_zero_of_lt r1 r2]; rfl)
    refine ⟨_, this, ?_⟩
    rw [decide_eq_true_eq]
    exact ⟨fun h => ⟨ht, hu, by omega, h⟩, fun h => h.2.2.2⟩
theorem ref_loop (l B : List Int) (hl : B.length ≤ 1000000) (hr : rightH l = true) (a : Nat) (ha : a ≤ 8 * B.length) (d : Nat) : ∀ (i k : Nat), i + d = l.length → d + 2000 < k → (∀ t, t < i → ¬ At l B a t) →
    (∃ t, At l B a t ∧ psalteryref04_Read.l0 k (a : Int) l (bitsL B) (S (one l) i) (i : Int) = some ((t : Int), bk l t, 0)) ∨
    ((∀ t, ¬ At l B a t) ∧ psalteryref04_Read.l0 k (a : Int) l (bitsL B) (S (one l) i) (i : Int) = some (0, 0, if used l = 1 then 2 else 4)) := by
  obtain ⟨w1, w2, w3, w4, w5⟩ := whole_right hr
  induction d with
  | zero =>
    intro i k hi' hk hno
    obtain ⟨k, rfl⟩ : ∃ j, k = j + 1 := ⟨k - 1, by omega⟩
    obtain rfl : i = l.length := by omega
    refine .inr ⟨fun t ht => hno t ht.1 ht, ?_⟩
    simp only [psalteryref04_Read.l0]
    rw [if_neg (by omega)]
    show (if used l = 1 then _ else _) = _
    split <;> rfl
  | succ d ih =>
    intro i k hi' hk hno
    obtain ⟨k, rfl⟩ : ∃ j, k = j + 1 := ⟨k - 1, by omega⟩
    have hu' := used_to l i
    simp only [psalteryref04_Read.l0]
    rw [if_pos (by omega), if_pos (by omega), bk_rd, w64 (x := (i : Int) + 1) (by omega) (by omega), show (i : Int) + 1 = ((i + 1 : Nat) : Int) by omega]
    by_cases c : bk l i > 0
    · rw [if_pos c, code_is l hr i (by omega) c k (by omega), Option.bind_some]
      obtain ⟨b, h1, h2⟩ := same_eq l B hl hr a ha i (by omega) c k (by omega)
      rw [h1, Option.bind_some, w64 (x := S (one l) i + 1) (by omega) (by omega)]
      by_cases cb : b = true
      · rw [if_pos cb]
        refine .inl ⟨i, h2.1 cb, ?_⟩
        unfold codeB
        rw [hbits_length, Int.toNat_of_nonneg (by omega)]
      · rw [if_neg cb]
        have nx := ih (i + 1) k (by omega) (by omega) (fun t ht => by
          by_cases e : t = i
          · subst e; exact fun h => cb (h2.2 h)
          · exact hno t (by omega))
        rw [S, show one l i = 1 from if_pos c] at nx
        exact nx
    · rw [if_neg c]
      have nx := ih (i + 1) k (by omega) (by omega) (fun t ht => by
        by_cases e : t = i
        · subst e; exact fun h => c h.2.1
        · exact hno t (by omega))
      rw [S, show one l i = 0 from if_neg c, Int.add_zero] at nx
      exact nx
theorem HuffReads : psalterylaw04_HuffReads.Pure := by
  intro B a l hBl hBm hw ha hll hlm hlw
  have hB := wf_u8 hw
  have ha64 := wf_i64 ha
  obtain ⟨K, hK⟩ : ∃ K : Nat, 10 * B.length + l.length + 10000 ≤ K := ⟨_, Nat.le_refl _⟩
  refine ⟨K + 1, ?_⟩
  unfold psalterylaw04_HuffReads.f
  have hgr : psalterylaw04_great.f B l = some (decide ((B.length : Int) > 4100 ∨ (l.length : Int) > 200)) := by
    unfold psalterylaw04_great.f
    by_cases c : (B.length : Int) > 4100
    · rw [if_pos c, decide_eq_true (.inl c)]
    · rw [if_neg c]; congr 1; rw [decide_eq_decide]; exact ⟨.inr, fun h => h.resolve_left c⟩
  rw [hgr, knows04 (K + 1) (by omega), Option.bind_some]
  by_cases c : (B.length : Int) > 4100 ∨ (l.length : Int) > 200
  · rw [decide_eq_true c]; rfl
  rw [decide_eq_false c, if_neg (by decide)]
  have hsmall : B.length ≤ 1000000 := by omega
  have bad : rightH l = false ∨ a < 0 → psalteryref04_Read.f (K + 1) B a l = some (0, 0, 1) := by
    intro h
    unfold psalteryref04_Read.f
    rw [refRight_eq l (K + 1) (by omega), Option.bind_some]
    simp only [psalteryref04_Read.j0]
    by_cases c2 : rightH l = true
    · rw [if_pos c2, decide_eq_true (h.resolve_left (by rw [c2]; simp))]; rfl
    · rw [if_neg c2]; rfl
  by_cases hbad : rightH l = false ∨ a < 0
  · rw [read_bad l B a hbad (K + 1) (by omega), bad hbad]
    simp
  have hr : rightH l = true := by cases h : rightH l <;> simp_all
  obtain ⟨n, rfl⟩ : ∃ n : Nat, a = n := ⟨a.toNat, by omega⟩
  have hbl := bitsL_length B
  have href : psalteryref04_Read.f (K + 1) B (n : Int) l = if (n : Int) ≥ 8 * (B.length : Int) then some (0, 0, 4) else psalteryref04_Read.l0 K (n : Int) l (bitsL B) 0 0 := by
    unfold psalteryref04_Read.f
    rw [refRight_eq l (K + 1) (by omega), Option.bind_some, if_pos hr]
    simp only [psalteryref04_Read.j0]
    rw [decide_eq_false (by omega), if_neg (by decide), refBits_eq hB hsmall K (by omega), Option.bind_some, hbl, show ((8 * B.length : Nat) : Int) = 8 * (B.length : Int) by omega]
  rw [href]
  rcases read_spec hB hsmall hr n (by omega) (K + 1) (by omega) with ⟨t, h1, h2⟩ | ⟨h1, h2⟩
  · have hin := h1.2.2.1
    have hpos := h1.2.1
    have htl := h1.1
    have hbt := inl_at (whole_right hr).2.2.1 t
    rw [h2, if_neg (by omega)]
    rcases ref_loop l B hsmall hr n (by omega) l.length 0 K (by omega) (by omega) (fun t ht => by omega) with ⟨u, g1, g2⟩ | ⟨g1, _⟩
    · obtain rfl := at_unique hr h1 g1
      have g2' : psalteryref04_Read.l0 K (n : Int) l (bitsL B) 0 0 = some ((t : Int), bk l t, 0) := g2
      rw [g2']
      simp only [Option.bind_some, if_true]
      rw [w64 (by omega) (by omega)]
      simp
    · exact absurd h1 (g1 t)
  · rw [h2]
    by_cases cn : (n : Int) ≥ 8 * (B.length : Int)
    · rw [if_pos cn, if_neg (c := used l = 1 ∧ (n : Int) < 8 * (B.length : Int)) (by omega)]
      simp
    · rw [if_neg cn]
      rcases ref_loop l B hsmall hr n (by omega) l.length 0 K (by omega) (by omega) (fun t ht => by omega) with ⟨u, g1, _⟩ | ⟨_, g2⟩
      · exact absurd g1 (h1 u)
      · have g2' : psalteryref04_Read.l0 K (n : Int) l (bitsL B) 0 0 = some (0, 0, if used l = 1 then 2 else 4) := g2
        rw [g2']
        by_cases cu : used l = 1
        · rw [if_pos ⟨cu, by omega⟩, if_pos cu]; simp
        · rw [if_neg (fun h => cu h.1), if_neg cu]; simp
end Go.Proofs.Ytmocinhononfpaa.Pure
