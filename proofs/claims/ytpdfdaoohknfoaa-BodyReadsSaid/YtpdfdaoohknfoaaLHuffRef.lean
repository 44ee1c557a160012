/- What the document's reader of a symbol answers. -/
import Derived.Test.YtpdfdaoohknfoaaPx62
import Derived.Test.YtpdfdaoohknfoaaT1
namespace Go.Proofs.Ytpdfdaoohknfoaa.LH
set_option linter.unusedVariables false
set_option linter.unusedSimpArgs false
open Go.RowKit Go.Proofs.YtpdfdaoohknfoaaW.PrintWords Go.Proofs.YtpdfdaoohknfoaaW.PrintLast Go.Proofs.YtpdfdaoohknfoaaW.PrintMore Go.Proofs.Ytpdfdaoohknfoaa.P Go.Proofs.Ytpdfdaoohknfoaa.LB Go.Proofs.Ytpdfdaoohknfoaa.HT Go.Proofs.Ytpdfdaoohknfoaa.BT
theorem bits_rd (B : List Int) (i : Nat) : rd (bitsL B) (i : Int) = bitN B i := by
  rw [rd_nth, Int.toNat_natCast, bitsL_nth]
theorem same_loop (B : List Int) (hl : B.length ≤ 1000000) (a : Nat) (c : Int) (m : Nat) (h0 : 0 ≤ c) (h1 : c < 2 ^ m) (ha : a + m ≤ 8 * B.length) (d : Nat) : ∀ (i k : Nat), i + d = m → d < k → hi (bitN B) a i = c / 2 ^ (m - i) →
    psalteryref04_same.l0 k (bitsL B) (a : Int) (hbits c m) (i : Int) = some (decide (hi (bitN B) a m = c)) := by
  have hbl := bitsL_length B
  have hlen := hbits_length c m
  induction d with
  | zero =>
    intro i k hi' hk he
    obtain ⟨k, rfl⟩ : ∃ j, k = j + 1 := ⟨k - 1, by omega⟩
    simp only [psalteryref04_same.l0]
    obtain rfl : i = m := by omega
    rw [Nat.sub_self, Int.pow_zero, Int.ediv_one] at he
    rw [if_neg (by omega), decide_eq_true he]
  | succ d ih =>
    intro i k hi' hk he
    obtain ⟨k, rfl⟩ : ∃ j, k = j + 1 := ⟨k - 1, by omega⟩
    simp only [psalteryref04_same.l0]
    have e1 : c / 2 ^ (m - i) = c / 2 ^ (m - (i + 1)) / 2 := by rw [show m - i = m - (i + 1) + 1 by omega, div_succ']
    have hb := bit01 B (a + i)
    rw [if_pos (by omega), w64 (x := (a : Int) + i) (by omega) (by omega), if_pos (by omega), if_pos (by omega), if_pos (by omega), w64 (x := (i : Int) + 1) (by omega) (by omega), hbits_rd c m i (by omega), show (a : Int) + i = ((a + i : Nat) : Int) by omega, bits_rd, show m - 1 - i = m - (i + 1) by omega, show (i : Int) + 1 = ((i + 1 : Nat) : Int) by omega]
    have eh : hi (bitN B) a (i + 1) = 2 * hi (bitN B) a i + bitN B (a + i) := rfl
    by_cases e : bitN B (a + i) = c / 2 ^ (m - (i + 1)) % 2
    · rw [if_pos e]
      exact ih (i + 1) k (by omega) (by omega) (by rw [eh, he, e1]; omega)
    · rw [if_neg e, decide_eq_false]
      intro hf
      have hd := hi_div (bit01 B) a (i + 1) (m - (i + 1))
      rw [show i + 1 + (m - (i + 1)) = m by omega, hf, eh] at hd
      omega
theorem same_eq (l B : List Int) (hl : B.length ≤ 1000000) (hr : rightH l = true) (a : Nat) (ha : a ≤ 8 * B.length) (t : Nat) (ht : t < l.length) (hu : 0 < bk l t) (k : Nat) (hk : 40 < k) :
    ∃ b, psalteryref04_same.f k (bitsL B) (a : Int) (codeB l t) = some b ∧ (b = true ↔ At l B a t) := by
  obtain ⟨r1, r2, r3, r4⟩ := code_range l hr t ht hu
  have hbl := bitsL_length B
  have hlen := hbits_length (code (bk l) l.length t) (bk l t).toNat
  unfold psalteryref04_same.f codeB
  rw [hlen, w64 (by omega) (by omega)]
  by_cases c : (a : Int) + ((bk l t).toNat : Int) > ((bitsL B).length : Int)
  · rw [if_pos c]
    exact ⟨false, rfl, (fun h => by cases h), (fun h => by have := h.2.2.1; omega)⟩
  · rw [if_neg c]
    have := same_loop B hl a (code (bk l) l.length t) (bk l t).toNat r1 r2 (by omega) (bk l t).toNat 0 k (by omega) (by omega) (by rw [Nat.sub_zero, Int.ediv_eq_zero_of_lt r1 r2]; rfl)
    refine ⟨_, this, ?_⟩
    rw [decide_eq_true_eq]
    exact ⟨fun h => ⟨ht, hu, by omega, h⟩, fun h => h.2.2.2⟩
theorem ref_loop (l B : List Int) (hl : B.length ≤ 1000000) (hr : rightH l = true) (a : Nat) (ha : a ≤ 8 * B.length) (d : Nat) : ∀ (i k : Nat), i + d = l.length → d + 2000 < k → (∀ t, t < i → ¬ At l B a t) →
    (∃ t, At l B a t ∧ psalteryref04_Read.l0 k (a : Int) l (bitsL B) (S (one l) i) (i : Int) = some ((t : Int), bk l t, 0)) ∨
    ((∀ t, ¬ At l B a t) ∧ psalteryref04_Read.l0 k (a : Int) l (bitsL B) (S (one l) i) (i : Int) = some (0, 0, if used l = 1 then 2 else 4)) := by
  obtain ⟨w1, w2, w3, w4, w5⟩ := whole_right hr
  induction d with
  | zero =>
    intro i k hi' hk hno
    obtain ⟨k, rfl⟩ : ∃ j, k = j + 1 := ⟨k - 1, by omega⟩
    obtain rfl : i = l.length := by omega
    refine .inr ⟨fun t ht => hno t ht.1 ht, ?_⟩
    simp only [psalteryref04_Read.l0]
    rw [if_neg (by omega)]
    show (if used l = 1 then _ else _) = _
    split <;> rfl
  | succ d ih =>
    intro i k hi' hk hno
    obtain ⟨k, rfl⟩ : ∃ j, k = j + 1 := ⟨k - 1, by omega⟩
    have hu' := used_to l i
    simp only [psalteryref04_Read.l0]
    rw [if_pos (by omega), if_pos (by omega), bk_rd, w64 (x := (i : Int) + 1) (by omega) (by omega), show (i : Int) + 1 = ((i + 1 : Nat) : Int) by omega]
    by_cases c : bk l i > 0
    · rw [if_pos c, code_is l hr i (by omega) c k (by omega), Option.bind_some]
      obtain ⟨b, h1, h2⟩ := same_eq l B hl hr a ha i (by omega) c k (by omega)
      rw [h1, Option.bind_some, w64 (x := S (one l) i + 1) (by omega) (by omega)]
      by_cases cb : b = true
      · rw [if_pos cb]
        refine .inl ⟨i, h2.1 cb, ?_⟩
        unfold codeB
        rw [hbits_length, Int.toNat_of_nonneg (by omega)]
      · rw [if_neg cb]
        have nx := ih (i + 1) k (by omega) (by omega) (fun t ht => by
          by_cases e : t = i
          · subst e; exact fun h => cb (h2.2 h)
          · exact hno t (by omega))
        rw [S, show one l i = 1 from if_pos c] at nx
        exact nx
    · rw [if_neg c]
      have nx := ih (i + 1) k (by omega) (by omega) (fun t ht => by
        by_cases e : t = i
        · subst e; exact fun h => c h.2.1
        · exact hno t (by omega))
      rw [S, show one l i = 0 from if_neg c, Int.add_zero] at nx
      exact nx
theorem ref_spec {l B : List Int} (hB : Bytes B) (hl : B.length ≤ 1000000) (hr : rightH l = true) (a : Nat) (ha : a ≤ 8 * B.length) (k : Nat) (hk : 10 * B.length + 3000 < k) :
    (∃ t, At l B a t ∧ psalteryref04_Read.f k B (a : Int) l = some ((t : Int), bk l t, 0)) ∨
    ((∀ t, ¬ At l B a t) ∧ psalteryref04_Read.f k B (a : Int) l = some (0, 0, if used l = 1 ∧ (a : Int) < 8 * (B.length : Int) then 2 else 4)) := by
  obtain ⟨k, rfl⟩ : ∃ j, k = j + 1 := ⟨k - 1, by omega⟩
  obtain ⟨w1, w2, w3, w4, w5⟩ := whole_right hr
  have hbl := bitsL_length B
  have href : psalteryref04_Read.f (k + 1) B (a : Int) l = if (a : Int) ≥ 8 * (B.length : Int) then some (0, 0, 4) else psalteryref04_Read.l0 k (a : Int) l (bitsL B) 0 0 := by
    unfold psalteryref04_Read.f
    rw [refRight_eq l (k + 1) (by omega), Option.bind_some, if_pos hr]
    simp only [psalteryref04_Read.j0]
    rw [decide_eq_false (by omega), if_neg (by decide), refBits_eq hB hl k (by omega), Option.bind_some, hbl, show ((8 * B.length : Nat) : Int) = 8 * (B.length : Int) by omega]
  rw [href]
  by_cases cn : (a : Int) ≥ 8 * (B.length : Int)
  · rw [if_pos cn, if_neg (c := used l = 1 ∧ (a : Int) < 8 * (B.length : Int)) (by omega)]
    exact .inr ⟨fun t h => by have h1 := h.2.2.1; have h2 := h.2.1; omega, rfl⟩
  · rw [if_neg cn]
    rcases ref_loop l B hl hr a ha l.length 0 k (by omega) (by omega) (fun t ht => by omega) with ⟨u, g1, g2⟩ | ⟨g1, g2⟩
    · exact .inl ⟨u, g1, g2⟩
    · refine .inr ⟨g1, ?_⟩
      have g2' : psalteryref04_Read.l0 k (a : Int) l (bitsL B) 0 0 = some (0, 0, if used l = 1 then 2 else 4) := g2
      rw [g2']
      by_cases cu : used l = 1
      · rw [if_pos cu, if_pos ⟨cu, by omega⟩]
      · rw [if_neg cu, if_neg (fun h => cu h.1)]
end Go.Proofs.Ytpdfdaoohknfoaa.LH
