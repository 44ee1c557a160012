/- The law HuffAll: by a book with two used symbols and more any bits are read as symbols, until they end, and there is no other error than that; proved for every input. -/
import Derived.Test.YtmocinhononfpaaPx32
import Derived.Test.YtmocinhononfpaaLHuffRead
namespace Go.Proofs.Ytmocinhononfpaa.Pure
set_option linter.unusedVariables false
set_option linter.unusedSimpArgs false
open Go.RowKit Go.Proofs.YtmocinhononfpaaW.PrintWords Go.Proofs.YtmocinhononfpaaW.PrintLast Go.Proofs.YtmocinhononfpaaW.PrintMore Go.Proofs.Ytmocinhononfpaa.P Go.Proofs.Ytmocinhononfpaa.LB Go.Proofs.Ytmocinhononfpaa.LH Go.Proofs.Ytmocinhononfpaa.HT Go.Proofs.Ytmocinhononfpaa.BT
theorem All_l1 {l B : List Int} (hB : Bytes B) (hl : B.length ≤ 1000) (hr : rightH l = true) (hu : used l ≠ 1) (d : Nat) : ∀ (i a k : Nat), i + d = 8 * B.length + 1 → i ≤ a → a ≤ 8 * B.length → d + 2000 < k → psalterylaw04_HuffAll.l1 k l B (i : Int) B (a : Int) = some true := by
  obtain ⟨w1, w2, w3, w4, w5⟩ := whole_right hr
  induction d with
  | zero => intro i a k h1 h2 h3; omega
  | succ d ih =>
    intro i a k h1 h2 h3 hk
    obtain ⟨k, rfl⟩ : ∃ j, k = j + 1 := ⟨k - 1, by omega⟩
    simp only [psalterylaw04_HuffAll.l1]
    rw [w64 (x := 8 * (B.length : Int)) (by omega) (by omega), if_pos (by omega)]
    rcases read_spec hB (by omega) hr a (by omega) k (by omega) with ⟨t, g1, g2⟩ | ⟨g1, g2⟩
    · have hin := g1.2.2.1
      have hpos := g1.2.1
      have htl := g1.1
      have hbt := inl_at w3 t
      rw [g2, Option.bind_some]
      show (if (0 : Int) = 0 then (if (t : Int) < 0 then some false else if (t : Int) ≥ (l.length : Int) then some false else if 0 ≤ (t : Int) then (if (t : Int) < (l.length : Int) then (if rd l (t : Int) = 0 then some false else (if (a : Int) + bk l t = wrap64 ((a : Int) + rd l (t : Int)) then psalterylaw04_HuffAll.l1 k l B (wrap64 ((i : Int) + 1)) B ((a : Int) + bk l t) else some false)) else none) else none) else _) = _
      rw [if_pos rfl, if_neg (by omega), if_neg (by omega), if_pos (by omega), if_pos (by omega), bk_rd, if_neg (by omega), w64 (x := (a : Int) + bk l t) (by omega) (by omega), if_pos rfl, w64 (by omega) (by omega), show (i : Int) + 1 = ((i + 1 : Nat) : Int) by omega, show (a : Int) + bk l t = ((a + (bk l t).toNat : Nat) : Int) by omega]
      exact ih (i + 1) (a + (bk l t).toNat) k (by omega) (by omega) (by omega) (by omega)
    · rw [g2, if_neg (fun h => hu h.1), Option.bind_some]
      have hn : ¬ a + 16 ≤ 8 * B.length := fun h => by
        obtain ⟨t, ht⟩ := at_full (B := B) hr hu (a := a) h
        exact g1 t ht
      show (if (4 : Int) = 0 then _ else if (4 : Int) = 4 then _ else _) = _
      rw [if_neg (by decide), if_pos rfl, left_eq B (by omega) (by omega), Option.bind_some, if_neg (c := (a : Int) < 0 ∨ 8 * (B.length : Int) < (a : Int)) (by omega), if_pos (by omega), knows04 k (by omega)]; rfl
theorem All_l0 {l B : List Int} (hB : Bytes B) (hl : B.length ≤ 1000) (hr : rightH l = true) (d : Nat) : ∀ (i k : Nat), i + d = l.length → d + 8 * B.length + 3000 < k → psalterylaw04_HuffAll.l0 k l B (S (one l) i) (i : Int) = some true := by
  obtain ⟨w1, w2, w3, w4, w5⟩ := whole_right hr
  induction d with
  | zero =>
    intro i k hi' hk
    obtain ⟨k, rfl⟩ : ∃ j, k = j + 1 := ⟨k - 1, by omega⟩
    obtain rfl : i = l.length := by omega
    simp only [psalterylaw04_HuffAll.l0]
    rw [if_neg (by omega)]
    by_cases c : S (one l) l.length < 2
    · rw [if_pos c, knows04 k (by omega)]; rfl
    · rw [if_neg c]
      exact All_l1 hB hl hr (by unfold used; omega) (8 * B.length + 1) 0 0 k (by omega) (by omega) (by omega) (by omega)
  | succ d ih =>
    intro i k hi' hk
    obtain ⟨k, rfl⟩ : ∃ j, k = j + 1 := ⟨k - 1, by omega⟩
    have hu' := used_to l i
    have nx := ih (i + 1) k (by omega) (by omega)
    simp only [psalterylaw04_HuffAll.l0]
    rw [if_pos (by omega), if_pos (by omega), bk_rd, w64 (x := (i : Int) + 1) (by omega) (by omega), show (i : Int) + 1 = ((i + 1 : Nat) : Int) by omega]
    rw [S] at nx
    by_cases c : bk l i > 0
    · rw [if_pos c, w64 (by omega) (by omega)]
      rw [show one l i = 1 from if_pos c] at nx; exact nx
    · rw [if_neg c]
      rw [show one l i = 0 from if_neg c, Int.add_zero] at nx; exact nx
theorem HuffAll : psalterylaw04_HuffAll.Pure := by
  intro l B hll hlm hlw hBl hBm hw
  have hB := wf_u8 hw
  obtain ⟨K, hK⟩ : ∃ K : Nat, 10 * B.length + l.length + 10000 ≤ K := ⟨_, Nat.le_refl _⟩
  refine ⟨K + 1, ?_⟩
  have easy : psalterylaw04_HuffAll.j0 (K + 1) l B true = some true := by
    simp only [psalterylaw04_HuffAll.j0, if_true]; rw [knows04 K (by omega)]; rfl
  unfold psalterylaw04_HuffAll.f
  have hgr : psalterylaw04_great.f B l = some (decide ((B.length : Int) > 4100 ∨ (l.length : Int) > 200)) := by
    unfold psalterylaw04_great.f
    by_cases c : (B.length : Int) > 4100
    · rw [if_pos c, decide_eq_true (.inl c)]
    · rw [if_neg c]; congr 1; rw [decide_eq_decide]; exact ⟨.inr, fun h => h.resolve_left c⟩
  rw [hgr, Option.bind_some]
  by_cases c : (B.length : Int) > 4100 ∨ (l.length : Int) > 200
  · rw [decide_eq_true c, if_pos rfl, easy]
  rw [decide_eq_false c, if_neg (by decide), refRight_eq l (K + 1) (by omega), Option.bind_some]
  by_cases c1 : rightH l = true
  rotate_left
  · rw [if_neg c1, easy]
  rw [if_pos c1]
  by_cases c2 : (B.length : Int) > 100
  · rw [decide_eq_true c2, easy]
  rw [decide_eq_false c2]
  simp only [psalterylaw04_HuffAll.j0, Bool.false_eq_true, if_false]
  exact All_l0 hB (by omega) c1 l.length 0 K (by omega) (by omega)
end Go.Proofs.Ytmocinhononfpaa.Pure
