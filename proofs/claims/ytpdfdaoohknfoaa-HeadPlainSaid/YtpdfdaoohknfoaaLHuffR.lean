/- Which books are right: what huff.Right and the document's Right compute. -/
import Derived.Test.YtpdfdaoohknfoaaPx3
import Derived.Test.YtpdfdaoohknfoaaPx14
import Derived.Test.YtpdfdaoohknfoaaLBase
import Derived.Test.YtpdfdaoohknfoaaThHuff
namespace Go.Proofs.Ytpdfdaoohknfoaa.LH
set_option linter.unusedVariables false
set_option linter.unusedSimpArgs false
open Go.RowKit Go.Proofs.YtpdfdaoohknfoaaW.PrintWords Go.Proofs.YtpdfdaoohknfoaaW.PrintLast Go.Proofs.YtpdfdaoohknfoaaW.PrintMore Go.Proofs.Ytpdfdaoohknfoaa.P Go.Proofs.Ytpdfdaoohknfoaa.LB Go.Proofs.Ytpdfdaoohknfoaa.HT
def bk (l : List Int) (i : Nat) : Int := rd l (i : Int)
theorem bk_rd (l : List Int) (i : Nat) : rd l (i : Int) = bk l i := rfl
/-- the lengths are of the range -/
def inl (l : List Int) : Bool := l.all fun x => decide (0 ≤ x ∧ x ≤ 16)
theorem inl_at {l : List Int} (h : inl l = true) (i : Nat) : 0 ≤ bk l i ∧ bk l i ≤ 16 := by
  by_cases hi : i < l.length
  · have : bk l i ∈ l := by simp [bk, rd, List.getD_eq_getElem?_getD, hi]
    simpa using List.all_eq_true.1 h _ this
  · have : bk l i = 0 := by simp [bk, rd, List.getD_eq_getElem?_getD, Nat.le_of_not_lt hi]
    omega
theorem inl_drop {l : List Int} {i : Nat} (hi : i < l.length) : inl (l.drop i) = (decide (0 ≤ bk l i ∧ bk l i ≤ 16) && inl (l.drop (i + 1))) := by
  rw [List.drop_eq_getElem_cons hi]
  have : bk l i = l[i] := by simp [bk, rd, List.getD_eq_getElem?_getD, hi]
  rw [this]; rfl
def one (l : List Int) (i : Nat) : Int := if 0 < bk l i then 1 else 0
/-- how many symbols are used -/
def used (l : List Int) : Int := S (one l) l.length
def whole (l : List Int) : Int := S (wt (bk l)) l.length
theorem used_to (l : List Int) (i : Nat) : 0 ≤ S (one l) i ∧ S (one l) i ≤ i := by
  induction i with
  | zero => simp [S]
  | succ i ih =>
    have h : one l i = 0 ∨ one l i = 1 := by unfold one; split <;> simp
    rw [S]; omega
theorem whole_to (l : List Int) (i : Nat) : 0 ≤ S (wt (bk l)) i ∧ S (wt (bk l)) i ≤ 32768 * (i : Int) := by
  induction i with
  | zero => simp [S]
  | succ i ih =>
    rw [S]
    have h1 := wt_nonneg (bk l) i
    have h2 : wt (bk l) i ≤ 32768 := by
      unfold wt; split
      · have : (2 : Nat) ^ (16 - (bk l i).toNat) ≤ 2 ^ 15 := Nat.pow_le_pow_right (by omega) (by omega)
        have := Int.ofNat_le.2 this; simpa using this
      · omega
    omega
theorem used_loop (l : List Int) (hl : l.length ≤ maxLen) (d : Nat) : ∀ (i k : Nat), i + d = l.length → d < k → huff_used.l0 k (S (one l) i) l (l.length : Int) (i : Int) = some (used l) := by
  have hM : (maxLen : Int) = 9223372036854775807 := rfl
  induction d with
  | zero =>
    intro i k hi hk
    obtain ⟨k, rfl⟩ : ∃ j, k = j + 1 := ⟨k - 1, by omega⟩
    simp only [huff_used.l0]
    rw [if_neg (by omega), show i = l.length by omega]; rfl
  | succ d ih =>
    intro i k hi hk
    obtain ⟨k, rfl⟩ : ∃ j, k = j + 1 := ⟨k - 1, by omega⟩
    have hu := used_to l i
    have nx := ih (i + 1) k (by omega) (by omega)
    simp only [huff_used.l0]
    rw [if_pos (by omega), if_pos (by omega), if_pos (by omega), bk_rd, w64 (x := (i : Int) + 1) (by omega) (by omega), show (i : Int) + 1 = ((i + 1 : Nat) : Int) by omega]
    rw [S] at nx
    by_cases c : bk l i > 0
    · rw [if_pos c, w64 (by omega) (by omega)]
      rw [show one l i = 1 from if_pos c] at nx; exact nx
    · rw [if_neg c]
      rw [show one l i = 0 from if_neg c, Int.add_zero] at nx; exact nx
theorem used_eq (l : List Int) (hl : l.length ≤ maxLen) (k : Nat) (hk : l.length < k) : huff_used.f k l = some (used l) := used_loop l hl l.length 0 k (by omega) hk
/-- the whole is whole -/
def full (l : List Int) : Bool := if used l = 1 then whole l == 32768 else whole l == 65536
def rightH (l : List Int) : Bool := decide (2 ≤ l.length ∧ l.length ≤ 64) && (inl l && full l)
theorem pow_shl {v : Int} (h : 0 < v) (h' : v ≤ 16) : shl .i64 1 (16 - v) = 2 ^ (16 - v.toNat) := by
  have e : v = 1 ∨ v = 2 ∨ v = 3 ∨ v = 4 ∨ v = 5 ∨ v = 6 ∨ v = 7 ∨ v = 8 ∨ v = 9 ∨ v = 10 ∨ v = 11 ∨ v = 12 ∨ v = 13 ∨ v = 14 ∨ v = 15 ∨ v = 16 := by omega
  rcases e with rfl | rfl | rfl | rfl | rfl | rfl | rfl | rfl | rfl | rfl | rfl | rfl | rfl | rfl | rfl | rfl <;> decide
theorem right_loop (l : List Int) (hl : l.length ≤ 64) (d : Nat) : ∀ (i k : Nat), i + d = l.length → 3 * d + l.length + 5 < k → huff_Right.l0 k l (S (wt (bk l)) i) l (l.length : Int) (i : Int) = some (inl (l.drop i) && full l) := by
  induction d with
  | zero =>
    intro i k hi hk
    obtain ⟨k, rfl⟩ : ∃ j, k = j + 1 := ⟨k - 1, by omega⟩
    simp only [huff_Right.l0]
    rw [if_neg (by omega), used_eq l (by unfold maxLen; omega) k (by omega)]
    obtain rfl : i = l.length := by omega
    simp only [Option.bind_some, List.drop_length]
    unfold full
    show _ = some (true && _)
    rw [Bool.true_and]
    by_cases c : used l = 1
    · rw [if_pos c, if_pos c]; rfl
    · rw [if_neg c, if_neg c]; rfl
  | succ d ih =>
    intro i k hi hk
    obtain ⟨k, rfl⟩ : ∃ j, k = j + 2 := ⟨k - 2, by omega⟩
    have hw := whole_to l i
    have nx := ih (i + 1) k (by omega) (by omega)
    have bad : huff_Right.j2 (k + 1) l (S (wt (bk l)) i) (bk l i) l (l.length : Int) (i : Int) true = some false := by simp only [huff_Right.j2, if_true]
    simp only [huff_Right.l0]
    rw [if_pos (by omega), if_pos (by omega), if_pos (by omega), bk_rd, inl_drop (by omega)]
    by_cases c0 : bk l i < 0
    · rw [if_pos c0, decide_eq_false (by omega)]; exact bad
    rw [if_neg c0]
    by_cases c1 : bk l i > 16
    · rw [decide_eq_true c1, decide_eq_false (by omega)]; exact bad
    rw [decide_eq_false c1, decide_eq_true (by omega), Bool.true_and]
    simp only [huff_Right.j2, Bool.false_eq_true, if_false]
    rw [w64 (x := (i : Int) + 1) (by omega) (by omega), show (i : Int) + 1 = ((i + 1 : Nat) : Int) by omega]
    rw [S] at nx
    by_cases c : bk l i > 0
    · have hw2 := whole_to l (i + 1)
      rw [S, wt_used _ c] at hw2
      rw [if_pos c, w64 (x := 16 - bk l i) (by omega) (by omega), if_pos (by omega), pow_shl c (by omega), w64 (by omega) (by omega)]
      rw [wt_used _ c] at nx; exact nx
    · rw [if_neg c]
      rw [show wt (bk l) i = 0 from if_neg c, Int.add_zero] at nx; exact nx
theorem right_eq (l : List Int) (k : Nat) (hk : 300 < k) : huff_Right.f k l = some (rightH l) := by
  obtain ⟨k, rfl⟩ : ∃ j, k = j + 1 := ⟨k - 1, by omega⟩
  unfold huff_Right.f rightH
  simp only [huff_Right.j0]
  by_cases c : (l.length : Int) < 2
  · rw [if_pos c, decide_eq_false (by omega)]; rfl
  rw [if_neg c]
  by_cases c1 : (l.length : Int) > 64
  · rw [decide_eq_true c1, decide_eq_false (by omega)]; rfl
  rw [decide_eq_false c1, decide_eq_true (by omega), if_neg (by simp), Bool.true_and]
  exact right_loop l (by omega) l.length 0 k (by omega) (by omega)
theorem half_loop (l : List Int) (a u : Int) (i v : Nat) (hi : i < l.length) (hv : bk l i = v) (h16 : v ≤ 16) (d : Nat) : ∀ (j k : Nat), j + d = v → psalteryref04_Right.l1 (k + d + 1) l a u (i : Int) (2 ^ (16 - j)) (j : Int) = psalteryref04_Right.l0 k l (wrap64 (a + 2 ^ (16 - v))) u (wrap64 ((i : Int) + 1)) := by
  induction d with
  | zero =>
    intro j k hj
    simp only [psalteryref04_Right.l1]
    rw [if_pos (by omega), if_pos (by omega), bk_rd, if_neg (by omega), show j = v by omega]
  | succ d ih =>
    intro j k hj
    have nx := ih (j + 1) k (by omega)
    have e : (2 : Int) ^ (16 - j) = 2 ^ (16 - (j + 1)) * 2 := by rw [show 16 - j = 16 - (j + 1) + 1 by omega, Int.pow_succ]
    have hb : (2 : Int) ^ (16 - (j + 1)) ≤ 65536 := by
      have : (2 : Nat) ^ (16 - (j + 1)) ≤ 2 ^ 16 := Nat.pow_le_pow_right (by omega) (by omega)
      have := Int.ofNat_le.2 this; simpa using this
    have hp : (0 : Int) < 2 ^ (16 - (j + 1)) := Int.pow_pos (by omega)
    rw [show k + (d + 1) + 1 = (k + d + 1) + 1 by omega]
    conv => lhs; unfold psalteryref04_Right.l1
    rw [if_pos (by omega), if_pos (by omega), bk_rd, if_pos (by omega), tdiv_nn 2 (by omega), e, Int.mul_ediv_cancel _ (by omega), w64 (by omega) (by omega), w64 (by omega) (by omega), show (j : Int) + 1 = ((j + 1 : Nat) : Int) by omega]
    exact nx
theorem refRight_loop (l : List Int) (hl : l.length ≤ 64) (h2 : 2 ≤ l.length) (d : Nat) : ∀ (i k : Nat), i + d = l.length → 20 * d < k → psalteryref04_Right.l0 k l (S (wt (bk l)) i) (S (one l) i) (i : Int) = some (inl (l.drop i) && full l) := by
  induction d with
  | zero =>
    intro i k hi hk
    obtain ⟨k, rfl⟩ : ∃ j, k = j + 1 := ⟨k - 1, by omega⟩
    simp only [psalteryref04_Right.l0]
    obtain rfl : i = l.length := by omega
    rw [if_neg (by omega)]
    simp only [List.drop_length]
    unfold full
    show _ = some (true && _)
    rw [Bool.true_and]
    show (if used l = 1 then some (whole l == 32768) else if used l > 1 then some (whole l == 65536) else some false) = _
    by_cases c : used l = 1
    · rw [if_pos c, if_pos c]
    · rw [if_neg c, if_neg c]
      by_cases c1 : used l > 1
      · rw [if_pos c1]
      · rw [if_neg c1]
        have h0 : used l = 0 := by have := used_to l l.length; unfold used at c c1 ⊢; omega
        have hz : ∀ n, S (one l) n = 0 → S (wt (bk l)) n = 0 := by
          intro n
          induction n with
          | zero => intro _; rfl
          | succ n ihn =>
            intro h
            rw [S] at h ⊢
            have h1 := (used_to l n).1
            have h2 : one l n = 0 ∨ one l n = 1 := by unfold one; split <;> simp
            have h3 : one l n = 0 := by omega
            have h4 : ¬ 0 < bk l n := by intro h5; unfold one at h3; rw [if_pos h5] at h3; omega
            rw [ihn (by omega), show wt (bk l) n = 0 from if_neg h4]; rfl
        have : whole l = 0 := hz _ h0
        rw [this]; rfl
  | succ d ih =>
    intro i k hi hk
    have hw := whole_to l i
    have hu := used_to l i
    have bad : ∀ k, psalteryref04_Right.j2 (k + 1) l (S (wt (bk l)) i) (S (one l) i) (i : Int) true = some false := fun k => by simp only [psalteryref04_Right.j2, if_true]
    obtain ⟨k, rfl⟩ : ∃ j, k = j + 2 := ⟨k - 2, by omega⟩
    simp only [psalteryref04_Right.l0]
    rw [if_pos (by omega), if_pos (by omega), bk_rd, inl_drop (by omega)]
    by_cases c0 : bk l i < 0
    · rw [if_pos c0, decide_eq_false (by omega)]; exact bad k
    rw [if_neg c0]
    by_cases c1 : bk l i > 16
    · rw [decide_eq_true c1, decide_eq_false (by omega)]; exact bad k
    rw [decide_eq_false c1, decide_eq_true (by omega), Bool.true_and]
    simp only [psalteryref04_Right.j2, Bool.false_eq_true, if_false]
    rw [if_pos (by omega), if_pos (by omega), bk_rd]
    by_cases c : bk l i > 0
    · have nx := ih (i + 1) (k - (bk l i).toNat - 1) (by omega) (by omega)
      have hh := half_loop l (S (wt (bk l)) i) (wrap64 (S (one l) i + 1)) i (bk l i).toNat (by omega) (by omega) (by omega) (bk l i).toNat 0 (k - (bk l i).toNat - 1) (by omega)
      rw [show k - (bk l i).toNat - 1 + (bk l i).toNat + 1 = k by omega] at hh
      have hw2 := whole_to l (i + 1)
      rw [S, wt_used _ c] at hw2
      rw [if_pos c]
      refine hh.trans ?_
      rw [w64 (x := S (one l) i + 1) (by omega) (by omega), w64 (x := (i : Int) + 1) (by omega) (by omega), w64 (by omega) (by omega), show (i : Int) + 1 = ((i + 1 : Nat) : Int) by omega]
      rw [S, S, wt_used _ c, show one l i = 1 from if_pos c] at nx
      exact nx
    · have nx := ih (i + 1) k (by omega) (by omega)
      rw [if_neg c, w64 (x := (i : Int) + 1) (by omega) (by omega), show (i : Int) + 1 = ((i + 1 : Nat) : Int) by omega]
      rw [S, S, show wt (bk l) i = 0 from if_neg c, show one l i = 0 from if_neg c, Int.add_zero, Int.add_zero] at nx
      exact nx
theorem refRight_eq (l : List Int) (k : Nat) (hk : 1400 < k) : psalteryref04_Right.f k l = some (rightH l) := by
  obtain ⟨k, rfl⟩ : ∃ j, k = j + 1 := ⟨k - 1, by omega⟩
  unfold psalteryref04_Right.f rightH
  simp only [psalteryref04_Right.j0]
  by_cases c : (l.length : Int) < 2
  · rw [if_pos c, decide_eq_false (by omega)]; rfl
  rw [if_neg c]
  by_cases c1 : (l.length : Int) > 64
  · rw [decide_eq_true c1, decide_eq_false (by omega)]; rfl
  rw [decide_eq_false c1, decide_eq_true (by omega), if_neg (by simp), Bool.true_and]
  exact refRight_loop l (by omega) (by omega) l.length 0 k (by omega) (by omega)
end Go.Proofs.Ytpdfdaoohknfoaa.LH
