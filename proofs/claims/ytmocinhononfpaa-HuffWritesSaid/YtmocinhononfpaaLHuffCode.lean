/- What the document's Code and Number compute. -/
import Derived.Test.YtmocinhononfpaaPx11
import Derived.Test.YtmocinhononfpaaLHuff
namespace Go.Proofs.Ytmocinhononfpaa.LH
set_option linter.unusedVariables false
set_option linter.unusedSimpArgs false
open Go.RowKit Go.Proofs.YtmocinhononfpaaW.PrintWords Go.Proofs.YtmocinhononfpaaW.PrintLast Go.Proofs.YtmocinhononfpaaW.PrintMore Go.Proofs.Ytmocinhononfpaa.P Go.Proofs.Ytmocinhononfpaa.LB Go.Proofs.Ytmocinhononfpaa.HT
theorem knows04 (k : Nat) (hk : 200 ≤ k) : psalterylaw04_knows.f k = some true := at_rounds (g := fun k => psalterylaw04_knows.f k) (fun k => psalterylaw04_knows.mono k) hk psalterylaw04_knows.sure
/-- a number's bits, the highest one first -/
def hbits (c : Int) (m : Nat) : List Int := (List.range m).map fun i => c / 2 ^ (m - 1 - i) % 2
theorem hbits_length (c : Int) (m : Nat) : (hbits c m).length = m := by simp [hbits]
theorem hbits_rd (c : Int) (m i : Nat) (h : i < m) : rd (hbits c m) (i : Int) = c / 2 ^ (m - 1 - i) % 2 := by
  simp [hbits, rd, List.getD_eq_getElem?_getD, h]
theorem div_succ (c : Int) (j : Nat) : c / 2 ^ (j + 1) = c / 2 / 2 ^ j := by
  rw [Int.pow_succ, Int.mul_comm, ← Int.ediv_ediv_of_nonneg (by omega)]
theorem div_succ' (c : Int) (j : Nat) : c / 2 ^ (j + 1) = c / 2 ^ j / 2 := by
  rw [Int.pow_succ, ← Int.ediv_ediv_of_nonneg (Int.le_of_lt (two_pow j))]
theorem hbits_succ (c : Int) (m : Nat) : hbits c (m + 1) = hbits (c / 2) m ++ [c % 2] := by
  unfold hbits
  rw [List.range_succ, List.map_append]
  congr 1
  · apply List.map_congr_left
    intro i hi
    have := List.mem_range.1 hi
    rw [show m + 1 - 1 - i = (m - 1 - i) + 1 by omega, div_succ]
  · simp
theorem spread_eq (m : Nat) : ∀ (c : Int) (k : Nat), 0 ≤ c → c ≤ 1000000 → m ≤ 16 → m < k → psalteryref04_spread.f k c (m : Int) = some (hbits c m) := by
  induction m with
  | zero =>
    intro c k h0 h1 hm hk
    obtain ⟨k, rfl⟩ : ∃ j, k = j + 1 := ⟨k - 1, by omega⟩
    simp only [psalteryref04_spread.f]
    rw [if_pos (by omega)]; rfl
  | succ m ih =>
    intro c k h0 h1 hm hk
    obtain ⟨k, rfl⟩ : ∃ j, k = j + 1 := ⟨k - 1, by omega⟩
    simp only [psalteryref04_spread.f]
    rw [if_neg (by omega), tdiv_nn 2 h0, tmod_nn 2 h0, w64 (by omega) (by omega), w64 (by omega) (by omega), show ((m + 1 : Nat) : Int) - 1 = (m : Int) by omega, ih (c / 2) k (by omega) (by omega) (by omega) (by omega), Option.bind_some, if_pos (by rw [hbits_length]; omega), hbits_succ]
theorem code_hit (l : List Int) (hl : l.length ≤ 64) (hw : whole l ≤ 65536) (s : Nat) (hs : s < l.length) (K : Nat) (hK : 0 < K) (h16 : K ≤ 16) (hb : bk l s = K) (d : Nat) : ∀ (j k : Nat) (x : Int), j + d = s → x * 2 ^ (16 - K) = W (bk l) l.length K j → d + 20 < k →
    psalteryref04_Code.l1 k l (s : Int) x (K : Int) (j : Int) = some (hbits (code (bk l) l.length s) K) := by
  induction d with
  | zero =>
    intro j k x hj hx hk
    obtain ⟨k, rfl⟩ : ∃ j, k = j + 1 := ⟨k - 1, by omega⟩
    obtain rfl : j = s := by omega
    have hs' := x_small hw hx
    simp only [psalteryref04_Code.l1]
    rw [if_pos (by omega), if_pos (by omega), bk_rd, if_pos hb, if_pos trivial, spread_eq K x k hs'.1 (by omega) h16 (by omega), Option.bind_some, next_code hK h16 hx hb]
  | succ d ih =>
    intro j k x hj hx hk
    obtain ⟨k, rfl⟩ : ∃ j, k = j + 1 := ⟨k - 1, by omega⟩
    have hs' := x_small hw hx
    have hst := W_step (bk l) l.length K j hK (by omega)
    simp only [psalteryref04_Code.l1]
    rw [if_pos (by omega), if_pos (by omega), bk_rd, w64 (x := (j : Int) + 1) (by omega) (by omega), show (j : Int) + 1 = ((j + 1 : Nat) : Int) by omega]
    by_cases c : bk l j = K
    · rw [if_pos c, if_neg (by omega), w64 (by omega) (by omega)]
      exact ih (j + 1) k _ (by omega) (by rw [hst, if_pos c, ← hx, Int.add_mul, Int.one_mul]) (by omega)
    · rw [if_neg c]
      exact ih (j + 1) k _ (by omega) (by rw [hst, if_neg c, hx, Int.add_zero]) (by omega)
theorem code_pass (l : List Int) (hl : l.length ≤ 64) (hw : whole l ≤ 65536) (s : Nat) (hs : s < l.length) (K : Nat) (hK : 0 < K) (h16 : K ≤ 16) (hb : bk l s ≠ K) (d : Nat) : ∀ (j k : Nat) (x : Int), j + d = l.length → x * 2 ^ (16 - K) = W (bk l) l.length K j →
    ∃ x', psalteryref04_Code.l1 (k + d + 1) l (s : Int) x (K : Int) (j : Int) = psalteryref04_Code.l0 k l (s : Int) (x' * 2) ((K + 1 : Nat) : Int) ∧ x' * 2 ^ (16 - K) = W (bk l) l.length (K + 1) 0 := by
  induction d with
  | zero =>
    intro j k x hj hx
    have hs' := x_small hw hx
    refine ⟨x, ?_, by rw [hx, W_next, show j = l.length by omega]⟩
    simp only [psalteryref04_Code.l1]
    rw [if_neg (by omega), w64 (by omega) (by omega), w64 (by omega) (by omega), show (K : Int) + 1 = ((K + 1 : Nat) : Int) by omega]
  | succ d ih =>
    intro j k x hj hx
    have hs' := x_small hw hx
    have hst := W_step (bk l) l.length K j hK (by omega)
    rw [show k + (d + 1) + 1 = (k + d + 1) + 1 by omega]
    conv => arg 1; ext x'; arg 1; lhs; unfold psalteryref04_Code.l1
    rw [if_pos (by omega), if_pos (by omega), bk_rd, w64 (x := (j : Int) + 1) (by omega) (by omega), show (j : Int) + 1 = ((j + 1 : Nat) : Int) by omega]
    by_cases c : bk l j = K
    · have hne : ¬ ((j : Int) = (s : Int)) := fun e => hb (by rw [← show j = s by omega]; exact c)
      rw [if_pos c, if_neg hne, w64 (by omega) (by omega)]
      exact ih (j + 1) k _ (by omega) (by rw [hst, if_pos c, ← hx, Int.add_mul, Int.one_mul])
    · rw [if_neg c]
      exact ih (j + 1) k _ (by omega) (by rw [hst, if_neg c, hx, Int.add_zero])
theorem code_l0 (l : List Int) (hl : l.length ≤ 64) (hw : whole l ≤ 65536) (s : Nat) (hs : s < l.length) (h16 : bk l s ≤ 16) (d : Nat) : ∀ (K k : Nat) (x : Int), 0 < K → bk l s = ((K + d : Nat) : Int) → 70 * d + 100 < k → x * 2 ^ (16 - K) = W (bk l) l.length K 0 →
    psalteryref04_Code.l0 k l (s : Int) x (K : Int) = some (hbits (code (bk l) l.length s) (bk l s).toNat) := by
  induction d with
  | zero =>
    intro K k x hK hd hk hx
    obtain ⟨k, rfl⟩ : ∃ j, k = j + 1 := ⟨k - 1, by omega⟩
    simp only [psalteryref04_Code.l0]
    rw [if_pos (by omega)]
    have := code_hit l hl hw s hs K hK (by omega) (by omega) s 0 k x (by omega) hx (by omega)
    rw [show (bk l s).toNat = K by omega]
    exact this
  | succ d ih =>
    intro K k x hK hd hk hx
    obtain ⟨k, rfl⟩ : ∃ j, k = j + l.length + 2 := ⟨k - l.length - 2, by omega⟩
    obtain ⟨x', h1, h2⟩ := code_pass l hl hw s hs K hK (by omega) (by omega) l.length 0 k x (by omega) hx
    rw [show k + l.length + 2 = (k + l.length + 1) + 1 by omega]
    simp only [psalteryref04_Code.l0]
    rw [if_pos (by omega)]
    have e : (2 : Int) ^ (16 - K) = 2 * 2 ^ (16 - (K + 1)) := by rw [show 16 - K = 16 - (K + 1) + 1 by omega, Int.pow_succ, Int.mul_comm]
    exact h1.trans (ih (K + 1) k (x' * 2) (by omega) (by omega) (by omega) (by rw [← h2, e, Int.mul_assoc]))
/-- a used symbol's code's bits -/
def codeB (l : List Int) (s : Nat) : List Int := hbits (code (bk l) l.length s) (bk l s).toNat
theorem code_is (l : List Int) (hr : rightH l = true) (s : Nat) (hs : s < l.length) (hu : 0 < bk l s) (k : Nat) (hk : 1500 < k) : psalteryref04_Code.f k l (s : Int) = some (codeB l s) := by
  obtain ⟨h1, h2, h3, h4, _⟩ := whole_right hr
  have hb := inl_at h3 s
  unfold psalteryref04_Code.f
  exact code_l0 l h2 h4 s hs hb.2 ((bk l s).toNat - 1) 1 k 0 (by omega) (by omega) (by omega) (by rw [Int.zero_mul]; exact (W_first _ _).symm)
theorem number_loop (c : Int) (m : Nat) (h0 : 0 ≤ c) (h1 : c < 2 ^ m) (hm : m ≤ 16) (d : Nat) : ∀ (i k : Nat), i + d = m → d < k → psalteryref04_Number.l0 k (hbits c m) (c / 2 ^ (m - i)) (i : Int) = some c := by
  induction d with
  | zero =>
    intro i k hi hk
    obtain ⟨k, rfl⟩ : ∃ j, k = j + 1 := ⟨k - 1, by omega⟩
    have hlen := hbits_length c m
    simp only [psalteryref04_Number.l0]
    rw [if_neg (by omega), show m - i = 0 by omega]; simp
  | succ d ih =>
    intro i k hi hk
    obtain ⟨k, rfl⟩ : ∃ j, k = j + 1 := ⟨k - 1, by omega⟩
    have hlen := hbits_length c m
    have nx := ih (i + 1) k (by omega) (by omega)
    have hc : c < 65536 := by
      have : (2 : Nat) ^ m ≤ 2 ^ 16 := Nat.pow_le_pow_right (by omega) hm
      have := Int.ofNat_le.2 this; simp at this; omega
    have hq0 : 0 ≤ c / 2 ^ (m - (i + 1)) := Int.ediv_nonneg h0 (Int.le_of_lt (two_pow _))
    have hq1 : c / 2 ^ (m - (i + 1)) ≤ c := Int.ediv_le_self _ h0
    have e1 : c / 2 ^ (m - i) = c / 2 ^ (m - (i + 1)) / 2 := by rw [show m - i = m - (i + 1) + 1 by omega, div_succ']
    simp only [psalteryref04_Number.l0]
    rw [if_pos (by omega), if_pos (by omega), hbits_rd c m i (by omega), e1, show m - 1 - i = m - (i + 1) by omega, w64 (by omega) (by omega), show (i : Int) + 1 = ((i + 1 : Nat) : Int) by omega]
    rw [show (c / 2 ^ (m - (i + 1)) / 2 * 2 % 4294967296 + c / 2 ^ (m - (i + 1)) % 2 % 4294967296) % 4294967296 = c / 2 ^ (m - (i + 1)) by omega]
    exact nx
theorem number_eq (c : Int) (m : Nat) (h0 : 0 ≤ c) (h1 : c < 2 ^ m) (hm : m ≤ 16) (k : Nat) (hk : 20 < k) : psalteryref04_Number.f k (hbits c m) = some c := by
  have := number_loop c m h0 h1 hm m 0 k (by omega) (by omega)
  rw [Nat.sub_zero, Int.ediv_eq_zero_of_lt h0 h1] at this
  exact this
theorem code_range (l : List Int) (hr : rightH l = true) (s : Nat) (hs : s < l.length) (hu : 0 < bk l s) : 0 ≤ code (bk l) l.length s ∧ code (bk l) l.length s < 2 ^ (bk l s).toNat ∧ (bk l s).toNat ≤ 16 ∧ code (bk l) l.length s < 65536 := by
  obtain ⟨h1, h2, h3, h4, _⟩ := whole_right hr
  have hb := inl_at h3 s
  have h5 := code_lt (bk l) l.length hs hu hb.2 (by unfold whole at h4; exact h4)
  have h6 : (2 : Int) ^ (bk l s).toNat ≤ 65536 := by
    have : (2 : Nat) ^ (bk l s).toNat ≤ 2 ^ 16 := Nat.pow_le_pow_right (by omega) (by omega)
    have := Int.ofNat_le.2 this; simpa using this
  exact ⟨code_nonneg _ _ _, h5, by omega, by omega⟩
end Go.Proofs.Ytmocinhononfpaa.LH
