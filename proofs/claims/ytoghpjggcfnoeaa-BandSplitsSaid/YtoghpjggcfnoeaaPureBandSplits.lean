/- The law BandSplits: a frame's bands, and their gains, are those that the document says, or the error is told; one behind the other the bands are the frame; proved for every input. -/
import Derived.Test.YtoghpjggcfnoeaaPx52
import Derived.Test.YtoghpjggcfnoeaaLBand
namespace Go.Proofs.Ytoghpjggcfnoeaa.Pure
set_option linter.unusedVariables false
set_option linter.unusedSimpArgs false
open Go.RowKit Go.Proofs.YtoghpjggcfnoeaaW.PrintWords Go.Proofs.YtoghpjggcfnoeaaW.PrintLast Go.Proofs.YtoghpjggcfnoeaaW.PrintMore Go.Proofs.Ytoghpjggcfnoeaa.P Go.Proofs.Ytoghpjggcfnoeaa.LB Go.Proofs.Ytoghpjggcfnoeaa.LF Go.Proofs.Ytoghpjggcfnoeaa.LQ
def fN (b : Nat) : Nat := if b = 0 then 0 else if b = 1 then 1 else if b = 2 then 2 else if b = 3 then 4 else 8
def wN (b : Nat) : Nat := if b = 0 then 1 else if b = 1 then 1 else if b = 2 then 2 else if b = 3 then 4 else 8
/-- a band -/
def bnd (l : List Int) (b : Nat) : List Int := (l.drop (fN b)).take (wN b)
theorem fw_facts (b : Nat) (h : b < 5) : frm (b : Int) = (fN b : Int) ∧ wid (b : Int) = (wN b : Int) ∧ fN b + wN b ≤ 16 ∧ 1 ≤ wN b ∧ wN b ≤ 8 := by
  have : b = 0 ∨ b = 1 ∨ b = 2 ∨ b = 3 ∨ b = 4 := by omega
  rcases this with rfl | rfl | rfl | rfl | rfl <;> decide
theorem bnd_length (l : List Int) (hl : l.length = 16) (b : Nat) (h : b < 5) : (bnd l b).length = wN b := by
  have := fw_facts b h
  unfold bnd; rw [List.length_take, List.length_drop]; omega
theorem bnd_inc {l : List Int} (h : inc l = true) (b : Nat) : inc (bnd l b) = true :=
  inc_of fun x hx => inc_mem h x (List.mem_of_mem_drop (List.mem_of_mem_take hx))
theorem split_step (l : List Int) (hl : l.length = 16) (b : Nat) (h : b < 5) (acc : List (List Int)) (ha : acc.length ≤ 10) (k : Nat) :
    band_Split.l0 (k + 1) l acc (b : Int) = band_Split.l0 k l (acc ++ [bnd l b]) ((b + 1 : Nat) : Int) := by
  obtain ⟨e1, e2, e3, e4, e5⟩ := fw_facts b h
  conv => lhs; unfold band_Split.l0
  rw [if_pos (by omega), from_eq, width_eq]
  simp only [Option.bind_some]
  rw [e1, e2, w64 (x := (fN b : Int) + (wN b : Int)) (by omega) (by omega), if_pos (by omega), if_pos (by omega), if_pos (by omega), if_pos (by omega), w64 (by omega) (by omega), show (b : Int) + 1 = ((b + 1 : Nat) : Int) by omega]
  congr 2
  unfold bnd
  rw [show ((fN b : Int) + (wN b : Int)).toNat = fN b + wN b by omega, Int.toNat_natCast, List.drop_take, show fN b + wN b - fN b = wN b by omega]
def bands (l : List Int) : List (List Int) := [bnd l 0, bnd l 1, bnd l 2, bnd l 3, bnd l 4]
theorem split_all (l : List Int) (hl : l.length = 16) (k : Nat) : band_Split.l0 (k + 6) l [] 0 = some (bands l, 0) := by
  have s0 := split_step l hl 0 (by omega) [] (by simp) (k + 5)
  have s1 := split_step l hl 1 (by omega) [bnd l 0] (by simp) (k + 4)
  have s2 := split_step l hl 2 (by omega) [bnd l 0, bnd l 1] (by simp) (k + 3)
  have s3 := split_step l hl 3 (by omega) [bnd l 0, bnd l 1, bnd l 2] (by simp) (k + 2)
  have s4 := split_step l hl 4 (by omega) [bnd l 0, bnd l 1, bnd l 2, bnd l 3] (by simp) (k + 1)
  simp only [List.nil_append, List.cons_append] at s0 s1 s2 s3 s4
  refine s0.trans (s1.trans (s2.trans (s3.trans (s4.trans ?_))))
  simp only [band_Split.l0]
  rw [if_neg (by omega)]; rfl
theorem split_eq (l : List Int) (hl : l.length ≤ maxLen) (hm : l.length * 8 ≤ 140737488351232) (k : Nat) (hk : l.length + 100 < k) : band_Split.f k l = some (if fairL l = true ∧ l.length = 16 then (bands l, 0) else ([], 1)) := by
  obtain ⟨k, rfl⟩ : ∃ j, k = j + 7 := ⟨k - 7, by omega⟩
  unfold band_Split.f
  rw [square_eq l hl (k + 7) (by omega)]
  simp only [Option.bind_some]
  have bad : band_Split.j0 (k + 7) l true = some ([], 1) := by simp only [band_Split.j0, if_true]
  by_cases c : fairL l = true
  · rw [if_pos c]
    simp only [if_true]
    by_cases c1 : l.length = 16
    · rw [if_pos ⟨c, c1⟩, show ((l.length : Int) != 16) = false by rw [c1]; rfl]
      simp only [band_Split.j0, Bool.false_eq_true, if_false, Option.bind_some, List.nil_append, List.length_nil]
      rw [if_pos (by omega)]
      exact split_all l c1 k
    · rw [if_neg (fun h => c1 h.2), show ((l.length : Int) != 16) = true by rw [bne_iff_ne]; omega]; exact bad
  · rw [if_neg c, if_neg (show ¬ ((0 : Int), (1 : Int)).2 = 0 by decide), if_neg (fun h => c h.1)]; exact bad
def gns (l : List Int) : List Int := [gn (bnd l 0), gn (bnd l 1), gn (bnd l 2), gn (bnd l 3), gn (bnd l 4)]
theorem gain_band {l : List Int} (h : inc l = true) (hl : l.length = 16) (b : Nat) (hb : b < 5) (k : Nat) (hk : 200 < k) : band_Gain.f k (bnd l b) = some (gn (bnd l b), 0) := by
  obtain ⟨e1, e2, e3, e4, e5⟩ := fw_facts b hb
  have e6 := bnd_length l hl b hb
  rw [gain_eq _ (by rw [e6]; unfold maxLen; omega) k (by omega), if_pos ⟨by simp only [fairL, Bool.and_eq_true, decide_eq_true_eq]; exact ⟨bnd_inc h b, by omega⟩, by omega⟩]
theorem gains_step {l : List Int} (h : inc l = true) (hl : l.length = 16) (b : Nat) (hb : b < 5) (acc : List Int) (ha : acc.length ≤ 10) (k : Nat) (hk : 200 < k) :
    band_Gains.l0 (k + 1) acc (bands l) 5 (b : Int) = band_Gains.l0 k (acc ++ [gn (bnd l b)]) (bands l) 5 ((b + 1 : Nat) : Int) := by
  conv => lhs; unfold band_Gains.l0
  have e : rd_L1 (bands l) (b : Int) = bnd l b := by
    have : b = 0 ∨ b = 1 ∨ b = 2 ∨ b = 3 ∨ b = 4 := by omega
    rcases this with rfl | rfl | rfl | rfl | rfl <;> rfl
  rw [if_pos (by omega), if_pos (by omega), if_pos (by simp only [bands, List.length_cons, List.length_nil]; omega), e, gain_band h hl b hb k hk]
  simp only [Option.bind_some]
  rw [if_pos (by omega), w64 (by omega) (by omega), show (b : Int) + 1 = ((b + 1 : Nat) : Int) by omega]
theorem gains_all {l : List Int} (h : inc l = true) (hl : l.length = 16) (k : Nat) (hk : 200 < k) : band_Gains.l0 (k + 6) [] (bands l) 5 0 = some (gns l, 0) := by
  have s0 := gains_step h hl 0 (by omega) [] (by simp) (k + 5) (by omega)
  have s1 := gains_step h hl 1 (by omega) [gn (bnd l 0)] (by simp) (k + 4) (by omega)
  have s2 := gains_step h hl 2 (by omega) [gn (bnd l 0), gn (bnd l 1)] (by simp) (k + 3) (by omega)
  have s3 := gains_step h hl 3 (by omega) [gn (bnd l 0), gn (bnd l 1), gn (bnd l 2)] (by simp) (k + 2) (by omega)
  have s4 := gains_step h hl 4 (by omega) [gn (bnd l 0), gn (bnd l 1), gn (bnd l 2), gn (bnd l 3)] (by simp) (k + 1) (by omega)
  simp only [List.nil_append, List.cons_append] at s0 s1 s2 s3 s4
  refine s0.trans (s1.trans (s2.trans (s3.trans (s4.trans ?_))))
  simp only [band_Gains.l0]
  rw [if_neg (by omega)]; rfl
theorem gains_pos {l : List Int} (h : inc l = true) (hl : l.length = 16) (k : Nat) (hk : 400 < k) (e : band_Split.f (k + 6) l = some (bands l, 0)) : band_Gains.f (k + 6) l = some (gns l, 0) := by
  unfold band_Gains.f
  rw [e, Option.bind_some]
  generalize hb : bands l = bl
  have h5 : (bl.length : Int) = 5 := by rw [← hb]; rfl
  show (if (0 : Int) = 0 then band_Gains.l0 (k + 6) [] bl (bl.length : Int) 0 else _) = _
  rw [if_pos rfl, h5, ← hb]
  exact gains_all h hl k (by omega)
theorem gains_neg {l : List Int} (k : Nat) (e : band_Split.f k l = some ([], 1)) : band_Gains.f k l = some ([], 1) := by
  unfold band_Gains.f
  rw [e, Option.bind_some]
  rw [if_neg (show ¬ (([] : List (List Int)), (1 : Int)).2 = 0 by decide)]
theorem gains_eq (l : List Int) (hl : l.length ≤ maxLen) (hm : l.length * 8 ≤ 140737488351232) (k : Nat) (hk : l.length + 500 < k) : band_Gains.f k l = some (if fairL l = true ∧ l.length = 16 then (gns l, 0) else ([], 1)) := by
  have e := split_eq l hl hm k (by omega)
  by_cases c : fairL l = true ∧ l.length = 16
  · rw [if_pos c] at e ⊢
    have c' := c.1
    simp only [fairL, Bool.and_eq_true, decide_eq_true_eq] at c'
    obtain ⟨k, rfl⟩ : ∃ j, k = j + 6 := ⟨k - 6, by omega⟩
    exact gains_pos c'.1 c.2 k (by omega) e
  · rw [if_neg c] at e ⊢
    exact gains_neg k e
theorem band_loop (l : List Int) (hl : l.length = 16) (b : Nat) (hb : b < 5) (d : Nat) : ∀ (i k : Nat), i + d = wN b → d + 1 < k → psalteryref10_Band.l0 k l (b : Int) ((l.drop (fN b)).take i) (i : Int) = some (bnd l b) := by
  obtain ⟨e1, e2, e3, e4, e5⟩ := fw_facts b hb
  induction d with
  | zero =>
    intro i k hi hk
    obtain ⟨k, rfl⟩ : ∃ j, k = j + 1 := ⟨k - 1, by omega⟩
    conv => lhs; unfold psalteryref10_Band.l0
    rw [refWidth_eq _ k (by omega), e2]
    simp only [Option.bind_some]
    rw [if_neg (by omega), show i = wN b by omega]; rfl
  | succ d ih =>
    intro i k hi hk
    obtain ⟨k, rfl⟩ : ∃ j, k = j + 1 := ⟨k - 1, by omega⟩
    have nx := ih (i + 1) k (by omega) (by omega)
    conv => lhs; unfold psalteryref10_Band.l0
    rw [refWidth_eq _ k (by omega), e2, Option.bind_some, refFrom_eq, e1, Option.bind_some]
    have ht : ((l.drop (fN b)).take i).length = i := by rw [List.length_take, List.length_drop]; omega
    have hs : (l.drop (fN b)).take (i + 1) = (l.drop (fN b)).take i ++ [rd l ((fN b : Int) + (i : Int))] := by
      have h1 : i < (l.drop (fN b)).length := by rw [List.length_drop]; omega
      have h2 : fN b + i < l.length := by omega
      rw [List.take_succ_eq_append_getElem h1]
      have h3 : rd l ((fN b : Int) + (i : Int)) = l[fN b + i] := by
        rw [show ((fN b : Int) + (i : Int)) = ((fN b + i : Nat) : Int) by omega]
        simp only [rd, List.getD_eq_getElem?_getD, Int.toNat_natCast]
        rw [List.getElem?_eq_getElem h2]; rfl
      rw [h3, List.getElem_drop]
    rw [if_pos (by omega), w64 (x := (fN b : Int) + (i : Int)) (by omega) (by omega), if_pos (by omega), if_pos (by omega), if_pos (by omega), w64 (by omega) (by omega), ← hs, show (i : Int) + 1 = ((i + 1 : Nat) : Int) by omega]
    exact nx
theorem band_eq (l : List Int) (hl : l.length = 16) (b : Nat) (hb : b < 5) (k : Nat) (hk : 20 < k) : psalteryref10_Band.f k l (b : Int) = some (bnd l b) := by
  obtain ⟨e1, e2, e3, e4, e5⟩ := fw_facts b hb
  have := band_loop l hl b hb (wN b) 0 k (by omega) (by omega)
  simpa [psalteryref10_Band.f] using this
theorem same7_loop (l : List Int) (hl : l.length ≤ 1000000) (d : Nat) : ∀ (i k : Nat), i + d = l.length → d < k → psalteryref07_Same.l0 k l l (i : Int) = some true := by
  induction d with
  | zero =>
    intro i k hi hk
    obtain ⟨k, rfl⟩ : ∃ j, k = j + 1 := ⟨k - 1, by omega⟩
    simp only [psalteryref07_Same.l0]
    rw [if_neg (by omega)]
  | succ d ih =>
    intro i k hi hk
    obtain ⟨k, rfl⟩ : ∃ j, k = j + 1 := ⟨k - 1, by omega⟩
    have nx := ih (i + 1) k (by omega) (by omega)
    simp only [psalteryref07_Same.l0]
    rw [if_pos (by omega), if_pos (by omega), if_pos (by omega), if_pos trivial, w64 (by omega) (by omega), show (i : Int) + 1 = ((i + 1 : Nat) : Int) by omega]
    exact nx
theorem same7 (l : List Int) (hl : l.length ≤ 1000000) (k : Nat) (hk : l.length < k) : psalteryref07_Same.f k l l = some true := by
  unfold psalteryref07_Same.f; rw [if_pos rfl]; exact same7_loop l hl l.length 0 k (by omega) hk
theorem same6_loop (l : List Int) (hl : l.length ≤ 1000000) (d : Nat) : ∀ (i k : Nat), i + d = l.length → d < k → psalteryref06_Same.l0 k l l (i : Int) = some true := by
  induction d with
  | zero =>
    intro i k hi hk
    obtain ⟨k, rfl⟩ : ∃ j, k = j + 1 := ⟨k - 1, by omega⟩
    simp only [psalteryref06_Same.l0]
    rw [if_neg (by omega)]
  | succ d ih =>
    intro i k hi hk
    obtain ⟨k, rfl⟩ : ∃ j, k = j + 1 := ⟨k - 1, by omega⟩
    have nx := ih (i + 1) k (by omega) (by omega)
    simp only [psalteryref06_Same.l0]
    rw [if_pos (by omega), if_pos (by omega), if_pos (by omega), if_pos trivial, w64 (by omega) (by omega), show (i : Int) + 1 = ((i + 1 : Nat) : Int) by omega]
    exact nx
theorem same6 (l : List Int) (hl : l.length ≤ 1000000) (k : Nat) (hk : l.length < k) : psalteryref06_Same.f k l l = some true := by
  unfold psalteryref06_Same.f; rw [if_pos rfl]; exact same6_loop l hl l.length 0 k (by omega) hk
theorem refGains_step {l : List Int} (h : inc l = true) (hl : l.length = 16) (b : Nat) (hb : b < 5) (acc : List Int) (ha : acc.length ≤ 10) (k : Nat) (hk : 200 < k) :
    psalteryref10_Gains.l0 (k + 1) l acc (b : Int) = psalteryref10_Gains.l0 k l (acc ++ [gn (bnd l b)]) ((b + 1 : Nat) : Int) := by
  obtain ⟨e1, e2, e3, e4, e5⟩ := fw_facts b hb
  conv => lhs; unfold psalteryref10_Gains.l0
  rw [if_pos (by omega), band_eq l hl b hb k (by omega)]
  simp only [Option.bind_some]
  rw [refGain_eq _ (bnd_inc h b) (by rw [bnd_length l hl b hb]; omega) k (by omega)]
  simp only [Option.bind_some]
  rw [if_pos (by omega), w64 (by omega) (by omega), show (b : Int) + 1 = ((b + 1 : Nat) : Int) by omega]
theorem refGains_eq {l : List Int} (h : inc l = true) (hl : l.length = 16) (k : Nat) (hk : 300 < k) : psalteryref10_Gains.f k l = some (gns l) := by
  obtain ⟨k, rfl⟩ : ∃ j, k = j + 6 := ⟨k - 6, by omega⟩
  have s0 := refGains_step h hl 0 (by omega) [] (by simp) (k + 5) (by omega)
  have s1 := refGains_step h hl 1 (by omega) [gn (bnd l 0)] (by simp) (k + 4) (by omega)
  have s2 := refGains_step h hl 2 (by omega) [gn (bnd l 0), gn (bnd l 1)] (by simp) (k + 3) (by omega)
  have s3 := refGains_step h hl 3 (by omega) [gn (bnd l 0), gn (bnd l 1), gn (bnd l 2)] (by simp) (k + 2) (by omega)
  have s4 := refGains_step h hl 4 (by omega) [gn (bnd l 0), gn (bnd l 1), gn (bnd l 2), gn (bnd l 3)] (by simp) (k + 1) (by omega)
  simp only [List.nil_append, List.cons_append] at s0 s1 s2 s3 s4
  unfold psalteryref10_Gains.f
  refine s0.trans (s1.trans (s2.trans (s3.trans (s4.trans ?_))))
  simp only [psalteryref10_Gains.l0]
  rw [if_neg (by omega)]; rfl
theorem law_step {l : List Int} (h : inc l = true) (hl : l.length = 16) (b : Nat) (hb : b < 5) (acc : List Int) (ha : acc.length ≤ 100) (k : Nat) (hk : 200 < k) :
    psalterylaw10_BandSplits.l0 (k + 1) l (bands l) (gns l) acc (b : Int) = psalterylaw10_BandSplits.l0 k l (bands l) (gns l) (acc ++ bnd l b) ((b + 1 : Nat) : Int) := by
  obtain ⟨e1, e2, e3, e4, e5⟩ := fw_facts b hb
  have e6 := bnd_length l hl b hb
  have e : rd_L1 (bands l) (b : Int) = bnd l b := by
    have : b = 0 ∨ b = 1 ∨ b = 2 ∨ b = 3 ∨ b = 4 := by omega
    rcases this with rfl | rfl | rfl | rfl | rfl <;> rfl
  conv => lhs; unfold psalterylaw10_BandSplits.l0
  rw [if_pos (by omega), if_pos (by omega), if_pos (by simp only [bands, List.length_cons, List.length_nil]; omega), band_eq l hl b hb k (by omega), e]
  simp only [Option.bind_some]
  rw [same7 _ (by omega) k (by omega)]
  simp only [Option.bind_some, if_true]
  rw [if_pos (by omega), w64 (by omega) (by omega), show (b : Int) + 1 = ((b + 1 : Nat) : Int) by omega]
theorem joined (l : List Int) (hl : l.length = 16) : bnd l 0 ++ bnd l 1 ++ bnd l 2 ++ bnd l 3 ++ bnd l 4 = l := by
  obtain ⟨a, l, rfl⟩ := List.exists_cons_of_length_pos (l := l) (by omega)
  have step : ∀ {l : List Int}, 0 < l.length → ∃ a t, l = a :: t := fun h => List.exists_cons_of_length_pos h
  simp only [List.length_cons] at hl
  obtain ⟨a1, l, rfl⟩ := step (l := l) (by omega)
  simp only [List.length_cons] at hl
  obtain ⟨a2, l, rfl⟩ := step (l := l) (by omega)
  simp only [List.length_cons] at hl
  obtain ⟨a3, l, rfl⟩ := step (l := l) (by omega)
  simp only [List.length_cons] at hl
  obtain ⟨a4, l, rfl⟩ := step (l := l) (by omega)
  simp only [List.length_cons] at hl
  obtain ⟨a5, l, rfl⟩ := step (l := l) (by omega)
  simp only [List.length_cons] at hl
  obtain ⟨a6, l, rfl⟩ := step (l := l) (by omega)
  simp only [List.length_cons] at hl
  obtain ⟨a7, l, rfl⟩ := step (l := l) (by omega)
  simp only [List.length_cons] at hl
  have e : l.take 8 = l := List.take_of_length_le (by omega)
  simp [bnd, fN, wN, e]
theorem law_all {l : List Int} (h : inc l = true) (hl : l.length = 16) (k : Nat) (hk : 400 < k) : psalterylaw10_BandSplits.l0 (k + 6) l (bands l) (gns l) [] 0 = some true := by
  have q0 := bnd_length l hl 0 (by omega)
  have q1 := bnd_length l hl 1 (by omega)
  have q2 := bnd_length l hl 2 (by omega)
  have q3 := bnd_length l hl 3 (by omega)
  have s0 := law_step h hl 0 (by omega) [] (by simp) (k + 5) (by omega)
  have s1 := law_step h hl 1 (by omega) (bnd l 0) (by rw [q0]; decide) (k + 4) (by omega)
  have s2 := law_step h hl 2 (by omega) (bnd l 0 ++ bnd l 1) (by rw [List.length_append, q0, q1]; decide) (k + 3) (by omega)
  have s3 := law_step h hl 3 (by omega) (bnd l 0 ++ bnd l 1 ++ bnd l 2) (by rw [List.length_append, List.length_append, q0, q1, q2]; decide) (k + 2) (by omega)
  have s4 := law_step h hl 4 (by omega) (bnd l 0 ++ bnd l 1 ++ bnd l 2 ++ bnd l 3) (by rw [List.length_append, List.length_append, List.length_append, q0, q1, q2, q3]; decide) (k + 1) (by omega)
  rw [List.nil_append] at s0
  refine s0.trans (s1.trans (s2.trans (s3.trans (s4.trans ?_))))
  rw [joined l hl]
  simp only [psalterylaw10_BandSplits.l0]
  rw [if_neg (by omega), same7 l (by omega) k (by omega), refGains_eq h hl k (by omega), knows10 k (by omega)]
  simp only [Option.bind_some, if_true]
  rw [same6 (gns l) (by simp [gns]) k (by simp only [gns, List.length_cons, List.length_nil]; omega)]
  simp only [Option.bind_some, if_true]
theorem BandSplits : psalterylaw10_BandSplits.Pure := by
  intro l hl hm hw
  obtain ⟨K, hK⟩ : ∃ K : Nat, l.length + 10000 ≤ K := ⟨_, Nat.le_refl _⟩
  refine ⟨K + 7, ?_⟩
  unfold psalterylaw10_BandSplits.f
  rw [great_eq, knows10 (K + 7) (by omega), split_eq l hl hm (K + 7) (by omega), gains_eq l hl hm (K + 7) (by omega)]
  simp only [Option.bind_some]
  by_cases c : (l.length : Int) > 100
  · rw [if_pos (by simpa using c)]
  rw [if_neg (by simpa using c)]
  have hf : psalteryref10_Fair.f (K + 7) l = some (decide (fairL l = true ∧ l.length = 16)) := by
    unfold psalteryref10_Fair.f
    by_cases c2 : l.length = 16
    · rw [if_pos (by omega), refFair_eq l hl (K + 7) (by omega)]; simp [c2]
    · rw [if_neg (by omega), decide_eq_false (fun h => c2 h.2)]
  rw [hf]
  simp only [Option.bind_some]
  by_cases c2 : fairL l = true ∧ l.length = 16
  · rw [if_pos c2, if_pos c2, decide_eq_true c2]
    have c' := c2.1
    simp only [fairL, Bool.and_eq_true, decide_eq_true_eq] at c'
    simp only [if_true]
    rw [show (((bands l).length : Int) != 5) = false by rfl]
    simp only [psalterylaw10_BandSplits.j0, Bool.false_eq_true, if_false]
    exact law_all c'.1 c2.2 K (by omega)
  · rw [if_neg c2, if_neg c2, decide_eq_false c2]; rfl
end Go.Proofs.Ytoghpjggcfnoeaa.Pure
