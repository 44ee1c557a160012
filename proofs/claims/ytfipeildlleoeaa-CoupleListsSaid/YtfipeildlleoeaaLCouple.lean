/- What couple's functions compute, and its reference's. -/
import Derived.Test.YtfipeildlleoeaaPx41
import Derived.Test.YtfipeildlleoeaaPx47
import Derived.Test.YtfipeildlleoeaaPx42
import Derived.Test.YtfipeildlleoeaaPx37
import Derived.Test.YtfipeildlleoeaaPx35
import Derived.Test.YtfipeildlleoeaaPx15
import Derived.Test.YtfipeildlleoeaaLBase
namespace Go.Proofs.Ytfipeildlleoeaa.LC
set_option linter.unusedVariables false
set_option linter.unusedSimpArgs false
open Go.RowKit Go.Proofs.YtfipeildlleoeaaW.PrintWords Go.Proofs.YtfipeildlleoeaaW.PrintLast Go.Proofs.YtfipeildlleoeaaW.PrintMore Go.Proofs.Ytfipeildlleoeaa.P Go.Proofs.Ytfipeildlleoeaa.LB
abbrev fair (m x y : Int) : Prop := -m ≤ x ∧ x ≤ m ∧ -m ≤ y ∧ y ≤ m
def ab (x : Int) : Int := if x < 0 then -x else x
def cp (x y : Int) : Int × Int := if ab x > ab y then (x, if x > 0 then x - y else y - x) else (y, if y > 0 then x - y else y - x)
def pt (m a : Int) : Int × Int := if m > 0 then (if a > 0 then (m, m - a) else (m + a, m)) else (if a > 0 then (m, m + a) else (m - a, m))
def allf (m : Int) : List Int → List Int → Bool
  | x :: l, y :: r => decide (fair m x y) && allf m l r
  | _, _ => true
def prs (f : Int → Int → Int × Int) : List Int → List Int → List Int × List Int
  | x :: l, y :: r => ((f x y).1 :: (prs f l r).1, (f x y).2 :: (prs f l r).2)
  | _, _ => ([], [])
theorem pt_cp (x y : Int) : pt (cp x y).1 (cp x y).2 = (x, y) := by
  unfold cp ab; repeat' split
  all_goals (dsimp only; unfold pt; repeat' split)
  all_goals (simp only [Prod.mk.injEq, true_and, and_true] <;> omega)
theorem cp_fair {x y : Int} (h : fair 1099511627776 x y) : fair 4398046511104 (cp x y).1 (cp x y).2 := by
  obtain ⟨h1, h2, h3, h4⟩ := h
  unfold cp ab; repeat' split
  all_goals (refine ⟨?_, ?_, ?_, ?_⟩ <;> dsimp only <;> omega)
theorem rd_mid (l r : List Int) (x : Int) : rd (l ++ x :: r) (l.length : Int) = x := by simp [rd]
theorem rd_mid' (l l' r : List Int) (x : Int) (h : l.length = l'.length) : rd (l ++ x :: r) (l'.length : Int) = x := by rw [← h]; exact rd_mid l r x
theorem clamp_eq {v m : Int} (hm : 0 ≤ m) : num_Clamp.f v (-m) m = some (if -m ≤ v ∧ v ≤ m then v else if v < -m then -m else m) := by
  unfold num_Clamp.f; repeat' split
  all_goals (simp only [Option.some.injEq] <;> omega)
theorem within_eq {m x y : Int} (hm : 0 ≤ m) (hm' : m ≤ 4398046511104) (k : Nat) (hk : 2 < k) : couple_within.f k m [x, y] = some (decide (fair m x y)) := by
  obtain ⟨k, rfl⟩ : ∃ j, k = j + 3 := ⟨k - 3, by omega⟩
  have e1 : wrap64 (-m) = -m := w64 (by omega) (by omega)
  have e2 : wrap64 ((0 : Int) + 1) = 1 := (w64 (by omega) (by omega)).trans rfl
  have e3 : wrap64 ((1 : Int) + 1) = 2 := (w64 (by omega) (by omega)).trans rfl
  have r0 : rd [x, y] 0 = x := rfl
  have r1 : rd [x, y] 1 = y := rfl
  unfold couple_within.f
  simp only [couple_within.l0, e1, e2, e3, r0, r1, clamp_eq hm, Option.bind_some, List.length_cons, List.length_nil]
  by_cases h : fair m x y
  · have h' := h
    unfold fair at h'
    simp [h, h', show (-m ≤ x ∧ x ≤ m) from ⟨h'.1, h'.2.1⟩]
  · rw [decide_eq_false h]
    unfold fair at h
    by_cases h1 : -m ≤ x ∧ x ≤ m
    · have h2 : ¬ (-m ≤ y ∧ y ≤ m) := fun h2 => h ⟨h1.1, h1.2, h2.1, h2.2⟩
      have h3 : ¬ (y = if y < -m then -m else m) := by split <;> omega
      simp [h1, h2, h3]
    · have h3 : ¬ (x = if x < -m then -m else m) := by split <;> omega
      simp [h1, h3]
theorem cp_eq {x y : Int} (h : fair 1099511627776 x y) : couple_couple.f x y = some (cp x y) := by
  unfold fair at h
  unfold couple_couple.f mx cp ab
  rw [w64 (x := -x) (by omega) (by omega), w64 (x := -y) (by omega) (by omega), w64 (x := x - y) (by omega) (by omega), w64 (x := y - x) (by omega) (by omega)]
  repeat' split
  all_goals (simp only [Option.some.injEq, Prod.mk.injEq, true_and, and_true] <;> omega)
theorem pt_eq {x y : Int} (h : fair 4398046511104 x y) : couple_part.f x y = some (pt x y) := by
  unfold fair at h
  unfold couple_part.f pt
  rw [w64 (x := -y) (by omega) (by omega), w64 (x := x - y) (by omega) (by omega), w64 (x := x + y) (by omega) (by omega), w64 (x := x + -y) (by omega) (by omega), w64 (x := x - -y) (by omega) (by omega)]
  repeat' split
  all_goals (simp only [Option.some.injEq, Prod.mk.injEq, true_and, and_true] <;> omega)
theorem refFair_eq {x y m : Int} (hm : 0 ≤ m) (hm' : m ≤ 4398046511104) : psalteryref15_Fair.f x y m = some (decide (fair m x y)) := by
  unfold psalteryref15_Fair.f
  rw [w64 (x := -m) (by omega) (by omega)]
  unfold fair
  by_cases h1 : -m ≤ x
  · by_cases h2 : x ≤ m
    · by_cases h3 : -m ≤ y
      · simp [h1, h2, h3]
      · simp [h1, h2, h3]
    · simp [h1, h2]
  · simp [h1]
theorem refCp_eq {x y : Int} (h : fair 1099511627776 x y) : psalteryref15_Couple.f x y = some (cp x y) := by
  unfold fair at h
  unfold psalteryref15_Couple.f psalteryref15_size.f cp ab
  rw [w64 (x := -x) (by omega) (by omega), w64 (x := -y) (by omega) (by omega), w64 (x := x - y) (by omega) (by omega), w64 (x := y - x) (by omega) (by omega)]
  have e : ∀ v : Int, (if v < 0 then some (-v) else some v) = some (if v < 0 then -v else v) := fun v => by split <;> rfl
  rw [e, e]; simp only [Option.bind_some]
  repeat' split
  all_goals (simp only [Option.some.injEq, Prod.mk.injEq, true_and, and_true] <;> omega)
theorem refPt_eq {x y : Int} (h : fair 4398046511104 x y) (k : Nat) (hk : 0 < k) : psalteryref15_Part.f k x y = some (pt x y) := by
  obtain ⟨k, rfl⟩ : ∃ j, k = j + 1 := ⟨k - 1, by omega⟩
  unfold fair at h
  unfold psalteryref15_Part.f pt
  simp only [psalteryref15_Part.j0]
  rw [w64 (x := x - y) (by omega) (by omega), w64 (x := x + y) (by omega) (by omega)]
  by_cases h1 : x > 0 <;> by_cases h2 : y > 0 <;> simp [h1, h2]
theorem same_loop (l : List Int) (hl : l.length ≤ maxLen) (d : Nat) : ∀ (k : Nat) (i : Int), 0 ≤ i → i + d = l.length → d < k → psalteryref07_Same.l0 k l l i = some true := by
  have hm : (maxLen : Int) = 9223372036854775807 := rfl
  induction d with
  | zero =>
    intro k i h0 hi hk
    obtain ⟨k, rfl⟩ : ∃ j, k = j + 1 := ⟨k - 1, by omega⟩
    simp only [psalteryref07_Same.l0]; rw [if_neg (by omega)]
  | succ d ih =>
    intro k i h0 hi hk
    obtain ⟨k, rfl⟩ : ∃ j, k = j + 1 := ⟨k - 1, by omega⟩
    simp only [psalteryref07_Same.l0]; rw [if_pos (by omega), if_pos h0, if_pos (by omega), if_pos trivial, w64 (by omega) (by omega)]
    exact ih k (i + 1) (by omega) (by omega) (by omega)
theorem same_self (l : List Int) (hl : l.length ≤ maxLen) (k : Nat) (hk : l.length < k) : psalteryref07_Same.f k l l = some true := by
  unfold psalteryref07_Same.f; rw [if_pos rfl]; exact same_loop l hl l.length k 0 (by omega) (by omega) hk
theorem knows15 (k : Nat) (hk : 200 ≤ k) : psalterylaw15_knows.f k = some true := at_rounds (g := fun k => psalterylaw15_knows.f k) (fun k => psalterylaw15_knows.mono k) hk psalterylaw15_knows.sure
theorem prs_len (f : Int → Int → Int × Int) : ∀ l r : List Int, l.length = r.length → (prs f l r).1.length = l.length ∧ (prs f l r).2.length = l.length
  | [], [], _ => by simp [prs]
  | x :: l, y :: r, h => by have := prs_len f l r (by simpa using h); simp [prs, this]
theorem back_all : ∀ l r : List Int, l.length = r.length → allf 1099511627776 l r = true → allf 4398046511104 (prs cp l r).1 (prs cp l r).2 = true ∧ prs pt (prs cp l r).1 (prs cp l r).2 = (l, r)
  | [], [], _, _ => by simp [prs, allf]
  | x :: l, y :: r, h, hf => by
    simp only [allf, Bool.and_eq_true, decide_eq_true_eq] at hf
    have ih := back_all l r (by simpa using h) hf.2
    refine ⟨?_, ?_⟩
    · simp only [prs, allf, Bool.and_eq_true, decide_eq_true_eq]; exact ⟨cp_fair hf.1, ih.1⟩
    · simp only [prs, ih.2, pt_cp]
theorem one_cp (x y : Int) (k : Nat) (hk : 2 < k) : couple_way_one_by_couple_couple.f k 1099511627776 x y = some (if fair 1099511627776 x y then ((cp x y).1, (cp x y).2, 0) else (0, 0, 1)) := by
  unfold couple_way_one_by_couple_couple.f
  rw [within_eq (by omega) (by omega) k hk]
  simp only [Option.bind_some]
  by_cases h : fair 1099511627776 x y
  · rw [decide_eq_true h, if_pos rfl, if_pos h, cp_eq h]; rfl
  · rw [decide_eq_false h, if_neg (by decide), if_neg h]
theorem all_cp : ∀ (l r pl pr xs ys : List Int) (k : Nat), pl.length = pr.length → l.length = r.length → pl.length + l.length ≤ 1000 → xs.length ≤ pl.length → ys.length ≤ pl.length → l.length + 3 < k →
    couple_way_all_by_couple_couple.l0 k (pl ++ l) (pr ++ r) xs ys ((pl ++ l).length : Int) (pl.length : Int) 1099511627776 = some (if allf 1099511627776 l r = true then (xs ++ (prs cp l r).1, ys ++ (prs cp l r).2, 0) else ([], [], 1))
  | [], [], pl, pr, xs, ys, k, hp, _, hn, hx, hy, hk => by
    obtain ⟨k, rfl⟩ : ∃ j, k = j + 1 := ⟨k - 1, by omega⟩
    simp only [couple_way_all_by_couple_couple.l0, List.append_nil]
    rw [if_neg (by omega)]; simp [allf, prs]
  | x :: l, y :: r, pl, pr, xs, ys, k, hp, hl, hn, hx, hy, hk => by
    obtain ⟨k, rfl⟩ : ∃ j, k = j + 1 := ⟨k - 1, by omega⟩
    simp only [List.length_cons] at hl hn hk
    simp only [couple_way_all_by_couple_couple.l0]
    rw [if_pos (by simp only [List.length_append, List.length_cons]; omega), if_pos (by omega), if_pos (by simp only [List.length_append, List.length_cons]; omega), if_pos (by simp only [List.length_append, List.length_cons]; omega),
      rd_mid, rd_mid' pr pl r y hp.symm, one_cp x y k (by omega)]
    simp only [Option.bind_some, prs]
    by_cases h : fair 1099511627776 x y
    · rw [if_pos h]
      dsimp only
      rw [if_pos rfl, if_pos (by omega), if_pos (by omega), w64 (by omega) (by omega), show allf 1099511627776 (x :: l) (y :: r) = allf 1099511627776 l r by simp only [allf, decide_eq_true h, Bool.true_and]]
      have ih := all_cp l r (pl ++ [x]) (pr ++ [y]) (xs ++ [(cp x y).1]) (ys ++ [(cp x y).2]) k (by simp [hp]) (by omega) (by simp only [List.length_append, List.length_cons, List.length_nil]; omega)
        (by simp only [List.length_append, List.length_cons, List.length_nil]; omega) (by simp only [List.length_append, List.length_cons, List.length_nil]; omega) (by omega)
      simp only [List.append_assoc, List.singleton_append, List.length_append, List.length_cons, List.length_nil] at ih ⊢
      rw [show (((pl.length + (0 + 1) : Nat) : Int)) = (pl.length : Int) + 1 by omega] at ih
      exact ih
    · rw [if_neg h]
      dsimp only
      rw [if_neg (by decide), show allf 1099511627776 (x :: l) (y :: r) = false by simp only [allf, decide_eq_false h, Bool.false_and], if_neg (by decide)]
theorem couple_CoupleAll_eq (l r : List Int) (k : Nat) (hn : l.length ≤ 1000) (hk : l.length + 3 < k) : couple_CoupleAll.f k l r = some (if l.length = r.length then (if allf 1099511627776 l r = true then ((prs cp l r).1, (prs cp l r).2, 0) else ([], [], 1)) else ([], [], 1)) := by
  unfold couple_CoupleAll.f couple_coupling.f
  simp only [Option.bind_some]
  unfold couple_way_all_by_couple_couple.f
  by_cases h : l.length = r.length
  · rw [if_pos (by omega), if_pos h]
    have := all_cp l r [] [] [] [] k rfl h (by simpa using hn) (Nat.le_refl _) (Nat.le_refl _) hk
    simp only [List.nil_append, List.length_nil] at this
    rw [show ((0 : Nat) : Int) = 0 from rfl] at this
    rw [this]; rfl
  · rw [if_neg (by omega), if_neg h]; rfl
theorem couple_Couple_eq (x y : Int) (k : Nat) (hk : 2 < k) : couple_Couple.f k x y = some (if fair 1099511627776 x y then ((cp x y).1, (cp x y).2, 0) else (0, 0, 1)) := by
  unfold couple_Couple.f couple_coupling.f
  simp only [Option.bind_some, one_cp x y k hk]
theorem one_pt (x y : Int) (k : Nat) (hk : 2 < k) : couple_way_one_by_couple_part.f k 4398046511104 x y = some (if fair 4398046511104 x y then ((pt x y).1, (pt x y).2, 0) else (0, 0, 1)) := by
  unfold couple_way_one_by_couple_part.f
  rw [within_eq (by omega) (by omega) k hk]
  simp only [Option.bind_some]
  by_cases h : fair 4398046511104 x y
  · rw [decide_eq_true h, if_pos rfl, if_pos h, pt_eq h]; rfl
  · rw [decide_eq_false h, if_neg (by decide), if_neg h]
theorem all_pt : ∀ (l r pl pr xs ys : List Int) (k : Nat), pl.length = pr.length → l.length = r.length → pl.length + l.length ≤ 1000 → xs.length ≤ pl.length → ys.length ≤ pl.length → l.length + 3 < k →
    couple_way_all_by_couple_part.l0 k (pl ++ l) (pr ++ r) xs ys ((pl ++ l).length : Int) (pl.length : Int) 4398046511104 = some (if allf 4398046511104 l r = true then (xs ++ (prs pt l r).1, ys ++ (prs pt l r).2, 0) else ([], [], 1))
  | [], [], pl, pr, xs, ys, k, hp, _, hn, hx, hy, hk => by
    obtain ⟨k, rfl⟩ : ∃ j, k = j + 1 := ⟨k - 1, by omega⟩
    simp only [couple_way_all_by_couple_part.l0, List.append_nil]
    rw [if_neg (by omega)]; simp [allf, prs]
  | x :: l, y :: r, pl, pr, xs, ys, k, hp, hl, hn, hx, hy, hk => by
    obtain ⟨k, rfl⟩ : ∃ j, k = j + 1 := ⟨k - 1, by omega⟩
    simp only [List.length_cons] at hl hn hk
    simp only [couple_way_all_by_couple_part.l0]
    rw [if_pos (by simp only [List.length_append, List.length_cons]; omega), if_pos (by omega), if_pos (by simp only [List.length_append, List.length_cons]; omega), if_pos (by simp only [List.length_append, List.length_cons]; omega),
      rd_mid, rd_mid' pr pl r y hp.symm, one_pt x y k (by omega)]
    simp only [Option.bind_some, prs]
    by_cases h : fair 4398046511104 x y
    · rw [if_pos h]
      dsimp only
      rw [if_pos rfl, if_pos (by omega), if_pos (by omega), w64 (by omega) (by omega), show allf 4398046511104 (x :: l) (y :: r) = allf 4398046511104 l r by simp only [allf, decide_eq_true h, Bool.true_and]]
      have ih := all_pt l r (pl ++ [x]) (pr ++ [y]) (xs ++ [(pt x y).1]) (ys ++ [(pt x y).2]) k (by simp [hp]) (by omega) (by simp only [List.length_append, List.length_cons, List.length_nil]; omega)
        (by simp only [List.length_append, List.length_cons, List.length_nil]; omega) (by simp only [List.length_append, List.length_cons, List.length_nil]; omega) (by omega)
      simp only [List.append_assoc, List.singleton_append, List.length_append, List.length_cons, List.length_nil] at ih ⊢
      rw [show (((pl.length + (0 + 1) : Nat) : Int)) = (pl.length : Int) + 1 by omega] at ih
      exact ih
    · rw [if_neg h]
      dsimp only
      rw [if_neg (by decide), show allf 4398046511104 (x :: l) (y :: r) = false by simp only [allf, decide_eq_false h, Bool.false_and], if_neg (by decide)]
theorem couple_PartAll_eq (l r : List Int) (k : Nat) (hn : l.length ≤ 1000) (hk : l.length + 3 < k) : couple_PartAll.f k l r = some (if l.length = r.length then (if allf 4398046511104 l r = true then ((prs pt l r).1, (prs pt l r).2, 0) else ([], [], 1)) else ([], [], 1)) := by
  unfold couple_PartAll.f couple_parting.f
  simp only [Option.bind_some]
  unfold couple_way_all_by_couple_part.f
  by_cases h : l.length = r.length
  · rw [if_pos (by omega), if_pos h]
    have := all_pt l r [] [] [] [] k rfl h (by simpa using hn) (Nat.le_refl _) (Nat.le_refl _) hk
    simp only [List.nil_append, List.length_nil] at this
    rw [show ((0 : Nat) : Int) = 0 from rfl] at this
    rw [this]; rfl
  · rw [if_neg (by omega), if_neg h]; rfl
theorem couple_Part_eq (x y : Int) (k : Nat) (hk : 2 < k) : couple_Part.f k x y = some (if fair 4398046511104 x y then ((pt x y).1, (pt x y).2, 0) else (0, 0, 1)) := by
  unfold couple_Part.f couple_parting.f
  simp only [Option.bind_some, one_pt x y k hk]
end Go.Proofs.Ytfipeildlleoeaa.LC
