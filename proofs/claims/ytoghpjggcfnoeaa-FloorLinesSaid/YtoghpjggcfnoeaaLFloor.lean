/- What floor's functions compute, and its reference's. -/
import Derived.Test.YtoghpjggcfnoeaaPx12
import Derived.Test.YtoghpjggcfnoeaaPx2
import Derived.Test.YtoghpjggcfnoeaaPx4
import Derived.Test.YtoghpjggcfnoeaaPx9
import Derived.Test.YtoghpjggcfnoeaaPx13
import Derived.Test.YtoghpjggcfnoeaaPx14
import Derived.Test.YtoghpjggcfnoeaaPx22
import Derived.Test.YtoghpjggcfnoeaaPx23
import Derived.Test.YtoghpjggcfnoeaaLBase
namespace Go.Proofs.Ytoghpjggcfnoeaa.LF
set_option linter.unusedVariables false
set_option linter.unusedSimpArgs false
open Go.RowKit Go.Proofs.YtoghpjggcfnoeaaW.PrintWords Go.Proofs.YtoghpjggcfnoeaaW.PrintLast Go.Proofs.YtoghpjggcfnoeaaW.PrintMore Go.Proofs.Ytoghpjggcfnoeaa.P Go.Proofs.Ytoghpjggcfnoeaa.LB
def inr (lo hi : Int) : List Int → Bool
  | [] => true
  | v :: l => decide (lo ≤ v ∧ v ≤ hi) && inr lo hi l
def okl (n : Nat) (l : List Int) : Bool := inr 0 44 l && l.length == n
theorem inr_mem {lo hi : Int} : ∀ {l : List Int}, inr lo hi l = true → ∀ x ∈ l, lo ≤ x ∧ x ≤ hi
  | [], _, x, hx => by cases hx
  | v :: l, h, x, hx => by
    simp only [inr, Bool.and_eq_true, decide_eq_true_eq] at h
    rcases List.mem_cons.1 hx with rfl | hx
    · exact h.1
    · exact inr_mem h.2 x hx
theorem inr_of {lo hi : Int} : ∀ {l : List Int}, (∀ x ∈ l, lo ≤ x ∧ x ≤ hi) → inr lo hi l = true
  | [], _ => rfl
  | v :: l, h => by
    simp only [inr, Bool.and_eq_true, decide_eq_true_eq]
    exact ⟨h v (List.mem_cons_self ..), inr_of fun x hx => h x (List.mem_cons_of_mem _ hx)⟩
theorem rd_in {lo hi : Int} {l : List Int} (h : inr lo hi l = true) (i : Nat) (hi' : i < l.length) : lo ≤ rd l i ∧ rd l i ≤ hi := by
  have : rd l i ∈ l := by simp [rd, List.getD_eq_getElem?_getD, hi']
  exact inr_mem h _ this
theorem rd_in' {lo hi : Int} {l : List Int} (h : inr lo hi l = true) (i : Int) (h0 : 0 ≤ i) (hi' : i < l.length) : lo ≤ rd l i ∧ rd l i ≤ hi := by
  have := rd_in h i.toNat (by omega); rwa [show ((i.toNat : Nat) : Int) = i by omega] at this
theorem inr_rd {lo hi : Int} {l : List Int} (h : ∀ i : Nat, i < l.length → lo ≤ rd l i ∧ rd l i ≤ hi) : inr lo hi l = true :=
  inr_of fun x hx => by
    obtain ⟨i, hi, rfl⟩ := List.getElem_of_mem hx
    have := h i hi
    simpa [rd, List.getD_eq_getElem?_getD, hi] using this
theorem rd_mid (l r : List Int) (x : Int) : rd (l ++ x :: r) (l.length : Int) = x := by simp [rd]
theorem rd_set (l : List Int) (i : Int) (h0 : 0 ≤ i) (h1 : i < l.length) (v : Int) (j : Nat) : rd (l.set i.toNat v) j = if (j : Int) = i then v else rd l j := by
  by_cases h : (j : Int) = i
  · rw [if_pos h]
    obtain ⟨n, rfl⟩ : ∃ n : Nat, i = n := ⟨i.toNat, by omega⟩
    obtain rfl : j = n := by omega
    have : j < l.length := by omega
    simp [rd, List.getD_eq_getElem?_getD, this]
  · rw [if_neg h]
    have : i.toNat ≠ j := by omega
    simp [rd, List.getD_eq_getElem?_getD, List.getElem?_set_ne this]
def at14 (p : Int) : Int := if p = 0 then 0 else if p = 1 then 1 else if p = 2 then 2 else if p = 3 then 4 else if p = 4 then 8 else if p = 5 then 15 else -1
theorem at_eq (p : Int) : floor_At.f p = some (at14 p) := rfl
theorem refAt_eq (p : Int) (k : Nat) (hk : 0 < k) : psalteryref14_At.f k p = some (at14 p) := by
  obtain ⟨k, rfl⟩ : ∃ j, k = j + 1 := ⟨k - 1, by omega⟩
  unfold psalteryref14_At.f at14
  simp only [psalteryref14_At.j0]
  by_cases h0 : p = 0
  · subst h0; rfl
  by_cases h1 : p = 1
  · subst h1; rfl
  rw [if_neg h0, if_neg h1, if_neg h0, if_neg h1]
  by_cases h2 : p = 2
  · subst h2; rfl
  rw [if_neg h2, if_neg (by simpa using h2)]
  repeat' split
  all_goals rfl
theorem gains_loop (whole : List Int) (many : Int) : ∀ (s p : List Int) (k : Nat), p.length + s.length ≤ maxLen → s.length < k →
    floor_gains.l0 k whole many (p ++ s) ((p ++ s).length : Int) (p.length : Int) = some (if inr 0 44 s = true then ((whole.length : Int) == many) else false)
  | [], p, k, hn, hk => by
    obtain ⟨k, rfl⟩ : ∃ j, k = j + 1 := ⟨k - 1, by omega⟩
    simp only [floor_gains.l0, List.append_nil]
    rw [if_neg (by omega)]; simp [inr]
  | v :: s, p, k, hn, hk => by
    have hM : (maxLen : Int) = 9223372036854775807 := rfl
    obtain ⟨k, rfl⟩ : ∃ j, k = j + 1 := ⟨k - 1, by omega⟩
    simp only [List.length_cons] at hn hk
    have hlen : ((p ++ v :: s).length : Int) = p.length + s.length + 1 := by simp only [List.length_append, List.length_cons]; omega
    simp only [floor_gains.l0]
    rw [if_pos (by omega), if_pos (by omega), if_pos (by omega), rd_mid]
    by_cases c : 0 ≤ v ∧ v ≤ 44
    · rw [if_neg (by omega), if_neg (by omega), w64 (by omega) (by omega), show inr 0 44 (v :: s) = inr 0 44 s by simp only [inr, decide_eq_true c, Bool.true_and]]
      have ih := gains_loop whole many s (p ++ [v]) k (by simp only [List.length_append, List.length_cons, List.length_nil]; omega) (by omega)
      simp only [List.append_assoc, List.singleton_append] at ih
      rw [show (((p ++ [v]).length : Nat) : Int) = (p.length : Int) + 1 by simp only [List.length_append, List.length_cons, List.length_nil]; omega] at ih
      exact ih
    · rw [show inr 0 44 (v :: s) = false by simp only [inr, decide_eq_false c, Bool.false_and]]
      by_cases c1 : v < 0
      · rw [if_pos c1]; rfl
      · rw [if_neg c1, if_pos (by omega)]; rfl
theorem gains_eq (l : List Int) (n : Nat) (hl : l.length ≤ maxLen) (k : Nat) (hk : l.length < k) : floor_gains.f k l (n : Int) = some (okl n l) := by
  unfold floor_gains.f
  have := gains_loop l n l [] k (by simpa using hl) hk
  simp only [List.nil_append, List.length_nil] at this
  rw [show ((0 : Nat) : Int) = 0 from rfl] at this
  rw [this]
  have e : ((l.length : Int) == (n : Int)) = (l.length == n) := by rw [Bool.eq_iff_iff]; simp only [beq_iff_eq]; omega
  unfold okl
  rw [e]; cases inr 0 44 l <;> simp
theorem right_eq (l : List Int) (hl : l.length ≤ maxLen) (k : Nat) (hk : l.length < k) : floor_Right.f k l = some (okl 6 l) := by
  unfold floor_Right.f
  have := gains_eq l 6 hl k hk
  rw [show ((6 : Nat) : Int) = 6 from rfl] at this
  rw [this]; rfl
theorem refRight_loop : ∀ (s p : List Int) (ok : Bool) (k : Nat), p.length + s.length ≤ maxLen → s.length < k →
    psalteryref14_Right.l0 k (p ++ s) ok (p.length : Int) = some (ok && inr 0 44 s)
  | [], p, ok, k, hn, hk => by
    obtain ⟨k, rfl⟩ : ∃ j, k = j + 1 := ⟨k - 1, by omega⟩
    simp only [psalteryref14_Right.l0, List.append_nil]
    rw [if_neg (by omega)]; simp [inr]
  | v :: s, p, ok, k, hn, hk => by
    have hM : (maxLen : Int) = 9223372036854775807 := rfl
    obtain ⟨k, rfl⟩ : ∃ j, k = j + 1 := ⟨k - 1, by omega⟩
    simp only [List.length_cons] at hn hk
    have hlen : ((p ++ v :: s).length : Int) = p.length + s.length + 1 := by simp only [List.length_append, List.length_cons]; omega
    have ih := fun ok => refRight_loop s (p ++ [v]) ok k (by simp only [List.length_append, List.length_cons, List.length_nil]; omega) (by omega)
    simp only [List.append_assoc, List.singleton_append] at ih
    rw [show (((p ++ [v]).length : Nat) : Int) = (p.length : Int) + 1 by simp only [List.length_append, List.length_cons, List.length_nil]; omega] at ih
    simp only [psalteryref14_Right.l0]
    rw [if_pos (by omega), if_pos (by omega : (0 : Int) ≤ (p.length : Int)), rd_mid, w64 (by omega) (by omega), ih, ih]
    cases ok with
    | false => simp
    | true =>
      by_cases c1 : v ≥ 0
      · rw [if_pos rfl, if_pos c1]; by_cases c2 : v ≤ 44
        · simp [inr, c1, c2]
        · simp [inr, c2]
      · rw [if_pos rfl, if_neg c1]; simp only [inr, decide_eq_false (show ¬ (0 ≤ v ∧ v ≤ 44) by omega), Bool.false_and, Bool.and_false]
theorem refRight_eq (l : List Int) (hl : l.length ≤ maxLen) (k : Nat) (hk : l.length < k) : psalteryref14_Right.f k l = some (okl 6 l) := by
  unfold psalteryref14_Right.f
  have := refRight_loop l [] ((l.length : Int) == 6) k (by simpa using hl) hk
  simp only [List.nil_append, List.length_nil] at this
  rw [show ((0 : Nat) : Int) = 0 from rfl] at this
  rw [this]
  have e : ((l.length : Int) == 6) = (l.length == 6) := by rw [Bool.eq_iff_iff]; simp only [beq_iff_eq]; omega
  rw [e, Bool.and_comm]; rfl
theorem refRight11_loop : ∀ (s p : List Int) (ok : Bool) (k : Nat), p.length + s.length ≤ maxLen → s.length < k →
    psalteryref11_Right.l0 k (p ++ s) ok (p.length : Int) = some (ok && inr 0 44 s)
  | [], p, ok, k, hn, hk => by
    obtain ⟨k, rfl⟩ : ∃ j, k = j + 1 := ⟨k - 1, by omega⟩
    simp only [psalteryref11_Right.l0, List.append_nil]
    rw [if_neg (by omega)]; simp [inr]
  | v :: s, p, ok, k, hn, hk => by
    have hM : (maxLen : Int) = 9223372036854775807 := rfl
    obtain ⟨k, rfl⟩ : ∃ j, k = j + 1 := ⟨k - 1, by omega⟩
    simp only [List.length_cons] at hn hk
    have hlen : ((p ++ v :: s).length : Int) = p.length + s.length + 1 := by simp only [List.length_append, List.length_cons]; omega
    have ih := fun ok => refRight11_loop s (p ++ [v]) ok k (by simp only [List.length_append, List.length_cons, List.length_nil]; omega) (by omega)
    simp only [List.append_assoc, List.singleton_append] at ih
    rw [show (((p ++ [v]).length : Nat) : Int) = (p.length : Int) + 1 by simp only [List.length_append, List.length_cons, List.length_nil]; omega] at ih
    simp only [psalteryref11_Right.l0]
    rw [if_pos (by omega), if_pos (by omega : (0 : Int) ≤ (p.length : Int)), rd_mid, w64 (by omega) (by omega), ih, ih]
    cases ok with
    | false => simp
    | true =>
      by_cases c1 : v ≥ 0
      · rw [if_pos rfl, if_pos c1]; by_cases c2 : v ≤ 44
        · simp [inr, c1, c2]
        · simp [inr, c2]
      · rw [if_pos rfl, if_neg c1]; simp only [inr, decide_eq_false (show ¬ (0 ≤ v ∧ v ≤ 44) by omega), Bool.false_and, Bool.and_false]
theorem refRight11_eq (l : List Int) (hl : l.length ≤ maxLen) (k : Nat) (hk : l.length < k) : psalteryref11_Right.f k l = some (okl 5 l) := by
  unfold psalteryref11_Right.f
  have := refRight11_loop l [] ((l.length : Int) == 5) k (by simpa using hl) hk
  simp only [List.nil_append, List.length_nil] at this
  rw [show ((0 : Nat) : Int) = 0 from rfl] at this
  rw [this]
  have e : ((l.length : Int) == 5) = (l.length == 5) := by rw [Bool.eq_iff_iff]; simp only [beq_iff_eq]; omega
  rw [e, Bool.and_comm]; rfl
theorem knows14 (k : Nat) (hk : 200 ≤ k) : psalterylaw14_knows.f k = some true := at_rounds (g := fun k => psalterylaw14_knows.f k) (fun k => psalterylaw14_knows.mono k) hk psalterylaw14_knows.sure
/-- a post for a gain and a quality -/
def fitv (g q : Int) : Int := if q = 0 then 0 else if g - 13 + q < 0 then 0 else if g - 13 + q > 44 then 44 else g - 13 + q
theorem fitv_in (g q : Int) : 0 ≤ fitv g q ∧ fitv g q ≤ 44 := by
  unfold fitv; repeat' split
  all_goals omega
theorem rd_rep (n j : Nat) : rd (List.replicate n 0) (j : Int) = 0 := by
  simp only [rd, List.getD_eq_getElem?_getD, Int.toNat_natCast, List.getElem?_replicate]; split <;> rfl
theorem fit_loop (l : List Int) (q : Int) (hl : okl 5 l = true) (hq : 0 ≤ q ∧ q ≤ 12) (d : Nat) : ∀ (i k : Nat) (out : List Int), i + d = 6 → d < k → out.length = 6 → (∀ j : Nat, i ≤ j → j < 6 → rd out j = 0) →
    ∃ out' : List Int, floor_Fit.l0 k l q out (i : Int) = some (out', 0) ∧ out'.length = 6 ∧ ∀ j : Nat, j < 6 → rd out' j = if j < i then rd out j else fitv (rd l (min (j : Int) 4)) q := by
  simp only [okl, Bool.and_eq_true, beq_iff_eq] at hl
  induction d with
  | zero =>
    intro i k out hi hk ho hz
    obtain ⟨k, rfl⟩ : ∃ j, k = j + 1 := ⟨k - 1, by omega⟩
    refine ⟨out, ?_, ho, fun j hj => by rw [if_pos (by omega)]⟩
    simp only [floor_Fit.l0]; rw [if_neg (by omega)]
  | succ d ih =>
    intro i k out hi hk ho hz
    obtain ⟨k, rfl⟩ : ∃ j, k = j + 1 := ⟨k - 1, by omega⟩
    simp only [floor_Fit.l0]
    rw [if_pos (by omega), w64 (x := (i : Int) + 1) (by omega) (by omega), show (i : Int) + 1 = ((i + 1 : Nat) : Int) by omega]
    by_cases c : q > 0
    · have em : mn (i : Int) 4 = min (i : Int) 4 := by unfold mn; split <;> omega
      have hb := rd_in' hl.1 (min (i : Int) 4) (by omega) (by omega)
      rw [if_pos c, em, if_pos (by omega), if_pos (by omega), if_pos (by omega), if_pos (by omega), w64 (x := rd l (min (i : Int) 4) - 13) (by omega) (by omega), w64 (x := rd l (min (i : Int) 4) - 13 + q) (by omega) (by omega)]
      have ev : mx 0 (mn (rd l (min (i : Int) 4) - 13 + q) 44) = fitv (rd l (min (i : Int) 4)) q := by
        unfold mx mn fitv
        repeat' split
        all_goals omega
      rw [ev]
      have hs := rd_set out (i : Int) (by omega) (by omega) (fitv (rd l (min (i : Int) 4)) q)
      obtain ⟨out', h1, h2, h3⟩ := ih (i + 1) k (out.set (i : Int).toNat (fitv (rd l (min (i : Int) 4)) q)) (by omega) (by omega) (by rw [List.length_set]; exact ho) (fun j hj hj' => by rw [hs, if_neg (by omega)]; exact hz j (by omega) hj')
      refine ⟨out', h1, h2, fun j hj => ?_⟩
      rw [h3 j hj, hs]
      by_cases e : j < i
      · rw [if_pos (by omega), if_neg (by omega), if_pos e]
      · rw [if_neg e]
        by_cases e' : j = i
        · subst e'; rw [if_pos (by omega), if_pos rfl]
        · rw [if_neg (by omega)]
    · rw [if_neg c]
      obtain ⟨out', h1, h2, h3⟩ := ih (i + 1) k out (by omega) (by omega) ho (fun j hj hj' => hz j (by omega) hj')
      refine ⟨out', h1, h2, fun j hj => ?_⟩
      rw [h3 j hj]
      by_cases e : j < i
      · rw [if_pos (by omega), if_pos e]
      · rw [if_neg e]
        by_cases e' : j = i
        · rw [if_pos (by omega), hz j (by omega) hj]; unfold fitv; rw [if_pos (by omega)]
        · rw [if_neg (by omega)]
theorem fit_eq (l : List Int) (q : Int) (hl : l.length ≤ maxLen) (k : Nat) (hk : l.length + 10 < k) :
    (okl 5 l = true ∧ 0 ≤ q ∧ q ≤ 12 ∧ ∃ out : List Int, floor_Fit.f k l q = some (out, 0) ∧ out.length = 6 ∧ ∀ j : Nat, j < 6 → rd out j = fitv (rd l (min (j : Int) 4)) q) ∨
    (¬ (okl 5 l = true ∧ 0 ≤ q ∧ q ≤ 12) ∧ floor_Fit.f k l q = some ([], 1)) := by
  obtain ⟨k, rfl⟩ : ∃ j, k = j + 1 := ⟨k - 1, by omega⟩
  have hg := gains_eq l 5 hl (k + 1) (by omega)
  rw [show ((5 : Nat) : Int) = 5 from rfl] at hg
  unfold floor_Fit.f
  rw [hg]
  simp only [Option.bind_some, floor_Fit.j0, if_true]
  by_cases h : okl 5 l = true
  · rw [if_pos h]
    by_cases h1 : q < 0
    · rw [if_pos h1]; exact .inr ⟨fun x => by omega, rfl⟩
    rw [if_neg h1]
    by_cases h2 : q > 12
    · rw [if_pos (decide_eq_true h2)]; exact .inr ⟨fun x => by omega, rfl⟩
    · rw [decide_eq_false h2, if_neg (by decide), if_pos (by decide)]
      obtain ⟨out, e1, e2, e3⟩ := fit_loop l q h ⟨by omega, by omega⟩ 6 0 k (List.replicate 6 0) rfl (by omega) (by simp) (fun j _ hj => rd_rep 6 j)
      exact .inl ⟨h, by omega, by omega, out, e1, e2, fun j hj => by rw [e3 j hj, if_neg (by omega)]⟩
  · rw [if_neg h]; exact .inr ⟨fun x => h x.1, rfl⟩
theorem refFit_eq (l : List Int) (q : Int) (hl : okl 5 l = true) (hq : 0 ≤ q ∧ q ≤ 12) (p : Nat) (hp : p < 6) (k : Nat) (hk : 0 < k) : psalteryref14_Fit.f k l q (p : Int) = some (fitv (rd l (min (p : Int) 4)) q) := by
  obtain ⟨k, rfl⟩ : ∃ j, k = j + 1 := ⟨k - 1, by omega⟩
  simp only [okl, Bool.and_eq_true, beq_iff_eq] at hl
  have step : ∀ g : Int, 0 ≤ g → g ≤ 44 → q ≠ 0 → psalteryref14_Fit.j0 (k + 1) q g = some (fitv g q) := by
    intro g h0 h1 hz
    simp only [psalteryref14_Fit.j0]
    rw [w64 (x := g - 13) (by omega) (by omega), w64 (x := g - 13 + q) (by omega) (by omega)]
    unfold fitv; rw [if_neg hz]
    repeat' split
    all_goals rfl
  unfold psalteryref14_Fit.f
  by_cases hz : q = 0
  · rw [if_pos hz]; unfold fitv; rw [if_pos hz]
  have hb := rd_in' hl.1 (min (p : Int) 4) (by omega) (by omega)
  rw [if_neg hz, if_pos (by omega)]
  by_cases c : (p : Int) < 4
  · rw [if_pos c, if_pos (by omega), if_pos (by omega), show min (p : Int) 4 = p by omega] at *
    exact step _ hb.1 hb.2 hz
  · rw [if_neg c, show min (p : Int) 4 = 4 by omega] at *
    exact step _ hb.1 hb.2 hz
end Go.Proofs.Ytoghpjggcfnoeaa.LF
