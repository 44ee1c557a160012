/- The law BandRises: of two lists of which the one is nowhere greater in size the gain is no greater; proved for every input. -/
import Derived.Test.YtoghpjggcfnoeaaPx54
import Derived.Test.YtoghpjggcfnoeaaLBand
namespace Go.Proofs.Ytoghpjggcfnoeaa.Pure
set_option linter.unusedVariables false
set_option linter.unusedSimpArgs false
open Go.RowKit Go.Proofs.YtoghpjggcfnoeaaW.PrintWords Go.Proofs.YtoghpjggcfnoeaaW.PrintLast Go.Proofs.YtoghpjggcfnoeaaW.PrintMore Go.Proofs.Ytoghpjggcfnoeaa.P Go.Proofs.Ytoghpjggcfnoeaa.LB Go.Proofs.Ytoghpjggcfnoeaa.LF Go.Proofs.Ytoghpjggcfnoeaa.LQ Go.Proofs.Ytoghpjggcfnoeaa.NT
theorem sq_snoc : ∀ (l : List Int) (z : Int), sq (l ++ [z]) = sq l + z * z
  | [], z => by simp [sq]
  | v :: l, z => by simp only [List.cons_append, sq, sq_snoc l z, Int.add_assoc]
theorem inc_snoc : ∀ (l : List Int) (z : Int), inc l = true → -1048576 ≤ z ∧ z ≤ 1048576 → inc (l ++ [z]) = true
  | [], z, _, h => by simp only [List.nil_append, inc, decide_eq_true h]; rfl
  | v :: l, z, h0, h => by
    simp only [inc, Bool.and_eq_true] at h0
    simp only [List.cons_append, inc, Bool.and_eq_true]
    exact ⟨h0.1, inc_snoc l z h0.2 h⟩
theorem zz_le {v z : Int} (h : (z ≤ v ∧ -v ≤ z) ∨ (z ≤ -v ∧ v ≤ z)) : z * z ≤ v * v := by
  have key : ∀ a b : Int, -b ≤ a → a ≤ b → a * a ≤ b * b := by
    intro a b h1 h2
    rcases Int.le_total 0 a with c | c
    · exact sq_mono c h2
    · have := sq_mono (x := -a) (y := b) (by omega) (by omega); rwa [Int.neg_mul_neg] at this
  rcases h with h | h
  · exact key z v h.2 h.1
  · have := key z (-v) (by omega) h.1; rwa [Int.neg_mul_neg] at this
theorem Rises_loop (x1 : List Int) (g : Int) : ∀ (s p y : List Int) (k : Nat), inc s = true → inc y = true → y.length = p.length → sq y ≤ sq p → 1 ≤ p.length + s.length → p.length + s.length ≤ 8 → gn (p ++ s) = g → s.length + 500 < k →
    psalterylaw10_BandRises.l0 k (p ++ s) x1 g y (p.length : Int) = some true
  | [], p, y, k, hc, hy, hl, hs, h1, h8, hg, hk => by
    obtain ⟨k, rfl⟩ : ∃ j, k = j + 1 := ⟨k - 1, by omega⟩
    have hM : (maxLen : Int) = 9223372036854775807 := rfl
    simp only [List.append_nil] at hg
    simp only [List.length_nil] at h1 h8
    simp only [psalterylaw10_BandRises.l0, List.append_nil]
    have hf : fairL y = true := by
      simp only [fairL, Bool.and_eq_true, decide_eq_true_eq]; exact ⟨hy, by omega⟩
    rw [if_neg (by omega), knows10 k (by omega), gain_eq y (by omega) k (by omega), if_pos ⟨hf, by omega⟩]
    simp only [Option.bind_some, if_true]
    rw [if_pos]
    rw [← hg]
    unfold gn
    have hb := sq_bound hy
    have := lg_mono (sq y).toNat (sq p).toNat (by omega)
    omega
  | v :: s, p, y, k, hc, hy, hl, hs, h1, h8, hg, hk => by
    obtain ⟨k, rfl⟩ : ∃ j, k = j + 1 := ⟨k - 1, by omega⟩
    simp only [List.length_cons] at h1 h8 hk
    simp only [inc, Bool.and_eq_true, decide_eq_true_eq] at hc
    have hlen : ((p ++ v :: s).length : Int) = p.length + s.length + 1 := by simp only [List.length_append, List.length_cons]; omega
    have nx : ∀ z : Int, ((z ≤ v ∧ -v ≤ z) ∨ (z ≤ -v ∧ v ≤ z)) → psalterylaw10_BandRises.l0 k (p ++ v :: s) x1 g (y ++ [z]) ((p.length : Int) + 1) = some true := by
      intro z hz
      have ih := Rises_loop x1 g s (p ++ [v]) (y ++ [z]) k hc.2 (inc_snoc y z hy (by omega)) (by simp only [List.length_append, List.length_cons, List.length_nil]; omega) (by have := zz_le hz; rw [sq_snoc, sq_snoc]; omega) (by simp only [List.length_append, List.length_cons, List.length_nil]; omega) (by simp only [List.length_append, List.length_cons, List.length_nil]; omega) (by simpa only [List.append_assoc, List.singleton_append] using hg) (by omega)
      simp only [List.append_assoc, List.singleton_append] at ih
      rw [show (((p ++ [v]).length : Nat) : Int) = (p.length : Int) + 1 by simp only [List.length_append, List.length_cons, List.length_nil]; omega] at ih
      exact ih
    simp only [psalterylaw10_BandRises.l0]
    have hcond : (y.length < 17592186044416) = True := eq_true (by omega)
    rw [if_pos (by omega), if_pos (by omega), rd_mid, w64 (x := -v) (by omega) (by omega), w64 (x := - -v) (by omega) (by omega), w64 (x := (p.length : Int) + 1) (by omega) (by omega)]
    simp only [hcond, if_true]
    repeat' split
    all_goals exact nx _ (by omega)
theorem BandRises : psalterylaw10_BandRises.Pure := by
  intro x less hl hm hw hl1 hm1 hw1
  obtain ⟨K, hK⟩ : ∃ K : Nat, x.length + 10000 ≤ K := ⟨_, Nat.le_refl _⟩
  refine ⟨K + 1, ?_⟩
  have easy : psalterylaw10_BandRises.j0 (K + 1) x less true = some true := by
    simp only [psalterylaw10_BandRises.j0, if_true]; rw [knows10 K (by omega)]; rfl
  unfold psalterylaw10_BandRises.f
  rw [great_eq, great_eq]
  simp only [Option.bind_some]
  by_cases c : (x.length : Int) > 100
  · rw [if_pos (by simpa using c), easy]
  rw [if_neg (by simpa using c)]
  by_cases c1 : (less.length : Int) > 100
  · rw [decide_eq_true c1, easy]
  rw [decide_eq_false c1]
  simp only [psalterylaw10_BandRises.j0, Bool.false_eq_true, if_false]
  rw [gain_eq x hl K (by omega)]
  simp only [Option.bind_some]
  by_cases c2 : fairL x = true ∧ x.length ≤ 8
  · rw [if_pos c2]
    simp only [if_true]
    have c' := c2.1
    simp only [fairL, Bool.and_eq_true, decide_eq_true_eq] at c'
    have := Rises_loop less (gn x) x [] [] K c'.1 rfl rfl (Int.le_refl _) (by simp only [List.length_nil]; omega) (by simp only [List.length_nil]; omega) rfl (by omega)
    simpa using this
  · rw [if_neg c2, knows10 K (by omega)]; rfl
end Go.Proofs.Ytoghpjggcfnoeaa.Pure
