/- The law CoupleLists: lists are coupled pair by pair, or the error is told; proved for every input. -/
import Derived.Test.YtfipeildlleoeaaPx44
import Derived.Test.YtfipeildlleoeaaLCouple
namespace Go.Proofs.Ytfipeildlleoeaa.Pure
set_option linter.unusedVariables false
set_option linter.unusedSimpArgs false
open Go.RowKit Go.Proofs.YtfipeildlleoeaaW.PrintWords Go.Proofs.YtfipeildlleoeaaW.PrintLast Go.Proofs.YtfipeildlleoeaaW.PrintMore Go.Proofs.Ytfipeildlleoeaa.P Go.Proofs.Ytfipeildlleoeaa.LB Go.Proofs.Ytfipeildlleoeaa.LC
theorem CoupleLists_loop (m a : List Int) (e : Int) (hm : m.length ≤ 1000) (ha : a.length ≤ 1000) : ∀ (l r pl pr xs ys : List Int) (k : Nat), pl.length = pr.length → l.length = r.length → pl.length + l.length ≤ 1000 → xs.length ≤ pl.length → ys.length ≤ pl.length → 2 * l.length + 2000 < k →
    (allf 1099511627776 l r = true → m = xs ++ (prs cp l r).1 ∧ a = ys ++ (prs cp l r).2 ∧ e = 0) → (allf 1099511627776 l r = false → m = [] ∧ a = [] ∧ e = 1) →
    psalterylaw15_CoupleLists.l0 k (pl ++ l) (pr ++ r) m a e true xs ys (pl.length : Int) = some true
  | [], [], pl, pr, xs, ys, k, hp, _, hn, hx, hy, hk, ht, hf => by
    obtain ⟨k, rfl⟩ : ∃ j, k = j + 2 := ⟨k - 2, by omega⟩
    obtain ⟨h1, h2, h3⟩ := ht rfl
    simp only [prs, List.append_nil] at h1 h2
    subst h1 h2 h3
    simp only [psalterylaw15_CoupleLists.l0, psalterylaw15_CoupleLists.j2, List.append_nil, if_true]
    rw [decide_eq_false (by omega), if_neg (by decide), same_self m (by simp only [maxLen]; omega) k (by omega), same_self a (by simp only [maxLen]; omega) k (by omega), knows15 k (by omega)]
    rfl
  | x :: l, y :: r, pl, pr, xs, ys, k, hp, hl, hn, hx, hy, hk, ht, hf => by
    obtain ⟨k, rfl⟩ : ∃ j, k = j + 2 := ⟨k - 2, by omega⟩
    simp only [List.length_cons] at hl hn hk
    have hlen : ((pl ++ x :: l).length : Int) = pl.length + l.length + 1 := by simp only [List.length_append, List.length_cons]; omega
    have hlen' : ((pr ++ y :: r).length : Int) = pr.length + r.length + 1 := by simp only [List.length_append, List.length_cons]; omega
    simp only [psalterylaw15_CoupleLists.l0, psalterylaw15_CoupleLists.j2, if_true]
    rw [decide_eq_true (by omega), if_pos rfl, if_pos (by omega), if_pos (by omega), if_pos (by omega), rd_mid, rd_mid' pr pl r y hp.symm, refFair_eq (by omega) (by omega), w64 (by omega) (by omega)]
    simp only [Option.bind_some]
    by_cases h : fair 1099511627776 x y
    · have ea : allf 1099511627776 (x :: l) (y :: r) = allf 1099511627776 l r := by simp only [allf, decide_eq_true h, Bool.true_and]
      rw [ea] at ht hf
      simp only [prs] at ht
      rw [decide_eq_true h, if_pos rfl, refCp_eq h]
      simp only [Option.bind_some]
      rw [if_pos (by omega), if_pos (by omega)]
      have ih := CoupleLists_loop m a e hm ha l r (pl ++ [x]) (pr ++ [y]) (xs ++ [(cp x y).1]) (ys ++ [(cp x y).2]) k (by simp [hp]) (by omega) (by simp only [List.length_append, List.length_cons, List.length_nil]; omega)
        (by simp only [List.length_append, List.length_cons, List.length_nil]; omega) (by simp only [List.length_append, List.length_cons, List.length_nil]; omega) (by omega) (by simpa using ht) hf
      simp only [List.append_assoc, List.singleton_append, List.length_append, List.length_cons, List.length_nil] at ih
      rw [show (((pl.length + (0 + 1) : Nat) : Int)) = (pl.length : Int) + 1 by omega] at ih
      exact ih
    · have ea : allf 1099511627776 (x :: l) (y :: r) = false := by simp only [allf, decide_eq_false h, Bool.false_and]
      obtain ⟨h1, h2, h3⟩ := hf ea
      subst h1 h2 h3
      rw [decide_eq_false h, if_neg (by decide)]
      obtain ⟨k, rfl⟩ : ∃ j, k = j + 2 := ⟨k - 2, by omega⟩
      simp only [psalterylaw15_CoupleLists.l0, psalterylaw15_CoupleLists.j2, Bool.false_eq_true, if_false, List.length_nil]
      rw [knows15 k (by omega)]
      rfl
theorem CoupleLists : psalterylaw15_CoupleLists.Pure := by
  intro l r hl hl' hw hr hr' hw'
  obtain ⟨K, hK⟩ : ∃ K : Nat, 10000 ≤ K := ⟨_, Nat.le_refl _⟩
  refine ⟨K + 2, ?_⟩
  unfold psalterylaw15_CoupleLists.f
  by_cases c : (l.length : Int) > 100
  · rw [if_pos c]; simp only [psalterylaw15_CoupleLists.j0, if_true]; rw [knows15 (K + 1) (by omega)]; rfl
  rw [if_neg c]
  by_cases c' : (r.length : Int) > 100
  · rw [decide_eq_true c']; simp only [psalterylaw15_CoupleLists.j0, if_true]; rw [knows15 (K + 1) (by omega)]; rfl
  rw [decide_eq_false c']
  simp only [psalterylaw15_CoupleLists.j0, Bool.false_eq_true, if_false]
  rw [couple_CoupleAll_eq l r (K + 1) (by omega) (by omega)]
  simp only [Option.bind_some]
  by_cases h : l.length = r.length
  · have hb : ((l.length : Int) == (r.length : Int)) = true := by simp [h]
    have hp := prs_len cp l r h
    rw [hb, if_pos h]
    have main := fun m a e hm ha h1 h2 => CoupleLists_loop m a e hm ha l r [] [] [] [] (K + 1) rfl h (by simp only [List.length_nil]; omega) (Nat.le_refl _) (Nat.le_refl _) (by omega) h1 h2
    simp only [List.nil_append, List.length_nil] at main
    rw [show ((0 : Nat) : Int) = 0 from rfl] at main
    cases hf : allf 1099511627776 l r with
    | true => rw [if_pos rfl]; exact main _ _ _ (by dsimp only; omega) (by dsimp only; omega) (fun _ => ⟨rfl, rfl, rfl⟩) (fun h => by rw [hf] at h; cases h)
    | false => rw [if_neg (by decide)]; exact main _ _ _ (by simp) (by simp) (fun h => by rw [hf] at h; cases h) (fun _ => ⟨rfl, rfl, rfl⟩)
  · have hb : ((l.length : Int) == (r.length : Int)) = false := by simp only [beq_eq_false_iff_ne, ne_eq]; omega
    rw [hb, if_neg h]
    obtain ⟨K, rfl⟩ : ∃ j, K = j + 1 := ⟨K - 1, by omega⟩
    simp only [psalterylaw15_CoupleLists.l0, psalterylaw15_CoupleLists.j2, Bool.false_eq_true, if_false, List.length_nil]
    rw [knows15 K (by omega)]
    rfl
end Go.Proofs.Ytfipeildlleoeaa.Pure
