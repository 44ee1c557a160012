/- The law CoupleSizes: the first one of a coupled pair is the one no less in size, the second one not farther from 0 than both sizes together; proved for every input. -/
import Derived.Test.YtfipeildlleoeaaPx46
import Derived.Test.YtfipeildlleoeaaLCouple
namespace Go.Proofs.Ytfipeildlleoeaa.Pure
set_option linter.unusedVariables false
set_option linter.unusedSimpArgs false
open Go.RowKit Go.Proofs.YtfipeildlleoeaaW.PrintWords Go.Proofs.YtfipeildlleoeaaW.PrintLast Go.Proofs.YtfipeildlleoeaaW.PrintMore Go.Proofs.Ytfipeildlleoeaa.P Go.Proofs.Ytfipeildlleoeaa.LB Go.Proofs.Ytfipeildlleoeaa.LC
theorem leaf {q q' p1 p2 p3 p4 p5 p6 : Prop} [Decidable q] [Decidable q'] [Decidable p1] [Decidable p2] [Decidable p3] [Decidable p4] [Decidable p5] [Decidable p6] (h0 : q ∨ q') (h1 : p1) (h2 : p2) (h3 : p3) (h4 : p4) (h5 : p5 → p6) :
    (if q then (if p1 then (if p2 then (if p3 then (if p4 then (if p5 then (if p6 then some true else some false) else some true) else some false) else some false) else some false) else some false) else
      (if q' then (if p1 then (if p2 then (if p3 then (if p4 then (if p5 then (if p6 then some true else some false) else some true) else some false) else some false) else some false) else some false) else some false)) = some true := by
  simp only [h1, h2, h3, h4, if_true]
  by_cases c : p5
  · simp only [h5 c, if_true, ite_self]; by_cases d : q
    · rw [if_pos d]
    · rw [if_neg d, if_pos (h0.resolve_left d)]
  · simp only [c, if_false]; by_cases d : q
    · rw [if_pos d]
    · rw [if_neg d, if_pos (h0.resolve_left d)]
theorem CoupleSizes : psalterylaw15_CoupleSizes.Pure := by
  intro x y hx hy
  obtain ⟨K, hK⟩ : ∃ K : Nat, 1000 ≤ K := ⟨_, Nat.le_refl _⟩
  refine ⟨K + 1, ?_⟩
  unfold psalterylaw15_CoupleSizes.f
  rw [couple_Couple_eq x y (K + 1) (by omega), knows15 (K + 1) (by omega)]
  simp only [Option.bind_some]
  by_cases h : fair 1099511627776 x y
  · rw [if_pos h]
    obtain ⟨h1, h2, h3, h4⟩ := h
    simp only [psalterylaw15_CoupleSizes.j0, if_true, knows15 K (by omega), Option.bind_some, ite_self]
    have hm : ((cp x y).1 = x ∨ (cp x y).1 = y) ∧ -1099511627776 ≤ (cp x y).1 ∧ (cp x y).1 ≤ 1099511627776 ∧ ab x ≤ ab (cp x y).1 ∧ ab y ≤ ab (cp x y).1 ∧ (cp x y).2 ≤ ab x + ab y ∧ -(ab x + ab y) ≤ (cp x y).2 ∧ (x = y → (cp x y).2 = 0) := by
      unfold cp ab
      repeat' split
      all_goals (refine ⟨?_, ?_, ?_, ?_, ?_, ?_, ?_, ?_⟩ <;> dsimp only <;> (try split) <;> omega)
    generalize (cp x y).1 = m at *
    generalize (cp x y).2 = a at *
    unfold ab at hm
    obtain ⟨hm0, hm1, hm2, hm3, hm4, hm5, hm6, hm7⟩ := hm
    have ex : wrap64 (-x) = -x := w64 (by omega) (by omega)
    have ey : wrap64 (-y) = -y := w64 (by omega) (by omega)
    have em : wrap64 (-m) = -m := w64 (by omega) (by omega)
    have e1 : wrap64 (x + y) = x + y := w64 (by omega) (by omega)
    have e2 : wrap64 (-x + y) = -x + y := w64 (by omega) (by omega)
    have e3 : wrap64 (x + -y) = x + -y := w64 (by omega) (by omega)
    have e4 : wrap64 (-x + -y) = -x + -y := w64 (by omega) (by omega)
    have e5 : wrap64 (-x - y) = -x - y := w64 (by omega) (by omega)
    have e6 : wrap64 (-x - -y) = -x - -y := w64 (by omega) (by omega)
    have e7 : wrap64 (- -x) = x := (w64 (by omega) (by omega)).trans (by omega)
    have e8 : wrap64 (x - y) = x - y := w64 (by omega) (by omega)
    have e9 : wrap64 (x - -y) = x - -y := w64 (by omega) (by omega)
    simp only [ex, ey, em, e1, e2, e3, e4, e5, e6, e7, e8, e9]
    by_cases c1 : x < 0 <;> by_cases c2 : y < 0 <;> by_cases c3 : m < 0 <;> simp only [c1, c2, c3, if_true, if_false] at hm3 hm4 hm5 hm6 ⊢
    all_goals (refine leaf hm0 ?_ ?_ ?_ ?_ ?_ <;> omega)
  · rw [if_neg h, if_neg (by decide)]
end Go.Proofs.Ytfipeildlleoeaa.Pure
