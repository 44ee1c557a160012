/- The law FloorFits: the posts for gains are those that the document says, or the error is told; proved for every input. -/
import Derived.Test.YtoghpjggcfnoeaaPx24
import Derived.Test.YtoghpjggcfnoeaaLFloor
namespace Go.Proofs.Ytoghpjggcfnoeaa.Pure
set_option linter.unusedVariables false
set_option linter.unusedSimpArgs false
open Go.RowKit Go.Proofs.YtoghpjggcfnoeaaW.PrintWords Go.Proofs.YtoghpjggcfnoeaaW.PrintLast Go.Proofs.YtoghpjggcfnoeaaW.PrintMore Go.Proofs.Ytoghpjggcfnoeaa.P Go.Proofs.Ytoghpjggcfnoeaa.LB Go.Proofs.Ytoghpjggcfnoeaa.LF
theorem FloorFits_loop (l out : List Int) (q : Int) (hl : okl 5 l = true) (hq : 0 ≤ q ∧ q ≤ 12) (ho : out.length = 6) (h : ∀ j : Nat, j < 6 → rd out j = fitv (rd l (min (j : Int) 4)) q) (d : Nat) : ∀ (i k : Nat), i + d = 6 → d + 300 < k →
    psalterylaw14_FloorFits.l0 k l q out (i : Int) = some true := by
  have hM : (maxLen : Int) = 9223372036854775807 := rfl
  induction d with
  | zero =>
    intro i k hi hk
    obtain ⟨k, rfl⟩ : ∃ j, k = j + 1 := ⟨k - 1, by omega⟩
    have hr : okl 6 out = true := by
      simp only [okl, Bool.and_eq_true, beq_iff_eq]
      exact ⟨inr_rd fun j hj => by rw [h j (by omega)]; exact fitv_in _ _, ho⟩
    simp only [psalterylaw14_FloorFits.l0]
    rw [if_neg (by omega), right_eq out (by omega) k (by omega), hr, knows14 k (by omega)]; rfl
  | succ d ih =>
    intro i k hi hk
    obtain ⟨k, rfl⟩ : ∃ j, k = j + 1 := ⟨k - 1, by omega⟩
    have next := ih (i + 1) k (by omega) (by omega)
    rw [show (((i + 1 : Nat) : Int)) = (i : Int) + 1 by omega] at next
    simp only [psalterylaw14_FloorFits.l0]
    rw [w64 (by omega) (by omega), next, if_pos (by omega), if_pos (by omega), if_pos (by omega), refFit_eq l q hl hq i (by omega) k (by omega)]
    simp only [Option.bind_some]
    rw [if_pos (h i (by omega))]
theorem FloorFits : psalterylaw14_FloorFits.Pure := by
  intro l q
  intros
  obtain ⟨K, hK⟩ : ∃ K : Nat, l.length + 10000 ≤ K := ⟨_, Nat.le_refl _⟩
  refine ⟨K + 2, ?_⟩
  unfold psalterylaw14_FloorFits.f
  rw [knows14 (K + 2) (by omega)]
  simp only [Option.bind_some]
  by_cases c : (l.length : Int) > 100
  · rw [if_pos c]
  rw [if_neg c, refRight11_eq l (by assumption) (K + 2) (by omega)]
  simp only [Option.bind_some]
  have bad : psalterylaw14_FloorFits.j0 (K + 2) l q [] 1 true = some true := by
    simp only [psalterylaw14_FloorFits.j0, if_true, List.length_nil]
    rw [knows14 (K + 1) (by omega)]; rfl
  rcases fit_eq l q (by assumption) (K + 2) (by omega) with ⟨h1, h2, h3, out, e1, e2, e3⟩ | ⟨h1, e1⟩
  · rw [e1]
    simp only [Option.bind_some]
    rw [if_pos h1, if_neg (by omega), decide_eq_false (by omega)]
    simp only [psalterylaw14_FloorFits.j0, psalterylaw14_FloorFits.j1, Bool.false_eq_true, if_false, if_true]
    rw [e2, if_neg (by decide)]
    exact FloorFits_loop l out q h1 ⟨h2, h3⟩ e2 e3 6 0 K rfl (by omega)
  · rw [e1]
    simp only [Option.bind_some]
    by_cases h : okl 5 l = true
    · rw [if_pos h]
      by_cases h2 : q < 0
      · rw [if_pos h2]; exact bad
      · by_cases h3 : q > 12
        · rw [if_neg h2, decide_eq_true h3]; exact bad
        · exact absurd ⟨h, by omega, by omega⟩ h1
    · rw [if_neg h]; exact bad
end Go.Proofs.Ytoghpjggcfnoeaa.Pure
