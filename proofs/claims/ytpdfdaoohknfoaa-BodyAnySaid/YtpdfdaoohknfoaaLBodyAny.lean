/- What is read of any bytes without an error is right, and takes not more bytes than it was read of: plain bits, no program in sight. -/
import Derived.Test.YtpdfdaoohknfoaaLBodyBack
namespace Go.Proofs.Ytpdfdaoohknfoaa.LK
set_option linter.unusedVariables false
set_option linter.unusedSimpArgs false
open Go.RowKit Go.Proofs.YtpdfdaoohknfoaaW.PrintWords Go.Proofs.YtpdfdaoohknfoaaW.PrintLast Go.Proofs.YtpdfdaoohknfoaaW.PrintMore Go.Proofs.Ytpdfdaoohknfoaa.P Go.Proofs.Ytpdfdaoohknfoaa.LB Go.Proofs.Ytpdfdaoohknfoaa.HT Go.Proofs.Ytpdfdaoohknfoaa.LH Go.Proofs.Ytpdfdaoohknfoaa.BT Go.Proofs.Ytpdfdaoohknfoaa.LV
theorem postsS_any {fl B : List Int} (hl : fl.length = 45) : ∀ (d a : Nat) (acc : List Int), (postsS fl B d a acc).1 = 0 → ∃ p, (postsS fl B d a acc).2.2 = acc ++ p ∧ p.length = d ∧ p.all (postOk fl) = true ∧ (postsS fl B d a acc).2.1 = a + (flat fl p).length
  | 0, a, acc, _ => ⟨[], by simp [postsS], rfl, rfl, by simp [postsS, flat]⟩
  | d + 1, a, acc, h => by
    unfold postsS at h ⊢
    cases hs : sym fl B a with
    | none => rw [hs] at h; exact absurd h (serr_ne fl B a)
    | some t =>
      rw [hs] at h
      simp only at h ⊢
      obtain ⟨p, e1, e2, e3, e4⟩ := postsS_any hl d _ _ h
      have hat := sym_at hs
      refine ⟨(t : Int) :: p, by rw [e1, List.append_assoc]; rfl, by rw [List.length_cons, e2], ?_, ?_⟩
      · rw [List.all_cons, e3, Bool.and_true]
        have h1 := hat.1
        have h2 := hat.2.1
        simp only [postOk, Bool.and_eq_true, decide_eq_true_eq]
        exact ⟨⟨by omega, by omega⟩, fun e => by unfold bk at h2; omega⟩
      · rw [e4, flat, List.length_append, Int.toNat_natCast, blen_eq, Nat.add_assoc]
def rowOk (fl p : List Int) : Prop := p = [] ∨ (p.length = 6 ∧ p.all (postOk fl) = true)
theorem chansS_any {fl B : List Int} (hl : fl.length = 45) : ∀ (d a : Nat) (acc : List (List Int)), a ≤ 8 * B.length → (chansS fl B d a acc).1 = 0 → ∃ Q, (chansS fl B d a acc).2.2 = acc ++ Q ∧ Q.length = d ∧ (∀ p ∈ Q, rowOk fl p) ∧ (chansS fl B d a acc).2.1 = a + (allP fl Q).length ∧ (chansS fl B d a acc).2.1 ≤ 8 * B.length
  | 0, a, acc, ha, _ => ⟨[], by simp [chansS], rfl, (fun p hp => by cases hp), by simp [chansS, allP], ha⟩
  | d + 1, a, acc, ha, h => by
    unfold chansS at h ⊢
    by_cases c1 : 8 * B.length < a + 1
    · rw [if_pos c1] at h; exact absurd h (show ¬ (4 : Int) = 0 by omega)
    rw [if_neg c1] at h ⊢
    by_cases c2 : bitN B a = 1
    · rw [if_pos c2] at h ⊢
      by_cases c3 : (postsS fl B 6 (a + 1) []).1 = 0
      · rw [if_pos c3] at h ⊢
        obtain ⟨p, e1, e2, e3, e4⟩ := postsS_any hl 6 (a + 1) [] c3
        have hin := (postsS_in fl B 6 (a + 1) [] (by omega)).1
        rw [List.nil_append] at e1
        rw [e1] at h ⊢
        rw [e4] at h hin ⊢
        obtain ⟨Q, f1, f2, f3, f4, f5⟩ := chansS_any hl d _ _ hin h
        have ep : postsB fl p = 1 :: flat fl p := by unfold postsB; rw [if_neg (by omega)]
        refine ⟨p :: Q, by rw [f1, List.append_assoc]; rfl, by rw [List.length_cons, f2], ?_, ?_, f5⟩
        · intro x hx
          rcases List.mem_cons.1 hx with rfl | hx
          · exact .inr ⟨e2, e3⟩
          · exact f3 x hx
        · rw [f4, allP, ep, List.length_append, List.length_cons]; omega
      · rw [if_neg c3] at h; exact absurd h c3
    · rw [if_neg c2] at h ⊢
      obtain ⟨Q, f1, f2, f3, f4, f5⟩ := chansS_any hl d _ _ (by omega) h
      have ep : postsB fl [] = [0] := rfl
      refine ⟨[] :: Q, by rw [f1, List.append_assoc]; rfl, by rw [List.length_cons, f2], ?_, ?_, f5⟩
      · intro x hx
        rcases List.mem_cons.1 hx with rfl | hx
        · exact .inl rfl
        · exact f3 x hx
      · rw [f4, allP, ep, List.length_append, List.length_singleton]; omega
theorem resB_le {rs : List Int} (hr : rightH rs = true) (v : Int) : (resB rs v).length ≤ (codeB rs 15).length + 23 := by
  unfold resB
  have h1 := len16 hr (v + 7).toNat
  split
  · omega
  · rw [List.length_append, List.length_cons, vbits_length]; omega
theorem valS_any {rs B : List Int} (hr : rightH rs = true) (hl : rs.length = 16) {a : Nat} (h : (valS rs B a).1 = 0) : resOk (valS rs B a).2.2 = true ∧ a + (resB rs (valS rs B a).2.2).length ≤ (valS rs B a).2.1 := by
  unfold valS at h ⊢
  cases hs : sym rs B a with
  | none => rw [hs] at h; exact absurd h (serr_ne rs B a)
  | some t =>
    rw [hs] at h
    have hat := sym_at hs
    have ht := hat.1
    have hu := hat.2.1
    simp only at h ⊢
    by_cases c : t = 15
    · subst c
      rw [if_pos rfl] at h ⊢
      unfold escS at h ⊢
      rw [blen_eq] at h ⊢
      by_cases c1 : 8 * B.length < a + (codeB rs 15).length + 1
      · rw [if_pos c1] at h; exact absurd h (show ¬ (4 : Int) = 0 by omega)
      rw [if_neg c1] at h ⊢
      by_cases c2 : 8 * B.length < a + (codeB rs 15).length + 1 + 22
      · rw [if_pos c2] at h; exact absurd h (show ¬ (4 : Int) = 0 by omega)
      rw [if_neg c2] at h ⊢
      have hv := vl_range (B := B) (a := a + (codeB rs 15).length + 1) (n := 22) (by omega)
      generalize vl B (a + (codeB rs 15).length + 1) 22 = v at *
      have hv2 : v < 4194304 := hv.2
      by_cases c3 : bitN B (a + (codeB rs 15).length) = 1
      · rw [if_pos c3] at h ⊢
        by_cases c4 : v = 0
        · rw [if_pos c4] at h; exact absurd h (show ¬ (2 : Int) = 0 by omega)
        rw [if_neg c4]
        refine ⟨by simp only [resOk, decide_eq_true_eq]; omega, ?_⟩
        have := resB_le hr (-v)
        simp only; omega
      · rw [if_neg c3]
        refine ⟨by simp only [resOk, decide_eq_true_eq]; omega, ?_⟩
        have := resB_le hr v
        simp only; omega
    · rw [if_neg c]
      simp only
      have hn : near rs ((t : Int) - 7) = true := by
        simp only [near, Bool.and_eq_true, decide_eq_true_eq]
        refine ⟨by omega, ?_⟩
        rw [show (t : Int) - 7 + 7 = (t : Int) by omega]; exact hu
      refine ⟨by simp only [resOk, decide_eq_true_eq]; omega, ?_⟩
      unfold resB
      rw [if_pos hn, show ((t : Int) - 7 + 7).toNat = t by omega, blen_eq]
      exact Nat.le_refl _
theorem resS_any {rs B : List Int} (hr : rightH rs = true) (hl : rs.length = 16) : ∀ (d a : Nat) (acc : List Int), (resS rs B d a acc).1 = 0 → ∃ r, (resS rs B d a acc).2.2 = acc ++ r ∧ r.length = d ∧ r.all resOk = true ∧ a + (resL rs r).length ≤ (resS rs B d a acc).2.1
  | 0, a, acc, _ => ⟨[], by simp [resS], rfl, rfl, by simp [resS, resL]⟩
  | d + 1, a, acc, h => by
    unfold resS at h ⊢
    by_cases c : (valS rs B a).1 = 0
    · rw [if_pos c] at h ⊢
      obtain ⟨v1, v2⟩ := valS_any hr hl c
      obtain ⟨r, e1, e2, e3, e4⟩ := resS_any hr hl d _ _ h
      refine ⟨(valS rs B a).2.2 :: r, by rw [e1, List.append_assoc]; rfl, by rw [List.length_cons, e2], by rw [List.all_cons, v1, e3]; rfl, ?_⟩
      rw [resL, List.length_append]; omega
    · rw [if_neg c] at h; exact absurd h c
theorem allS_any {fl rs B : List Int} (hr : rightH rs = true) (hl : rs.length = 16) : ∀ (P : List (List Int)) (a : Nat) (acc : List (List Int)), a ≤ 8 * B.length → (∀ p ∈ P, rowOk fl p) → (allS rs B P a acc).1 = 0 → ∃ R, (allS rs B P a acc).2.2 = acc ++ R ∧ R.length = P.length ∧ chansOk fl P R = true ∧ a + (allR rs R).length ≤ (allS rs B P a acc).2.1 ∧ (allS rs B P a acc).2.1 ≤ 8 * B.length
  | [], a, acc, ha, _, _ => ⟨[], by simp [allS], rfl, rfl, by simp [allS, allR], ha⟩
  | p :: P, a, acc, ha, hp, h => by
    unfold allS at h ⊢
    have hq : ∀ x ∈ P, rowOk fl x := fun x hx => hp x (List.mem_cons_of_mem _ hx)
    by_cases c1 : p.length = 0
    · rw [if_pos c1] at h ⊢
      have ep := List.length_eq_zero_iff.1 c1
      obtain ⟨R, e1, e2, e3, e4, e5⟩ := allS_any hr hl P a _ ha hq h
      refine ⟨[] :: R, by rw [e1, List.append_assoc]; rfl, by rw [List.length_cons, List.length_cons, e2], ?_, by rw [allR]; exact e4, e5⟩
      rw [chansOk, e3, ep]; rfl
    · rw [if_neg c1] at h ⊢
      by_cases c2 : (resS rs B 16 a []).1 = 0
      · rw [if_pos c2] at h ⊢
        obtain ⟨r, f1, f2, f3, f4⟩ := resS_any hr hl 16 a [] c2
        have hin := (resS_in rs B 16 a [] ha).1
        rw [List.nil_append] at f1
        rw [f1] at h ⊢
        obtain ⟨R, e1, e2, e3, e4, e5⟩ := allS_any hr hl P _ _ hin hq h
        refine ⟨r :: R, by rw [e1, List.append_assoc]; rfl, by rw [List.length_cons, List.length_cons, e2], ?_, by rw [allR, List.length_append]; omega, e5⟩
        rw [chansOk, e3, Bool.and_true]
        rcases hp p (List.mem_cons_self ..) with e | ⟨e, g⟩
        · rw [e] at c1; exact absurd rfl c1
        · unfold chanOk
          rw [decide_eq_true e, g, decide_eq_true f2, f3]
          simp
      · rw [if_neg c2] at h; exact absurd h c2
theorem endS_cases (B : List Int) (a : Nat) (P R : List (List Int)) : (∃ e, e ≠ 0 ∧ endS B a P R = no e) ∨ endS B a P R = (P, R, 0) := by
  unfold endS
  by_cases c1 : 8 ≤ 8 * B.length - a
  · rw [if_pos c1]; exact .inl ⟨2, by omega, rfl⟩
  rw [if_neg c1]
  by_cases c2 : vl B a (8 * B.length - a) = 0
  · rw [if_pos c2]; exact .inr rfl
  · rw [if_neg c2]; exact .inl ⟨2, by omega, rfl⟩
theorem read_cases (c q : Int) (fl rs B : List Int) : (∃ e, e ≠ 0 ∧ readBd c q fl rs B = no e) ∨ ∃ P R, readBd c q fl rs B = (P, R, 0) ∧ rightBd c q fl rs P R = true ∧ (pack (bodyB fl rs P R)).length ≤ B.length := by
  unfold readBd
  by_cases h : rightHd c q fl rs = true
  · rw [if_pos h]
    obtain ⟨a1, a2, a3, a4, a5, a6, a7, a8, a9⟩ := right_parts h
    unfold tailP
    by_cases c1 : (chansS fl B c.toNat 0 []).1 = 0
    · rw [if_pos c1]
      obtain ⟨P, e1, e2, e3, e4, e5⟩ := chansS_any a5 c.toNat 0 [] (by omega) c1
      rw [List.nil_append] at e1
      rw [e1]
      unfold tailR
      by_cases c2 : (allS rs B P (chansS fl B c.toNat 0 []).2.1 []).1 = 0
      · rw [if_pos c2]
        obtain ⟨R, f1, f2, f3, f4, f5⟩ := allS_any (fl := fl) a8 a6 P _ [] e5 e3 c2
        rw [List.nil_append] at f1
        rw [f1]
        rcases endS_cases B (allS rs B P (chansS fl B c.toNat 0 []).2.1 []).2.1 P R with he | he
        · exact .inl he
        · refine .inr ⟨P, R, he, ?_, ?_⟩
          · unfold rightBd
            rw [h, f3, decide_eq_true (p := (P.length : Int) = c ∧ (R.length : Int) = c) ⟨by omega, by omega⟩]; rfl
          · rw [pack_length, bodyB, List.length_append]; omega
      · rw [if_neg c2]; exact .inl ⟨_, c2, rfl⟩
    · rw [if_neg c1]; exact .inl ⟨_, c1, rfl⟩
  · rw [if_neg h]; exact .inl ⟨1, by omega, rfl⟩
end Go.Proofs.Ytpdfdaoohknfoaa.LK
