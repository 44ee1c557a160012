/- What was written of a right body is read as it was: plain bits, no program in sight. -/
import Derived.Test.YtpdfdaoohknfoaaT1
namespace Go.Proofs.Ytpdfdaoohknfoaa.LK
set_option linter.unusedVariables false
set_option linter.unusedSimpArgs false
open Go.RowKit Go.Proofs.YtpdfdaoohknfoaaW.PrintWords Go.Proofs.YtpdfdaoohknfoaaW.PrintLast Go.Proofs.YtpdfdaoohknfoaaW.PrintMore Go.Proofs.Ytpdfdaoohknfoaa.P Go.Proofs.Ytpdfdaoohknfoaa.LB Go.Proofs.Ytpdfdaoohknfoaa.HT Go.Proofs.Ytpdfdaoohknfoaa.LH Go.Proofs.Ytpdfdaoohknfoaa.BT Go.Proofs.Ytpdfdaoohknfoaa.LV
def Has (B : List Int) (a : Nat) (X : List Int) : Prop := a + X.length ≤ 8 * B.length ∧ ∀ i, i < X.length → bitN B (a + i) = nth X i
theorem has_pack {L : List Int} (h : Bits01 L) : Has (pack L) 0 L := ⟨by rw [pack_length]; omega, fun i _ => by rw [bitN_pack h, Nat.zero_add]⟩
theorem has_left {B X Y : List Int} {a : Nat} (h : Has B a (X ++ Y)) : Has B a X := by
  obtain ⟨h1, h2⟩ := h
  rw [List.length_append] at h1 h2
  refine ⟨by omega, fun i hi => ?_⟩
  rw [h2 i (by omega), nth_append, if_pos hi]
theorem has_right {B X Y : List Int} {a : Nat} (h : Has B a (X ++ Y)) : Has B (a + X.length) Y := by
  obtain ⟨h1, h2⟩ := h
  rw [List.length_append] at h1 h2
  refine ⟨by omega, fun i hi => ?_⟩
  have := h2 (X.length + i) (by omega)
  rw [nth_append, if_neg (by omega), Nat.add_sub_cancel_left] at this
  rw [Nat.add_assoc]; exact this
theorem has_cons {B X : List Int} {a : Nat} {b : Int} (h : Has B a (b :: X)) : a + 1 ≤ 8 * B.length ∧ bitN B a = b ∧ Has B (a + 1) X := by
  have h1 := h.1
  have h2 := h.2 0 (by rw [List.length_cons]; omega)
  rw [List.length_cons] at h1
  exact ⟨by omega, h2, has_right (X := [b]) h⟩
theorem has_vl {B : List Int} {a n : Nat} {v : Int} (h : Has B a (vbits v n)) (h0 : 0 ≤ v) (h1 : v < 2 ^ n) : vl B a n = v := by
  have := seg_of h.1 h.2
  rw [vbits_length] at this
  unfold vl
  rw [this, numOf_vbits, Int.emod_eq_of_lt h0 h1]
theorem at_has {l B : List Int} {a s : Nat} (hr : rightH l = true) (hs : s < l.length) (hu : 0 < bk l s) (h : Has B a (codeB l s)) : At l B a s := by
  obtain ⟨h1, h2⟩ := h
  rw [codeB_length] at h1 h2
  obtain ⟨c1, c2, c3, c4⟩ := code_range l hr s hs hu
  refine ⟨hs, hu, by omega, ?_⟩
  refine (hi_congr (a' := 0) (fun i hi => ?_)).trans (hi_bits _ _ c1 c2)
  rw [h2 i hi]
  unfold codeB hbits
  rw [nth_map_range, if_pos hi, Nat.zero_add]
theorem blen_eq (l : List Int) (s : Nat) : blen l s = (codeB l s).length := (codeB_length l s).symm
theorem sym_has {l B : List Int} {a s : Nat} (hr : rightH l = true) (hs : s < l.length) (hu : 0 < bk l s) (h : Has B a (codeB l s)) : sym l B a = some s := sym_some hr (at_has hr hs hu h)
theorem post_at {fl : List Int} (hr : rightH fl = true) (hl : fl.length = 45) {g : Int} (h : postOk fl g = true) : ((g.toNat : Nat) : Int) = g ∧ g.toNat < fl.length ∧ 0 < bk fl g.toNat := by
  simp only [postOk, Bool.and_eq_true, decide_eq_true_eq] at h
  have e : ((g.toNat : Nat) : Int) = g := by omega
  have h2 := inl_at (right_inl hr) g.toNat
  have h3 : bk fl g.toNat = rd fl g := by unfold bk; rw [e]
  exact ⟨e, by omega, by omega⟩
theorem postsS_has {fl B : List Int} (hr : rightH fl = true) (hl : fl.length = 45) : ∀ (p : List Int) (a : Nat) (acc : List Int), p.all (postOk fl) = true → Has B a (flat fl p) → postsS fl B p.length a acc = (0, a + (flat fl p).length, acc ++ p)
  | [], a, acc, _, _ => by simp [postsS, flat]
  | g :: p, a, acc, hp, h => by
    rw [List.all_cons, Bool.and_eq_true] at hp
    obtain ⟨e1, e2, e3⟩ := post_at hr hl hp.1
    rw [flat] at h
    have hs := sym_has hr e2 e3 (has_left h)
    have ih := postsS_has hr hl p (a + blen fl g.toNat) (acc ++ [((g.toNat : Nat) : Int)]) hp.2 (by rw [blen_eq]; exact has_right h)
    rw [List.length_cons, postsS, hs]
    simp only
    rw [ih, blen_eq, e1, flat, List.length_append, List.append_assoc, Nat.add_assoc]; rfl
theorem chan_posts {fl p r : List Int} (h : chanOk fl p r = true) : (p = [] ∧ r = []) ∨ (p.length = 6 ∧ p.all (postOk fl) = true ∧ r.length = 16 ∧ r.all resOk = true) := by
  simp only [chanOk, Bool.or_eq_true, Bool.and_eq_true, decide_eq_true_eq] at h
  rcases h with h | h
  · exact .inl ⟨List.length_eq_zero_iff.1 h.1, List.length_eq_zero_iff.1 h.2⟩
  · exact .inr ⟨h.1.1.1, h.1.1.2, h.1.2, h.2⟩
theorem chansS_has {fl B : List Int} (hr : rightH fl = true) (hl : fl.length = 45) : ∀ (P R : List (List Int)) (a : Nat) (acc : List (List Int)), P.length = R.length → chansOk fl P R = true → Has B a (allP fl P) → chansS fl B P.length a acc = (0, a + (allP fl P).length, acc ++ P)
  | [], _, a, acc, _, _, _ => by simp [chansS, allP]
  | p :: P, [], _, _, hl2, _, _ => by simp at hl2
  | p :: P, r :: R, a, acc, hl2, hc, h => by
    simp only [chansOk, Bool.and_eq_true] at hc
    have hl3 : P.length = R.length := by simpa using hl2
    rw [allP] at h
    have hL := has_left h
    have hR := has_right h
    rw [List.length_cons, chansS]
    rcases chan_posts hc.1 with ⟨e1, _⟩ | ⟨e1, e2, _, _⟩
    · subst e1
      have e : postsB fl [] = [0] := rfl
      rw [e] at hL hR
      obtain ⟨b1, b2, _⟩ := has_cons hL
      rw [if_neg (by omega), if_neg (by omega), chansS_has hr hl P R (a + 1) (acc ++ [[]]) hl3 hc.2 hR, allP, e, List.length_append, List.append_assoc, Nat.add_assoc]; rfl
    · have e : postsB fl p = 1 :: flat fl p := by unfold postsB; rw [if_neg (by omega)]
      rw [e] at hL hR
      obtain ⟨b1, b2, b3⟩ := has_cons hL
      have ep := postsS_has hr hl p (a + 1) [] e2 b3
      rw [e1, List.nil_append] at ep
      rw [if_neg (by omega), if_pos b2, ep]
      simp only
      rw [List.length_cons] at hR
      rw [if_pos trivial, show a + 1 + (flat fl p).length = a + ((flat fl p).length + 1) by omega, chansS_has hr hl P R _ (acc ++ [p]) hl3 hc.2 hR, allP, e, List.length_append, List.length_cons, List.append_assoc, Nat.add_assoc]; rfl
theorem near_at {rs : List Int} {v : Int} (h : near rs v = true) : -7 ≤ v ∧ v ≤ 7 ∧ 0 < bk rs (v + 7).toNat := by
  simp only [near, Bool.and_eq_true, decide_eq_true_eq] at h
  have e : (((v + 7).toNat : Nat) : Int) = v + 7 := by omega
  have h3 : bk rs (v + 7).toNat = rd rs (v + 7) := by unfold bk; rw [e]
  exact ⟨h.1.1, h.1.2, by omega⟩
theorem valS_has {rs B : List Int} (hr : rightH rs = true) (hl : rs.length = 16) (h15 : 0 < rd rs 15) {v : Int} (hv : resOk v = true) {a : Nat} (h : Has B a (resB rs v)) : valS rs B a = (0, a + (resB rs v).length, v) := by
  simp only [resOk, decide_eq_true_eq] at hv
  unfold valS
  by_cases hn : near rs v = true
  · have e : resB rs v = codeB rs (v + 7).toNat := by unfold resB; rw [if_pos hn]
    rw [e] at h ⊢
    obtain ⟨n1, n2, n3⟩ := near_at hn
    rw [sym_has hr (by omega) n3 h]
    simp only
    rw [if_neg (by omega), blen_eq, show (((v + 7).toNat : Nat) : Int) - 7 = v by omega]
  · have e : resB rs v = codeB rs 15 ++ ((if v < 0 then 1 else 0) :: vbits (if v < 0 then -v else v) 22) := by unfold resB; rw [if_neg hn]
    rw [e] at h ⊢
    have hs15 : (15 : Nat) < rs.length := by rw [hl]; decide
    rw [sym_has hr hs15 h15 (has_left h)]
    simp only
    rw [if_pos trivial, blen_eq]
    obtain ⟨b1, b2, b3⟩ := has_cons (has_right h)
    have hlen : ((if v < 0 then (1 : Int) else 0) :: vbits (if v < 0 then -v else v) 22).length = 23 := by rw [List.length_cons, vbits_length]
    have b4 := b3.1
    rw [vbits_length] at b4
    rw [List.length_append, hlen]
    unfold escS
    rw [if_neg (by omega), if_neg (by omega)]
    by_cases c : v < 0
    · rw [if_pos c] at b2 b3
      rw [has_vl b3 (by omega) (by omega), if_pos b2, if_neg (by omega), show - -v = v by omega, Nat.add_assoc]
    · rw [if_neg c] at b2 b3
      rw [has_vl b3 (by omega) (by omega), if_neg (by omega), Nat.add_assoc]
theorem resS_has {rs B : List Int} (hr : rightH rs = true) (hl : rs.length = 16) (h15 : 0 < rd rs 15) : ∀ (r : List Int) (a : Nat) (acc : List Int), r.all resOk = true → Has B a (resL rs r) → resS rs B r.length a acc = (0, a + (resL rs r).length, acc ++ r)
  | [], a, acc, _, _ => by simp [resS, resL]
  | v :: r, a, acc, hv, h => by
    rw [List.all_cons, Bool.and_eq_true] at hv
    rw [resL] at h
    have e := valS_has hr hl h15 hv.1 (has_left h)
    rw [List.length_cons, resS, e]
    simp only
    rw [if_pos trivial, resS_has hr hl h15 r _ (acc ++ [v]) hv.2 (has_right h), resL, List.length_append, List.append_assoc, Nat.add_assoc]; rfl
theorem allS_has {fl rs B : List Int} (hr : rightH rs = true) (hl : rs.length = 16) (h15 : 0 < rd rs 15) : ∀ (P R : List (List Int)) (a : Nat) (acc : List (List Int)), P.length = R.length → chansOk fl P R = true → Has B a (allR rs R) → allS rs B P a acc = (0, a + (allR rs R).length, acc ++ R)
  | [], [], a, acc, _, _, _ => by simp [allS, allR]
  | [], r :: R, _, _, hl2, _, _ => by simp at hl2
  | p :: P, [], _, _, hl2, _, _ => by simp at hl2
  | p :: P, r :: R, a, acc, hl2, hc, h => by
    simp only [chansOk, Bool.and_eq_true] at hc
    have hl3 : P.length = R.length := by simpa using hl2
    rw [allR] at h
    have hL := has_left h
    have hR := has_right h
    rw [allS]
    rcases chan_posts hc.1 with ⟨e1, e2⟩ | ⟨e1, _, e2, e3⟩
    · subst e1 e2
      rw [if_pos (show ([] : List Int).length = 0 from rfl)]
      rw [allS_has hr hl h15 P R a (acc ++ [[]]) hl3 hc.2 hR, allR, List.append_assoc]; rfl
    · have ep := resS_has hr hl h15 r a [] e3 hL
      rw [e2, List.nil_append] at ep
      rw [if_neg (by omega), ep]
      simp only
      rw [if_pos trivial, allS_has hr hl h15 P R _ (acc ++ [r]) hl3 hc.2 hR, allR, List.length_append, List.append_assoc, Nat.add_assoc]; rfl
theorem endS_pack {L : List Int} (h : Bits01 L) (P R : List (List Int)) : endS (pack L) L.length P R = (P, R, 0) := by
  have hl := pack_length L
  unfold endS
  rw [if_neg (by omega), if_pos ?_]
  have e := seg_of (B := pack L) (M := vbits 0 (8 * (pack L).length - L.length)) (a := L.length) (by rw [vbits_length]; omega) (fun i _ => by
    rw [bitN_pack h, nth_ge (by omega)]
    unfold vbits
    rw [nth_map_range]; split
    · simp
    · rfl)
  rw [vbits_length] at e
  unfold vl
  rw [e, numOf_vbits]; simp
theorem back {c q : Int} {fl rs : List Int} {P R : List (List Int)} (h : rightBd c q fl rs P R = true) : readBd c q fl rs (pack (bodyB fl rs P R)) = (P, R, 0) := by
  obtain ⟨h1, h2, h3, h4⟩ := rightBd_parts h
  obtain ⟨a1, a2, a3, a4, a5, a6, a7, a8, a9⟩ := right_parts h1
  have hb := bodyB_bits fl rs P R
  have hh := has_pack hb
  have hP := has_left (X := allP fl P) (Y := allR rs R) hh
  have hR := has_right (X := allP fl P) (Y := allR rs R) hh
  have hl2 : P.length = R.length := by omega
  have e1 := chansS_has a7 a5 P R 0 [] hl2 h4 hP
  have e2 := allS_has (fl := fl) a8 a6 a9 P R (0 + (allP fl P).length) [] hl2 h4 hR
  unfold readBd
  rw [if_pos h1, show c.toNat = P.length by omega, e1]
  unfold tailP
  simp only
  rw [if_pos trivial, List.nil_append, e2]
  unfold tailR
  simp only
  rw [if_pos trivial, List.nil_append, Nat.zero_add, ← List.length_append]
  exact endS_pack hb P R
end Go.Proofs.Ytpdfdaoohknfoaa.LK
