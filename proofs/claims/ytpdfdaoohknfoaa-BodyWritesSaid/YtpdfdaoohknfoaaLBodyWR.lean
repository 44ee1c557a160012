/- What the document writes of a body that is right. -/
import Derived.Test.YtpdfdaoohknfoaaPx58
import Derived.Test.YtpdfdaoohknfoaaLBodyWrite
import Derived.Test.YtpdfdaoohknfoaaLBitsRefB
namespace Go.Proofs.Ytpdfdaoohknfoaa.LK
set_option linter.unusedVariables false
set_option linter.unusedSimpArgs false
open Go.RowKit Go.Proofs.YtpdfdaoohknfoaaW.PrintWords Go.Proofs.YtpdfdaoohknfoaaW.PrintLast Go.Proofs.YtpdfdaoohknfoaaW.PrintMore Go.Proofs.Ytpdfdaoohknfoaa.P Go.Proofs.Ytpdfdaoohknfoaa.LB Go.Proofs.Ytpdfdaoohknfoaa.HT Go.Proofs.Ytpdfdaoohknfoaa.LH Go.Proofs.Ytpdfdaoohknfoaa.BT Go.Proofs.Ytpdfdaoohknfoaa.LV
theorem nn (n : Nat) : (0 : Int) ≤ (n : Int) := Int.natCast_nonneg n
theorem lt_nat {a b : Nat} (h : a < b) : (a : Int) < (b : Int) := Int.ofNat_lt.2 h
theorem low_loop (n : Nat) (hn : n ≤ 64) (d : Nat) : ∀ (i k : Nat) (v : Int) (acc : List Int), i + d = n → d < k → 0 ≤ v → v < 9223372036854775808 → acc.length = i → psalteryref17_low.l0 k v (n : Int) acc (i : Int) = some (acc ++ vbits v d) := by
  induction d with
  | zero =>
    intro i k v acc hi hk h0 h1 ha
    obtain ⟨k, rfl⟩ : ∃ j, k = j + 1 := ⟨k - 1, by omega⟩
    simp only [psalteryref17_low.l0]
    rw [if_neg (by omega), vbits_zero, List.append_nil]
  | succ d ih =>
    intro i k v acc hi hk h0 h1 ha
    obtain ⟨k, rfl⟩ : ∃ j, k = j + 1 := ⟨k - 1, by omega⟩
    simp only [psalteryref17_low.l0]
    rw [if_pos (by omega), if_pos (by omega), tmod_nn 2 h0, tdiv_nn 2 h0, w64 (x := v / 2) (by omega) (by omega), w64 (x := (i : Int) + 1) (by omega) (by omega)]
    have := ih (i + 1) k (v / 2) (acc ++ [v % 2]) (by omega) (by omega) (by omega) (by omega) (by rw [List.length_append, ha]; rfl)
    rw [vbits_cons, show acc ++ (v % 2 :: vbits (v / 2) d) = acc ++ [v % 2] ++ vbits (v / 2) d by simp]
    exact this
theorem low_eq (v : Int) (h0 : 0 ≤ v) (h1 : v < 9223372036854775808) (k : Nat) (hk : 70 < k) : psalteryref17_low.f k v 22 = some (vbits v 22) := by
  unfold psalteryref17_low.f
  have := low_loop 22 (by omega) 22 0 k v [] (by omega) (by omega) h0 h1 rfl
  rw [List.nil_append] at this
  exact this
theorem code_at {l : List Int} (hr : rightH l = true) (s : Int) (t : Nat) (hs : s = (t : Int)) (ht : t < l.length) (hu : 0 < bk l t) (k : Nat) (hk : 1500 < k) : psalteryref04_Code.f k l s = some (codeB l t) := by
  subst hs
  exact code_is l hr t ht hu k hk
theorem wref_l3 {rs : List Int} (hr : rightH rs = true) (h16 : rs.length = 16) (he : 0 < rd rs 15) (c q : Int) (fl : List Int) (P R : List (List Int)) (i : Nat) (hi : i < R.length) (hrl : (R[i]).length ≤ 1000) (X : List Int) (N : Nat) (d : Nat) :
    ∀ (j k : Nat) (L : List Int), j + d = (R[i]).length → ((R[i]).drop j).all resOk = true → L.length + 39 * d ≤ 32000 → N + 2 * d + 1 ≤ k ∧ 2 * d + 1620 ≤ k →
    (∀ k', N ≤ k' → psalteryref17_Write.l2 k' (L ++ resL rs ((R[i]).drop j)) (wrap64 ((i : Int) + 1)) c q fl rs P R = some X) →
    psalteryref17_Write.l3 k L (i : Int) (j : Int) c q fl rs P R = some X := by
  induction d with
  | zero =>
    intro j k L hj ha hlen hk hF
    obtain ⟨k, rfl⟩ : ∃ m, k = m + 1 := ⟨k - 1, by omega⟩
    have h := hF k (by omega)
    rw [List.drop_eq_nil_of_le (by omega), resL, List.append_nil] at h
    simp only [psalteryref17_Write.l3]
    rw [if_pos (by omega), if_pos (by omega), L5_at R i hi, if_neg (by omega)]
    exact h
  | succ d ih =>
    intro j k L hj ha hlen hk hF
    obtain ⟨k, rfl⟩ : ∃ m, k = m + 2 := ⟨k - 2, by omega⟩
    have hjl : j < (R[i]).length := by omega
    rw [List.drop_eq_getElem_cons hjl, List.all_cons, Bool.and_eq_true] at ha
    obtain ⟨v, hv⟩ : ∃ v, v = (R[i])[j] := ⟨_, rfl⟩
    have h39 := resB_len hr v
    have hv' : -4194303 ≤ v ∧ v ≤ 4194303 := by have := ha.1; rw [← hv] at this; simpa [resOk] using this
    have he' : 0 < bk rs 15 := he
    have c15 := len16 hr 15
    have nx := ih (j + 1) k (L ++ resB rs v) (by omega) ha.2 (by rw [List.length_append]; omega) (by omega) (fun k' hk' => by
      have h := hF k' hk'
      rw [List.drop_eq_getElem_cons hjl, resL, ← List.append_assoc, ← hv] at h
      exact h)
    have hw : wrap64 ((j : Int) + 1) = ((j + 1 : Nat) : Int) := by rw [w64 (by omega) (by omega)]; rfl
    have esc : near rs v = false → psalteryref17_Write.j4 (k + 1) L (i : Int) (j : Int) v false c q fl rs P R = some X := by
      intro hn
      have e : resB rs v = codeB rs 15 ++ ((if v < 0 then 1 else 0) :: vbits (if v < 0 then -v else v) 22) := by unfold resB; rw [hn, if_neg (by decide)]
      rw [e] at nx h39
      rw [List.length_append, List.length_cons, vbits_length] at h39
      simp only [psalteryref17_Write.j4, Bool.false_eq_true, if_false]
      rw [code_at hr 15 15 rfl (by omega) he' k (by omega), Option.bind_some, if_pos (by omega), Option.bind_some]
      by_cases c0 : v < 0
      · rw [if_pos c0, if_pos c0] at nx
        rw [if_pos c0, if_pos (by rw [List.length_append]; omega), Option.bind_some, w64 (x := -v) (by omega) (by omega), low_eq (-v) (by omega) (by omega) k (by omega), Option.bind_some, if_pos (by simp only [List.length_append, List.length_cons, List.length_nil, vbits_length]; omega), hw]
        simp only [List.append_assoc, List.singleton_append, List.cons_append, List.nil_append] at nx ⊢
        exact nx
      · rw [if_neg c0, if_neg c0] at nx
        rw [if_neg c0, if_pos (by rw [List.length_append]; omega), Option.bind_some, low_eq v (by omega) (by omega) k (by omega), Option.bind_some, if_pos (by simp only [List.length_append, List.length_cons, List.length_nil, vbits_length]; omega), hw]
        simp only [List.append_assoc, List.singleton_append, List.cons_append, List.nil_append] at nx ⊢
        exact nx
    simp only [psalteryref17_Write.l3]
    rw [if_pos (nn i), if_pos (lt_nat hi), L5_at R i hi, if_pos (lt_nat hjl), if_pos (nn j), rd_get (R[i]) j hjl, ← hv]
    by_cases c1 : v ≥ -7
    · rw [if_pos c1]
      by_cases c2 : v ≤ 7
      · rw [if_pos c2, w64 (x := v + 7) (by omega) (by omega), if_pos (by omega), if_pos (by omega)]
        have hin := inl_at (right_inl hr) (v + 7).toNat
        have ht : bk rs (v + 7).toNat = rd rs (v + 7) := by unfold bk; rw [Int.toNat_of_nonneg (by omega)]
        by_cases c3 : rd rs (v + 7) = 0
        · rw [show (rd rs (v + 7) != 0) = false from bne_eq_false_iff_eq.mpr c3]
          exact esc (by unfold near; rw [decide_eq_false (p := 0 < rd rs (v + 7)) (by omega), Bool.and_false])
        · have hn : near rs v = true := by unfold near; rw [decide_eq_true ⟨c1, c2⟩, decide_eq_true (by omega)]; rfl
          have e : resB rs v = codeB rs (v + 7).toNat := by unfold resB; rw [hn, if_pos rfl]
          rw [e] at nx h39
          rw [show (rd rs (v + 7) != 0) = true from bne_iff_ne.mpr c3]
          simp only [psalteryref17_Write.j4, if_true]
          rw [w64 (x := v + 7) (by omega) (by omega), code_at hr (v + 7) (v + 7).toNat (by omega) (by omega) (by omega) k (by omega), Option.bind_some, if_pos (by omega), hw]
          exact nx
      · rw [if_neg c2]
        exact esc (by unfold near; rw [decide_eq_false (p := -7 ≤ v ∧ v ≤ 7) (fun h => c2 h.2)]; rfl)
    · rw [if_neg c1]
      exact esc (by unfold near; rw [decide_eq_false (p := -7 ≤ v ∧ v ≤ 7) (fun h => c1 h.1)]; rfl)
theorem wref_l2 {fl rs : List Int} (hr : rightH rs = true) (h16 : rs.length = 16) (he : 0 < rd rs 15) (q : Int) (P R : List (List Int)) (hR : R.length ≤ 100) (d : Nat) :
    ∀ (i k : Nat) (L : List Int), i + d = R.length → (∀ r ∈ R.drop i, r.length ≤ 16 ∧ r.all resOk = true) → Bits01 L → L.length + 624 * d ≤ 32000 → 40 * d + 70000 ≤ k →
    psalteryref17_Write.l2 k L (i : Int) (R.length : Int) q fl rs P R = some (pack (L ++ allR rs (R.drop i))) := by
  induction d with
  | zero =>
    intro i k L hi ha hL hlen hk
    obtain ⟨k, rfl⟩ : ∃ m, k = m + 1 := ⟨k - 1, by omega⟩
    simp only [psalteryref17_Write.l2]
    rw [if_neg (by omega), List.drop_eq_nil_of_le (by omega), allR, List.append_nil, refBytes_eq hL (by omega) k (by omega)]; rfl
  | succ d ih =>
    intro i k L hi ha hL hlen hk
    obtain ⟨k, rfl⟩ : ∃ m, k = m + 1 := ⟨k - 1, by omega⟩
    have hil : i < R.length := by omega
    have hw : wrap64 ((i : Int) + 1) = ((i + 1 : Nat) : Int) := by rw [w64 (by omega) (by omega)]; rfl
    rw [List.drop_eq_getElem_cons hil] at ha ⊢
    have h0 := ha R[i] (List.mem_cons_self ..)
    have hlr := resL_len hr R[i]
    simp only [psalteryref17_Write.l2]
    rw [if_pos (by omega), allR, ← List.append_assoc]
    exact wref_l3 hr h16 he (R.length : Int) q fl P R i hil (by omega) _ (40 * d + 70000) (R[i]).length 0 k L (by omega) (by rw [List.drop_zero]; exact h0.2) (by omega) (by omega)
      (fun k' hk' => by
        rw [hw, List.drop_zero]
        exact ih (i + 1) k' (L ++ resL rs R[i]) (by omega) (fun r hr => ha r (List.mem_cons_of_mem _ hr)) (bits_append hL (resL_bits rs _)) (by rw [List.length_append]; omega) hk')
theorem wref_l1 {fl : List Int} (hfl : fl.length = 45) (hr : rightH fl = true) (c q : Int) (rs : List Int) (P R : List (List Int)) (i : Nat) (hi : i < P.length) (h6 : (P[i]).length = 6) (X : List Int) (N : Nat) (d : Nat) :
    ∀ (j k : Nat) (L : List Int), j + d = 6 → ((P[i]).drop j).all (postOk fl) = true → L.length + 16 * d ≤ 32000 → N + d + 1 ≤ k ∧ d + 1620 ≤ k →
    (∀ k', N ≤ k' → psalteryref17_Write.l0 k' (L ++ flat fl ((P[i]).drop j)) (wrap64 ((i : Int) + 1)) c q fl rs P R = some X) →
    psalteryref17_Write.l1 k L (i : Int) (j : Int) c q fl rs P R = some X := by
  induction d with
  | zero =>
    intro j k L hj ha hlen hk hF
    obtain ⟨k, rfl⟩ : ∃ m, k = m + 1 := ⟨k - 1, by omega⟩
    have h := hF k (by omega)
    rw [List.drop_eq_nil_of_le (by omega), flat, List.append_nil] at h
    simp only [psalteryref17_Write.l1]
    rw [if_neg (by omega)]
    exact h
  | succ d ih =>
    intro j k L hj ha hlen hk hF
    obtain ⟨k, rfl⟩ : ∃ m, k = m + 1 := ⟨k - 1, by omega⟩
    have hjl : j < (P[i]).length := by omega
    rw [List.drop_eq_getElem_cons hjl, List.all_cons, Bool.and_eq_true] at ha
    have h16 := len16 hr ((P[i])[j]).toNat
    obtain ⟨g0, g1, g2, g3, g4⟩ := postOk_use hfl hr ha.1
    simp only [psalteryref17_Write.l1]
    rw [if_pos (by omega), if_pos (by omega), if_pos (by omega), if_pos (by omega), L1_at' P i hi, if_pos (by omega), rd_get (P[i]) j hjl, code_at hr (P[i])[j] ((P[i])[j]).toNat g2 g3 g4 k (by omega), Option.bind_some, if_pos (by omega), w64 (x := (j : Int) + 1) (by omega) (by omega)]
    refine ih (j + 1) k (L ++ codeB fl ((P[i])[j]).toNat) (by omega) ha.2 (by rw [List.length_append]; omega) (by omega) (fun k' hk' => ?_)
    have h := hF k' hk'
    rw [List.drop_eq_getElem_cons hjl, flat, ← List.append_assoc] at h
    exact h
theorem wref_l0 {fl rs : List Int} (hfl : fl.length = 45) (hrf : rightH fl = true) (hr : rightH rs = true) (h16 : rs.length = 16) (he : 0 < rd rs 15) (q : Int) (P R : List (List Int)) (hP : P.length ≤ 10) (hPR : P.length = R.length) (hR : ∀ r ∈ R, r.length ≤ 16 ∧ r.all resOk = true) (d : Nat) :
    ∀ (i k : Nat) (L : List Int), i + d = P.length → (∀ p ∈ P.drop i, (p.length = 0 ∨ p.length = 6) ∧ p.all (postOk fl) = true) → Bits01 L → L.length + 97 * d + 624 * R.length ≤ 32000 → 20 * d + 40 * R.length + 71000 ≤ k →
    psalteryref17_Write.l0 k L (i : Int) (P.length : Int) q fl rs P R = some (pack (L ++ allP fl (P.drop i) ++ allR rs R)) := by
  induction d with
  | zero =>
    intro i k L hi ha hL hlen hk
    obtain ⟨k, rfl⟩ : ∃ m, k = m + 1 := ⟨k - 1, by omega⟩
    simp only [psalteryref17_Write.l0]
    rw [if_neg (by omega), List.drop_eq_nil_of_le (by omega), allP, List.append_nil]
    have := wref_l2 (fl := fl) hr h16 he q P R (by omega) R.length 0 k L (by omega) (by rw [List.drop_zero]; exact hR) hL (by omega) (by omega)
    rw [List.drop_zero, ← hPR] at this
    exact this
  | succ d ih =>
    intro i k L hi ha hL hlen hk
    obtain ⟨k, rfl⟩ : ∃ m, k = m + 1 := ⟨k - 1, by omega⟩
    have hil : i < P.length := by omega
    have hw : wrap64 ((i : Int) + 1) = ((i + 1 : Nat) : Int) := by rw [w64 (by omega) (by omega)]; rfl
    rw [List.drop_eq_getElem_cons hil] at ha ⊢
    have h0 := ha P[i] (List.mem_cons_self ..)
    have hpl := postsB_len hrf (p := P[i]) (by omega)
    have hfl2 := flat_len hrf P[i]
    simp only [psalteryref17_Write.l0]
    rw [if_pos (by omega), if_pos (by omega), if_pos (by omega), L1_at' P i hil, allP, ← List.append_assoc]
    have nx : ∀ k', 20 * d + 40 * R.length + 71000 ≤ k' → psalteryref17_Write.l0 k' (L ++ postsB fl P[i]) (wrap64 ((i : Int) + 1)) (P.length : Int) q fl rs P R = some (pack (L ++ postsB fl P[i] ++ allP fl (P.drop (i + 1)) ++ allR rs R)) := by
      intro k' hk'
      rw [hw]
      exact ih (i + 1) k' _ (by omega) (fun r hr => ha r (List.mem_cons_of_mem _ hr)) (bits_append hL (postsB_bits fl _)) (by rw [List.length_append]; omega) hk'
    by_cases c0 : (P[i]).length = 0
    · have e : postsB fl P[i] = [0] := by unfold postsB; rw [if_pos c0]
      rw [e] at nx ⊢
      rw [if_pos (by omega), if_pos (by omega)]
      exact nx k (by omega)
    · have e : postsB fl P[i] = 1 :: flat fl P[i] := by unfold postsB; rw [if_neg c0]
      rw [e] at nx ⊢
      rw [if_neg (by omega), if_pos (by omega)]
      refine wref_l1 hfl hrf (P.length : Int) q rs P R i hil (h0.1.resolve_left c0) _ (20 * d + 40 * R.length + 71000) 6 0 k (L ++ [1]) (by omega) (by rw [List.drop_zero]; exact h0.2) (by rw [List.length_append, List.length_singleton]; omega) (by omega) (fun k' hk' => ?_)
      rw [List.drop_zero, List.append_assoc, List.singleton_append]
      exact nx k' hk'
theorem chans_six {fl : List Int} : ∀ P R : List (List Int), P.length = R.length → chansOk fl P R = true → ∀ p ∈ P, p.length = 0 ∨ p.length = 6
  | [], _, _, _, p, hp => absurd hp (by simp)
  | _ :: _, [], hl, _, _, _ => by simp at hl
  | p :: P, r :: R, hl, hc, x, hx => by
    simp only [chansOk, Bool.and_eq_true] at hc
    rcases List.mem_cons.1 hx with rfl | hx
    · have := hc.1
      simp only [chanOk, Bool.or_eq_true, Bool.and_eq_true, decide_eq_true_eq] at this
      rcases this with h | h
      · exact .inl h.1
      · exact .inr h.1.1.1
    · exact chans_six P R (by simpa using hl) hc.2 x hx
theorem wref_eq {c q : Int} {fl rs : List Int} {P R : List (List Int)} (h : rightBd c q fl rs P R = true) (k : Nat) (hk : 80000 ≤ k) : psalteryref17_Write.f k c q fl rs P R = some (pack (bodyB fl rs P R)) := by
  unfold psalteryref17_Write.f bodyB
  obtain ⟨b1, b2, b3, b4⟩ := rightBd_parts h
  obtain ⟨a1, a2, a3, a4, a5, a6, a7, a8, a9⟩ := right_parts b1
  have hrow := chans_rows P R (by omega) b4
  have hsix := chans_six P R (by omega) b4
  have := wref_l0 (rs := rs) a5 a7 a8 a6 a9 q P R (by omega) (by omega) hrow.2 P.length 0 k [] (by omega) (by rw [List.drop_zero]; exact fun p hp => ⟨hsix p hp, (hrow.1 p hp).2⟩) (fun x hx => by cases hx) (by rw [List.length_nil]; omega) (by omega)
  rw [List.drop_zero, List.nil_append, b2] at this
  exact this
end Go.Proofs.Ytpdfdaoohknfoaa.LK
