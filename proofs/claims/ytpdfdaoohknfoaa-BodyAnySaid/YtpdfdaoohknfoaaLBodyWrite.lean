/- What vpack.Write answers. -/
import Derived.Test.YtpdfdaoohknfoaaQ2
import Derived.Test.YtpdfdaoohknfoaaT1
import Derived.Test.YtpdfdaoohknfoaaLHuffWriteB
namespace Go.Proofs.Ytpdfdaoohknfoaa.LK
set_option linter.unusedVariables false
set_option linter.unusedSimpArgs false
open Go.RowKit Go.Proofs.YtpdfdaoohknfoaaW.PrintWords Go.Proofs.YtpdfdaoohknfoaaW.PrintLast Go.Proofs.YtpdfdaoohknfoaaW.PrintMore Go.Proofs.Ytpdfdaoohknfoaa.P Go.Proofs.Ytpdfdaoohknfoaa.LB Go.Proofs.Ytpdfdaoohknfoaa.HT Go.Proofs.Ytpdfdaoohknfoaa.LH Go.Proofs.Ytpdfdaoohknfoaa.BT Go.Proofs.Ytpdfdaoohknfoaa.LV
theorem put17 {L : List Int} (h : Bits01 L) (v : Int) (n : Nat) (m : Int) (hm : m = (n : Int)) (hl : L.length + n ≤ 32000) (hn : n ≤ 32) (h0 : 0 ≤ v) (h1 : v < 2 ^ n) (k : Nat) (hk : 40 ≤ k) :
    vpack_put.f k (pack L) (L.length : Int) v m = some (pack (L ++ vbits v n), ((L ++ vbits v n).length : Int)) := by
  subst hm
  have hp := pow_le32 hn
  unfold vpack_put.f
  rw [put_eq (pack_bytes h) (by rw [pack_length]; omega) (by omega) (by omega) k hk, Option.bind_some]
  unfold putS
  rw [good_of_right (pack_bytes h) (right_pack h (by omega)), if_neg (by rw [Int.toNat_natCast]; omega), if_neg (by show ¬ (32000 < (L.length : Int) + n); omega)]
  show some (pack (bitsTo (pack L) (L.length : Int) ++ vbits v (n : Int).toNat), (L.length : Int) + n) = _
  rw [bitsTo_pack h, Int.toNat_natCast, List.length_append, vbits_length]; rfl
theorem vbits_one {v : Int} (h : v = 0 ∨ v = 1) : vbits v 1 = [v] := by
  rw [vbits_succ, vbits_zero]; simp; omega
theorem hwrite {l L : List Int} (hL : Bits01 L) (hr : rightH l = true) (s : Int) (t : Nat) (hs : s = (t : Int)) (ht : t < l.length) (hu : 0 < bk l t) (hlen : L.length + 16 ≤ 32000) (k : Nat) (hk : 1600 < k) :
    huff_Write.f k (pack L) (L.length : Int) l s = some (pack (L ++ codeB l t), ((L ++ codeB l t).length : Int), 0) := by
  have h16 := inl_at (right_inl hr) t
  have h64 : l.length ≤ 64 := (whole_right hr).2.1
  rcases write_spec l hL (by omega) s (by omega) k hk with ⟨u, e, _, h1, h2, h3⟩ | ⟨h1, _⟩
  · obtain rfl : u = t := by omega
    rw [h3, if_pos (by omega), List.length_append, codeB_length]
  · exact absurd hu (h1 hr t hs ht)
theorem residue_eq {rs L : List Int} (hL : Bits01 L) (hr : rightH rs = true) (h16 : rs.length = 16) (he : 0 < rd rs 15) (v : Int) (hv : resOk v = true) (hlen : L.length + 39 ≤ 32000) (k : Nat) (hk : 1610 < k) :
    vpack_residue.f k (pack L) (L.length : Int) rs v = some (pack (L ++ resB rs v), ((L ++ resB rs v).length : Int)) := by
  obtain ⟨k, rfl⟩ : ∃ j, k = j + 1 := ⟨k - 1, by omega⟩
  have hv' : -4194303 ≤ v ∧ v ≤ 4194303 := by simpa [resOk] using hv
  have he' : 0 < bk rs 15 := he
  have hp : (2 : Int) ^ 22 = 4194304 := by decide
  have esc : near rs v = false → vpack_residue.j0 (k + 1) rs v false (pack L) (L.length : Int) = some (pack (L ++ resB rs v), ((L ++ resB rs v).length : Int)) := by
    intro hn
    have c15 := len16 hr 15
    have hb := codeB_bits rs 15
    unfold resB
    rw [hn, if_neg (by decide)]
    simp only [vpack_residue.j0, Bool.false_eq_true, if_false]
    rw [hwrite hL hr 15 15 rfl (by omega) he' (by omega) k (by omega), Option.bind_some]
    by_cases c : v < 0
    · rw [if_pos c, if_pos c, if_pos c, put17 (bits_append hL hb) 1 1 1 rfl (by rw [List.length_append]; omega) (by omega) (by omega) (by decide) k (by omega), Option.bind_some]
      have hm : IntKind.u64.wrap (mx v (wrap64 (-v))) = -v := by
        rw [w64 (by omega) (by omega), show mx v (-v) = -v by unfold mx; omega, u64w (by omega) (by omega)]
      rw [hm, vbits_one (.inr rfl)]
      have := put17 (bits_append (bits_append hL hb) (bit_cons (.inr rfl) (fun x hx => by cases hx) : Bits01 [1])) (-v) 22 22 rfl (by simp only [List.length_append, List.length_cons, List.length_nil]; omega) (by omega) (by omega) (by omega) k (by omega)
      simp only
      rw [this, Option.bind_some]
      simp only [List.append_assoc, List.singleton_append, List.cons_append, List.nil_append]
    · rw [if_neg c, if_neg c, if_neg c, put17 (bits_append hL hb) 0 1 1 rfl (by rw [List.length_append]; omega) (by omega) (by omega) (by decide) k (by omega), Option.bind_some]
      have hm : IntKind.u64.wrap (mx v (wrap64 (-v))) = v := by
        rw [w64 (by omega) (by omega), show mx v (-v) = v by unfold mx; omega, u64w (by omega) (by omega)]
      rw [hm, vbits_one (.inl rfl)]
      have := put17 (bits_append (bits_append hL hb) (bit_cons (.inl rfl) (fun x hx => by cases hx) : Bits01 [0])) v 22 22 rfl (by simp only [List.length_append, List.length_cons, List.length_nil]; omega) (by omega) (by omega) (by omega) k (by omega)
      simp only
      rw [this, Option.bind_some]
      simp only [List.append_assoc, List.singleton_append, List.cons_append, List.nil_append]
  unfold vpack_residue.f
  by_cases c1 : v ≥ -7
  · rw [if_pos c1]
    by_cases c2 : v ≤ 7
    · rw [if_pos c2, w64 (x := v + 7) (by omega) (by omega), if_pos (by omega), if_pos (by omega)]
      by_cases c3 : rd rs (v + 7) > 0
      · have hn : near rs v = true := by unfold near; rw [decide_eq_true ⟨c1, c2⟩, decide_eq_true c3]; rfl
        rw [decide_eq_true c3]
        simp only [vpack_residue.j0, if_true]
        have ht : bk rs (v + 7).toNat = rd rs (v + 7) := by unfold bk; rw [Int.toNat_of_nonneg (by omega)]
        rw [w64 (x := v + 7) (by omega) (by omega), hwrite hL hr (v + 7) (v + 7).toNat (by omega) (by omega) (by omega) (by omega) k (by omega), Option.bind_some]
        unfold resB
        rw [hn, if_pos rfl]
      · rw [decide_eq_false c3]
        exact esc (by unfold near; rw [decide_eq_false (p := 0 < rd rs (v + 7)) c3, Bool.and_false])
    · rw [if_neg c2]
      exact esc (by unfold near; rw [decide_eq_false (p := -7 ≤ v ∧ v ≤ 7) (fun h => c2 h.2)]; rfl)
  · rw [if_neg c1]
    exact esc (by unfold near; rw [decide_eq_false (p := -7 ≤ v ∧ v ≤ 7) (fun h => c1 h.1)]; rfl)
theorem write_l3 {rs : List Int} (hr : rightH rs = true) (h16 : rs.length = 16) (he : 0 < rd rs 15) (c q : Int) (fl : List Int) (R : List (List Int)) (n i : Int) (r : List Int) (hrl : r.length ≤ 1000) (X : List Int × Int) (N : Nat) (d : Nat) :
    ∀ (j k : Nat) (L : List Int), j + d = r.length → (r.drop j).all resOk = true → Bits01 L → L.length + 39 * d ≤ 32000 → N + d + 1 ≤ k ∧ d + 1620 ≤ k →
    (∀ k', N ≤ k' → vpack_Write.l2 k' R n (wrap64 (i + 1)) c q fl rs (pack (L ++ resL rs (r.drop j))) ((L ++ resL rs (r.drop j)).length : Int) = some X) →
    vpack_Write.l3 k R n i r (r.length : Int) (j : Int) c q fl rs (pack L) (L.length : Int) = some X := by
  induction d with
  | zero =>
    intro j k L hj ha hL hlen hk hF
    obtain ⟨k, rfl⟩ : ∃ m, k = m + 1 := ⟨k - 1, by omega⟩
    have h := hF k (by omega)
    rw [List.drop_eq_nil_of_le (by omega), resL, List.append_nil] at h
    simp only [vpack_Write.l3]
    rw [if_neg (by omega)]
    exact h
  | succ d ih =>
    intro j k L hj ha hL hlen hk hF
    obtain ⟨k, rfl⟩ : ∃ m, k = m + 1 := ⟨k - 1, by omega⟩
    have hjl : j < r.length := by omega
    rw [List.drop_eq_getElem_cons hjl, List.all_cons, Bool.and_eq_true] at ha
    have h39 := resB_len hr r[j]
    simp only [vpack_Write.l3]
    rw [if_pos (by omega), if_pos (by omega), if_pos (by omega), rd_get r j hjl, residue_eq hL hr h16 he r[j] ha.1 (by omega) k (by omega), Option.bind_some, w64 (x := (j : Int) + 1) (by omega) (by omega)]
    refine ih (j + 1) k (L ++ resB rs r[j]) (by omega) ha.2 (bits_append hL (resB_bits rs _)) (by rw [List.length_append]; omega) (by omega) (fun k' hk' => ?_)
    have h := hF k' hk'
    rw [List.drop_eq_getElem_cons hjl, resL, ← List.append_assoc] at h
    exact h
theorem write_l2 {fl rs : List Int} (hr : rightH rs = true) (h16 : rs.length = 16) (he : 0 < rd rs 15) (c q : Int) (R : List (List Int)) (hR : R.length ≤ 100) (d : Nat) :
    ∀ (i k : Nat) (L : List Int), i + d = R.length → (∀ r ∈ R.drop i, r.length ≤ 16 ∧ r.all resOk = true) → Bits01 L → L.length + 624 * d ≤ 32000 → 20 * d + 1700 ≤ k →
    vpack_Write.l2 k R (R.length : Int) (i : Int) c q fl rs (pack L) (L.length : Int) = some (pack (L ++ allR rs (R.drop i)), 0) := by
  induction d with
  | zero =>
    intro i k L hi ha hL hlen hk
    obtain ⟨k, rfl⟩ : ∃ m, k = m + 1 := ⟨k - 1, by omega⟩
    simp only [vpack_Write.l2]
    rw [if_neg (by omega), List.drop_eq_nil_of_le (by omega), allR, List.append_nil]
  | succ d ih =>
    intro i k L hi ha hL hlen hk
    obtain ⟨k, rfl⟩ : ∃ m, k = m + 1 := ⟨k - 1, by omega⟩
    have hil : i < R.length := by omega
    have hw : wrap64 ((i : Int) + 1) = ((i + 1 : Nat) : Int) := by rw [w64 (by omega) (by omega)]; rfl
    rw [List.drop_eq_getElem_cons hil] at ha ⊢
    have h0 := ha R[i] (List.mem_cons_self ..)
    have hlr := resL_len hr R[i]
    simp only [vpack_Write.l2]
    rw [if_pos (by omega), if_pos (by omega), if_pos (by omega), L5_at R i hil, allR, ← List.append_assoc]
    have := write_l3 hr h16 he c q fl R (R.length : Int) (i : Int) R[i] (by omega) (pack (L ++ resL rs R[i] ++ allR rs (R.drop (i + 1))), 0) (20 * d + 1700) (R[i]).length 0 k L (by omega) (by rw [List.drop_zero]; exact h0.2) hL (by omega) (by omega)
      (fun k' hk' => by
        rw [hw, List.drop_zero]
        exact ih (i + 1) k' (L ++ resL rs R[i]) (by omega) (fun r hr => ha r (List.mem_cons_of_mem _ hr)) (bits_append hL (resL_bits rs _)) (by rw [List.length_append]; omega) hk')
    exact this
theorem postOk_use {fl : List Int} (hfl : fl.length = 45) (hr : rightH fl = true) {g : Int} (h : postOk fl g = true) : 0 ≤ g ∧ g ≤ 44 ∧ g = (g.toNat : Int) ∧ g.toNat < fl.length ∧ 0 < bk fl g.toNat := by
  simp only [postOk, Bool.and_eq_true, decide_eq_true_eq] at h
  have h1 := inl_at (right_inl hr) g.toNat
  have h2 : bk fl g.toNat = rd fl g := by unfold bk; rw [Int.toNat_of_nonneg (by omega)]
  omega
theorem write_l1 {fl : List Int} (hfl : fl.length = 45) (hr : rightH fl = true) (c q : Int) (rs : List Int) (P R Q : List (List Int)) (n i : Int) (p : List Int) (hpl : p.length ≤ 1000) (X : List Int × Int) (N : Nat) (d : Nat) :
    ∀ (j k : Nat) (L : List Int), j + d = p.length → (p.drop j).all (postOk fl) = true → Bits01 L → L.length + 16 * d ≤ 32000 → N + d + 1 ≤ k ∧ d + 1620 ≤ k →
    (∀ k', N ≤ k' → vpack_Write.l0 k' P n (wrap64 (i + 1)) c q fl rs Q R (pack (L ++ flat fl (p.drop j))) ((L ++ flat fl (p.drop j)).length : Int) = some X) →
    vpack_Write.l1 k P n i p (p.length : Int) (j : Int) c q fl rs Q R (pack L) (L.length : Int) = some X := by
  induction d with
  | zero =>
    intro j k L hj ha hL hlen hk hF
    obtain ⟨k, rfl⟩ : ∃ m, k = m + 1 := ⟨k - 1, by omega⟩
    have h := hF k (by omega)
    rw [List.drop_eq_nil_of_le (by omega), flat, List.append_nil] at h
    simp only [vpack_Write.l1]
    rw [if_neg (by omega)]
    exact h
  | succ d ih =>
    intro j k L hj ha hL hlen hk hF
    obtain ⟨k, rfl⟩ : ∃ m, k = m + 1 := ⟨k - 1, by omega⟩
    have hjl : j < p.length := by omega
    rw [List.drop_eq_getElem_cons hjl, List.all_cons, Bool.and_eq_true] at ha
    have h16 := len16 hr (p[j]).toNat
    obtain ⟨g0, g1, g2, g3, g4⟩ := postOk_use hfl hr ha.1
    simp only [vpack_Write.l1]
    rw [if_pos (by omega), if_pos (by omega), if_pos (by omega), rd_get p j hjl, hwrite hL hr p[j] (p[j]).toNat g2 g3 g4 (by omega) k (by omega), Option.bind_some, w64 (x := (j : Int) + 1) (by omega) (by omega)]
    refine ih (j + 1) k (L ++ codeB fl (p[j]).toNat) (by omega) ha.2 (bits_append hL (codeB_bits fl _)) (by rw [List.length_append]; omega) (by omega) (fun k' hk' => ?_)
    have h := hF k' hk'
    rw [List.drop_eq_getElem_cons hjl, flat, ← List.append_assoc] at h
    exact h
theorem write_l0 {fl rs : List Int} (hfl : fl.length = 45) (hrf : rightH fl = true) (hr : rightH rs = true) (h16 : rs.length = 16) (he : 0 < rd rs 15) (c q : Int) (P Q R : List (List Int)) (hP : P.length ≤ 10) (hRl : R.length ≤ 10) (hR : ∀ r ∈ R, r.length ≤ 16 ∧ r.all resOk = true) (d : Nat) :
    ∀ (i k : Nat) (L : List Int), i + d = P.length → (∀ p ∈ P.drop i, p.length ≤ 6 ∧ p.all (postOk fl) = true) → Bits01 L → L.length + 97 * d + 624 * R.length ≤ 32000 → 20 * d + 20 * R.length + 1800 ≤ k →
    vpack_Write.l0 k P (P.length : Int) (i : Int) c q fl rs Q R (pack L) (L.length : Int) = some (pack (L ++ allP fl (P.drop i) ++ allR rs R), 0) := by
  induction d with
  | zero =>
    intro i k L hi ha hL hlen hk
    obtain ⟨k, rfl⟩ : ∃ m, k = m + 1 := ⟨k - 1, by omega⟩
    simp only [vpack_Write.l0]
    rw [if_neg (by omega), List.drop_eq_nil_of_le (by omega), allP, List.append_nil]
    have := write_l2 (fl := fl) hr h16 he c q R (by omega) R.length 0 k L (by omega) (by rw [List.drop_zero]; exact hR) hL (by omega) (by omega)
    rw [List.drop_zero] at this
    exact this
  | succ d ih =>
    intro i k L hi ha hL hlen hk
    obtain ⟨k, rfl⟩ : ∃ m, k = m + 1 := ⟨k - 1, by omega⟩
    have hil : i < P.length := by omega
    have hw : wrap64 ((i : Int) + 1) = ((i + 1 : Nat) : Int) := by rw [w64 (by omega) (by omega)]; rfl
    rw [List.drop_eq_getElem_cons hil] at ha ⊢
    have h0 := ha P[i] (List.mem_cons_self ..)
    have hpl := postsB_len hrf h0.1
    have hfl2 := flat_len hrf P[i]
    simp only [vpack_Write.l0]
    rw [if_pos (by omega), if_pos (by omega), if_pos (by omega), L1_at' P i hil, allP, ← List.append_assoc]
    have nx : ∀ k', 20 * d + 20 * R.length + 1800 ≤ k' → vpack_Write.l0 k' P (P.length : Int) (wrap64 ((i : Int) + 1)) c q fl rs Q R (pack (L ++ postsB fl P[i])) ((L ++ postsB fl P[i]).length : Int) = some (pack (L ++ postsB fl P[i] ++ allP fl (P.drop (i + 1)) ++ allR rs R), 0) := by
      intro k' hk'
      rw [hw]
      exact ih (i + 1) k' _ (by omega) (fun r hr => ha r (List.mem_cons_of_mem _ hr)) (bits_append hL (postsB_bits fl _)) (by rw [List.length_append]; omega) hk'
    by_cases c0 : (P[i]).length = 0
    · have e : postsB fl P[i] = [0] := by unfold postsB; rw [if_pos c0]
      rw [e] at nx ⊢
      rw [if_pos (by omega), put17 hL 0 1 1 rfl (by omega) (by omega) (by omega) (by decide) k (by omega), Option.bind_some, vbits_one (.inl rfl)]
      exact nx k (by omega)
    · have e : postsB fl P[i] = 1 :: flat fl P[i] := by unfold postsB; rw [if_neg c0]
      rw [e] at nx ⊢
      rw [if_neg (by omega), put17 hL 1 1 1 rfl (by omega) (by omega) (by omega) (by decide) k (by omega), Option.bind_some, vbits_one (.inr rfl)]
      refine write_l1 hfl hrf c q rs P R Q (P.length : Int) (i : Int) P[i] (by omega) _ (20 * d + 20 * R.length + 1800) (P[i]).length 0 k (L ++ [1]) (by omega) (by rw [List.drop_zero]; exact h0.2) (bits_append hL (bit_cons (.inr rfl) (fun x hx => by cases hx))) (by rw [List.length_append, List.length_singleton]; omega) (by omega) (fun k' hk' => ?_)
      rw [List.drop_zero, List.append_assoc, List.singleton_append]
      exact nx k' hk'
theorem chans_rows {fl : List Int} : ∀ P R : List (List Int), P.length = R.length → chansOk fl P R = true → (∀ p ∈ P, p.length ≤ 6 ∧ p.all (postOk fl) = true) ∧ (∀ r ∈ R, r.length ≤ 16 ∧ r.all resOk = true)
  | [], R, hl, _ => by
    have : R = [] := List.eq_nil_of_length_eq_zero (by simpa using hl.symm)
    subst this
    exact And.intro (fun p hp => absurd hp (by simp)) (fun r hr => absurd hr (by simp))
  | p :: P, [], hl, _ => by simp at hl
  | p :: P, r :: R, hl, hc => by
    simp only [chansOk, Bool.and_eq_true] at hc
    have h1 := chans_rows P R (by simpa using hl) hc.2
    have h2 : (p.length ≤ 6 ∧ p.all (postOk fl) = true) ∧ (r.length ≤ 16 ∧ r.all resOk = true) := by
      have := hc.1
      simp only [chanOk, Bool.or_eq_true, Bool.and_eq_true, decide_eq_true_eq] at this
      rcases this with ⟨a, b⟩ | ⟨⟨⟨a, b⟩, c⟩, d⟩
      · have a' : p = [] := List.eq_nil_of_length_eq_zero a
        have b' : r = [] := List.eq_nil_of_length_eq_zero b
        subst a' b'
        simp
      · exact ⟨⟨by omega, b⟩, by omega, d⟩
    refine ⟨fun x hx => ?_, fun x hx => ?_⟩
    · rcases List.mem_cons.1 hx with rfl | hx
      · exact h2.1
      · exact h1.1 x hx
    · rcases List.mem_cons.1 hx with rfl | hx
      · exact h2.2
      · exact h1.2 x hx
def writeBd (c q : Int) (fl rs : List Int) (P R : List (List Int)) : List Int × Int := if rightBd c q fl rs P R = true then (pack (bodyB fl rs P R), 0) else ([], 1)
theorem writeBd_eq (c q : Int) (fl rs : List Int) (P R : List (List Int)) (hP : ∀ p ∈ P, p.length ≤ 1000) (hR : ∀ r ∈ R, r.length ≤ 1000) (k : Nat) (hk : 5000 ≤ k) : vpack_Write.f k c q fl rs P R = some (writeBd c q fl rs P R) := by
  unfold vpack_Write.f writeBd
  rw [bdRight_eq c q fl rs P R hP hR k hk, Option.bind_some]
  by_cases h : rightBd c q fl rs P R = true
  · rw [if_pos h, if_pos h]
    obtain ⟨b1, b2, b3, b4⟩ := rightBd_parts h
    obtain ⟨a1, a2, a3, a4, a5, a6, a7, a8, a9⟩ := right_parts b1
    have hrow := chans_rows P R (by omega) b4
    have := write_l0 (rs := rs) a5 a7 a8 a6 a9 c q P P R (by omega) (by omega) hrow.2 P.length 0 k [] (by omega) (by rw [List.drop_zero]; exact hrow.1) (fun x hx => by cases hx) (by rw [List.length_nil]; omega) (by omega)
    rw [List.drop_zero, List.nil_append] at this
    exact this
  · rw [if_neg h, if_neg h]
end Go.Proofs.Ytpdfdaoohknfoaa.LK
