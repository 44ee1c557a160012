/- Words, walks and what they compute, as the law's proof needs them. -/
import Derived.Test.YtdajlfijkbafiaaW6
import Derived.Test.YtdajlfijkbafiaaW8
import Derived.Test.YtdajlfijkbafiaaW7
import Derived.Test.YtdajlfijkbafiaaW2
import Derived.Deep.Slices
import Derived.Lib.SmallJoins
import Derived.WideShapes
set_option linter.unusedVariables false
set_option linter.unusedSimpArgs false
set_option maxHeartbeats 8000000
set_option maxRecDepth 100000
namespace Go.Proofs.Ytdajlfijkbafiaa.LK
open Go.RowKit Go.Proofs.YtdajlfijkbafiaaW.PrintWords Go.Proofs.YtdajlfijkbafiaaW.PrintLast Go.Proofs.YtdajlfijkbafiaaW.PrintMore Go.Proofs.Ytdajlfijkbafiaa.P Go.Proofs.Ytdajlfijkbafiaa.LB Go.Proofs.Ytdajlfijkbafiaa.HT Go.Proofs.Ytdajlfijkbafiaa.LH Go.Proofs.Ytdajlfijkbafiaa.BT Go.Proofs.Ytdajlfijkbafiaa.LV
theorem put17 {L : List Int} (h : Bits01 L) (v : Int) (n : Nat) (m : Int) (hm : m = (n : Int)) (hl : L.length + n ≤ 32000) (hn : n ≤ 32) (h0 : 0 ≤ v) (h1 : v < 2 ^ n) (k : Nat) (hk : 40 ≤ k) :
  Gp_.f k (pack L) (L.length : Int) v m = some (pack (L ++ vbits v n), ((L ++ vbits v n).length : Int)) := by
 subst hm
 have hp := pow_le32 hn
 unfold Gp_.f
 rw [put_eq (pack_bytes h) (by rw [pack_length]; omega) o_ o_ k hk, Option.bind_some]
 unfold putS
 rw [good_of_right (pack_bytes h) (right_pack h o_), if_neg (by rw [Int.toNat_natCast]; omega), if_neg (by show ¬ (32000 < (L.length : Int) + n); omega)]
 show some (pack (bitsTo (pack L) (L.length : Int) ++ vbits v (n : Int).toNat), (L.length : Int) + n) = _
 rw [bitsTo_pack h, Int.toNat_natCast, List.length_append, vbits_length]; rfl
theorem vbits_one {v : Int} (h : v = 0 ∨ v = 1) : vbits v 1 = [v] := by
 rw [vbits_succ, vbits_zero]; simp; omega
theorem hwrite {l L : List Int} (hL : Bits01 L) (hr : rightH l = true) (s : Int) (t : Nat) (hs : s = (t : Int)) (ht : t < l.length) (hu : 0 < bk l t) (hlen : L.length + 16 ≤ 32000) (k : Nat) (hk : 1600 < k) :
  Fk_.f k (pack L) (L.length : Int) l s = some (pack (L ++ codeB l t), ((L ++ codeB l t).length : Int), 0) := by
 have h16 := inl_at (right_inl hr) t
 have h64 : l.length ≤ 64 := (whole_right hr).2.1
 rcases write_spec l hL o_ s o_ k hk with ⟨u, e, _, h1, h2, h3⟩ | ⟨h1, _⟩
 ·obtain rfl : u = t := by omega
  rw [h3, if_pos o_, List.length_append, codeB_length]
 ·exact absurd hu (h1 hr t hs ht)
theorem residue_eq {rs L : List Int} (hL : Bits01 L) (hr : rightH rs = true) (h16 : rs.length = 16) (he : 0 < rd rs 15) (v : Int) (hv : resOk v = true) (hlen : L.length + 39 ≤ 32000) (k : Nat) (hk : 1610 < k) :
  FL_.f k (pack L) (L.length : Int) rs v = some (pack (L ++ resB rs v), ((L ++ resB rs v).length : Int)) := by
 obtain ⟨k, rfl⟩ := s1_ k
 have hv' : -4194303 ≤ v ∧ v ≤ 4194303 := by simpa [resOk] using hv
 have he' : 0 < bk rs 15 := he
 have hp : (2 : Int) ^ 22 = 4194304 := by decide
 have esc : near rs v = false → FL_.j0 (k + 1) rs v false (pack L) (L.length : Int) = some (pack (L ++ resB rs v), ((L ++ resB rs v).length : Int)) := by
  intro hn
  have c15 := len16 hr 15
  have hb := codeB_bits rs 15
  unfold resB
  rw [hn, if_neg (by decide)]
  simp only [FL_.j0, Bool.false_eq_true, if_false]
  rw [hwrite hL hr 15 15 rfl o_ he' o_ k o_, Option.bind_some]
  by_cases c : v < 0
  ·rw [if_pos c, if_pos c, if_pos c, put17 (bits_append hL hb) 1 1 1 rfl (by rw [List.length_append]; omega) o_ o_ (by decide) k o_, Option.bind_some]
   have hm : IntKind.u64.wrap (mx v (wrap64 (-v))) = -v := by
    rw [w64 o_ o_, show mx v (-v) = -v by unfold mx; omega, u64w o_ o_]
   rw [hm, vbits_one (.inr rfl)]
   have := put17 (bits_append (bits_append hL hb) (bit_cons (.inr rfl) (fun x hx => by cases hx) : Bits01 [1])) (-v) 22 22 rfl ln_ o_ o_ o_ k o_
   simp only
   rw [this, Option.bind_some]
   simp only [List.append_assoc, List.singleton_append, List.cons_append, List.nil_append]
  ·rw [if_neg c, if_neg c, if_neg c, put17 (bits_append hL hb) 0 1 1 rfl (by rw [List.length_append]; omega) o_ o_ (by decide) k o_, Option.bind_some]
   have hm : IntKind.u64.wrap (mx v (wrap64 (-v))) = v := by
    rw [w64 o_ o_, show mx v (-v) = v by unfold mx; omega, u64w o_ o_]
   rw [hm, vbits_one (.inl rfl)]
   have := put17 (bits_append (bits_append hL hb) (bit_cons (.inl rfl) (fun x hx => by cases hx) : Bits01 [0])) v 22 22 rfl ln_ o_ o_ o_ k o_
   simp only
   rw [this, Option.bind_some]
   simp only [List.append_assoc, List.singleton_append, List.cons_append, List.nil_append]
 unfold FL_.f
 by_cases c1 : v ≥ -7
 ·rw [if_pos c1]
  by_cases c2 : v ≤ 7
  ·rw [if_pos c2, w64 (x := v + 7) o_ o_, if_pos o_, if_pos o_]
   by_cases c3 : rd rs (v + 7) > 0
   ·have hn : near rs v = true := by unfold near; rw [decide_eq_true ⟨c1, c2⟩, decide_eq_true c3]; rfl
    rw [decide_eq_true c3]
    simp only [FL_.j0, if_true]
    have ht : bk rs (v + 7).toNat = rd rs (v + 7) := by unfold bk; rw [Int.toNat_of_nonneg o_]
    rw [w64 (x := v + 7) o_ o_, hwrite hL hr (v + 7) (v + 7).toNat o_ o_ o_ o_ k o_, Option.bind_some]
    unfold resB
    rw [hn, if_pos rfl]
   ·rw [decide_eq_false c3]
    exact esc (by unfold near; rw [decide_eq_false (p := 0 < rd rs (v + 7)) c3, Bool.and_false])
  ·rw [if_neg c2]
   exact esc (by unfold near; rw [decide_eq_false (p := -7 ≤ v ∧ v ≤ 7) (fun h => c2 h.2)]; rfl)
 ·rw [if_neg c1]
  exact esc (by unfold near; rw [decide_eq_false (p := -7 ≤ v ∧ v ≤ 7) (fun h => c1 h.1)]; rfl)
theorem write_l3 {rs : List Int} (hr : rightH rs = true) (h16 : rs.length = 16) (he : 0 < rd rs 15) (c q : Int) (fl : List Int) (R : List (List Int)) (n i : Int) (r : List Int) (hrl : r.length ≤ 1000) (X : List Int × Int) (N : Nat) (d : Nat) :
  ∀ (j k : Nat) (L : List Int), j + d = r.length → (r.drop j).all resOk = true → Bits01 L → L.length + 39 * d ≤ 32000 → N + d + 1 ≤ k ∧ d + 1620 ≤ k →
  (∀ k', N ≤ k' → Fj_.l2 k' R n (wrap64 (i + 1)) c q fl rs (pack (L ++ resL rs (r.drop j))) ((L ++ resL rs (r.drop j)).length : Int) = some X) →
  Fj_.l3 k R n i r (r.length : Int) (j : Int) c q fl rs (pack L) (L.length : Int) = some X := by
 induction d with
 | zero =>
  intro j k L hj ha hL hlen hk hF
  obtain ⟨k, rfl⟩ : ∃ m, k = m + 1 := ⟨k - 1, by omega⟩
  have h := hF k o_
  rw [List.drop_eq_nil_of_le o_, resL, List.append_nil] at h
  simp only [Fj_.l3]
  rw [if_neg o_]
  exact h
 | succ d ih =>
  intro j k L hj ha hL hlen hk hF
  obtain ⟨k, rfl⟩ : ∃ m, k = m + 1 := ⟨k - 1, by omega⟩
  have hjl : j < r.length := by omega
  rw [List.drop_eq_getElem_cons hjl, List.all_cons, Bool.and_eq_true] at ha
  have h39 := resB_len hr r[j]
  simp only [Fj_.l3]
  rw [if_pos o_, if_pos o_, if_pos o_, rd_get r j hjl, residue_eq hL hr h16 he r[j] ha.1 o_ k o_, Option.bind_some, w64 (x := (j : Int) + 1) o_ o_]
  refine ih (j + 1) k (L ++ resB rs r[j]) o_ ha.2 (bits_append hL (resB_bits rs _)) (by rw [List.length_append]; omega) o_ (fun k' hk' => ?_)
  have h := hF k' hk'
  rw [List.drop_eq_getElem_cons hjl, resL, ← List.append_assoc] at h
  exact h
theorem write_l2 {fl rs : List Int} (hr : rightH rs = true) (h16 : rs.length = 16) (he : 0 < rd rs 15) (c q : Int) (R : List (List Int)) (hR : R.length ≤ 100) (d : Nat) :
  ∀ (i k : Nat) (L : List Int), i + d = R.length → (∀ r ∈ R.drop i, r.length ≤ 16 ∧ r.all resOk = true) → Bits01 L → L.length + 624 * d ≤ 32000 → 20 * d + 1700 ≤ k →
  Fj_.l2 k R (R.length : Int) (i : Int) c q fl rs (pack L) (L.length : Int) = some (pack (L ++ allR rs (R.drop i)), 0) := by
 induction d with
 | zero =>
  intro i k L hi ha hL hlen hk
  obtain ⟨k, rfl⟩ : ∃ m, k = m + 1 := ⟨k - 1, by omega⟩
  simp only [Fj_.l2]
  rw [if_neg o_, List.drop_eq_nil_of_le o_, allR, List.append_nil]
 | succ d ih =>
  intro i k L hi ha hL hlen hk
  obtain ⟨k, rfl⟩ : ∃ m, k = m + 1 := ⟨k - 1, by omega⟩
  have hil : i < R.length := by omega
  have hw : wrap64 ((i : Int) + 1) = ((i + 1 : Nat) : Int) := by rw [w64 o_ o_]; rfl
  rw [List.drop_eq_getElem_cons hil] at ha ⊢
  have h0 := ha R[i] (List.mem_cons_self ..)
  have hlr := resL_len hr R[i]
  simp only [Fj_.l2]
  rw [if_pos o_, if_pos o_, if_pos o_, L5_at R i hil, allR, ← List.append_assoc]
  have := write_l3 hr h16 he c q fl R (R.length : Int) (i : Int) R[i] o_ (pack (L ++ resL rs R[i] ++ allR rs (R.drop (i + 1))), 0) (20 * d + 1700) (R[i]).length 0 k L o_ (by rw [List.drop_zero]; exact h0.2) hL o_ o_
   (fun k' hk' => by
    rw [hw, List.drop_zero]
    exact ih (i + 1) k' (L ++ resL rs R[i]) o_ (fun r hr => ha r (List.mem_cons_of_mem _ hr)) (bits_append hL (resL_bits rs _)) (by rw [List.length_append]; omega) hk')
  exact this
theorem postOk_use {fl : List Int} (hfl : fl.length = 45) (hr : rightH fl = true) {g : Int} (h : postOk fl g = true) : 0 ≤ g ∧ g ≤ 44 ∧ g = (g.toNat : Int) ∧ g.toNat < fl.length ∧ 0 < bk fl g.toNat := by
 simp only [postOk, Bool.and_eq_true, decide_eq_true_eq] at h
 have h1 := inl_at (right_inl hr) g.toNat
 have h2 : bk fl g.toNat = rd fl g := by unfold bk; rw [Int.toNat_of_nonneg o_]
 omega
theorem write_l1 {fl : List Int} (hfl : fl.length = 45) (hr : rightH fl = true) (c q : Int) (rs : List Int) (P R Q : List (List Int)) (n i : Int) (p : List Int) (hpl : p.length ≤ 1000) (X : List Int × Int) (N : Nat) (d : Nat) :
  ∀ (j k : Nat) (L : List Int), j + d = p.length → (p.drop j).all (postOk fl) = true → Bits01 L → L.length + 16 * d ≤ 32000 → N + d + 1 ≤ k ∧ d + 1620 ≤ k →
  (∀ k', N ≤ k' → Fj_.l0 k' P n (wrap64 (i + 1)) c q fl rs Q R (pack (L ++ flat fl (p.drop j))) ((L ++ flat fl (p.drop j)).length : Int) = some X) →
  Fj_.l1 k P n i p (p.length : Int) (j : Int) c q fl rs Q R (pack L) (L.length : Int) = some X := by
 induction d with
 | zero =>
  intro j k L hj ha hL hlen hk hF
  obtain ⟨k, rfl⟩ : ∃ m, k = m + 1 := ⟨k - 1, by omega⟩
  have h := hF k o_
  rw [List.drop_eq_nil_of_le o_, flat, List.append_nil] at h
  simp only [Fj_.l1]
  rw [if_neg o_]
  exact h
 | succ d ih =>
  intro j k L hj ha hL hlen hk hF
  obtain ⟨k, rfl⟩ : ∃ m, k = m + 1 := ⟨k - 1, by omega⟩
  have hjl : j < p.length := by omega
  rw [List.drop_eq_getElem_cons hjl, List.all_cons, Bool.and_eq_true] at ha
  have h16 := len16 hr (p[j]).toNat
  obtain ⟨g0, g1, g2, g3, g4⟩ := postOk_use hfl hr ha.1
  simp only [Fj_.l1]
  rw [if_pos o_, if_pos o_, if_pos o_, rd_get p j hjl, hwrite hL hr p[j] (p[j]).toNat g2 g3 g4 o_ k o_, Option.bind_some, w64 (x := (j : Int) + 1) o_ o_]
  refine ih (j + 1) k (L ++ codeB fl (p[j]).toNat) o_ ha.2 (bits_append hL (codeB_bits fl _)) (by rw [List.length_append]; omega) o_ (fun k' hk' => ?_)
  have h := hF k' hk'
  rw [List.drop_eq_getElem_cons hjl, flat, ← List.append_assoc] at h
  exact h
theorem write_l0 {fl rs : List Int} (hfl : fl.length = 45) (hrf : rightH fl = true) (hr : rightH rs = true) (h16 : rs.length = 16) (he : 0 < rd rs 15) (c q : Int) (P Q R : List (List Int)) (hP : P.length ≤ 10) (hRl : R.length ≤ 10) (hR : ∀ r ∈ R, r.length ≤ 16 ∧ r.all resOk = true) (d : Nat) :
  ∀ (i k : Nat) (L : List Int), i + d = P.length → (∀ p ∈ P.drop i, p.length ≤ 6 ∧ p.all (postOk fl) = true) → Bits01 L → L.length + 97 * d + 624 * R.length ≤ 32000 → 20 * d + 20 * R.length + 1800 ≤ k →
  Fj_.l0 k P (P.length : Int) (i : Int) c q fl rs Q R (pack L) (L.length : Int) = some (pack (L ++ allP fl (P.drop i) ++ allR rs R), 0) := by
 induction d with
 | zero =>
  intro i k L hi ha hL hlen hk
  obtain ⟨k, rfl⟩ : ∃ m, k = m + 1 := ⟨k - 1, by omega⟩
  simp only [Fj_.l0]
  rw [if_neg o_, List.drop_eq_nil_of_le o_, allP, List.append_nil]
  have := write_l2 (fl := fl) hr h16 he c q R o_ R.length 0 k L o_ (by rw [List.drop_zero]; exact hR) hL o_ o_
  rw [List.drop_zero] at this
  exact this
 | succ d ih =>
  intro i k L hi ha hL hlen hk
  obtain ⟨k, rfl⟩ : ∃ m, k = m + 1 := ⟨k - 1, by omega⟩
  have hil : i < P.length := by omega
  have hw : wrap64 ((i : Int) + 1) = ((i + 1 : Nat) : Int) := by rw [w64 o_ o_]; rfl
  rw [List.drop_eq_getElem_cons hil] at ha ⊢
  have h0 := ha P[i] (List.mem_cons_self ..)
  have hpl := postsB_len hrf h0.1
  have hfl2 := flat_len hrf P[i]
  simp only [Fj_.l0]
  rw [if_pos o_, if_pos o_, if_pos o_, L1_at' P i hil, allP, ← List.append_assoc]
  have nx : ∀ k', 20 * d + 20 * R.length + 1800 ≤ k' → Fj_.l0 k' P (P.length : Int) (wrap64 ((i : Int) + 1)) c q fl rs Q R (pack (L ++ postsB fl P[i])) ((L ++ postsB fl P[i]).length : Int) = some (pack (L ++ postsB fl P[i] ++ allP fl (P.drop (i + 1)) ++ allR rs R), 0) := by
   intro k' hk'
   rw [hw]
   exact ih (i + 1) k' _ o_ (fun r hr => ha r (List.mem_cons_of_mem _ hr)) (bits_append hL (postsB_bits fl _)) (by rw [List.length_append]; omega) hk'
  by_cases c0 : (P[i]).length = 0
  ·have e : postsB fl P[i] = [0] := by unfold postsB; rw [if_pos c0]
   rw [e] at nx ⊢
   rw [if_pos o_, put17 hL 0 1 1 rfl o_ o_ o_ (by decide) k o_, Option.bind_some, vbits_one (.inl rfl)]
   exact nx k o_
  ·have e : postsB fl P[i] = 1 :: flat fl P[i] := by unfold postsB; rw [if_neg c0]
   rw [e] at nx ⊢
   rw [if_neg o_, put17 hL 1 1 1 rfl o_ o_ o_ (by decide) k o_, Option.bind_some, vbits_one (.inr rfl)]
   refine write_l1 hfl hrf c q rs P R Q (P.length : Int) (i : Int) P[i] o_ _ (20 * d + 20 * R.length + 1800) (P[i]).length 0 k (L ++ [1]) o_ (by rw [List.drop_zero]; exact h0.2) (bits_append hL (bit_cons (.inr rfl) (fun x hx => by cases hx))) (by rw [List.length_append, List.length_singleton]; omega) o_ (fun k' hk' => ?_)
   rw [List.drop_zero, List.append_assoc, List.singleton_append]
   exact nx k' hk'
theorem chans_rows {fl : List Int} : ∀ P R : List (List Int), P.length = R.length → chansOk fl P R = true → (∀ p ∈ P, p.length ≤ 6 ∧ p.all (postOk fl) = true) ∧ (∀ r ∈ R, r.length ≤ 16 ∧ r.all resOk = true)
 | [], R, hl, _ => by
  have : R = [] := List.eq_nil_of_length_eq_zero (by simpa using hl.symm)
  subst this
  exact And.intro (fun p hp => absurd hp (by simp)) (fun r hr => absurd hr (by simp))
 | p :: P, [], hl, _ => by simp at hl
 | p :: P, r :: R, hl, hc => by
  simp only [chansOk, Bool.and_eq_true] at hc
  have h1 := chans_rows P R (by simpa using hl) hc.2
  have h2 : (p.length ≤ 6 ∧ p.all (postOk fl) = true) ∧ (r.length ≤ 16 ∧ r.all resOk = true) := by
   have := hc.1
   simp only [chanOk, Bool.or_eq_true, Bool.and_eq_true, decide_eq_true_eq] at this
   rcases this with ⟨a, b⟩ | ⟨⟨⟨a, b⟩, c⟩, d⟩
   ·have a' : p = [] := List.eq_nil_of_length_eq_zero a
    have b' : r = [] := List.eq_nil_of_length_eq_zero b
    subst a' b'
    simp
   ·exact ⟨⟨by omega, b⟩, by omega, d⟩
  refine ⟨fun x hx => ?_, fun x hx => ?_⟩
  ·rcases List.mem_cons.1 hx with rfl | hx
   ·exact h2.1
   ·exact h1.1 x hx
  ·rcases List.mem_cons.1 hx with rfl | hx
   ·exact h2.2
   ·exact h1.2 x hx
def writeBd (c q : Int) (fl rs : List Int) (P R : List (List Int)) : List Int × Int := if rightBd c q fl rs P R = true then (pack (bodyB fl rs P R), 0) else ([], 1)
theorem writeBd_eq (c q : Int) (fl rs : List Int) (P R : List (List Int)) (hP : ∀ p ∈ P, p.length ≤ 1000) (hR : ∀ r ∈ R, r.length ≤ 1000) (k : Nat) (hk : 5000 ≤ k) : Fj_.f k c q fl rs P R = some (writeBd c q fl rs P R) := by
 unfold Fj_.f writeBd
 rw [bdRight_eq c q fl rs P R hP hR k hk, Option.bind_some]
 by_cases h : rightBd c q fl rs P R = true
 ·rw [if_pos h, if_pos h]
  obtain ⟨b1, b2, b3, b4⟩ := rightBd_parts h
  obtain ⟨a1, a2, a3, a4, a5, a6, a7, a8, a9⟩ := right_parts b1
  have hrow := chans_rows P R o_ b4
  have := write_l0 (rs := rs) a5 a7 a8 a6 a9 c q P P R o_ o_ hrow.2 P.length 0 k [] o_ (by rw [List.drop_zero]; exact hrow.1) (fun x hx => by cases hx) (by rw [List.length_nil]; omega) o_
  rw [List.drop_zero, List.nil_append] at this
  exact this
 ·rw [if_neg h, if_neg h]
def Has (B : List Int) (a : Nat) (X : List Int) : Prop := a + X.length ≤ 8 * B.length ∧ ∀ i, i < X.length → bitN B (a + i) = nth X i
theorem has_pack {L : List Int} (h : Bits01 L) : Has (pack L) 0 L := ⟨by rw [pack_length]; omega, fun i _ => by rw [bitN_pack h, Nat.zero_add]⟩
theorem has_left {B X Y : List Int} {a : Nat} (h : Has B a (X ++ Y)) : Has B a X := by
 obtain ⟨h1, h2⟩ := h
 rw [List.length_append] at h1 h2
 refine ⟨by omega, fun i hi => ?_⟩
 rw [h2 i o_, nth_append, if_pos hi]
theorem has_right {B X Y : List Int} {a : Nat} (h : Has B a (X ++ Y)) : Has B (a + X.length) Y := by
 obtain ⟨h1, h2⟩ := h
 rw [List.length_append] at h1 h2
 refine ⟨by omega, fun i hi => ?_⟩
 have := h2 (X.length + i) o_
 rw [nth_append, if_neg o_, Nat.add_sub_cancel_left] at this
 rw [Nat.add_assoc]; exact this
theorem has_cons {B X : List Int} {a : Nat} {b : Int} (h : Has B a (b :: X)) : a + 1 ≤ 8 * B.length ∧ bitN B a = b ∧ Has B (a + 1) X := by
 have h1 := h.1
 have h2 := h.2 0 (by rw [List.length_cons]; omega)
 rw [List.length_cons] at h1
 exact ⟨by omega, h2, has_right (X := [b]) h⟩
theorem has_vl {B : List Int} {a n : Nat} {v : Int} (h : Has B a (vbits v n)) (h0 : 0 ≤ v) (h1 : v < 2 ^ n) : vl B a n = v := by
 have := seg_of h.1 h.2
 rw [vbits_length] at this
 unfold vl
 rw [this, numOf_vbits, Int.emod_eq_of_lt h0 h1]
theorem at_has {l B : List Int} {a s : Nat} (hr : rightH l = true) (hs : s < l.length) (hu : 0 < bk l s) (h : Has B a (codeB l s)) : At l B a s := by
 obtain ⟨h1, h2⟩ := h
 rw [codeB_length] at h1 h2
 obtain ⟨c1, c2, c3, c4⟩ := code_range l hr s hs hu
 refine ⟨hs, hu, by omega, ?_⟩
 refine (hi_congr (a' := 0) (fun i hi => ?_)).trans (hi_bits _ _ c1 c2)
 rw [h2 i hi]
 unfold codeB hbits
 rw [nth_map_range, if_pos hi, Nat.zero_add]
theorem blen_eq (l : List Int) (s : Nat) : blen l s = (codeB l s).length := (codeB_length l s).symm
theorem sym_has {l B : List Int} {a s : Nat} (hr : rightH l = true) (hs : s < l.length) (hu : 0 < bk l s) (h : Has B a (codeB l s)) : sym l B a = some s := sym_some hr (at_has hr hs hu h)
theorem post_at {fl : List Int} (hr : rightH fl = true) (hl : fl.length = 45) {g : Int} (h : postOk fl g = true) : ((g.toNat : Nat) : Int) = g ∧ g.toNat < fl.length ∧ 0 < bk fl g.toNat := by
 simp only [postOk, Bool.and_eq_true, decide_eq_true_eq] at h
 have e : ((g.toNat : Nat) : Int) = g := by omega
 have h2 := inl_at (right_inl hr) g.toNat
 have h3 : bk fl g.toNat = rd fl g := by unfold bk; rw [e]
 exact ⟨e, by omega, by omega⟩
theorem postsS_has {fl B : List Int} (hr : rightH fl = true) (hl : fl.length = 45) : ∀ (p : List Int) (a : Nat) (acc : List Int), p.all (postOk fl) = true → Has B a (flat fl p) → postsS fl B p.length a acc = (0, a + (flat fl p).length, acc ++ p)
 | [], a, acc, _, _ => by simp [postsS, flat]
 | g :: p, a, acc, hp, h => by
  rw [List.all_cons, Bool.and_eq_true] at hp
  obtain ⟨e1, e2, e3⟩ := post_at hr hl hp.1
  rw [flat] at h
  have hs := sym_has hr e2 e3 (has_left h)
  have ih := postsS_has hr hl p (a + blen fl g.toNat) (acc ++ [((g.toNat : Nat) : Int)]) hp.2 (by rw [blen_eq]; exact has_right h)
  rw [List.length_cons, postsS, hs]
  simp only
  rw [ih, blen_eq, e1, flat, List.length_append, List.append_assoc, Nat.add_assoc]; rfl
theorem chan_posts {fl p r : List Int} (h : chanOk fl p r = true) : (p = [] ∧ r = []) ∨ (p.length = 6 ∧ p.all (postOk fl) = true ∧ r.length = 16 ∧ r.all resOk = true) := by
 simp only [chanOk, Bool.or_eq_true, Bool.and_eq_true, decide_eq_true_eq] at h
 rcases h with h | h
 ·exact .inl ⟨List.length_eq_zero_iff.1 h.1, List.length_eq_zero_iff.1 h.2⟩
 ·exact .inr ⟨h.1.1.1, h.1.1.2, h.1.2, h.2⟩
theorem chansS_has {fl B : List Int} (hr : rightH fl = true) (hl : fl.length = 45) : ∀ (P R : List (List Int)) (a : Nat) (acc : List (List Int)), P.length = R.length → chansOk fl P R = true → Has B a (allP fl P) → chansS fl B P.length a acc = (0, a + (allP fl P).length, acc ++ P)
 | [], _, a, acc, _, _, _ => by simp [chansS, allP]
 | p :: P, [], _, _, hl2, _, _ => by simp at hl2
 | p :: P, r :: R, a, acc, hl2, hc, h => by
  simp only [chansOk, Bool.and_eq_true] at hc
  have hl3 : P.length = R.length := by simpa using hl2
  rw [allP] at h
  have hL := has_left h
  have hR := has_right h
  rw [List.length_cons, chansS]
  rcases chan_posts hc.1 with ⟨e1, _⟩ | ⟨e1, e2, _, _⟩
  ·subst e1
   have e : postsB fl [] = [0] := rfl
   rw [e] at hL hR
   obtain ⟨b1, b2, _⟩ := has_cons hL
   rw [if_neg o_, if_neg o_, chansS_has hr hl P R (a + 1) (acc ++ [[]]) hl3 hc.2 hR, allP, e, List.length_append, List.append_assoc, Nat.add_assoc]; rfl
  ·have e : postsB fl p = 1 :: flat fl p := by unfold postsB; rw [if_neg o_]
   rw [e] at hL hR
   obtain ⟨b1, b2, b3⟩ := has_cons hL
   have ep := postsS_has hr hl p (a + 1) [] e2 b3
   rw [e1, List.nil_append] at ep
   rw [if_neg o_, if_pos b2, ep]
   simp only
   rw [List.length_cons] at hR
   rw [if_pos trivial, show a + 1 + (flat fl p).length = a + ((flat fl p).length + 1) by omega, chansS_has hr hl P R _ (acc ++ [p]) hl3 hc.2 hR, allP, e, List.length_append, List.length_cons, List.append_assoc, Nat.add_assoc]; rfl
theorem near_at {rs : List Int} {v : Int} (h : near rs v = true) : -7 ≤ v ∧ v ≤ 7 ∧ 0 < bk rs (v + 7).toNat := by
 simp only [near, Bool.and_eq_true, decide_eq_true_eq] at h
 have e : (((v + 7).toNat : Nat) : Int) = v + 7 := by omega
 have h3 : bk rs (v + 7).toNat = rd rs (v + 7) := by unfold bk; rw [e]
 exact ⟨h.1.1, h.1.2, by omega⟩
theorem valS_has {rs B : List Int} (hr : rightH rs = true) (hl : rs.length = 16) (h15 : 0 < rd rs 15) {v : Int} (hv : resOk v = true) {a : Nat} (h : Has B a (resB rs v)) : valS rs B a = (0, a + (resB rs v).length, v) := by
 simp only [resOk, decide_eq_true_eq] at hv
 unfold valS
 by_cases hn : near rs v = true
 ·have e : resB rs v = codeB rs (v + 7).toNat := by unfold resB; rw [if_pos hn]
  rw [e] at h ⊢
  obtain ⟨n1, n2, n3⟩ := near_at hn
  rw [sym_has hr o_ n3 h]
  simp only
  rw [if_neg o_, blen_eq, show (((v + 7).toNat : Nat) : Int) - 7 = v by omega]
 ·have e : resB rs v = codeB rs 15 ++ ((if v < 0 then 1 else 0) :: vbits (if v < 0 then -v else v) 22) := by unfold resB; rw [if_neg hn]
  rw [e] at h ⊢
  have hs15 : (15 : Nat) < rs.length := by rw [hl]; decide
  rw [sym_has hr hs15 h15 (has_left h)]
  simp only
  rw [if_pos trivial, blen_eq]
  obtain ⟨b1, b2, b3⟩ := has_cons (has_right h)
  have hlen : ((if v < 0 then (1 : Int) else 0) :: vbits (if v < 0 then -v else v) 22).length = 23 := by rw [List.length_cons, vbits_length]
  have b4 := b3.1
  rw [vbits_length] at b4
  rw [List.length_append, hlen]
  unfold escS
  rw [if_neg o_, if_neg o_]
  by_cases c : v < 0
  ·rw [if_pos c] at b2 b3
   rw [has_vl b3 o_ o_, if_pos b2, if_neg o_, show - -v = v by omega, Nat.add_assoc]
  ·rw [if_neg c] at b2 b3
   rw [has_vl b3 o_ o_, if_neg o_, Nat.add_assoc]
theorem resS_has {rs B : List Int} (hr : rightH rs = true) (hl : rs.length = 16) (h15 : 0 < rd rs 15) : ∀ (r : List Int) (a : Nat) (acc : List Int), r.all resOk = true → Has B a (resL rs r) → resS rs B r.length a acc = (0, a + (resL rs r).length, acc ++ r)
 | [], a, acc, _, _ => by simp [resS, resL]
 | v :: r, a, acc, hv, h => by
  rw [List.all_cons, Bool.and_eq_true] at hv
  rw [resL] at h
  have e := valS_has hr hl h15 hv.1 (has_left h)
  rw [List.length_cons, resS, e]
  simp only
  rw [if_pos trivial, resS_has hr hl h15 r _ (acc ++ [v]) hv.2 (has_right h), resL, List.length_append, List.append_assoc, Nat.add_assoc]; rfl
theorem allS_has {fl rs B : List Int} (hr : rightH rs = true) (hl : rs.length = 16) (h15 : 0 < rd rs 15) : ∀ (P R : List (List Int)) (a : Nat) (acc : List (List Int)), P.length = R.length → chansOk fl P R = true → Has B a (allR rs R) → allS rs B P a acc = (0, a + (allR rs R).length, acc ++ R)
 | [], [], a, acc, _, _, _ => by simp [allS, allR]
 | [], r :: R, _, _, hl2, _, _ => by simp at hl2
 | p :: P, [], _, _, hl2, _, _ => by simp at hl2
 | p :: P, r :: R, a, acc, hl2, hc, h => by
  simp only [chansOk, Bool.and_eq_true] at hc
  have hl3 : P.length = R.length := by simpa using hl2
  rw [allR] at h
  have hL := has_left h
  have hR := has_right h
  rw [allS]
  rcases chan_posts hc.1 with ⟨e1, e2⟩ | ⟨e1, _, e2, e3⟩
  ·subst e1 e2
   rw [if_pos (show ([] : List Int).length = 0 from rfl)]
   rw [allS_has hr hl h15 P R a (acc ++ [[]]) hl3 hc.2 hR, allR, List.append_assoc]; rfl
  ·have ep := resS_has hr hl h15 r a [] e3 hL
   rw [e2, List.nil_append] at ep
   rw [if_neg o_, ep]
   simp only
   rw [if_pos trivial, allS_has hr hl h15 P R _ (acc ++ [r]) hl3 hc.2 hR, allR, List.length_append, List.append_assoc, Nat.add_assoc]; rfl
theorem endS_pack {L : List Int} (h : Bits01 L) (P R : List (List Int)) : endS (pack L) L.length P R = (P, R, 0) := by
 have hl := pack_length L
 unfold endS
 rw [if_neg o_, if_pos ?_]
 have e := seg_of (B := pack L) (M := vbits 0 (8 * (pack L).length - L.length)) (a := L.length) (by rw [vbits_length]; omega) (fun i _ => by
  rw [bitN_pack h, nth_ge o_]
  unfold vbits
  rw [nth_map_range]; split
  ·simp
  ·rfl)
 rw [vbits_length] at e
 unfold vl
 rw [e, numOf_vbits]; simp
theorem back {c q : Int} {fl rs : List Int} {P R : List (List Int)} (h : rightBd c q fl rs P R = true) : readBd c q fl rs (pack (bodyB fl rs P R)) = (P, R, 0) := by
 obtain ⟨h1, h2, h3, h4⟩ := rightBd_parts h
 obtain ⟨a1, a2, a3, a4, a5, a6, a7, a8, a9⟩ := right_parts h1
 have hb := bodyB_bits fl rs P R
 have hh := has_pack hb
 have hP := has_left (X := allP fl P) (Y := allR rs R) hh
 have hR := has_right (X := allP fl P) (Y := allR rs R) hh
 have hl2 : P.length = R.length := by omega
 have e1 := chansS_has a7 a5 P R 0 [] hl2 h4 hP
 have e2 := allS_has (fl := fl) a8 a6 a9 P R (0 + (allP fl P).length) [] hl2 h4 hR
 unfold readBd
 rw [if_pos h1, show c.toNat = P.length by omega, e1]
 unfold tailP
 simp only
 rw [if_pos trivial, List.nil_append, e2]
 unfold tailR
 simp only
 rw [if_pos trivial, List.nil_append, Nat.zero_add, ← List.length_append]
 exact endS_pack hb P R
end Go.Proofs.Ytdajlfijkbafiaa.LK
namespace Go.Proofs.Ytdajlfijkbafiaa.Pure
open Go.RowKit Go.Proofs.YtdajlfijkbafiaaW.PrintWords Go.Proofs.YtdajlfijkbafiaaW.PrintLast Go.Proofs.YtdajlfijkbafiaaW.PrintMore Go.Proofs.Ytdajlfijkbafiaa.P Go.Proofs.Ytdajlfijkbafiaa.LB Go.Proofs.Ytdajlfijkbafiaa.LW
theorem VoiceWrites : Fu_.Pure := by
 intro c q fl rs X _ _ _ _ hX
 obtain ⟨K, hK⟩ : ∃ K : Nat, X.length + 100000 ≤ K := ⟨_, Nat.le_refl _⟩
 refine ⟨K, ?_⟩
 unfold Fu_.f
 obtain ⟨b, hg, hb⟩ := great22 c q fl rs X hX.1 K o_
 rw [hg, Option.bind_some, knows22 K o_]
 cases b
 ·obtain ⟨h1, h2⟩ := hb rfl
  have hx : ∀ x ∈ X, x.length ≤ 1000 := fun x hx => Nat.le_trans (h1 x hx) o_
  rw [if_neg (by decide), encode_eq X o_ hx uses_of K o_, Option.bind_some]
  cases h : rightF c q fl rs X
  ·rw [if_neg (show ¬ (false = true) by decide), if_neg (show ¬ ((([] : List (List Int)), ([] : List (List Int)), (1 : Int)).2.2 = 0) by decide), if_pos (show ((([] : List (List Int)), ([] : List (List Int)), (1 : Int)).1.length : Int) = 0 from rfl)]; rfl
  ·obtain ⟨s1, s2, s3, s4⟩ := enc_small h
   have hr := enc_right h
   have hlen := LK.bodyB_len hr
   have hpl := BT.pack_length (LK.bodyB fl rs (encPs fl q X) (encRs fl q X))
   rw [if_pos rfl, if_pos rfl]
   show (Fj_.f K c q fl rs (encPs fl q X) (encRs fl q X)).bind _ = _
   rw [LK.writeBd_eq c q fl rs (encPs fl q X) (encRs fl q X) s3 s4 K o_, Option.bind_some]
   unfold LK.writeBd Gz_.f
   rw [if_pos hr]
   show (Fb_.f K c q fl rs (BT.pack (LK.bodyB fl rs (encPs fl q X) (encRs fl q X)))).bind _ = _
   rw [LK.readBd_eq (BT.pack_bytes (LK.bodyB_bits fl rs (encPs fl q X) (encRs fl q X))) (by rw [hpl]; omega) c q fl rs K o_, LK.back hr, Option.bind_some]
   show (Fd_.f K c q fl rs (encPs fl q X) (encRs fl q X)).bind _ = _
   rw [LK.bdRight_eq c q fl rs (encPs fl q X) (encRs fl q X) s3 s4 K o_, Option.bind_some, if_pos hr, if_pos rfl, if_pos rfl, Option.bind_some, Option.bind_some]
   show (Fg_.f K (encPs fl q X) (encRs fl q X) (encPs fl q X) (encRs fl q X)).bind _ = _
   rw [LK.same17 _ _ s1 s2 s3 s4 K o_, Option.bind_some, if_pos rfl]; rfl
 ·rw [if_pos rfl]; rfl
end Go.Proofs.Ytdajlfijkbafiaa.Pure
namespace Go.Proofs.YtdajlfijkbafiaaW.Row
open Go.RowKit Go.Proofs.YtdajlfijkbafiaaW.PrintWords Go.Joins Go.WideShapes Go.ChangeShapes Go.Deep
/-- What comes in at type t reads as a kind's value, and is well formed. -/
def Opens {α : Type} (P : Program) (d : Kd α) (t : TypeId) (wf : α → Prop) : Prop :=
 ∀ {H : Type} {enc : TypeId × Value → H} {w : World} {base : Nat} {held : Bool} {fuel : Nat} {cs : List Value} {x : DataW H × List MemPlace},
  DataW.trod enc P w base (fun _ => true) held fuel t cs = some x → ∃ a, d.K w a cs ∧ wf a
variable {P : Program}
theorem opens_int {t : TypeId} {k : IntKind} (ht : P.underlying t = some (.int k)) : Opens P (Kd.int k) t (fun a => (Lit.int k a).wf = true) := by
 intro H enc w base held fuel cs x h
 obtain ⟨n, rfl, _, hw⟩ := DataW.trod_int ht h
 exact ⟨n, rfl, hw⟩
theorem list_of {β : Type} {p : Nat → β → Prop} (n : Nat) (h : ∀ i, i < n → ∃ y, p i y) : ∃ ys : List β, ys.length = n ∧ ∀ i y, ys[i]? = some y → p i y := by
 induction n with
 | zero => exact ⟨[], rfl, fun i y hy => by simp at hy⟩
 | succ n ih =>
  obtain ⟨ys, hl, hp⟩ := ih fun i hi => h i (by omega)
  obtain ⟨y, hy⟩ := h n (by omega)
  refine ⟨ys ++ [y], by simp [hl], fun i z hz => ?_⟩
  rcases Nat.lt_or_ge i ys.length with e | e
  ·rw [List.getElem?_append_left e] at hz; exact hp i z hz
  ·rw [List.getElem?_append_right e] at hz
   obtain ⟨h1, h2⟩ := List.getElem?_eq_some_iff.1 hz
   have : i = n := by simp at h1; omega
   subst this
   simp at h2; subst h2; exact hy
theorem opens_slice {α : Type} {d : Kd α} {t e : TypeId} {wf : α → Prop} (ht : P.underlying t = some (.slice e)) (ce : P.cellsOf e = d.sz) (h : Opens P d e wf) :
  Opens P (Kd.slice e d) t (fun l => l.length ≤ maxLen ∧ ∀ x ∈ l, wf x) := by
 intro H enc w base held fuel cs x hx
 rcases Deep.open_slice ht hx with ⟨rfl, _⟩ | ⟨a, len, cap, m, n, D, Pl, rfl, hb, hl, hm, hmm, _, hi⟩
 ·exact ⟨[], ⟨none, 0, rfl, Nat.le_refl _, Kd.C_nil d w⟩, by simp, fun x hx => by simp at hx⟩
 ·simp only [if_true] at hmm
  subst hmm
  have each : ∀ i, i < len → ∃ y : α × List Value, y.2.length = d.sz ∧ d.K w y.1 y.2 ∧ wf y.1 ∧ ∀ j u, y.2[j]? = some u → w.cell? (a.add (i * d.sz + j)) = some u := by
   intro i hlt
   obtain ⟨cs', h1, h2⟩ := hi i (by omega)
   obtain ⟨v, hK, hw⟩ := h h2
   obtain ⟨_, hlen, hcell⟩ := World.cells?_some h1
   rw [ce] at h1 hlen hcell
   refine ⟨(v, cs'), hlen, hK, hw, fun j u hj => ?_⟩
   have hjl : j < cs'.length := (List.getElem?_eq_some_iff.1 hj).1
   have := hcell j (by omega)
   rw [Addr.add_add] at this
   rw [this]; exact hj
  obtain ⟨ys, hyl, hy⟩ := list_of len each
  have hpts : ∀ (j : Nat) (p : α), (ys.map (·.1))[j]? = some p → ∃ c, (p, c) ∈ ys ∧ ys[j]? = some (p, c) := by
   intro j p hj
   rw [List.getElem?_map] at hj
   cases e : ys[j]? with
   | none => rw [e] at hj; cases hj
   | some z =>
     rw [e] at hj; obtain rfl : z.1 = p := by simpa using hj
     exact ⟨z.2, List.mem_of_getElem? e, rfl⟩
  refine ⟨ys.map (·.1), ⟨some a, m, by simp [hyl], by simpa [hyl] using hl, ?_⟩, ?_, ?_⟩
  ·refine ⟨rfl, ?_, fun hp => ⟨a, rfl, fun j p hj => ?_⟩⟩
   ·simp only [List.length_map]; unfold maxLen at hm; omega
   ·obtain ⟨c, _, hc⟩ := hpts j p hj
    obtain ⟨e1, e2, _, e4⟩ := hy j _ hc
    exact ⟨c, e1, e2, e4⟩
  ·simp only [List.length_map]; omega
  ·intro x hx
   obtain ⟨z, hz, rfl⟩ := List.mem_map.1 hx
   obtain ⟨i, hi', hi''⟩ := List.getElem_of_mem hz
   exact (hy i z (by rw [← hi'']; exact List.getElem?_eq_getElem hi')).2.2.1
theorem opens_struct2 {α β γ : Type} {d0 : Kd α} {d1 : Kd β} {t : TypeId} {f0 f1 : Field} {wf0 : α → Prop} {wf1 : β → Prop} (f : γ → α × β) (mk : α → β → γ) (hf : ∀ a b, f (mk a b) = (a, b))
  (ht : P.underlying t = some (.struct #[f0, f1])) (o0 : f0.offset = 0) (o1 : f1.offset = d0.sz) (c0 : P.cellsOf f0.type = d0.sz) (c1 : P.cellsOf f1.type = d1.sz) (ct : P.cellsOf t = d0.sz + d1.sz)
  (h0 : Opens P d0 f0.type wf0) (h1 : Opens P d1 f1.type wf1) : Opens P (Kd.iso (Kd.pair d0 d1) f) t (fun x => wf0 (f x).1 ∧ wf1 (f x).2) := by
 intro H enc w base held fuel cs x hx
 obtain ⟨y0, y1, n, _, hlen, e0, e1⟩ := trod_struct2 ht hx
 rw [o0, c0, List.drop_zero] at e0
 rw [o1, c1] at e1
 obtain ⟨a, hA, wA⟩ := h0 e0
 obtain ⟨b, hB, wB⟩ := h1 e1
 refine ⟨mk a b, ?_, by show wf0 (f (mk a b)).1 ∧ wf1 (f (mk a b)).2; rw [hf]; exact ⟨wA, wB⟩⟩
 show (Kd.pair d0 d1).K w (f (mk a b)) cs
 rw [hf]
 refine ⟨_, _, ?_, hA, hB⟩
 rw [ct] at hlen
 rw [List.take_of_length_le (l := cs.drop d0.sz) (by rw [List.length_drop]; omega), List.take_append_drop]
variable {H : Type} {enc : TypeId × Value → H} {w : World} {base : Nat} {spare : Nat → Bool} {held : Bool}
theorem open_agg1 {r : Reach} {b0 : Nat} {t : TypeId} {f0 : Field} {v : Value} {d : DataW H} {p : List MemPlace} (hs : P.underlying t = some (.struct #[f0])) (hone : oneCellFields P #[f0] = true) (hC : P.cellsOf t = 1)
  (hv : Value.okWide P w r b0 t v) (h : DataW.Trod enc P w base spare held t v d p) :
  ∃ (v0 : Value) (y0 : DataW H × List MemPlace) (n : Nat), v = .agg #[v0] ∧ DataW.trod enc P w base spare held n f0.type [v0] = some y0 := by
 obtain ⟨cs, rfl, hsz⟩ := okWide_struct hs hv
 rw [hC] at hsz
 obtain ⟨c0, rfl⟩ : ∃ c0, cs = #[c0] := by
  cases cs with
  | mk l => match l, hsz with
   | [c], _ => exact ⟨c, rfl⟩
 obtain ⟨fuel, hf⟩ := h
 obtain ⟨y0, n, hx, _, h0⟩ := trod_struct1 hs hf
 obtain ⟨o0, k0⟩ := hone_of hone 0 f0 rfl
 exact ⟨c0, y0, n, rfl, by simpa [Value.cells, o0, k0] using h0⟩
theorem K_int {k : IntKind} {a : Int} {v : Value} (h : (Kd.int k).K w a [v]) : v = .int k a := by
 have e : [v] = [Value.int k a] := h
 injection e
theorem K_slice {α : Type} {e : Nat} {d : Kd α} {l : List α} {v : Value} (h : (Kd.slice e d).K w l [v]) : ∃ A c, v = .slice A l.length c ∧ l.length ≤ c ∧ d.C w A l.length l := by
 obtain ⟨A, c, hv, hl, hc⟩ := h
 injection hv with hv
 exact ⟨A, c, hv, hl, hc⟩
end Go.Proofs.YtdajlfijkbafiaaW.Row
