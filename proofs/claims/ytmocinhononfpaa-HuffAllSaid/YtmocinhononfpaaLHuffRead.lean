/- What huff.Read, and the document's Read, compute. -/
import Derived.Test.YtmocinhononfpaaPx10
import Derived.Test.YtmocinhononfpaaPx28
import Derived.Test.YtmocinhononfpaaLHuffCode
import Derived.Test.YtmocinhononfpaaLBitsGetA
namespace Go.Proofs.Ytmocinhononfpaa.LH
set_option linter.unusedVariables false
set_option linter.unusedSimpArgs false
open Go.RowKit Go.Proofs.YtmocinhononfpaaW.PrintWords Go.Proofs.YtmocinhononfpaaW.PrintLast Go.Proofs.YtmocinhononfpaaW.PrintMore Go.Proofs.Ytmocinhononfpaa.P Go.Proofs.Ytmocinhononfpaa.LB Go.Proofs.Ytmocinhononfpaa.HT Go.Proofs.Ytmocinhononfpaa.BT
/-! the table -/
theorem look_some (c l : List Int) (x m v : Int) (j : Nat) : huff_Read.look (huff_Read.tab c l j) x m = some v → ∃ t : Nat, t < j ∧ v = t ∧ 0 < bk l t ∧ rd c (t : Int) = x ∧ bk l t = m := by
  induction j with
  | zero => intro h; simp [huff_Read.tab, huff_Read.look] at h
  | succ j ih =>
    intro h
    by_cases hu : rd l (j : Int) > 0
    · rw [show huff_Read.tab c l (j + 1) = (rd c (j : Int), rd l (j : Int), (j : Int)) :: huff_Read.tab c l j from if_pos hu] at h
      simp only [huff_Read.look] at h
      by_cases e : rd c (j : Int) = x ∧ rd l (j : Int) = m
      · rw [if_pos e] at h
        exact ⟨j, by omega, (Option.some.inj h).symm, hu, e.1, e.2⟩
      · rw [if_neg e] at h
        obtain ⟨t, h1, h2⟩ := ih h
        exact ⟨t, by omega, h2⟩
    · rw [show huff_Read.tab c l (j + 1) = huff_Read.tab c l j from if_neg hu] at h
      obtain ⟨t, h1, h2⟩ := ih h
      exact ⟨t, by omega, h2⟩
theorem look_none (c l : List Int) (x m : Int) (j : Nat) : (huff_Read.look (huff_Read.tab c l j) x m).isSome = false → ∀ t : Nat, t < j → 0 < bk l t → ¬ (rd c (t : Int) = x ∧ bk l t = m) := by
  induction j with
  | zero => intro _ t ht; omega
  | succ j ih =>
    intro h t ht hu2
    by_cases hu : rd l (j : Int) > 0
    · rw [show huff_Read.tab c l (j + 1) = (rd c (j : Int), rd l (j : Int), (j : Int)) :: huff_Read.tab c l j from if_pos hu] at h
      simp only [huff_Read.look] at h
      by_cases e : rd c (j : Int) = x ∧ rd l (j : Int) = m
      · rw [if_pos e] at h; cases h
      · rw [if_neg e] at h
        by_cases e2 : t = j
        · subst e2; exact e
        · exact ih h t (by omega) hu2
    · rw [show huff_Read.tab c l (j + 1) = huff_Read.tab c l j from if_neg hu] at h
      by_cases e2 : t = j
      · subst e2; exact absurd hu2 hu
      · exact ih h t (by omega) hu2
theorem size_tab (l : List Int) (hr : rightH l = true) (j : Nat) : j ≤ l.length → (huff_Read.size (huff_Read.tab (codesL l) l j) : Int) = S (one l) j := by
  obtain ⟨h1, h2, h3, h4, _⟩ := whole_right hr
  induction j with
  | zero => intro _; rfl
  | succ j ih =>
    intro hj
    rw [S]
    by_cases hu : rd l (j : Int) > 0
    · rw [show huff_Read.tab (codesL l) l (j + 1) = (rd (codesL l) (j : Int), rd l (j : Int), (j : Int)) :: huff_Read.tab (codesL l) l j from if_pos hu]
      simp only [huff_Read.size]
      rw [if_neg, show one l j = 1 from if_pos hu, ← ih (by omega)]
      · omega
      · intro e
        obtain ⟨v, hv⟩ := Option.isSome_iff_exists.1 e
        obtain ⟨t, q1, _, q3, q4, q5⟩ := look_some _ _ _ _ _ _ hv
        rw [codesL_rd l t (by omega), codesL_rd l j (by omega), if_pos q3, if_pos (show 0 < bk l j from hu)] at q4
        have q5' : bk l t = bk l j := q5
        have := prefix_free (bk l) l.length (s := t) (t := j) (by omega) (by omega) q3 (inl_at h3 j).2 (by omega) (by rw [show (bk l j - bk l t).toNat = 0 by omega, Int.pow_zero, Int.ediv_one]; exact q4.symm)
        omega
    · rw [show huff_Read.tab (codesL l) l (j + 1) = huff_Read.tab (codesL l) l j from if_neg hu, show one l j = 0 from if_neg hu, Int.add_zero]
      exact ih (by omega)
/-- the symbol t stands at the place -/
def At (l B : List Int) (a t : Nat) : Prop := t < l.length ∧ 0 < bk l t ∧ (a : Int) + bk l t ≤ 8 * (B.length : Int) ∧ hi (bitN B) a (bk l t).toNat = code (bk l) l.length t
theorem bit01 (B : List Int) (i : Nat) : bitN B i = 0 ∨ bitN B i = 1 := bitN_bit B i
theorem at_unique {l B : List Int} (hr : rightH l = true) {a s t : Nat} (h : At l B a s) (k : At l B a t) : s = t := by
  obtain ⟨h1, h2, h3, h4, _⟩ := whole_right hr
  have key : ∀ {s t : Nat}, At l B a s → At l B a t → bk l s ≤ bk l t → s = t := by
    intro s t h k hle
    refine prefix_free (bk l) l.length (s := s) (t := t) h.1 k.1 h.2.1 (inl_at h3 t).2 hle ?_
    rw [← k.2.2.2, ← h.2.2.2, show (bk l t).toNat = (bk l s).toNat + (bk l t - bk l s).toNat by have := h.2.1; omega, hi_div (bit01 B)]
  rcases Int.le_total (bk l s) (bk l t) with c | c
  · exact key h k c
  · exact (key k h c).symm
theorem at_full {l B : List Int} (hr : rightH l = true) (hu : used l ≠ 1) {a : Nat} (h16 : a + 16 ≤ 8 * B.length) : ∃ t, At l B a t := by
  obtain ⟨h1, h2, h3, h4, h5⟩ := whole_right hr
  have hw : S (wt (bk l)) l.length = 65536 := by rcases h5 with h5 | h5
                                                 · exact absurd h5.1 hu
                                                 · exact h5.2
  have hh := hi_range (bit01 B) a 16
  obtain ⟨t, q1, q2, q3, q4⟩ := covered (bk l) l.length (fun t _ => (inl_at h3 t).2) (hi (bitN B) a 16) hh.1 (by rw [hw]; simpa using hh.2)
  have hb := inl_at h3 t
  refine ⟨t, q1, q2, by omega, ?_⟩
  rw [← (code_at (bk l) l.length t q2 hb.2 _).2 ⟨q3, q4⟩]
  have := hi_div (bit01 B) a (bk l t).toNat (16 - (bk l t).toNat)
  rw [show (bk l t).toNat + (16 - (bk l t).toNat) = 16 by omega] at this
  exact this.symm
theorem only_one {l : List Int} (hr : rightH l = true) (hu : used l = 1) {t : Nat} (ht : t < l.length) (h : 0 < bk l t) : bk l t = 1 := by
  obtain ⟨h1, h2, h3, h4, h5⟩ := whole_right hr
  have hw : whole l = 32768 := by rcases h5 with h5 | h5
                                  · exact h5.2
                                  · exact absurd hu h5.1
  have other : ∀ u, u < l.length → u ≠ t → bk l u ≤ 0 := by
    intro u hu1 hne
    apply Decidable.byContradiction; intro c
    have e : S (fun i => (if i = t then (1 : Int) else 0) + (if i = u then 1 else 0)) l.length ≤ S (one l) l.length := S_le _ fun i hi => by
      unfold one
      by_cases e1 : i = t
      · subst e1; rw [if_pos rfl, if_neg (by omega), if_pos h]; omega
      · by_cases e2 : i = u
        · subst e2; rw [if_neg e1, if_pos rfl, if_pos (by omega)]; omega
        · rw [if_neg e1, if_neg e2]; split <;> omega
    rw [S_add, S_one t 1 _ ht, S_one u 1 _ hu1] at e
    unfold used at hu; omega
  have e : S (wt (bk l)) l.length = S (fun i => if i = t then wt (bk l) t else 0) l.length := S_congr _ fun i hi => by
    by_cases e1 : i = t
    · subst e1; rw [if_pos rfl]
    · rw [if_neg e1]; unfold wt; rw [if_neg (by have := other i hi e1; omega)]
  rw [S_one t _ _ ht, wt_used _ h] at e
  unfold whole at hw
  rw [hw] at e
  have hb := inl_at h3 t
  obtain ⟨n, hn⟩ : ∃ n : Nat, (bk l t).toNat = n := ⟨_, rfl⟩
  rw [hn] at e
  have : n = 1 ∨ n = 2 ∨ n = 3 ∨ n = 4 ∨ n = 5 ∨ n = 6 ∨ n = 7 ∨ n = 8 ∨ n = 9 ∨ n = 10 ∨ n = 11 ∨ n = 12 ∨ n = 13 ∨ n = 14 ∨ n = 15 ∨ n = 16 := by omega
  rcases this with rfl | rfl | rfl | rfl | rfl | rfl | rfl | rfl | rfl | rfl | rfl | rfl | rfl | rfl | rfl | rfl <;> first | omega | (exact absurd e (by decide))
theorem get_one {B : List Int} (a : Nat) : getS B (a : Int) 1 = if 8 * (B.length : Int) < (a : Int) + 1 then ((a : Int), 0, 4) else ((a : Int) + 1, bitN B a, 0) := by
  unfold getS
  rw [if_neg (by omega)]
  by_cases c : 8 * (B.length : Int) < (a : Int) + 1
  · rw [if_pos c, if_pos c]
  · rw [if_neg c, if_neg c]
    have e : seg B a 1 = [bitN B a] := by
      have := seg_cons (B := B) (a := a) (n := 0) (by omega)
      rw [this]; simp [seg]
    rw [show ((a : Int)).toNat = a from Int.toNat_natCast a, show (1 : Int).toNat = 1 from rfl, e]
    simp [numOf]
theorem u32_small {x : Int} (h : 0 ≤ x) (h' : x < 4294967296) : IntKind.u32.wrap x = x := by
  simp only [IntKind.wrap, IntKind.bits, IntKind.signed]; simp; omega
theorem or_last {m b : Int} (h0 : 0 ≤ m) (h1 : m < 65536) (hb : b = 0 ∨ b = 1) : Go.bits .or .u32 (IntKind.u32.wrap (m * 2)) (IntKind.u32.wrap b) = 2 * m + b := by
  rw [u32_small (by omega) (by omega), u32_small (by omega) (by omega), u32_or _ _ (by omega) (by omega) (by omega) (by omega), nat_join 1 _ _ (by omega) (by omega)]
  omega
/-- what huff.Read answers: the place, the symbol, the error -/
theorem go_spec {l B : List Int} (hB : Bytes B) (hl : B.length ≤ 1000000) (hr : rightH l = true) (a : Nat) (k : Nat) (hk : 40 ≤ k) (d : Nat) : ∀ (i : Nat), i + d = 16 → (used l = 1 → i = 0) → (a : Int) + i ≤ 8 * (B.length : Int) ∨ i = 0 → a ≤ 9000000000000000000 → (∀ t, At l B a t → (i : Int) < bk l t) →
    (∃ t, At l B a t ∧ huff_Read.go k B (a : Int) (huff_Read.tab (codesL l) l l.length) d ((a : Int) + i) (hi (bitN B) a i) = some ((a : Int) + bk l t, (t : Int), 0)) ∨
    ((∀ t, ¬ At l B a t) ∧ huff_Read.go k B (a : Int) (huff_Read.tab (codesL l) l l.length) d ((a : Int) + i) (hi (bitN B) a i) = some ((a : Int), 0, if used l = 1 ∧ (a : Int) < 8 * (B.length : Int) then 2 else 4)) := by
  obtain ⟨w1, w2, w3, w4, w5⟩ := whole_right hr
  have hsz := size_tab l hr l.length (Nat.le_refl _)
  induction d with
  | zero =>
    intro i hi' hu hx ha hno
    exfalso
    have hne : used l ≠ 1 := fun h => by have := hu h; omega
    obtain ⟨t, ht⟩ := at_full (B := B) hr hne (a := a) (by omega)
    have := hno t ht
    have := (inl_at w3 t).2; omega
  | succ d ih =>
    intro i hi' hu hx ha hno
    have hrng := hi_range (bit01 B) a i
    have hp : (2 : Int) ^ i ≤ 32768 := by
      have : (2 : Nat) ^ i ≤ 2 ^ 15 := Nat.pow_le_pow_right (by omega) (by omega)
      have := Int.ofNat_le.2 this; simpa using this
    have hbit := bit01 B (a + i)
    have hg : bits_Get.f k B ((a : Int) + i) 1 = some (getS B ((a + i : Nat) : Int) 1) := by
      rw [show (a : Int) + i = ((a + i : Nat) : Int) by omega]
      exact get_eq hB hl (by omega) k hk
    simp only [huff_Read.go]
    rw [hg, Option.bind_some, get_one]
    by_cases c : 8 * (B.length : Int) < ((a + i : Nat) : Int) + 1
    · rw [if_pos c]
      refine .inr ⟨fun t ht => ?_, ?_⟩
      · have := hno t ht; have := ht.2.2.1; omega
      · show (if (4 : Int) = 0 then _ else some ((a : Int), 0, 4)) = _
        rw [if_neg (by decide), if_neg (by intro h; have := hu h.1; omega)]
    · rw [if_neg c]
      show (∃ t, At l B a t ∧ (if (0 : Int) = 0 then _ else _) = _) ∨ (_ ∧ (if (0 : Int) = 0 then _ else _) = _)
      rw [if_pos rfl]
      have hor : Go.bits .or .u32 (IntKind.u32.wrap (hi (bitN B) a i * 2)) (IntKind.u32.wrap (bitN B (a + i))) = hi (bitN B) a (i + 1) := by
        rw [or_last hrng.1 (by omega) hbit]; rfl
      have hrng2 := hi_range (bit01 B) a (i + 1)
      have hp2 : (2 : Int) ^ (i + 1) ≤ 65536 := by rw [Int.pow_succ]; omega
      rw [show ((a + i : Nat) : Int) + 1 = (a : Int) + ((i + 1 : Nat) : Int) by omega]
      show (∃ t, At l B a t ∧ (if 0 ≤ Go.bits .or .u32 (IntKind.u32.wrap (hi (bitN B) a i * 2)) (IntKind.u32.wrap (bitN B (a + i))) ∧ Go.bits .or .u32 (IntKind.u32.wrap (hi (bitN B) a i * 2)) (IntKind.u32.wrap (bitN B (a + i))) < 4294967296 then _ else _) = _) ∨ _
      rw [hor, if_pos ⟨hrng2.1, by omega⟩, show (16 : Int) - (d : Int) = ((i + 1 : Nat) : Int) by omega]
      cases hlk : huff_Read.look (huff_Read.tab (codesL l) l l.length) (hi (bitN B) a (i + 1)) ((i + 1 : Nat) : Int) with
      | some v =>
        obtain ⟨t, q1, q2, q3, q4, q5⟩ := look_some _ _ _ _ _ _ hlk
        rw [codesL_rd l t q1, if_pos q3] at q4
        refine .inl ⟨t, ⟨q1, q3, by omega, ?_⟩, ?_⟩
        · rw [q5, Int.toNat_natCast, q4]
        · rw [if_pos (show (some v).isSome = true from rfl), q2, q5]; rfl
      | none =>
        have hnone := look_none _ _ _ _ _ (show (huff_Read.look (huff_Read.tab (codesL l) l l.length) (hi (bitN B) a (i + 1)) ((i + 1 : Nat) : Int)).isSome = false by rw [hlk]; rfl)
        have hno2 : ∀ t, At l B a t → ((i + 1 : Nat) : Int) < bk l t := by
          intro t ht
          have h1 := hno t ht
          apply Decidable.byContradiction; intro c2
          have e : bk l t = ((i + 1 : Nat) : Int) := by omega
          refine hnone t ht.1 ht.2.1 ⟨?_, e⟩
          rw [codesL_rd l t ht.1, if_pos ht.2.1, ← ht.2.2.2, e, Int.toNat_natCast]
        rw [if_neg (by simp)]
        by_cases cs : huff_Read.size (huff_Read.tab (codesL l) l l.length) = 1
        · have hu1 : used l = 1 := by unfold used; omega
          rw [if_pos cs]
          refine .inr ⟨fun t ht => ?_, ?_⟩
          · have := hno2 t ht; have := only_one hr hu1 ht.1 ht.2.1; omega
          · rw [if_pos ⟨hu1, by omega⟩]
        · rw [if_neg cs]
          exact ih (i + 1) (by omega) (fun h => by unfold used at h; omega) (.inl (by omega)) ha hno2
theorem fit_ok {l : List Int} (hr : rightH l = true) : huff_Read.fit (codesL l) l = true := by
  obtain ⟨w1, w2, w3, w4, w5⟩ := whole_right hr
  simp only [huff_Read.fit, Bool.and_eq_true, decide_eq_true_eq, List.all_eq_true]
  refine ⟨⟨fun x hx => ?_, fun x hx => ?_⟩, by rw [codesL_length]; exact Nat.le_refl _, by omega⟩
  · simp only [codesL, List.mem_map, List.mem_range] at hx
    obtain ⟨s, hs, rfl⟩ := hx
    by_cases c : 0 < bk l s
    · rw [if_pos c]; have := code_range l hr s hs c; omega
    · rw [if_neg c]; omega
  · have := List.all_eq_true.1 w3 x hx
    simp at this; omega
theorem read_bad (l B : List Int) (a : Int) (h : rightH l = false ∨ a < 0) (k : Nat) (hk : 1500 < k) : huff_Read.f k B a l = some (a, 0, 1) := by
  unfold huff_Read.f
  rw [codes_eq l k hk, Option.bind_some]
  by_cases c : rightH l = true
  · rw [if_pos c, if_pos rfl, if_pos (by rcases h with h | h
                                         · rw [h] at c; cases c
                                         · exact h)]
  · rw [if_neg c]; rfl
theorem read_spec {l B : List Int} (hB : Bytes B) (hl : B.length ≤ 1000000) (hr : rightH l = true) (a : Nat) (ha : (a : Int) ≤ 9223372036854775807) (k : Nat) (hk : 1500 < k) :
    (∃ t, At l B a t ∧ huff_Read.f k B (a : Int) l = some ((a : Int) + bk l t, (t : Int), 0)) ∨
    ((∀ t, ¬ At l B a t) ∧ huff_Read.f k B (a : Int) l = some ((a : Int), 0, if used l = 1 ∧ (a : Int) < 8 * (B.length : Int) then 2 else 4)) := by
  unfold huff_Read.f
  rw [codes_eq l k hk, Option.bind_some, if_pos hr]
  show (∃ t, At l B a t ∧ (if (0 : Int) = 0 then _ else _) = _) ∨ (_ ∧ (if (0 : Int) = 0 then _ else _) = _)
  rw [if_pos rfl, if_neg (by omega)]
  show (∃ t, At l B a t ∧ (if huff_Read.fit (codesL l) l = true then _ else _) = _) ∨ (_ ∧ (if huff_Read.fit (codesL l) l = true then _ else _) = _)
  rw [if_pos (fit_ok hr)]
  by_cases big : a ≤ 9000000000000000000
  · have := go_spec hB hl hr a k (by omega) 16 0 (by omega) (fun _ => rfl) (.inr rfl) big (fun t ht => by have := ht.2.1; omega)
    simpa [hi] using this
  · refine .inr ⟨fun t ht => by have := ht.2.1; have := ht.2.2.1; omega, ?_⟩
    simp only [huff_Read.go]
    rw [get_eq hB hl (by omega) k (by omega), Option.bind_some, get_one, if_pos (show 8 * (B.length : Int) < (a : Int) + 1 by omega)]
    show (if (4 : Int) = 0 then _ else some ((a : Int), 0, 4)) = _
    rw [if_neg (by decide), if_neg (by omega)]
end Go.Proofs.Ytmocinhononfpaa.LH
