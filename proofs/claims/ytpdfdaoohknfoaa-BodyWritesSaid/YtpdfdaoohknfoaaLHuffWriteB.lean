/- What huff.Write answers to a writer that is right. -/
import Derived.Test.YtpdfdaoohknfoaaQ2
import Derived.Test.YtpdfdaoohknfoaaT1
namespace Go.Proofs.Ytpdfdaoohknfoaa.LH
set_option linter.unusedVariables false
set_option linter.unusedSimpArgs false
open Go.RowKit Go.Proofs.YtpdfdaoohknfoaaW.PrintWords Go.Proofs.YtpdfdaoohknfoaaW.PrintLast Go.Proofs.YtpdfdaoohknfoaaW.PrintMore Go.Proofs.Ytpdfdaoohknfoaa.P Go.Proofs.Ytpdfdaoohknfoaa.LB Go.Proofs.Ytpdfdaoohknfoaa.HT Go.Proofs.Ytpdfdaoohknfoaa.BT
theorem pack_bytes_len {L : List Int} (h : L.length ≤ 32000) : (pack L).length ≤ 1000000 := by rw [pack_length]; omega
theorem good_is {L : List Int} (h : Bits01 L) (hl : L.length ≤ 32000) : goodS (pack L) (L.length : Int) = (pack L, (L.length : Int)) := good_of_right (pack_bytes h) (right_pack h hl)
theorem put_zero {L : List Int} (h : Bits01 L) (hl : L.length ≤ 32000) (k : Nat) (hk : 40 ≤ k) : bits_Put.f k (pack L) (L.length : Int) 0 0 = some (pack L, (L.length : Int), 0) := by
  rw [put_eq (pack_bytes h) (pack_bytes_len hl) (by omega) (by omega) k hk]
  unfold putS
  rw [good_is h hl, if_neg (by simp), if_neg (by show ¬ (32000 < (L.length : Int) + 0); omega)]
  show some (pack (bitsTo (pack L) (L.length : Int) ++ vbits 0 0), (L.length : Int) + 0, 0) = _
  rw [bitsTo_pack h, vbits_zero, List.append_nil, Int.add_zero]
theorem put_one {L : List Int} (h : Bits01 L) (hl : L.length ≤ 32000) (v : Int) (hv : v = 0 ∨ v = 1) (k : Nat) (hk : 40 ≤ k) : bits_Put.f k (pack L) (L.length : Int) v 1 = some (if 32000 < (L.length : Int) + 1 then (pack L, (L.length : Int), 3) else (pack (L ++ [v]), (L.length : Int) + 1, 0)) := by
  rw [put_eq (pack_bytes h) (pack_bytes_len hl) (by omega) (by omega) k hk]
  unfold putS
  rw [good_is h hl, if_neg (by rw [show (1 : Int).toNat = 1 from rfl, show (2 : Int) ^ 1 = 2 from rfl]; omega)]
  show some (if 32000 < (L.length : Int) + 1 then _ else (pack (bitsTo (pack L) (L.length : Int) ++ vbits v 1), (L.length : Int) + 1, 0)) = _
  rw [bitsTo_pack h]
  have e : vbits v 1 = [v] := by rw [vbits_succ, vbits_zero]; simp; omega
  rw [e]
theorem and_one32 {x : Int} (h : 0 ≤ x) (h' : x < 4294967296) : Go.bits .and .u32 x 1 = x % 2 := by
  rw [u32_and x 1 h h' (by omega) (by omega)]
  rw [show (1 : Int).toNat = 2 ^ 1 - 1 from rfl, Nat.and_two_pow_sub_one_eq_mod]; omega
theorem hbits_bits (c : Int) (m : Nat) : Bits01 (hbits c m) := by
  intro x hx
  simp only [hbits, List.mem_map, List.mem_range] at hx
  obtain ⟨i, _, rfl⟩ := hx
  unfold IsBit; omega
theorem hbits_take (c : Int) (m j : Nat) (h : j < m) : (hbits c m).take (j + 1) = (hbits c m).take j ++ [c / 2 ^ (m - 1 - j) % 2] := by
  have h1 : j < (hbits c m).length := by rw [hbits_length]; exact h
  rw [List.take_succ_eq_append_getElem h1]
  congr 2
  simp [hbits]
theorem write_gen {l L B0 : List Int} {N0 : Int} (hL : Bits01 L) (hlen : L.length ≤ 32000) (hz : ∀ k, 40 ≤ k → bits_Put.f k B0 N0 0 0 = some (pack L, (L.length : Int), 0)) (t : Nat) (ht : t < l.length) (m : Nat) (hm : m ≤ 16) (h0 : 0 ≤ rd (codesL l) (t : Int)) (h1 : rd (codesL l) (t : Int) < 65536) (d : Nat) : ∀ (j k : Nat), j + d = m → d + 100 < k → (L ++ (hbits (rd (codesL l) (t : Int)) m).take j).length ≤ 32000 →
    ∃ r, huff_Write.l0 k (t : Int) (codesL l) ((m : Int) - 1 - j) B0 N0 (pack (L ++ (hbits (rd (codesL l) (t : Int)) m).take j)) ((L ++ (hbits (rd (codesL l) (t : Int)) m).take j).length : Int) = some r ∧
    r = if L.length + m ≤ 32000 then (pack (L ++ hbits (rd (codesL l) (t : Int)) m), ((L.length + m : Nat) : Int), 0) else (pack L, (L.length : Int), 3) := by
  obtain ⟨c, hc⟩ : ∃ c, rd (codesL l) (t : Int) = c := ⟨_, rfl⟩
  rw [hc] at h0 h1 ⊢
  have hcl := codesL_length l
  have hbl := hbits_length c m
  induction d with
  | zero =>
    intro j k hj hk hle
    obtain ⟨k, rfl⟩ : ∃ i, k = i + 1 := ⟨k - 1, by omega⟩
    have e : (hbits c m).take j = hbits c m := List.take_of_length_le (by omega)
    rw [e] at hle ⊢
    simp only [huff_Write.l0]
    rw [if_neg (by omega)]
    rw [List.length_append, hbl] at hle ⊢
    exact ⟨_, rfl, by rw [if_pos hle]⟩
  | succ d ih =>
    intro j k hj hk hle
    obtain ⟨k, rfl⟩ : ∃ i, k = i + 1 := ⟨k - 1, by omega⟩
    have hb : Bits01 (L ++ (hbits c m).take j) := bits_append hL (fun x hx => hbits_bits c m x (List.mem_of_mem_take hx))
    have htl : ((hbits c m).take j).length = j := by rw [List.length_take]; omega
    have hq0 : 0 ≤ c / 2 ^ (m - 1 - j) := Int.ediv_nonneg h0 (Int.le_of_lt (two_pow _))
    have hq1 : c / 2 ^ (m - 1 - j) ≤ c := Int.ediv_le_self _ h0
    have hs : shr .u32 c ((m : Int) - 1 - j) = c / 2 ^ (m - 1 - j) := by
      rw [shr_small' (by simp [IntKind.bits]; omega), show ((m : Int) - 1 - j).toNat = m - 1 - j by omega]
    simp only [huff_Write.l0]
    rw [if_pos (by omega), if_pos (by omega), if_pos (by omega), if_pos (by omega), hc, hs, and_one32 hq0 (by omega), u64w (by omega) (by omega), put_one hb hle _ (by omega) k (by omega), Option.bind_some]
    have hlj : ((L ++ (hbits c m).take j).length : Int) = (L.length : Int) + j := by rw [List.length_append, htl]; omega
    by_cases c1 : 32000 < ((L ++ (hbits c m).take j).length : Int) + 1
    · rw [if_pos c1]
      show ∃ r, (if (3 : Int) = 0 then _ else (bits_Put.f k B0 N0 0 0).bind fun bt => some (bt.1, bt.2.1, 3)) = some r ∧ _
      rw [if_neg (by decide), hz k (by omega), Option.bind_some]
      exact ⟨_, rfl, by rw [if_neg (by omega)]⟩
    · rw [if_neg c1]
      show ∃ r, (if (0 : Int) = 0 then huff_Write.l0 k (t : Int) (codesL l) (wrap64 ((m : Int) - 1 - j - 1)) B0 N0 (pack (L ++ (hbits c m).take j ++ [c / 2 ^ (m - 1 - j) % 2])) (((L ++ (hbits c m).take j).length : Int) + 1) else _) = some r ∧ _
      rw [if_pos rfl, List.append_assoc, ← hbits_take c m j (by omega), w64 (by omega) (by omega)]
      have hl1 : ((L ++ (hbits c m).take (j + 1)).length : Int) = ((L ++ (hbits c m).take j).length : Int) + 1 := by rw [List.length_append, List.length_append, htl, List.length_take]; omega
      have nx := ih (j + 1) k (by omega) (by omega) (by omega)
      rw [hl1, show (m : Int) - 1 - ((j + 1 : Nat) : Int) = (m : Int) - 1 - j - 1 by omega] at nx
      exact nx
theorem write_loop {l L : List Int} (hL : Bits01 L) (hlen : L.length ≤ 32000) (t : Nat) (ht : t < l.length) (m : Nat) (hm : m ≤ 16) (h0 : 0 ≤ rd (codesL l) (t : Int)) (h1 : rd (codesL l) (t : Int) < 65536) (d : Nat) : ∀ (j k : Nat), j + d = m → d + 100 < k → (L ++ (hbits (rd (codesL l) (t : Int)) m).take j).length ≤ 32000 →
    ∃ r, huff_Write.l0 k (t : Int) (codesL l) ((m : Int) - 1 - j) (pack L) (L.length : Int) (pack (L ++ (hbits (rd (codesL l) (t : Int)) m).take j)) ((L ++ (hbits (rd (codesL l) (t : Int)) m).take j).length : Int) = some r ∧
    r = if L.length + m ≤ 32000 then (pack (L ++ hbits (rd (codesL l) (t : Int)) m), ((L.length + m : Nat) : Int), 0) else (pack L, (L.length : Int), 3) :=
  write_gen hL hlen (fun k hk => put_zero hL hlen k hk) t ht m hm h0 h1 d
theorem write_spec (l : List Int) {L : List Int} (hL : Bits01 L) (hlen : L.length ≤ 32000) (s : Int) (hs : -9223372036854775808 ≤ s ∧ s ≤ 9223372036854775807) (k : Nat) (hk : 1600 < k) :
    (∃ t : Nat, s = t ∧ rightH l = true ∧ t < l.length ∧ 0 < bk l t ∧ huff_Write.f k (pack L) (L.length : Int) l s = some (if L.length + (bk l t).toNat ≤ 32000 then (pack (L ++ codeB l t), ((L.length + (bk l t).toNat : Nat) : Int), 0) else (pack L, (L.length : Int), 3))) ∨
    ((rightH l = true → ∀ t : Nat, s = t → t < l.length → ¬ 0 < bk l t) ∧ huff_Write.f k (pack L) (L.length : Int) l s = some (pack L, (L.length : Int), 1)) := by
  obtain ⟨k, rfl⟩ : ∃ i, k = i + 1 := ⟨k - 1, by omega⟩
  have bad : ∀ c, huff_Write.j0 (k + 1) l s c true (pack L) (L.length : Int) = some (pack L, (L.length : Int), 1) := by
    intro c
    simp only [huff_Write.j0, if_true]
    rw [put_zero hL hlen k (by omega)]; rfl
  unfold huff_Write.f
  rw [codes_eq l (k + 1) (by omega), Option.bind_some]
  by_cases c : rightH l = true
  · rw [if_pos c]
    obtain ⟨w1, w2, w3, w4, w5⟩ := whole_right c
    show _ ∨ (_ ∧ (if (0 : Int) = 0 then (if s < 0 then huff_Write.j0 (k + 1) l s (codesL l) true (pack L) (L.length : Int) else (if s ≥ (l.length : Int) then huff_Write.j0 (k + 1) l s (codesL l) true (pack L) (L.length : Int) else (if 0 ≤ s then (if s < (l.length : Int) then huff_Write.j0 (k + 1) l s (codesL l) ((rd l s) == 0) (pack L) (L.length : Int) else none) else none))) else huff_Write.j0 (k + 1) l s (codesL l) true (pack L) (L.length : Int)) = _)
    by_cases c1 : s < 0
    · refine .inr ⟨fun _ t e => by omega, ?_⟩
      rw [if_pos rfl, if_pos c1, bad]
    by_cases c2 : s ≥ (l.length : Int)
    · refine .inr ⟨fun _ t e h => by omega, ?_⟩
      rw [if_pos rfl, if_neg c1, if_pos c2, bad]
    obtain ⟨t, rfl⟩ : ∃ t : Nat, s = t := ⟨s.toNat, by omega⟩
    have hb := inl_at w3 t
    by_cases c3 : bk l t = 0
    · refine .inr ⟨fun _ u e h => by have : u = t := by omega
                                     subst this; omega, ?_⟩
      rw [if_pos rfl, if_neg c1, if_neg c2, if_pos (by omega), if_pos (by omega), bk_rd, c3, show ((0 : Int) == 0) = true from rfl, bad]
    · refine .inl ⟨t, rfl, c, by omega, by omega, ?_⟩
      show (if (0 : Int) = 0 then (if (t : Int) < 0 then huff_Write.j0 (k + 1) l (t : Int) (codesL l) true (pack L) (L.length : Int) else (if (t : Int) ≥ (l.length : Int) then huff_Write.j0 (k + 1) l (t : Int) (codesL l) true (pack L) (L.length : Int) else (if 0 ≤ (t : Int) then (if (t : Int) < (l.length : Int) then huff_Write.j0 (k + 1) l (t : Int) (codesL l) ((rd l (t : Int)) == 0) (pack L) (L.length : Int) else none) else none))) else huff_Write.j0 (k + 1) l (t : Int) (codesL l) true (pack L) (L.length : Int)) = _
      rw [if_pos rfl, if_neg c1, if_neg c2, if_pos (by omega), if_pos (by omega), bk_rd, show (bk l t == 0) = false from beq_eq_false_iff_ne.2 c3]
      simp only [huff_Write.j0, Bool.false_eq_true, if_false]
      rw [if_pos (by omega), if_pos (by omega), bk_rd, w64 (by omega) (by omega)]
      have hcr := code_range l c t (by omega) (by omega)
      have hcd : rd (codesL l) (t : Int) = code (bk l) l.length t := by rw [codesL_rd l t (by omega), if_pos (by omega)]
      obtain ⟨r, h1, h2⟩ := write_loop (l := l) hL hlen t (by omega) (bk l t).toNat (by omega) (by rw [hcd]; omega) (by rw [hcd]; omega) (bk l t).toNat 0 k (by omega) (by omega) (by simpa using hlen)
      rw [List.take_zero, List.append_nil, show (((bk l t).toNat : Nat) : Int) - 1 - ((0 : Nat) : Int) = bk l t - 1 by omega] at h1
      rw [h1, h2, hcd]
      rfl
  · rw [if_neg c]
    refine .inr ⟨fun h => absurd h c, ?_⟩
    rw [if_neg (show ¬ (([] : List Int), (1 : Int)).2 = 0 by decide), bad]
end Go.Proofs.Ytpdfdaoohknfoaa.LH
