/- The law HuffWrites: a symbol is written as the document says, or its error is told; proved for every input. -/
import Derived.Test.YtmocinhononfpaaPx26
import Derived.Test.YtmocinhononfpaaPx23
import Derived.Test.YtmocinhononfpaaPx24
import Derived.Test.YtmocinhononfpaaLHuffWriteA
import Derived.Test.YtmocinhononfpaaLBitsRefA
namespace Go.Proofs.Ytmocinhononfpaa.Pure
set_option linter.unusedVariables false
set_option linter.unusedSimpArgs false
open Go.RowKit Go.Proofs.YtmocinhononfpaaW.PrintWords Go.Proofs.YtmocinhononfpaaW.PrintLast Go.Proofs.YtmocinhononfpaaW.PrintMore Go.Proofs.Ytmocinhononfpaa.P Go.Proofs.Ytmocinhononfpaa.LB Go.Proofs.Ytmocinhononfpaa.LH Go.Proofs.Ytmocinhononfpaa.HT Go.Proofs.Ytmocinhononfpaa.BT
theorem put_any {B : List Int} (hB : Bytes B) (hl : B.length ≤ 1000000) {N : Int} (hN : -9223372036854775808 ≤ N ∧ N ≤ 9223372036854775807) {L : List Int} (hL : Bits01 L) (hlen : L.length ≤ 32000) (hg : goodS B N = (pack L, (L.length : Int))) (v n : Int) (hv : 0 ≤ v ∧ v < 18446744073709551616) (k : Nat) (hk : 40 ≤ k) :
    bits_Put.f k B N v n = bits_Put.f k (pack L) (L.length : Int) v n := by
  rw [put_eq hB hl hN hv k hk, put_eq (pack_bytes hL) (pack_bytes_len hlen) (by omega) hv k hk]
  unfold putS
  rw [hg, good_is hL hlen]
theorem both {B : List Int} (hB : Bytes B) (hl : B.length ≤ 10000) {N : Int} (hN : -9223372036854775808 ≤ N ∧ N ≤ 9223372036854775807) (l : List Int) (s : Int) (hs : -9223372036854775808 ≤ s ∧ s ≤ 9223372036854775807) (k : Nat) (hk : 500000 < k) :
    ∃ X, huff_Write.f k B N l s = some X ∧ psalteryref04_Write.f k B N l s = some X := by
  obtain ⟨L, hL, hlen, hg, _⟩ := good_pack hB N
  obtain ⟨k, rfl⟩ : ∃ i, k = i + 2 := ⟨k - 2, by omega⟩
  have hz : ∀ k, 40 ≤ k → bits_Put.f k B N 0 0 = some (pack L, (L.length : Int), 0) := fun k hk => by
    rw [put_any hB (by omega) hN hL hlen hg 0 0 (by omega) k hk]; exact put_zero hL hlen k hk
  have bad : ∀ c, huff_Write.j0 (k + 2) l s c true B N = some (pack L, (L.length : Int), 1) := by
    intro c
    simp only [huff_Write.j0, if_true]
    rw [hz (k + 1) (by omega)]; rfl
  have rbad : psalteryref04_Write.j0 (k + 2) l s true (pack L) (L.length : Int) = some (pack L, (L.length : Int), 1) := by
    simp only [psalteryref04_Write.j0, if_true]
  unfold huff_Write.f psalteryref04_Write.f
  rw [codes_eq l (k + 2) (by omega), refGood_eq hB (by omega) hN (k + 2) (by omega), Option.bind_some, Option.bind_some, LH.refRight_eq l (k + 2) (by omega), Option.bind_some, hg]
  by_cases c : rightH l = true
  · rw [if_pos c, if_pos c]
    obtain ⟨w1, w2, w3, w4, w5⟩ := whole_right c
    show ∃ X, (if (0 : Int) = 0 then (if s < 0 then huff_Write.j0 (k + 2) l s (codesL l) true B N else (if s ≥ (l.length : Int) then huff_Write.j0 (k + 2) l s (codesL l) true B N else (if 0 ≤ s then (if s < (l.length : Int) then huff_Write.j0 (k + 2) l s (codesL l) ((rd l s) == 0) B N else none) else none))) else huff_Write.j0 (k + 2) l s (codesL l) true B N) = some X ∧ _
    rw [if_pos rfl]
    by_cases c1 : s < 0
    · rw [if_pos c1, if_pos c1, bad]; exact ⟨_, rfl, rbad⟩
    by_cases c2 : s ≥ (l.length : Int)
    · rw [if_neg c1, if_neg c1, if_pos c2, if_pos c2, bad]; exact ⟨_, rfl, rbad⟩
    obtain ⟨t, rfl⟩ : ∃ t : Nat, s = t := ⟨s.toNat, by omega⟩
    have hb := inl_at w3 t
    rw [if_neg c1, if_neg c1, if_neg c2, if_neg c2, if_pos (by omega), if_pos (by omega), if_pos (by omega), if_pos (by omega), bk_rd]
    by_cases c3 : bk l t = 0
    · rw [c3, show ((0 : Int) == 0) = true from rfl, bad]; exact ⟨_, rfl, rbad⟩
    rw [show (bk l t == 0) = false from beq_eq_false_iff_ne.2 c3]
    simp only [huff_Write.j0, psalteryref04_Write.j0, Bool.false_eq_true, if_false]
    have hcr := code_range l c t (by omega) (by omega)
    have hcd : rd (codesL l) (t : Int) = code (bk l) l.length t := by rw [codesL_rd l t (by omega), if_pos (by omega)]
    have hcl : (codeB l t).length = (bk l t).toNat := hbits_length _ _
    have hcodes := codesL_length l
    rw [if_pos (by omega), if_pos (by omega), bk_rd, w64 (x := bk l t - 1) (by omega) (by omega), code_is l c t (by omega) (by omega) (k + 1) (by omega), Option.bind_some, hcl, w64 (x := (L.length : Int) + ((bk l t).toNat : Int)) (by omega) (by omega)]
    have first : huff_Write.l0 (k + 1) (t : Int) (codesL l) (bk l t - 1) B N B N = huff_Write.l0 (k + 1) (t : Int) (codesL l) (bk l t - 1) B N (pack L) (L.length : Int) := by
      have hq0 : 0 ≤ code (bk l) l.length t / 2 ^ (bk l t - 1).toNat := Int.ediv_nonneg hcr.1 (Int.le_of_lt (two_pow _))
      have hq1 : code (bk l) l.length t / 2 ^ (bk l t - 1).toNat ≤ code (bk l) l.length t := Int.ediv_le_self _ hcr.1
      simp only [huff_Write.l0]
      rw [if_pos (by omega), if_pos (by omega), if_pos (by omega), if_pos (by omega), if_pos (by omega), if_pos (by omega), if_pos (by omega), if_pos (by omega), hcd, shr_small' (by simp [IntKind.bits]; omega), and_one32 hq0 (by omega), u64w (by omega) (by omega), put_any hB (by omega) hN hL hlen hg _ 1 (by omega) k (by omega)]
    rw [first]
    obtain ⟨r, h1, h2⟩ := write_gen (l := l) hL hlen hz t (by omega) (bk l t).toNat (by omega) (by rw [hcd]; omega) (by rw [hcd]; omega) (bk l t).toNat 0 (k + 1) (by omega) (by omega) (by simpa using hlen)
    rw [List.take_zero, List.append_nil, show (((bk l t).toNat : Nat) : Int) - 1 - ((0 : Nat) : Int) = bk l t - 1 by omega] at h1
    rw [h1, h2, hcd]
    refine ⟨_, rfl, ?_⟩
    by_cases c4 : L.length + (bk l t).toNat ≤ 32000
    · rw [if_pos c4, if_neg (by omega), Option.bind_some, refBits_eq (pack_bytes hL) (pack_bytes_len hlen) (k + 1) (by rw [pack_length]; omega), Option.bind_some, if_pos (by omega), if_pos (by rw [bitsL_length, pack_length]; omega), Option.bind_some]
      have e1 : (bitsL (pack L)).take (L.length : Int).toNat = L := bitsTo_pack hL
      rw [e1, List.nil_append, List.length_nil, if_pos (by omega), Option.bind_some, if_pos (by omega), Option.bind_some, refBytes_eq (bits_append hL (show Bits01 (codeB l t) from hbits_bits _ _)) (by rw [List.length_append, hcl]; omega) (k + 1) (by rw [List.length_append, hcl]; omega), Option.bind_some, List.length_append, hcl]
      rfl
    · rw [if_neg c4, if_pos (by omega)]
  · rw [if_neg c, if_neg c, if_neg (show ¬ (([] : List Int), (1 : Int)).2 = 0 by decide), bad]
    exact ⟨_, rfl, rbad⟩
theorem HuffWrites : psalterylaw04_HuffWrites.Pure := by
  intro B N l s hw hN hlw hs
  have hB := wf_u8 hw.2
  have hN64 := wf_i64 hN
  have hs64 := wf_i64 hs
  obtain ⟨K, hK⟩ : ∃ K : Nat, 600000 ≤ K := ⟨_, Nat.le_refl _⟩
  refine ⟨K, ?_⟩
  unfold psalterylaw04_HuffWrites.f
  have hgr : psalterylaw04_great.f B l = some (decide ((B.length : Int) > 4100 ∨ (l.length : Int) > 200)) := by
    unfold psalterylaw04_great.f
    by_cases c : (B.length : Int) > 4100
    · rw [if_pos c, decide_eq_true (.inl c)]
    · rw [if_neg c]; congr 1; rw [decide_eq_decide]; exact ⟨.inr, fun h => h.resolve_left c⟩
  rw [hgr, knows04 K (by omega), Option.bind_some]
  by_cases c : (B.length : Int) > 4100 ∨ (l.length : Int) > 200
  · rw [decide_eq_true c]; rfl
  rw [decide_eq_false c, if_neg (by decide)]
  obtain ⟨X, h1, h2⟩ := both hB (by omega) hN64 l s hs64 K (by omega)
  rw [h1, Option.bind_some, show psalterylaw01_As.f B N = some N from rfl, Option.bind_some, h2, Option.bind_some, show psalterylaw01_As.f X.1 X.2.1 = some X.2.1 from rfl, Option.bind_some, same_refl, Option.bind_some, if_pos rfl, if_pos rfl]; rfl
end Go.Proofs.Ytmocinhononfpaa.Pure
