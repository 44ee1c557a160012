/- The law BitsStays: a writer stays right, what was written stays, and what is refused changes nothing; for any writer that may be, any number; proved for every input. -/
import Derived.Test.YtajnllkkgedgfaaPx22
import Derived.Test.YtajnllkkgedgfaaPx7
import Derived.Test.YtajnllkkgedgfaaPureBitsParts
namespace Go.Proofs.Ytajnllkkgedgfaa.Pure
set_option linter.unusedVariables false
set_option linter.unusedSimpArgs false
open Go.RowKit Go.Proofs.YtajnllkkgedgfaaW.PrintWords Go.Proofs.YtajnllkkgedgfaaW.PrintLast Go.Proofs.Ytajnllkkgedgfaa.P Go.Proofs.Ytajnllkkgedgfaa.BT Go.Proofs.Ytajnllkkgedgfaa.LB
theorem stays_loop (a b B : List Int) (N : Int) (hN : N ≤ 32000) (ha : N ≤ a.length) (hb : N ≤ b.length) (hab : ∀ i, (i : Nat) < N.toNat → nth a i = nth b i) (d : Nat) : ∀ (k i : Nat), i + d = N.toNat → d + 1000 < k →
    psalterylaw01_BitsStays.l0 k a b i B N = some true := by
  induction d with
  | zero =>
    intro k i hi hk
    obtain ⟨k, rfl⟩ : ∃ m, k = m + 1 := ⟨k - 1, by omega⟩
    simp only [psalterylaw01_BitsStays.l0]
    rw [if_neg (by omega), knows01 _ (by omega)]; rfl
  | succ d ih =>
    intro k i hi hk
    obtain ⟨k, rfl⟩ : ∃ m, k = m + 1 := ⟨k - 1, by omega⟩
    simp only [psalterylaw01_BitsStays.l0]
    rw [if_pos (by omega), if_pos (by omega), if_pos (by omega), if_pos (by omega), rd_nth, rd_nth, Int.toNat_natCast, if_pos (hab i (by omega)), w64 (by omega) (by omega)]
    have := ih k (i + 1) (by omega) (by omega)
    rwa [Int.natCast_add, Int.natCast_one] at this
/-- what stands behind a number that was put -/
theorem tail (B : List Int) (N : Int) (B2 : List Int) (n : Int) (K : Nat) (hK : 300000 ≤ K) (hB : Bytes B) (hBl : B.length ≤ 5000) (hr0 : 0 ≤ N) (hr1 : N ≤ 32000) (hr2 : (B.length : Int) = (N + 7) / 8) (hn : 0 ≤ n) (hn' : n ≤ 32)
    (hB2 : Bytes B2) (hpl : B2.length ≤ 4000) (hR2 : RightW B2 (N + n)) (hbits : ∀ i, i < N.toNat → nth (bitsL B2) i = nth (bitsL B) i) (hlen2 : N ≤ ((bitsL B2).length : Int)) :
    ((bits_Right.f B2 (N + n)).bind fun t300 => if t300 = true then ((psalterylaw01_As.f B2 (N + n)).bind fun t301 => ((psalteryref01_Right.f (K + 1) B2 t301).bind fun t302 => (if t302 = true then (psalterylaw01_BitsStays.j1 (K + 1) (N + n != wrap64 (N + n)) B N B2 (N + n)) else (psalterylaw01_BitsStays.j1 (K + 1) true B N B2 (N + n))))) else (psalterylaw01_BitsStays.j1 (K + 1) true B N B2 (N + n))) = some true := by
  rw [right_eq _ (by omega), (right_iff hB2 _).2 hR2, Option.bind_some, if_pos rfl, psalterylaw01_As.f, Option.bind_some, refRight_eq hB2 (by omega) (by omega) _ (by omega), (right_iff hB2 _).2 hR2, Option.bind_some, if_pos rfl]
  rw [w64 (x := N + n) (by omega) (by omega), bne_self_eq_false]
  simp only [psalterylaw01_BitsStays.j1]
  rw [if_neg (by decide), refBits_eq hB2 (by omega) _ (by omega), refBits_eq hB (by omega) _ (by omega), Option.bind_some, Option.bind_some]
  exact stays_loop _ _ B N hr1 hlen2 (by rw [bitsL_length]; omega) hbits N.toNat _ 0 (by omega) (by omega)
theorem BitsStays : psalterylaw01_BitsStays.Pure := by
  intro B N v n hw hN hv hn
  have hB := wf_u8 hw.2
  have hN' := wf_i64 hN
  have hv' := wf_u64 hv
  have hn' := wf_i64 hn
  obtain ⟨K, hK⟩ : ∃ K : Nat, 300000 ≤ K := ⟨_, Nat.le_refl _⟩
  refine ⟨K + 1 + 1, ?_⟩
  unfold psalterylaw01_BitsStays.f
  rw [great01]
  simp only [Option.bind_some]
  have hk := knows01 (K + 1) (by omega)
  by_cases hg : (B.length : Int) > 5000
  · rw [decide_eq_true hg, if_pos rfl]; simp only [psalterylaw01_BitsStays.j0, if_true]; rw [hk]; rfl
  rw [decide_eq_false hg, if_neg (by decide)]
  simp only [psalterylaw01_As.f, Option.bind_some]
  rw [refRight_eq hB (by omega) hN' _ (by omega)]
  simp only [Option.bind_some, psalterylaw01_BitsStays.j0]
  cases hr : rightB B N with
  | false => rw [if_pos (by decide), hk]; rfl
  | true =>
    have hR := (right_iff hB N).1 hr
    rw [if_neg (by decide), put_eq hB (by omega) hN' hv' _ (by omega)]
    simp only [Option.bind_some]
    have hl := bitsTo_length hR
    have hb := bitsTo_bits B N
    have hp := pack_bitsTo hB hR
    obtain ⟨hr0, hr1, hr2, hr3⟩ := id hR
    have e1 : putS B N v n = putS (pack (bitsTo B N)) (bitsTo B N).length v n := by rw [hp, hl, Int.toNat_of_nonneg hr0]
    rw [e1, putS_pack hb (by omega), hp]
    have hNl : ((bitsTo B N).length : Int) = N := by omega
    rw [hNl]
    by_cases h4 : n < 0 ∨ 32 < n ∨ 2 ^ n.toNat ≤ v
    · rw [if_pos h4]
      simp only
      rw [if_neg (by omega)]
      simp only [psalterylaw01_As.f, Option.bind_some]
      rw [same_refl]
      simp only [Option.bind_some, if_true]
      rw [hk]; rfl
    rw [if_neg h4]
    by_cases h6 : 32000 < N + n
    · rw [if_pos h6]
      simp only
      rw [if_neg (by omega)]
      simp only [psalterylaw01_As.f, Option.bind_some]
      rw [same_refl]
      simp only [Option.bind_some, if_true]
      rw [hk]; rfl
    rw [if_neg h6]
    simp only [if_true]
    have hb2 := bits_append hb (vbits_bits v n.toNat)
    have hl2 : (bitsTo B N ++ vbits v n.toNat).length = N.toNat + n.toNat := by rw [List.length_append, vbits_length, hl]
    have hR2 := right_pack hb2 (by omega)
    have hB2 := pack_bytes hb2
    have hpl : (pack (bitsTo B N ++ vbits v n.toNat)).length ≤ 4000 := pack_length_le (by omega)
    have hbits : ∀ i, i < N.toNat → nth (bitsL (pack (bitsTo B N ++ vbits v n.toNat))) i = nth (bitsL B) i := by
      intro i hi
      rw [bitsL_nth, bitsL_nth, bitN_pack hb2, nth_append, if_pos (by omega), ← bitN_pack hb, hp]
    have hlen2 : N ≤ ((bitsL (pack (bitsTo B N ++ vbits v n.toNat))).length : Int) := by rw [bitsL_length, pack_length]; omega
    rw [show ((bitsTo B N ++ vbits v n.toNat).length : Int) = N + n by omega] at hR2
    exact tail B N (pack (bitsTo B N ++ vbits v n.toNat)) n K hK hB (by omega) hr0 hr1 hr2 (by omega) (by omega) hB2 hpl hR2 hbits hlen2
end Go.Proofs.Ytajnllkkgedgfaa.Pure
