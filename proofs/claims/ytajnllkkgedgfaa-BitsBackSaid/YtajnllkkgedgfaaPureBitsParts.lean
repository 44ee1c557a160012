/- The law BitsParts: a number that is put in two parts, the lower one first, is put as at once; for any writer, any number, parted anywhere; proved for every input. -/
import Derived.Test.YtajnllkkgedgfaaPx21
import Derived.Test.YtajnllkkgedgfaaPx7
import Derived.Test.YtajnllkkgedgfaaPureBitsRights
namespace Go.Proofs.Ytajnllkkgedgfaa.Pure
set_option linter.unusedVariables false
set_option linter.unusedSimpArgs false
open Go.RowKit Go.Proofs.YtajnllkkgedgfaaW.PrintWords Go.Proofs.YtajnllkkgedgfaaW.PrintLast Go.Proofs.Ytajnllkkgedgfaa.P Go.Proofs.Ytajnllkkgedgfaa.BT Go.Proofs.Ytajnllkkgedgfaa.LB
/-- behind a right writer's bits -/
theorem putS_pack {l : List Int} (hb : Bits01 l) (hl : l.length ≤ 32000) (v n : Int) : putS (pack l) l.length v n =
    if n < 0 ∨ 32 < n ∨ 2 ^ n.toNat ≤ v then (pack l, (l.length : Int), 1) else if 32000 < (l.length : Int) + n then (pack l, (l.length : Int), 3) else (pack (l ++ vbits v n.toNat), (l.length : Int) + n, 0) := by
  unfold putS
  rw [good_of_right (pack_bytes hb) (right_pack hb hl), bitsTo_pack hb]
theorem pack_length_le {l : List Int} (hl : l.length ≤ 32000) : (pack l).length ≤ 4000 := by rw [pack_length]; omega
theorem BitsParts : psalterylaw01_BitsParts.Pure := by
  intro B N v n m hw hN hv hn hm
  have hB := wf_u8 hw.2
  have hN' := wf_i64 hN
  have hv' := wf_u64 hv
  have hn' := wf_i64 hn
  have hm' := wf_i64 hm
  obtain ⟨K, hK⟩ : ∃ K : Nat, 300000 ≤ K := ⟨_, Nat.le_refl _⟩
  refine ⟨K + 1, ?_⟩
  unfold psalterylaw01_BitsParts.f
  rw [great01]
  simp only [Option.bind_some, psalterylaw01_BitsParts.j0]
  have hk := knows01 K (by omega)
  rw [hk]
  simp only [Option.bind_some, if_true]
  by_cases hg : (B.length : Int) > 5000
  · rw [decide_eq_true hg, if_pos rfl]
  rw [decide_eq_false hg, if_neg (by decide)]
  by_cases h1 : m < 0
  · rw [if_pos h1]
  rw [if_neg h1]
  by_cases h2 : m > n
  · rw [if_pos h2]
  rw [if_neg h2]
  by_cases h3 : n > 32
  · rw [decide_eq_true h3, if_pos rfl]
  rw [decide_eq_false h3, if_neg (by decide), put_eq hB (by omega) hN' hv' _ (by omega)]
  simp only [Option.bind_some]
  obtain ⟨l, hb, hlen, e, el⟩ := good_pack hB N
  have e1 : putS B N v n = putS (pack l) l.length v n := by
    rw [putS_pack hb hlen]; unfold putS; rw [← el, e]
  have hpn : (0 : Int) < 2 ^ n.toNat := Int.pow_pos (by omega)
  have hpm : (0 : Int) < 2 ^ m.toNat := Int.pow_pos (by omega)
  have hpb := pow_le32 (i := m.toNat) (by omega)
  rw [e1, putS_pack hb hlen, power_eq (by omega) _ (by omega), power_eq (by omega) _ (by omega)]
  simp only [Option.bind_some]
  by_cases h4 : n < 0 ∨ 32 < n ∨ 2 ^ n.toNat ≤ v
  · rw [if_pos h4]
    have h5 : v ≥ 2 ^ n.toNat := by omega
    simp only [decide_eq_true h5]
    rfl
  rw [if_neg h4]
  have h5 : ¬ v ≥ 2 ^ n.toNat := by omega
  by_cases h6 : 32000 < (l.length : Int) + n
  · rw [if_pos h6]; simp only [decide_eq_false h5]; rfl
  rw [if_neg h6]
  simp only [if_true]
  rw [if_neg (by omega), tmod_nn _ hv'.1, tdiv_nn _ hv'.1]
  have hr0 := Int.emod_nonneg v (show (2 : Int) ^ m.toNat ≠ 0 by omega)
  have hr1 := Int.emod_lt_of_pos v hpm
  have hd0 : 0 ≤ v / 2 ^ m.toNat := Int.ediv_nonneg hv'.1 (by omega)
  have hd1 : v / 2 ^ m.toNat ≤ v := Int.ediv_le_self _ hv'.1
  have e2 : putS B N (v % 2 ^ m.toNat) m = putS (pack l) l.length (v % 2 ^ m.toNat) m := by
    rw [putS_pack hb hlen]; unfold putS; rw [← el, e]
  have hd2 : v / 2 ^ m.toNat < 2 ^ (n - m).toNat := by
    apply Int.ediv_lt_of_lt_mul hpm
    rw [← Int.pow_add, show (n - m).toNat + m.toNat = n.toNat by omega]; omega
  rw [put_eq hB (by omega) hN' ⟨hr0, by omega⟩ _ (by omega), e2, putS_pack hb hlen, if_neg (by omega), if_neg (by omega)]
  simp only [Option.bind_some]
  rw [u64w hd0 (by omega), w64 (x := n - m) (by omega) (by omega)]
  have hb2 := bits_append hb (vbits_bits (v % 2 ^ m.toNat) m.toNat)
  have hl2 : (l ++ vbits (v % 2 ^ m.toNat) m.toNat).length = l.length + m.toNat := by rw [List.length_append, vbits_length]
  have hl3 : ((l ++ vbits (v % 2 ^ m.toNat) m.toNat).length : Int) = (l.length : Int) + m := by omega
  have hp := put_eq (pack_bytes hb2) (by rw [pack_length]; omega) (N := ((l ++ vbits (v % 2 ^ m.toNat) m.toNat).length : Int)) (n := n - m) (by omega) ⟨hd0, by omega⟩ K (by omega)
  rw [← hl3, hp, putS_pack hb2 (by omega), if_neg (by omega), if_neg (by omega)]
  simp only [Option.bind_some, if_true, psalterylaw01_As.f]
  have e3 : (l ++ vbits (v % 2 ^ m.toNat) m.toNat) ++ vbits (v / 2 ^ m.toNat) (n - m).toNat = l ++ vbits v n.toNat := by
    rw [vbits_emod, List.append_assoc, ← vbits_add, show m.toNat + (n - m).toNat = n.toNat by omega]
  rw [e3, show ((l ++ vbits (v % 2 ^ m.toNat) m.toNat).length : Int) + (n - m) = (l.length : Int) + n by omega, if_neg h6]
  simp only [if_true]
  rw [same_refl]; rfl
end Go.Proofs.Ytajnllkkgedgfaa.Pure
