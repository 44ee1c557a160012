/- The law BitsBack: what was put is read as it was, one behind the other; for any list of numbers and counts of bits, the first hundred of them; proved for every input. -/
import Derived.Test.YtajnllkkgedgfaaPx20
import Derived.Test.YtajnllkkgedgfaaPx7
import Derived.Test.YtajnllkkgedgfaaPureBitsParts
namespace Go.Proofs.Ytajnllkkgedgfaa.Pure
set_option linter.unusedVariables false
set_option linter.unusedSimpArgs false
open Go.RowKit Go.Proofs.YtajnllkkgedgfaaW.PrintWords Go.Proofs.YtajnllkkgedgfaaW.PrintLast Go.Proofs.Ytajnllkkgedgfaa.P Go.Proofs.Ytajnllkkgedgfaa.BT Go.Proofs.Ytajnllkkgedgfaa.LB
abbrev Pt := S50
/-- all bits of numbers, one behind the other -/
def allBits (l : List Pt) : List Int := l.flatMap fun p => vbits p.f0 p.f1.toNat
/-- a number that was put -/
def Fits (p : Pt) : Prop := 0 ≤ p.f0 ∧ 0 ≤ p.f1 ∧ p.f1 ≤ 32 ∧ p.f0 < 2 ^ p.f1.toNat
theorem allBits_bits (l : List Pt) : Bits01 (allBits l) := by
  intro x hx; unfold allBits at hx
  obtain ⟨p, _, hp⟩ := List.mem_flatMap.1 hx
  exact vbits_bits _ _ x hp
theorem allBits_snoc (l : List Pt) (p : Pt) : allBits (l ++ [p]) = allBits l ++ vbits p.f0 p.f1.toNat := by unfold allBits; rw [List.flatMap_append]; simp
theorem seg_pack {l m r : List Int} (h : Bits01 (l ++ m ++ r)) : seg (pack (l ++ m ++ r)) l.length m.length = m := by
  unfold seg
  apply ext_nth
  · rw [List.length_take, List.length_drop, bitsL_length, pack_length, List.length_append, List.length_append]; omega
  · intro i hi
    rw [List.length_take] at hi
    rw [nth_take, if_pos (by omega), nth_drop, bitsL_nth, bitN_pack h, nth_append, if_pos (by rw [List.length_append]; omega), nth_append, if_neg (by omega), show l.length + i - l.length = i by omega]
theorem rd_at (l : List Pt) (i : Nat) (h : i < l.length) : rd_T50 l (i : Int) = l[i] := by
  unfold rd_T50; simp [h]
/-- the loop that reads -/
theorem read_loop (kept : List Pt) (hf : ∀ p ∈ kept, Fits p) (hl : (allBits kept).length ≤ 32000) (d : Nat) : ∀ (k i : Nat), i + d = kept.length → kept.length ≤ 1000 → d + 1000 < k →
    psalterylaw01_BitsBack.l1 k kept i (pack (allBits kept)) (allBits kept).length (pack (allBits kept)) (allBits (kept.take i)).length = some true := by
  have hB := pack_bytes (allBits_bits kept)
  have hpl : (pack (allBits kept)).length ≤ 4000 := pack_length_le hl
  induction d with
  | zero =>
    intro k i hi hc hk
    obtain ⟨k, rfl⟩ : ∃ m, k = m + 1 := ⟨k - 1, by omega⟩
    simp only [psalterylaw01_BitsBack.l1]
    rw [if_neg (by omega), List.take_of_length_le (by omega), if_pos rfl, left_eq _ (by omega) (by omega)]
    simp only [Option.bind_some]
    have := pack_length (allBits kept)
    rw [if_neg (c := ((allBits kept).length : Int) < 0 ∨ 8 * ((pack (allBits kept)).length : Int) < (allBits kept).length) (by omega), if_pos (by omega), knows01 _ (by omega)]; rfl
  | succ d ih =>
    intro k i hi hc hk
    obtain ⟨k, rfl⟩ : ∃ m, k = m + 1 := ⟨k - 1, by omega⟩
    simp only [psalterylaw01_BitsBack.l1]
    have hlt : i < kept.length := by omega
    rw [if_pos (by omega), if_pos (by omega), rd_at kept i hlt]
    obtain ⟨f0, f1, f2, f3⟩ := hf _ (List.getElem_mem hlt)
    have parts : allBits kept = allBits (kept.take i) ++ vbits kept[i].f0 kept[i].f1.toNat ++ allBits (kept.drop (i + 1)) := by
      rw [← allBits_snoc, ← List.take_succ_eq_append_getElem hlt]
      unfold allBits; rw [← List.flatMap_append, List.take_append_drop]
    have hlen : (allBits (kept.take i)).length + kept[i].f1.toNat ≤ (allBits kept).length := by
      have := congrArg List.length parts
      rw [List.length_append, List.length_append, vbits_length] at this; omega
    have hpl2 := pack_length (allBits kept)
    rw [get_eq hB (by omega) (by omega) _ (by omega)]
    simp only [Option.bind_some]
    have eg : getS (pack (allBits kept)) (allBits (kept.take i)).length kept[i].f1 = (((allBits (kept.take i)).length : Int) + kept[i].f1, numOf (seg (pack (allBits kept)) ((allBits (kept.take i)).length : Int).toNat kept[i].f1.toNat), 0) := by
      unfold getS; rw [if_neg (by omega), if_neg (by omega)]
    rw [eg]
    simp only [if_true]
    have e : seg (pack (allBits kept)) ((allBits (kept.take i)).length : Int).toNat kept[i].f1.toNat = vbits kept[i].f0 kept[i].f1.toNat := by
      have hb := allBits_bits kept
      rw [parts] at hb
      have := seg_pack hb
      rw [← parts, vbits_length] at this
      rwa [Int.toNat_natCast]
    rw [e, numOf_vbits, Int.emod_eq_of_lt f0 f3, if_pos rfl, w64 (by omega) (by omega)]
    have := ih k (i + 1) (by omega) hc (by omega)
    rw [Int.natCast_add, Int.natCast_one] at this
    rw [show ((allBits (kept.take i)).length : Int) + kept[i].f1 = ((allBits (kept.take (i + 1))).length : Int) by
      rw [List.take_succ_eq_append_getElem hlt, allBits_snoc, List.length_append, vbits_length]; omega]
    exact this
/-- the loop that writes -/
theorem write_loop (l : List Pt) (hw : ∀ p ∈ l, (0 ≤ p.f0 ∧ p.f0 < 18446744073709551616) ∧ -9223372036854775808 ≤ p.f1 ∧ p.f1 ≤ 9223372036854775807) (hm : l.length ≤ 9223372036854775807) (d : Nat) : ∀ (k i : Nat) (kept : List Pt), i ≤ 100 → i + d = 100 → (∀ p ∈ kept, Fits p) → (allBits kept).length ≤ 32000 → kept.length ≤ i → 2 * d + 5000 < k →
    psalterylaw01_BitsBack.l0 k l kept i (pack (allBits kept)) (allBits kept).length = some true := by
  have fin : ∀ (k : Nat) (kept : List Pt) (i : Int), (∀ p ∈ kept, Fits p) → (allBits kept).length ≤ 32000 → kept.length ≤ 100 → 3000 < k →
      psalterylaw01_BitsBack.j1 k l kept i false (pack (allBits kept)) (allBits kept).length = some true := by
    intro k kept i hf hl hc hk
    obtain ⟨k, rfl⟩ : ∃ m, k = m + 1 := ⟨k - 1, by omega⟩
    simp only [psalterylaw01_BitsBack.j1]
    rw [if_neg (by decide)]
    exact read_loop kept hf hl kept.length k 0 (by omega) (by omega) (by omega)
  induction d with
  | zero =>
    intro k i kept hi hd hf hl hc hk
    obtain ⟨k, rfl⟩ : ∃ m, k = m + 1 := ⟨k - 1, by omega⟩
    simp only [psalterylaw01_BitsBack.l0]
    rw [decide_eq_false (by omega : ¬ (i : Int) < 100)]
    split <;> exact fin _ _ _ hf hl (by omega) (by omega)
  | succ d ih =>
    intro k i kept hi hd hf hl hc hk
    obtain ⟨k, rfl⟩ : ∃ m, k = m + 1 + 1 := ⟨k - 2, by omega⟩
    simp only [psalterylaw01_BitsBack.l0]
    by_cases hlt : i < l.length
    · rw [if_pos (by omega), decide_eq_true (by omega : (i : Int) < 100)]
      simp only [psalterylaw01_BitsBack.j1, if_true]
      rw [if_pos (by omega), if_pos (by omega), rd_at l i hlt]
      obtain ⟨w1, w2⟩ := hw _ (List.getElem_mem hlt)
      have hb := allBits_bits kept
      rw [put_eq (pack_bytes hb) (by have := pack_length_le hl; omega) (by omega) w1 _ (by omega), putS_pack hb hl, w64 (x := (i : Int) + 1) (by omega) (by omega)]
      simp only [Option.bind_some]
      have keep : psalterylaw01_BitsBack.l0 k l kept ((i + 1 : Nat) : Int) (pack (allBits kept)) (allBits kept).length = some true := ih k (i + 1) kept (by omega) (by omega) hf hl (by omega) (by omega)
      rw [Int.natCast_add, Int.natCast_one] at keep
      by_cases h4 : l[i].f1 < 0 ∨ 32 < l[i].f1 ∨ 2 ^ l[i].f1.toNat ≤ l[i].f0
      · rw [if_pos h4, if_neg (by simp)]; exact keep
      rw [if_neg h4]
      by_cases h6 : 32000 < ((allBits kept).length : Int) + l[i].f1
      · rw [if_pos h6, if_neg (by simp)]; exact keep
      rw [if_neg h6, if_pos rfl, if_pos (by omega)]
      simp only
      have e0 : (⟨l[i].f0, l[i].f1⟩ : Pt) = l[i] := rfl
      rw [e0, ← allBits_snoc]
      have hl2 : (allBits (kept ++ [l[i]])).length = (allBits kept).length + l[i].f1.toNat := by rw [allBits_snoc, List.length_append, vbits_length]
      have := ih k (i + 1) (kept ++ [l[i]]) (by omega) (by omega) (fun p hp => by
        rcases List.mem_append.1 hp with h | h
        · exact hf p h
        · rw [List.mem_singleton.1 h]; exact ⟨w1.1, by omega, by omega, by omega⟩) (by omega) (by simp; omega) (by omega)
      rw [Int.natCast_add, Int.natCast_one] at this
      rw [show ((allBits kept).length : Int) + l[i].f1 = ((allBits (kept ++ [l[i]])).length : Int) by omega]
      exact this
    · rw [if_neg (by omega)]
      exact fin _ _ _ hf hl (by omega) (by omega)
theorem BitsBack : psalterylaw01_BitsBack.Pure := by
  intro l hw
  obtain ⟨K, hK⟩ : ∃ K : Nat, 10000 ≤ K := ⟨_, Nat.le_refl _⟩
  refine ⟨K, ?_⟩
  unfold psalterylaw01_BitsBack.f
  have hm : l.length ≤ 9223372036854775807 := by have := hw.1; unfold maxLen at this; exact this
  exact write_loop l (fun p hp => ⟨wf_u64 (hw.2 p hp).1, wf_i64 (hw.2 p hp).2⟩) hm 100 K 0 [] (by omega) (by omega) (fun p hp => by simp at hp) (by simp [allBits]) (by simp) (by omega)
end Go.Proofs.Ytajnllkkgedgfaa.Pure
