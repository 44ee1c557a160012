/- What the document's writer of layer 1 computes: which are right, and the bytes of bits. -/
import Derived.Test.YtmocinhononfpaaPx22
import Derived.Test.YtmocinhononfpaaPx20
import Derived.Test.YtmocinhononfpaaPx21
import Derived.Test.YtmocinhononfpaaPx25
import Derived.Test.YtmocinhononfpaaLBitsGetA
namespace Go.Proofs.Ytmocinhononfpaa.LB
set_option linter.unusedVariables false
set_option linter.unusedSimpArgs false
open Go.RowKit Go.Proofs.YtmocinhononfpaaW.PrintWords Go.Proofs.YtmocinhononfpaaW.PrintLast Go.Proofs.Ytmocinhononfpaa.P Go.Proofs.Ytmocinhononfpaa.BT
theorem refBytes_step {l : List Int} (hb : Bits01 l) (hl : l.length ≤ 100000000) (acc : List Int) (j : Nat) (hj : 8 * j < l.length) (k : Nat) (n t : Int) (h0 : 0 ≤ t) (h7 : t ≤ 7) (hn : 0 ≤ n) (hn' : n ≤ 1000) :
    psalteryref01_Bytes.l1 (k + 1) l acc ((8 * j : Nat) : Int) n t = psalteryref01_Bytes.l1 k l acc ((8 * j : Nat) : Int) (2 * n + nth l (8 * j + t.toNat)) (t - 1) := by
  simp only [psalteryref01_Bytes.l1]
  have h1 := nth_bit hb (8 * j + t.toNat)
  unfold IsBit at h1
  rw [if_pos (by omega), w64 (x := ((8 * j : Nat) : Int) + t) (by omega) (by omega), w64 (x := n * 2) (by omega) (by omega), w64 (x := t - 1) (by omega) (by omega)]
  by_cases h : ((8 * j : Nat) : Int) + t < l.length
  · rw [if_pos h, if_pos (by omega), rd_nth, show (((8 * j : Nat) : Int) + t).toNat = 8 * j + t.toNat by omega, w64 (by omega) (by omega)]
    congr 1; omega
  · rw [if_neg h, nth_ge (by omega)]
    congr 1; omega
theorem refBytes_l1 {l : List Int} (hb : Bits01 l) (hl : l.length ≤ 100000000) (acc : List Int) (j : Nat) (hj : 8 * j < l.length) (ha : acc.length < 140737488355328) (k : Nat) :
    psalteryref01_Bytes.l1 (k + 9) l acc ((8 * j : Nat) : Int) 0 7 = psalteryref01_Bytes.l0 k l (acc ++ [byteAt l j]) ((8 * (j + 1) : Nat) : Int) := by
  have b := fun i => nth_bit hb (8 * j + i)
  have b0 := b 0; have b1 := b 1; have b2 := b 2; have b3 := b 3; have b4 := b 4; have b5 := b 5; have b6 := b 6; have b7 := b 7
  clear b
  unfold IsBit at *
  rw [show k + 9 = (k + 8) + 1 by omega, refBytes_step hb hl acc j hj _ 0 7 (by omega) (by omega) (by omega) (by omega)]
  rw [show k + 8 = (k + 7) + 1 by omega, refBytes_step hb hl acc j hj _ _ _ (by omega) (by omega) (by simp; omega) (by simp; omega)]
  rw [show k + 7 = (k + 6) + 1 by omega, refBytes_step hb hl acc j hj _ _ _ (by omega) (by omega) (by simp; omega) (by simp; omega)]
  rw [show k + 6 = (k + 5) + 1 by omega, refBytes_step hb hl acc j hj _ _ _ (by omega) (by omega) (by simp; omega) (by simp; omega)]
  rw [show k + 5 = (k + 4) + 1 by omega, refBytes_step hb hl acc j hj _ _ _ (by omega) (by omega) (by simp; omega) (by simp; omega)]
  rw [show k + 4 = (k + 3) + 1 by omega, refBytes_step hb hl acc j hj _ _ _ (by omega) (by omega) (by simp; omega) (by simp; omega)]
  rw [show k + 3 = (k + 2) + 1 by omega, refBytes_step hb hl acc j hj _ _ _ (by omega) (by omega) (by simp; omega) (by simp; omega)]
  rw [show k + 2 = (k + 1) + 1 by omega, refBytes_step hb hl acc j hj _ _ _ (by omega) (by omega) (by simp; omega) (by simp; omega)]
  simp only [psalteryref01_Bytes.l1]
  rw [if_neg (by omega), if_pos ha, w64 (by omega) (by omega)]
  have hr := byteAt_range hb j
  congr 1
  · congr 2
    simp
    unfold byteAt BT.byteOf at *
    simp only [Nat.add_zero] at *
    omega
theorem refBytes_l0 {l : List Int} (hb : Bits01 l) (hl : l.length ≤ 100000000) (d : Nat) : ∀ (k j : Nat), j + d = (l.length + 7) / 8 → 10 * d < k →
    psalteryref01_Bytes.l0 k l ((List.range j).map (byteAt l)) ((8 * j : Nat) : Int) = some (pack l) := by
  induction d with
  | zero =>
    intro k j hj hk
    obtain ⟨k, rfl⟩ : ∃ m, k = m + 1 := ⟨k - 1, by omega⟩
    simp only [psalteryref01_Bytes.l0]
    rw [if_neg (by omega)]; unfold pack; rw [show j = (l.length + 7) / 8 by omega]
  | succ d ih =>
    intro k j hj hk
    obtain ⟨k, rfl⟩ : ∃ m, k = m + 9 + 1 := ⟨k - 10, by omega⟩
    simp only [psalteryref01_Bytes.l0]
    rw [if_pos (by omega), refBytes_l1 hb hl _ j (by omega) (by simp; omega)]
    have := ih k (j + 1) (by omega) (by omega)
    rwa [List.range_succ, List.map_append, List.map_singleton] at this
theorem refBytes_eq {l : List Int} (hb : Bits01 l) (hl : l.length ≤ 100000000) (k : Nat) (hk : 2 * l.length + 100 < k) : psalteryref01_Bytes.f k l = some (pack l) := by
  unfold psalteryref01_Bytes.f
  exact refBytes_l0 hb hl ((l.length + 7) / 8) k 0 (by omega) (by omega)
theorem refRight_l0 (l : List Int) (hl : l.length ≤ 100000000) (d : Nat) : ∀ (k i : Nat), i + d = l.length → d < k → ∃ b, psalteryref01_Right.l0 k l i = some b ∧ (b = true ↔ ∀ t, i ≤ t → t < l.length → nth l t = 0) := by
  induction d with
  | zero =>
    intro k i hi hk
    obtain ⟨k, rfl⟩ : ∃ m, k = m + 1 := ⟨k - 1, by omega⟩
    simp only [psalteryref01_Right.l0]
    exact ⟨true, by rw [if_neg (by omega)], fun _ t h1 h2 => by omega, fun _ => rfl⟩
  | succ d ih =>
    intro k i hi hk
    obtain ⟨k, rfl⟩ : ∃ m, k = m + 1 := ⟨k - 1, by omega⟩
    simp only [psalteryref01_Right.l0]
    rw [if_pos (by omega), if_pos (by omega), rd_nth, Int.toNat_natCast]
    by_cases h : nth l i = 0
    · rw [if_pos h, w64 (by omega) (by omega)]
      have := ih k (i + 1) (by omega) (by omega)
      rw [Int.natCast_add, Int.natCast_one] at this
      obtain ⟨b, hb, hb'⟩ := this
      refine ⟨b, hb, hb'.trans ⟨fun g t h1 h2 => ?_, fun g t h1 h2 => g t (by omega) h2⟩⟩
      by_cases e : t = i
      · rw [e]; exact h
      · exact g t (by omega) h2
    · rw [if_neg h]
      exact ⟨false, rfl, (fun g => by cases g), fun g => absurd (g i (by omega) (by omega)) h⟩
theorem rightW_iff {B : List Int} {N : Int} : RightW B N ↔ (0 ≤ N ∧ N ≤ 32000 ∧ N ≤ ((bitsL B).length : Int) ∧ ((bitsL B).length : Int) < N + 8 ∧ ∀ t, N.toNat ≤ t → t < (bitsL B).length → nth (bitsL B) t = 0) := by
  unfold RightW
  simp only [bitsL_length, bitsL_nth]
  constructor
  · rintro ⟨h0, h1, h2, h3⟩; exact ⟨h0, h1, by omega, by omega, fun t h _ => h3 t (by omega)⟩
  · rintro ⟨h0, h1, h2, h3, h4⟩
    refine ⟨h0, h1, by omega, fun i hi => ?_⟩
    by_cases h : i < 8 * B.length
    · exact h4 i (by omega) h
    · exact bitN_beyond B i (by omega)
theorem refRight_eq {B : List Int} (hB : Bytes B) (hl : B.length ≤ 1000000) {N : Int} (hN : -9223372036854775808 ≤ N ∧ N ≤ 9223372036854775807) (k : Nat) (hk : 10 * B.length + 10 < k) :
    psalteryref01_Right.f k B N = some (rightB B N) := by
  obtain ⟨k, rfl⟩ : ∃ m, k = m + 1 + 1 := ⟨k - 2, by omega⟩
  have key : ∀ b : Bool, (b = true ↔ RightW B N) → some b = some (rightB B N) := by
    intro b hb; congr 1; rw [Bool.eq_iff_iff, hb, right_iff hB]
  unfold psalteryref01_Right.f
  by_cases h0 : N < 0
  · rw [if_pos h0]; simp only [psalteryref01_Right.j0, if_true]; exact key _ ⟨(fun h => by cases h), fun h => by have := h.1; omega⟩
  rw [if_neg h0]
  simp only [psalteryref01_Right.j0]
  by_cases h1 : N > 32000
  · rw [decide_eq_true h1, if_pos rfl]; exact key _ ⟨(fun h => by cases h), fun h => by have := h.2.1; omega⟩
  rw [decide_eq_false h1, if_neg (by decide), refBits_eq hB hl _ (by omega)]
  simp only [Option.bind_some]
  have hbl := bitsL_length B
  by_cases h2 : ((bitsL B).length : Int) < N
  · rw [if_pos h2]; simp only [psalteryref01_Right.j1, if_true]; exact key _ ⟨(fun h => by cases h), fun h => by have := (rightW_iff.1 h).2.2.1; omega⟩
  rw [if_neg h2, w64 (x := N + 8) (by omega) (by omega)]
  simp only [psalteryref01_Right.j1]
  by_cases h3 : ((bitsL B).length : Int) ≥ N + 8
  · rw [decide_eq_true h3, if_pos rfl]; exact key _ ⟨(fun h => by cases h), fun h => by have := (rightW_iff.1 h).2.2.2.1; omega⟩
  rw [decide_eq_false h3, if_neg (by decide)]
  obtain ⟨b, e, hb⟩ := refRight_l0 (bitsL B) (by omega) ((bitsL B).length - N.toNat) k N.toNat (by omega) (by omega)
  rw [Int.toNat_of_nonneg (by omega)] at e
  rw [e]
  apply key
  rw [hb, rightW_iff]
  exact ⟨fun h => ⟨by omega, by omega, by omega, by omega, h⟩, fun h => h.2.2.2.2⟩
theorem refGood_eq {B : List Int} (hB : Bytes B) (hl : B.length ≤ 1000000) {N : Int} (hN : -9223372036854775808 ≤ N ∧ N ≤ 9223372036854775807) (k : Nat) (hk : 10 * B.length + 10 < k) :
    psalteryref01_Good.f k B N = some (goodS B N) := by
  unfold psalteryref01_Good.f goodS
  rw [refRight_eq hB hl hN k hk]; simp only [Option.bind_some]; split <;> rfl
theorem same_refl (B : List Int) (N : Int) : psalteryref01_Same.f B N B N = some true := by
  unfold psalteryref01_Same.f; rw [if_pos rfl, beq_self_eq_true]
end Go.Proofs.Ytmocinhononfpaa.LB
