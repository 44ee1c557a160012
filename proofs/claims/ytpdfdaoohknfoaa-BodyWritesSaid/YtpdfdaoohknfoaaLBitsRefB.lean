/- What the document's writer of layer 1 computes: the bytes of bits. -/
import Derived.Test.YtpdfdaoohknfoaaPx22
import Derived.Test.YtpdfdaoohknfoaaT1
namespace Go.Proofs.Ytpdfdaoohknfoaa.LB
set_option linter.unusedVariables false
set_option linter.unusedSimpArgs false
open Go.RowKit Go.Proofs.YtpdfdaoohknfoaaW.PrintWords Go.Proofs.YtpdfdaoohknfoaaW.PrintLast Go.Proofs.Ytpdfdaoohknfoaa.P Go.Proofs.Ytpdfdaoohknfoaa.BT
theorem refBytes_step {l : List Int} (hb : Bits01 l) (hl : l.length ≤ 100000000) (acc : List Int) (j : Nat) (hj : 8 * j < l.length) (k : Nat) (n t : Int) (h0 : 0 ≤ t) (h7 : t ≤ 7) (hn : 0 ≤ n) (hn' : n ≤ 1000) :
    psalteryref01_Bytes.l1 (k + 1) l acc ((8 * j : Nat) : Int) n t = psalteryref01_Bytes.l1 k l acc ((8 * j : Nat) : Int) (2 * n + nth l (8 * j + t.toNat)) (t - 1) := by
  simp only [psalteryref01_Bytes.l1]
  have h1 := nth_bit hb (8 * j + t.toNat)
  unfold IsBit at h1
  rw [if_pos (by omega), w64 (x := ((8 * j : Nat) : Int) + t) (by omega) (by omega), w64 (x := n * 2) (by omega) (by omega), w64 (x := t - 1) (by omega) (by omega)]
  by_cases h : ((8 * j : Nat) : Int) + t < l.length
  · rw [if_pos h, if_pos (by omega), rd_nth, show (((8 * j : Nat) : Int) + t).toNat = 8 * j + t.toNat by omega, w64 (by omega) (by omega)]
    congr 1; omega
  · rw [if_neg h, nth_ge (by omega)]
    congr 1; omega
theorem refBytes_l1 {l : List Int} (hb : Bits01 l) (hl : l.length ≤ 100000000) (acc : List Int) (j : Nat) (hj : 8 * j < l.length) (ha : acc.length < 140737488355328) (k : Nat) :
    psalteryref01_Bytes.l1 (k + 9) l acc ((8 * j : Nat) : Int) 0 7 = psalteryref01_Bytes.l0 k l (acc ++ [byteAt l j]) ((8 * (j + 1) : Nat) : Int) := by
  have b := fun i => nth_bit hb (8 * j + i)
  have b0 := b 0; have b1 := b 1; have b2 := b 2; have b3 := b 3; have b4 := b 4; have b5 := b 5; have b6 := b 6; have b7 := b 7
  clear b
  unfold IsBit at *
  rw [show k + 9 = (k + 8) + 1 by omega, refBytes_step hb hl acc j hj _ 0 7 (by omega) (by omega) (by omega) (by omega)]
  rw [show k + 8 = (k + 7) + 1 by omega, refBytes_step hb hl acc j hj _ _ _ (by omega) (by omega) (by simp; omega) (by simp; omega)]
  rw [show k + 7 = (k + 6) + 1 by omega, refBytes_step hb hl acc j hj _ _ _ (by omega) (by omega) (by simp; omega) (by simp; omega)]
  rw [show k + 6 = (k + 5) + 1 by omega, refBytes_step hb hl acc j hj _ _ _ (by omega) (by omega) (by simp; omega) (by simp; omega)]
  rw [show k + 5 = (k + 4) + 1 by omega, refBytes_step hb hl acc j hj _ _ _ (by omega) (by omega) (by simp; omega) (by simp; omega)]
  rw [show k + 4 = (k + 3) + 1 by omega, refBytes_step hb hl acc j hj _ _ _ (by omega) (by omega) (by simp; omega) (by simp; omega)]
  rw [show k + 3 = (k + 2) + 1 by omega, refBytes_step hb hl acc j hj _ _ _ (by omega) (by omega) (by simp; omega) (by simp; omega)]
  rw [show k + 2 = (k + 1) + 1 by omega, refBytes_step hb hl acc j hj _ _ _ (by omega) (by omega) (by simp; omega) (by simp; omega)]
  simp only [psalteryref01_Bytes.l1]
  rw [if_neg (by omega), if_pos ha, w64 (by omega) (by omega)]
  have hr := byteAt_range hb j
  congr 1
  · congr 2
    simp
    unfold byteAt BT.byteOf at *
    simp only [Nat.add_zero] at *
    omega
theorem refBytes_l0 {l : List Int} (hb : Bits01 l) (hl : l.length ≤ 100000000) (d : Nat) : ∀ (k j : Nat), j + d = (l.length + 7) / 8 → 10 * d < k →
    psalteryref01_Bytes.l0 k l ((List.range j).map (byteAt l)) ((8 * j : Nat) : Int) = some (pack l) := by
  induction d with
  | zero =>
    intro k j hj hk
    obtain ⟨k, rfl⟩ : ∃ m, k = m + 1 := ⟨k - 1, by omega⟩
    simp only [psalteryref01_Bytes.l0]
    rw [if_neg (by omega)]; unfold pack; rw [show j = (l.length + 7) / 8 by omega]
  | succ d ih =>
    intro k j hj hk
    obtain ⟨k, rfl⟩ : ∃ m, k = m + 9 + 1 := ⟨k - 10, by omega⟩
    simp only [psalteryref01_Bytes.l0]
    rw [if_pos (by omega), refBytes_l1 hb hl _ j (by omega) (by simp; omega)]
    have := ih k (j + 1) (by omega) (by omega)
    rwa [List.range_succ, List.map_append, List.map_singleton] at this
theorem refBytes_eq {l : List Int} (hb : Bits01 l) (hl : l.length ≤ 100000000) (k : Nat) (hk : 2 * l.length + 100 < k) : psalteryref01_Bytes.f k l = some (pack l) := by
  unfold psalteryref01_Bytes.f
  exact refBytes_l0 hb hl ((l.length + 7) / 8) k 0 (by omega) (by omega)
end Go.Proofs.Ytpdfdaoohknfoaa.LB
