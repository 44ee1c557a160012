/- What the document reads. -/
import Derived.Test.YtpdfdaoohknfoaaPx28
import Derived.Test.YtpdfdaoohknfoaaLHeadR
import Derived.Test.YtpdfdaoohknfoaaLBitsGetR
namespace Go.Proofs.Ytpdfdaoohknfoaa.LV
set_option linter.unusedVariables false
set_option linter.unusedSimpArgs false
open Go.RowKit Go.Proofs.YtpdfdaoohknfoaaW.PrintWords Go.Proofs.YtpdfdaoohknfoaaW.PrintLast Go.Proofs.YtpdfdaoohknfoaaW.PrintMore Go.Proofs.Ytpdfdaoohknfoaa.P Go.Proofs.Ytpdfdaoohknfoaa.LB Go.Proofs.Ytpdfdaoohknfoaa.HT Go.Proofs.Ytpdfdaoohknfoaa.LH Go.Proofs.Ytpdfdaoohknfoaa.BT
theorem number_eq {B : List Int} (hB : Bytes B) (hl : B.length = 41) (a n : Nat) (x m : Int) (hx : x = (a : Int)) (hm : m = (n : Int)) (h : a + n ≤ 8 * B.length) (hn : n ≤ 32) (k : Nat) (hk : 1000 ≤ k) : psalteryref16_number.f k B x m = some (vl B a n) := by
  subst hx hm
  have hv := vl_small h hn
  unfold psalteryref16_number.f
  rw [refGet_eq hB (by omega) (by omega) k (by omega), Option.bind_some, getS_in h hn]
  show some (wrap64 (vl B a n)) = _
  rw [w64 (by omega) (by omega)]
theorem lst_snoc (B : List Int) : ∀ d a, lst B a (d + 1) = lst B a d ++ [vl B (a + 5 * d) 5]
  | 0, a => by simp [lst]
  | d + 1, a => by rw [lst, lst_snoc B d (a + 5), lst, List.cons_append, show a + 5 + 5 * d = a + 5 * (d + 1) by omega]
def endR (B : List Int) (c q : Int) (fl : List Int) : Int × Int × List Int × List Int × Int := if vl B 326 2 = 0 ∧ rightHd c q fl (lst B 246 16) = true then (c, q, fl, lst B 246 16, 0) else nothing 2
theorem rd_l1 {B : List Int} (hB : Bytes B) (hl : B.length = 41) (c q : Int) (fl : List Int) (d : Nat) : ∀ (i k : Nat), i + d = 16 → d + 2000 < k → psalteryref16_Read.l1 k B (i : Int) c q fl (lst B 246 i) = some (endR B c q fl) := by
  induction d with
  | zero =>
    intro i k hi hk
    obtain ⟨k, rfl⟩ : ∃ j, k = j + 1 := ⟨k - 1, by omega⟩
    have : i = 16 := by omega
    subst this
    simp only [psalteryref16_Read.l1]
    rw [if_neg (by omega), number_eq hB hl 326 2 326 2 rfl rfl (by omega) (by omega) k (by omega), Option.bind_some]
    unfold endR
    by_cases c4 : vl B 326 2 = 0
    · rw [if_pos c4, ref_right _ _ _ _ k (by omega), Option.bind_some]
      by_cases c5 : rightHd c q fl (lst B 246 16) = true
      · rw [if_pos c5, if_pos ⟨c4, c5⟩]
      · rw [if_neg c5, if_neg (fun h => c5 h.2)]; rfl
    · rw [if_neg c4, if_neg (fun h => c4 h.1)]; rfl
  | succ d ih =>
    intro i k hi hk
    obtain ⟨k, rfl⟩ : ∃ j, k = j + 1 := ⟨k - 1, by omega⟩
    simp only [psalteryref16_Read.l1]
    have hll := lst_length B i 246
    rw [if_pos (by omega), w64 (x := 5 * (i : Int)) (by omega) (by omega), w64 (x := 246 + 5 * (i : Int)) (by omega) (by omega), number_eq hB hl (246 + 5 * i) 5 _ 5 (by omega) rfl (by omega) (by omega) k (by omega), Option.bind_some, if_pos (by omega), w64 (x := (i : Int) + 1) (by omega) (by omega), ← lst_snoc]
    exact ih (i + 1) k (by omega) (by omega)
theorem rd_l0 {B : List Int} (hB : Bytes B) (hl : B.length = 41) (c q : Int) (d : Nat) : ∀ (i k : Nat), i + d = 45 → d + 2100 < k → psalteryref16_Read.l0 k B (i : Int) c q (lst B 21 i) = some (endR B c q (lst B 21 45)) := by
  induction d with
  | zero =>
    intro i k hi hk
    obtain ⟨k, rfl⟩ : ∃ j, k = j + 1 := ⟨k - 1, by omega⟩
    have : i = 45 := by omega
    subst this
    simp only [psalteryref16_Read.l0]
    rw [if_neg (by omega)]
    exact rd_l1 hB hl c q _ 16 0 k (by omega) (by omega)
  | succ d ih =>
    intro i k hi hk
    obtain ⟨k, rfl⟩ : ∃ j, k = j + 1 := ⟨k - 1, by omega⟩
    simp only [psalteryref16_Read.l0]
    have hll := lst_length B i 21
    rw [if_pos (by omega), w64 (x := 5 * (i : Int)) (by omega) (by omega), w64 (x := 21 + 5 * (i : Int)) (by omega) (by omega), number_eq hB hl (21 + 5 * i) 5 _ 5 (by omega) rfl (by omega) (by omega) k (by omega), Option.bind_some, if_pos (by omega), w64 (x := (i : Int) + 1) (by omega) (by omega), ← lst_snoc]
    exact ih (i + 1) k (by omega) (by omega)
theorem rd_j0 {B : List Int} (hB : Bytes B) (hl : B.length = 41) (x : Bool) (hx : x = true ↔ vl B 0 16 ≠ 22099) (k : Nat) (hk : 3000 < k) : psalteryref16_Read.j0 k B x = some (readH B) := by
  obtain ⟨k, rfl⟩ : ∃ j, k = j + 1 := ⟨k - 1, by omega⟩
  simp only [psalteryref16_Read.j0]
  unfold readH
  by_cases c : x = true
  · rw [if_pos c, if_neg (fun h => (hx.1 c) h.1)]; rfl
  · have hm : vl B 0 16 = 22099 := Classical.byContradiction fun h => c (hx.2 h)
    have hv := vl_small (B := B) (a := 16) (n := 1) (by omega) (by omega)
    rw [if_neg c, number_eq hB hl 16 1 16 1 rfl rfl (by omega) (by omega) k (by omega), Option.bind_some, number_eq hB hl 17 4 17 4 rfl rfl (by omega) (by omega) k (by omega), Option.bind_some, w64 (x := 1 + vl B 16 1) (by omega) (by omega), show 1 + vl B 16 1 = vl B 16 1 + 1 by omega]
    have := rd_l0 hB hl (vl B 16 1 + 1) (vl B 17 4) 45 0 k (by omega) (by omega)
    rw [show psalteryref16_Read.l0 k B 0 (vl B 16 1 + 1) (vl B 17 4) [] = _ from this]
    unfold endR
    by_cases c4 : vl B 326 2 = 0 ∧ rightHd (vl B 16 1 + 1) (vl B 17 4) (lst B 21 45) (lst B 246 16) = true
    · rw [if_pos c4, if_pos ⟨hm, c4⟩]
    · rw [if_neg c4, if_neg (fun h => c4 h.2)]
theorem refRead_eq {B : List Int} (hB : Bytes B) (k : Nat) (hk : 3000 < k) : psalteryref16_Read.f k B = some (readS B) := by
  unfold psalteryref16_Read.f readS
  by_cases c1 : (B.length : Int) < 41
  · rw [if_pos c1, if_pos (show B.length < 41 by omega)]; rfl
  rw [if_neg c1, if_neg (show ¬ B.length < 41 by omega)]
  by_cases c2 : (B.length : Int) > 41
  · rw [if_pos c2, if_pos (show 41 < B.length by omega)]
    obtain ⟨k, rfl⟩ : ∃ j, k = j + 1 := ⟨k - 1, by omega⟩
    rfl
  rw [if_neg c2, if_neg (show ¬ 41 < B.length by omega), if_pos (by omega)]
  have hl : B.length = 41 := by omega
  have hm := magic_iff hB (by omega)
  by_cases c3 : rd B 0 = 83
  · rw [if_pos c3, if_pos (by omega)]
    have c3' : nth B 0 = 83 := c3
    apply rd_j0 hB hl _ _ k hk
    rw [bne_iff_ne]
    exact not_congr ⟨fun h => hm.2 ⟨c3', h⟩, fun h => (hm.1 h).2⟩
  · rw [if_neg c3]
    have c3' : ¬ nth B 0 = 83 := c3
    exact rd_j0 hB hl _ ⟨fun _ h => c3' (hm.1 h).1, fun _ => rfl⟩ k hk
end Go.Proofs.Ytpdfdaoohknfoaa.LV
