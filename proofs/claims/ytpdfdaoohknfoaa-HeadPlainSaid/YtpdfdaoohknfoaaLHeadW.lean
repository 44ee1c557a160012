/- What vhead.Write answers, and the document's. -/
import Derived.Test.YtpdfdaoohknfoaaPx7
import Derived.Test.YtpdfdaoohknfoaaLHead
import Derived.Test.YtpdfdaoohknfoaaLHeadBits
namespace Go.Proofs.Ytpdfdaoohknfoaa.LV
set_option linter.unusedVariables false
set_option linter.unusedSimpArgs false
open Go.RowKit Go.Proofs.YtpdfdaoohknfoaaW.PrintWords Go.Proofs.YtpdfdaoohknfoaaW.PrintLast Go.Proofs.YtpdfdaoohknfoaaW.PrintMore Go.Proofs.Ytpdfdaoohknfoaa.P Go.Proofs.Ytpdfdaoohknfoaa.LB Go.Proofs.Ytpdfdaoohknfoaa.HT Go.Proofs.Ytpdfdaoohknfoaa.LH Go.Proofs.Ytpdfdaoohknfoaa.BT
theorem put_pack {L : List Int} (h : Bits01 L) (v : Int) (n : Nat) (m : Int) (hm : m = (n : Int)) (hl : L.length + n ≤ 32000) (hn : n ≤ 32) (h0 : 0 ≤ v) (h1 : v < 2 ^ n) (k : Nat) (hk : 40 ≤ k) :
    vhead_Write.put k (pack L) (L.length : Int) v m = some (pack (L ++ vbits v n), ((L ++ vbits v n).length : Int)) := by
  subst hm
  have hp := pow_le32 hn
  unfold vhead_Write.put
  rw [u64w h0 (by omega), put_eq (pack_bytes h) (by rw [pack_length]; omega) (by omega) (by omega) k hk, Option.bind_some]
  unfold putS
  rw [good_of_right (pack_bytes h) (right_pack h (by omega)), if_neg (by rw [Int.toNat_natCast]; omega), if_neg (by show ¬ (32000 < (L.length : Int) + n); omega)]
  show some (pack (bitsTo (pack L) (L.length : Int) ++ vbits v (n : Int).toNat), (L.length : Int) + n) = _
  rw [bitsTo_pack h, Int.toNat_natCast, List.length_append, vbits_length]; rfl
theorem list_pack : ∀ (l L : List Int), Bits01 L → L.length + 5 * l.length ≤ 32000 → (∀ v ∈ l, 0 ≤ v ∧ v < 32) → ∀ (k : Nat), 40 ≤ k → vhead_Write.list k l (pack L) (L.length : Int) = some (pack (L ++ rows5 l), ((L ++ rows5 l).length : Int))
  | [], L, _, _, _, k, _ => by rw [rows5, List.append_nil]; rfl
  | v :: l, L, h, hl, hv, k, hk => by
    rw [List.length_cons] at hl
    have hv1 := hv v (List.mem_cons_self ..)
    rw [vhead_Write.list, put_pack h v 5 5 rfl (by omega) (by omega) hv1.1 (by omega) k hk, Option.bind_some]
    show vhead_Write.list k l (pack (L ++ vbits v 5)) ((L ++ vbits v 5).length : Int) = _
    rw [list_pack l (L ++ vbits v 5) (bits_append h (vbits_bits _ _)) (by rw [List.length_append, vbits_length]; omega) (fun x hx => hv x (List.mem_cons_of_mem _ hx)) k hk, rows5, List.append_assoc]
theorem inl_mem {l : List Int} (h : inl l = true) : ∀ v ∈ l, 0 ≤ v ∧ v < 32 := by
  intro v hv
  have := List.all_eq_true.1 h v hv
  simp only [decide_eq_true_eq] at this
  omega
def writeS (c q : Int) (fl rs : List Int) : List Int × Int := if rightHd c q fl rs = true then (pack (headB c q fl rs), 0) else ([], 1)
theorem write_eq (c q : Int) (fl rs : List Int) (k : Nat) (hk : 300 < k) : vhead_Write.f k c q fl rs = some (writeS c q fl rs) := by
  unfold vhead_Write.f writeS
  rw [head_right c q fl rs k hk, Option.bind_some]
  by_cases hr : rightHd c q fl rs = true
  · rw [if_pos hr, if_pos hr]
    obtain ⟨a1, a2, a3, a4, a5, a6, a7, a8, a9⟩ := right_parts hr
    rw [if_pos ⟨by omega, by omega⟩, w64 (x := c - 1) (by omega) (by omega)]
    have b0 : Bits01 ([] : List Int) := fun x hx => by cases hx
    have e1 := put_pack b0 22099 16 16 rfl (by simp) (by omega) (by omega) (by decide) k (by omega)
    rw [show pack [] = [] from rfl, show (([] : List Int).length : Int) = 0 from rfl, List.nil_append] at e1
    have b1 : Bits01 (vbits 22099 16) := vbits_bits _ _
    have b2 : Bits01 (vbits 22099 16 ++ vbits (c - 1) 1) := bits_append b1 (vbits_bits _ _)
    have b3 : Bits01 (vbits 22099 16 ++ vbits (c - 1) 1 ++ vbits q 4) := bits_append b2 (vbits_bits _ _)
    have b4 : Bits01 (vbits 22099 16 ++ vbits (c - 1) 1 ++ vbits q 4 ++ rows5 fl) := bits_append b3 (rows5_bits _)
    have e2 := put_pack b1 (c - 1) 1 1 rfl (by rw [vbits_length]; omega) (by omega) (by omega) (by omega) k (by omega)
    have e3 := put_pack b2 q 4 4 rfl (by rw [List.length_append, vbits_length, vbits_length]; omega) (by omega) (by omega) (by omega) k (by omega)
    have e4 := list_pack fl _ b3 (by simp only [List.length_append, vbits_length]; omega) (inl_mem (right_inl a7)) k (by omega)
    have e5 := list_pack rs _ b4 (by simp only [List.length_append, vbits_length, rows5_length]; omega) (inl_mem (right_inl a8)) k (by omega)
    rw [e1, Option.bind_some, e2, Option.bind_some, e3, Option.bind_some, e4, Option.bind_some, e5, Option.bind_some]
    rfl
  · rw [if_neg hr, if_neg hr]
end Go.Proofs.Ytpdfdaoohknfoaa.LV
