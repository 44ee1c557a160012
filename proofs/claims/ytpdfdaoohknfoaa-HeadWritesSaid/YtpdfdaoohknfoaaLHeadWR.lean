/- What the document writes of a header that is right. -/
import Derived.Test.YtpdfdaoohknfoaaPx23
import Derived.Test.YtpdfdaoohknfoaaLHeadW
import Derived.Test.YtpdfdaoohknfoaaLBitsRefB
namespace Go.Proofs.Ytpdfdaoohknfoaa.LV
set_option linter.unusedVariables false
set_option linter.unusedSimpArgs false
open Go.RowKit Go.Proofs.YtpdfdaoohknfoaaW.PrintWords Go.Proofs.YtpdfdaoohknfoaaW.PrintLast Go.Proofs.YtpdfdaoohknfoaaW.PrintMore Go.Proofs.Ytpdfdaoohknfoaa.P Go.Proofs.Ytpdfdaoohknfoaa.LB Go.Proofs.Ytpdfdaoohknfoaa.HT Go.Proofs.Ytpdfdaoohknfoaa.LH Go.Proofs.Ytpdfdaoohknfoaa.BT
theorem bitsOf_loop (n : Nat) (hn : n ≤ 64) (d : Nat) : ∀ (i k : Nat) (v : Int) (acc : List Int), i + d = n → d < k → 0 ≤ v → v < 9223372036854775808 → acc.length = i → psalteryref16_bitsOf.l0 k v (n : Int) acc (i : Int) = some (acc ++ vbits v d) := by
  induction d with
  | zero =>
    intro i k v acc hi hk h0 h1 ha
    obtain ⟨k, rfl⟩ : ∃ j, k = j + 1 := ⟨k - 1, by omega⟩
    simp only [psalteryref16_bitsOf.l0]
    rw [if_neg (by omega), vbits_zero, List.append_nil]
  | succ d ih =>
    intro i k v acc hi hk h0 h1 ha
    obtain ⟨k, rfl⟩ : ∃ j, k = j + 1 := ⟨k - 1, by omega⟩
    simp only [psalteryref16_bitsOf.l0]
    rw [if_pos (by omega), if_pos (by omega), tmod_nn 2 h0, tdiv_nn 2 h0, w64 (x := v / 2) (by omega) (by omega), w64 (x := (i : Int) + 1) (by omega) (by omega)]
    have := ih (i + 1) k (v / 2) (acc ++ [v % 2]) (by omega) (by omega) (by omega) (by omega) (by rw [List.length_append, ha]; rfl)
    rw [vbits_cons, show acc ++ (v % 2 :: vbits (v / 2) d) = acc ++ [v % 2] ++ vbits (v / 2) d by simp]
    exact this
theorem bitsOf_eq (v : Int) (n : Nat) (m : Int) (hm : m = (n : Int)) (hn : n ≤ 64) (h0 : 0 ≤ v) (h1 : v < 9223372036854775808) (k : Nat) (hk : 70 < k) : psalteryref16_bitsOf.f k v m = some (vbits v n) := by
  subst hm
  unfold psalteryref16_bitsOf.f
  have := bitsOf_loop n hn n 0 k v [] (by omega) (by omega) h0 h1 rfl
  rw [List.nil_append] at this
  exact this
theorem rd_mid (l r : List Int) (x : Int) : rd (l ++ x :: r) (l.length : Int) = x := by simp [rd]
theorem wr_l1 (c q : Int) (fl : List Int) (R : List Int) : ∀ (r p L : List Int) (k : Nat), p ++ r = R → R.length ≤ 1000 → (∀ v ∈ R, 0 ≤ v ∧ v < 32) → Bits01 L → L.length + 5 * r.length ≤ 32000 → r.length + 65000 < k →
    psalteryref16_Write.l1 k L (p.length : Int) c q fl R = some (pack (L ++ rows5 r))
  | [], p, L, k, hR, hl, hv, hb, hL, hk => by
    obtain ⟨k, rfl⟩ : ∃ j, k = j + 1 := ⟨k - 1, by omega⟩
    rw [List.append_nil] at hR
    subst hR
    simp only [psalteryref16_Write.l1]
    rw [if_neg (by omega), refBytes_eq hb (by omega) k (by omega), rows5, List.append_nil]; rfl
  | x :: r, p, L, k, hR, hl, hv, hb, hL, hk => by
    obtain ⟨k, rfl⟩ : ∃ j, k = j + 1 := ⟨k - 1, by omega⟩
    have hR2 : (p ++ [x]) ++ r = R := by rw [← hR]; simp
    have hx := hv x (by rw [← hR]; simp)
    have hlen : R.length = p.length + r.length + 1 := by rw [← hR]; simp; omega
    have hrd : rd R (p.length : Int) = x := by rw [← hR]; exact rd_mid p r x
    rw [List.length_cons] at hL hk
    simp only [psalteryref16_Write.l1]
    rw [if_pos (by omega), if_pos (by omega), hrd, bitsOf_eq x 5 5 rfl (by omega) hx.1 (by omega) k (by omega), Option.bind_some, vbits_length, if_pos (by omega), w64 (x := (p.length : Int) + 1) (by omega) (by omega)]
    have := wr_l1 c q fl R r (p ++ [x]) (L ++ vbits x 5) k hR2 hl hv (bits_append hb (vbits_bits _ _)) (by rw [List.length_append, vbits_length]; omega) (by omega)
    rw [List.length_append, List.length_singleton, List.append_assoc] at this
    rw [rows5]
    exact this
theorem wr_l0 (c q : Int) (rs : List Int) (hrs : rs.length ≤ 1000) (hvr : ∀ v ∈ rs, 0 ≤ v ∧ v < 32) (R : List Int) : ∀ (r p L : List Int) (k : Nat), p ++ r = R → R.length ≤ 1000 → (∀ v ∈ R, 0 ≤ v ∧ v < 32) → Bits01 L → L.length + 5 * r.length + 5 * rs.length ≤ 32000 → r.length + rs.length + 65001 < k →
    psalteryref16_Write.l0 k L (p.length : Int) c q R rs = some (pack (L ++ rows5 r ++ rows5 rs))
  | [], p, L, k, hR, hl, hv, hb, hL, hk => by
    obtain ⟨k, rfl⟩ : ∃ j, k = j + 1 := ⟨k - 1, by omega⟩
    rw [List.append_nil] at hR
    subst hR
    rw [List.length_nil] at hL hk
    simp only [psalteryref16_Write.l0]
    rw [if_neg (by omega), rows5, List.append_nil]
    exact wr_l1 c q p rs rs [] L k (by simp) hrs hvr hb (by omega) (by omega)
  | x :: r, p, L, k, hR, hl, hv, hb, hL, hk => by
    obtain ⟨k, rfl⟩ : ∃ j, k = j + 1 := ⟨k - 1, by omega⟩
    have hR2 : (p ++ [x]) ++ r = R := by rw [← hR]; simp
    have hx := hv x (by rw [← hR]; simp)
    have hlen : R.length = p.length + r.length + 1 := by rw [← hR]; simp; omega
    have hrd : rd R (p.length : Int) = x := by rw [← hR]; exact rd_mid p r x
    rw [List.length_cons] at hL hk
    simp only [psalteryref16_Write.l0]
    rw [if_pos (by omega), if_pos (by omega), hrd, bitsOf_eq x 5 5 rfl (by omega) hx.1 (by omega) k (by omega), Option.bind_some, vbits_length, if_pos (by omega), w64 (x := (p.length : Int) + 1) (by omega) (by omega)]
    have := wr_l0 c q rs hrs hvr R r (p ++ [x]) (L ++ vbits x 5) k hR2 hl hv (bits_append hb (vbits_bits _ _)) (by rw [List.length_append, vbits_length]; omega) (by omega)
    rw [List.length_append, List.length_singleton, List.append_assoc (bs := vbits x 5)] at this
    rw [rows5]
    exact this
theorem refWrite_eq {c q : Int} {fl rs : List Int} (hr : rightHd c q fl rs = true) (k : Nat) (hk : 70000 < k) : psalteryref16_Write.f k c q fl rs = some (pack (headB c q fl rs)) := by
  obtain ⟨a1, a2, a3, a4, a5, a6, a7, a8, a9⟩ := right_parts hr
  unfold psalteryref16_Write.f headB
  rw [w64 (x := c - 1) (by omega) (by omega), bitsOf_eq 22099 16 16 rfl (by omega) (by omega) (by omega) k (by omega), bitsOf_eq (c - 1) 1 1 rfl (by omega) (by omega) (by omega) k (by omega), bitsOf_eq q 4 4 rfl (by omega) (by omega) (by omega) k (by omega), Option.bind_some, Option.bind_some, vbits_length, vbits_length, if_pos (by omega), Option.bind_some, Option.bind_some, List.length_append, vbits_length, vbits_length, vbits_length, if_pos (by omega)]
  exact wr_l0 c q rs (by omega) (inl_mem (right_inl a8)) fl fl [] _ k (by simp) (by omega) (inl_mem (right_inl a7)) (bits_append (bits_append (vbits_bits _ _) (vbits_bits _ _)) (vbits_bits _ _)) (by simp only [List.length_append, vbits_length]; omega) (by omega)
end Go.Proofs.Ytpdfdaoohknfoaa.LV
