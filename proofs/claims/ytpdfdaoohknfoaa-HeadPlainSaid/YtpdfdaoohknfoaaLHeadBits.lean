/- The bits of a header, and what stands at a place of them: no program in sight. -/
import Derived.Test.YtpdfdaoohknfoaaLBitsGetA
namespace Go.Proofs.Ytpdfdaoohknfoaa.LV
set_option linter.unusedVariables false
set_option linter.unusedSimpArgs false
open Go.Proofs.Ytpdfdaoohknfoaa.LB Go.Proofs.Ytpdfdaoohknfoaa.BT
/-- five bits of each number -/
def rows5 : List Int → List Int
  | [] => []
  | v :: l => vbits v 5 ++ rows5 l
theorem rows5_length : ∀ l : List Int, (rows5 l).length = 5 * l.length
  | [] => rfl
  | v :: l => by rw [rows5, List.length_append, vbits_length, rows5_length l, List.length_cons]; omega
theorem rows5_bits : ∀ l : List Int, Bits01 (rows5 l)
  | [] => fun x hx => by cases hx
  | v :: l => bits_append (vbits_bits v 5) (rows5_bits l)
theorem rows5_snoc (l : List Int) (v : Int) : rows5 (l ++ [v]) = rows5 l ++ vbits v 5 := by
  induction l with
  | nil => simp [rows5]
  | cons x l ih => rw [List.cons_append, rows5, rows5, ih, List.append_assoc]
def headB (c q : Int) (fl rs : List Int) : List Int := vbits 22099 16 ++ vbits (c - 1) 1 ++ vbits q 4 ++ rows5 fl ++ rows5 rs
theorem headB_bits (c q : Int) (fl rs : List Int) : Bits01 (headB c q fl rs) := bits_append (bits_append (bits_append (bits_append (vbits_bits _ _) (vbits_bits _ _)) (vbits_bits _ _)) (rows5_bits _)) (rows5_bits _)
theorem headB_length (c q : Int) (fl rs : List Int) : (headB c q fl rs).length = 21 + 5 * fl.length + 5 * rs.length := by
  simp only [headB, List.length_append, vbits_length, rows5_length]
/-- the number that stands at a place -/
def vl (B : List Int) (a n : Nat) : Int := numOf (seg B a n)
def lst (B : List Int) : Nat → Nat → List Int
  | _, 0 => []
  | a, d + 1 => vl B a 5 :: lst B (a + 5) d
theorem lst_length (B : List Int) : ∀ d a, (lst B a d).length = d
  | 0, _ => rfl
  | d + 1, a => by rw [lst, List.length_cons, lst_length B d]
theorem vl_range {B : List Int} {a n : Nat} (h : a + n ≤ 8 * B.length) : 0 ≤ vl B a n ∧ vl B a n < 2 ^ n := by
  have := numOf_range (seg_bits B a n)
  rw [seg_length h] at this
  exact this
theorem seg_nth {B : List Int} {a n i : Nat} (hi : i < n) : nth (seg B a n) i = bitN B (a + i) := by
  unfold seg
  rw [nth_take, if_pos hi, nth_drop, bitsL_nth]
theorem seg_of {B M : List Int} {a : Nat} (h : a + M.length ≤ 8 * B.length) (hb : ∀ i, i < M.length → bitN B (a + i) = nth M i) : seg B a M.length = M := by
  have hl := seg_length (B := B) (a := a) (n := M.length) h
  apply ext_nth hl
  intro i hi
  rw [hl] at hi
  rw [seg_nth hi, hb i hi]
theorem seg_pack {P M R : List Int} (h : Bits01 (P ++ (M ++ R))) : seg (pack (P ++ (M ++ R))) P.length M.length = M := by
  apply seg_of
  · rw [pack_length]; simp only [List.length_append]; omega
  · intro i hi
    rw [bitN_pack h, nth_append, if_neg (by omega), nth_append, if_pos (by omega), Nat.add_sub_cancel_left]
theorem vl_pack {P R : List Int} {v : Int} {n : Nat} (h : Bits01 (P ++ (vbits v n ++ R))) (h0 : 0 ≤ v) (h1 : v < 2 ^ n) : vl (pack (P ++ (vbits v n ++ R))) P.length n = v := by
  have e := seg_pack h
  rw [vbits_length] at e
  unfold vl
  rw [e, numOf_vbits, Int.emod_eq_of_lt h0 h1]
theorem lst_pack {R : List Int} : ∀ (l P : List Int), Bits01 (P ++ (rows5 l ++ R)) → (∀ v ∈ l, 0 ≤ v ∧ v < 32) → lst (pack (P ++ (rows5 l ++ R))) P.length l.length = l
  | [], P, _, _ => rfl
  | v :: l, P, h, hv => by
    have e : P ++ (rows5 (v :: l) ++ R) = P ++ (vbits v 5 ++ (rows5 l ++ R)) := by rw [rows5, List.append_assoc]
    have e2 : P ++ (rows5 (v :: l) ++ R) = (P ++ vbits v 5) ++ (rows5 l ++ R) := by rw [e, List.append_assoc]
    have h1 := lst_pack (R := R) l (P ++ vbits v 5) (e2 ▸ h) (fun x hx => hv x (List.mem_cons_of_mem _ hx))
    have h2 := vl_pack (P := P) (R := rows5 l ++ R) (v := v) (n := 5) (e ▸ h) (hv v (List.mem_cons_self ..)).1 (hv v (List.mem_cons_self ..)).2
    rw [List.length_append, vbits_length, ← e2] at h1
    rw [← e] at h2
    rw [List.length_cons, lst, h1, h2]
theorem seg_add (B : List Int) (a m n : Nat) : seg B a (m + n) = seg B a m ++ seg B (a + m) n := by
  unfold seg
  rw [List.take_add, List.drop_drop]
theorem vbits_vl {B : List Int} {a n : Nat} (h : a + n ≤ 8 * B.length) : vbits (vl B a n) n = seg B a n := by
  have := vbits_numOf (seg_bits B a n)
  rw [seg_length h] at this
  exact this
theorem rows5_lst {B : List Int} : ∀ (d a : Nat), a + 5 * d ≤ 8 * B.length → rows5 (lst B a d) = seg B a (5 * d)
  | 0, a, _ => by unfold seg; simp [lst, rows5]
  | d + 1, a, h => by
    rw [lst, rows5, vbits_vl (by omega), rows5_lst d (a + 5) (by omega), show 5 * (d + 1) = 5 + 5 * d by omega, seg_add]
theorem seg_zero (B : List Int) (n : Nat) : seg B 0 n = (bitsL B).take n := by unfold seg; rw [List.drop_zero]
/-- what is read of 41 bytes whose last two bits are 0 has just these bytes -/
theorem read_back {B : List Int} (hB : Bytes B) (hl : B.length = 41) (hm : vl B 0 16 = 22099) (hz : vl B 326 2 = 0) :
    pack (headB (vl B 16 1 + 1) (vl B 17 4) (lst B 21 45) (lst B 246 16)) = B := by
  have e : headB (vl B 16 1 + 1) (vl B 17 4) (lst B 21 45) (lst B 246 16) = bitsTo B 326 := by
    unfold headB bitsTo
    rw [← hm, show vl B 16 1 + 1 - 1 = vl B 16 1 by omega, vbits_vl (by omega), vbits_vl (by omega), vbits_vl (by omega), rows5_lst 45 21 (by omega), rows5_lst 16 246 (by omega)]
    rw [← seg_add B 0 16 1, ← seg_add B 0 17 4, ← seg_add B 0 21 225, ← seg_add B 0 246 80, seg_zero]; rfl
  rw [e]
  apply pack_bitsTo hB
  refine ⟨by omega, by omega, by omega, fun i hi => ?_⟩
  by_cases h8 : 328 ≤ i
  · exact bitN_beyond B i (by omega)
  · have hs : vl B 326 2 = bitN B 326 + 2 * bitN B 327 := by
      unfold vl
      rw [show (2 : Nat) = 1 + 1 from rfl, seg_snoc (by omega), show seg B 326 1 = [bitN B 326] by rw [show (1 : Nat) = 0 + 1 from rfl, seg_snoc (by omega)]; unfold seg; simp]
      simp [numOf]
    have h6 := bitN_bit B 326
    have h7 := bitN_bit B 327
    unfold IsBit at h6 h7
    have : i = 326 ∨ i = 327 := by omega
    rcases this with rfl | rfl <;> omega
theorem byte_vl {B : List Int} (hB : Bytes B) (j : Nat) (hj : j < B.length) : vl B (8 * j) 8 = nth B j := by
  have hb := nth_byte hB j
  have e : seg B (8 * j) 8 = vbits (nth B j) 8 := by
    have h1 := seg_of (B := B) (M := vbits (nth B j) 8) (a := 8 * j) (by rw [vbits_length]; omega) (fun i hi => by
      rw [vbits_length] at hi
      unfold bitN vbits
      rw [nth_map_range, if_pos hi, show (8 * j + i) / 8 = j by omega, show (8 * j + i) % 8 = i by omega])
    rw [vbits_length] at h1
    exact h1
  unfold vl
  rw [e, numOf_vbits, Int.emod_eq_of_lt hb.1 (by omega)]
theorem magic_iff {B : List Int} (hB : Bytes B) (hl : 2 ≤ B.length) : vl B 0 16 = 22099 ↔ nth B 0 = 83 ∧ nth B 1 = 86 := by
  have h0 := byte_vl hB 0 (by omega)
  have h1 := byte_vl hB 1 (by omega)
  have r0 := nth_byte hB 0
  have r1 := nth_byte hB 1
  have e : vl B 0 16 = nth B 0 + 256 * nth B 1 := by
    unfold vl at h0 h1 ⊢
    rw [show (16 : Nat) = 8 + 8 from rfl, seg_add, numOf_append, seg_length (by omega), h0]
    rw [show 0 + 8 = 8 * 1 from rfl, h1]; rfl
  omega
end Go.Proofs.Ytpdfdaoohknfoaa.LV
