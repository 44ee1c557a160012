/- The law HeadBack: a header that was written is read as it was; proved for every input. -/
import Derived.Test.YtpdfdaoohknfoaaPx30
import Derived.Test.YtpdfdaoohknfoaaLHeadW
import Derived.Test.YtpdfdaoohknfoaaLHeadR
namespace Go.Proofs.Ytpdfdaoohknfoaa.Pure
set_option linter.unusedVariables false
set_option linter.unusedSimpArgs false
open Go.RowKit Go.Proofs.YtpdfdaoohknfoaaW.PrintWords Go.Proofs.YtpdfdaoohknfoaaW.PrintLast Go.Proofs.YtpdfdaoohknfoaaW.PrintMore Go.Proofs.Ytpdfdaoohknfoaa.P Go.Proofs.Ytpdfdaoohknfoaa.LB Go.Proofs.Ytpdfdaoohknfoaa.HT Go.Proofs.Ytpdfdaoohknfoaa.LH Go.Proofs.Ytpdfdaoohknfoaa.LV Go.Proofs.Ytpdfdaoohknfoaa.BT
theorem vl_at {L P R : List Int} {v : Int} {n : Nat} (a : Nat) (e : L = P ++ (vbits v n ++ R)) (ha : P.length = a) (h : Bits01 L) (h0 : 0 ≤ v) (h1 : v < 2 ^ n) : vl (pack L) a n = v := by
  subst e ha
  exact vl_pack h h0 h1
theorem lst_at {L P R l : List Int} (a d : Nat) (e : L = P ++ (rows5 l ++ R)) (ha : P.length = a) (hd : l.length = d) (h : Bits01 L) (hv : ∀ v ∈ l, 0 ≤ v ∧ v < 32) : lst (pack L) a d = l := by
  subst e ha hd
  exact lst_pack l P h hv
theorem back {c q : Int} {fl rs : List Int} (hr : rightHd c q fl rs = true) : readS (pack (headB c q fl rs)) = (c, q, fl, rs, 0) := by
  obtain ⟨a1, a2, a3, a4, a5, a6, a7, a8, a9⟩ := right_parts hr
  have hb := headB_bits c q fl rs
  have hlen := headB_length c q fl rs
  have hpl := pack_length (headB c q fl rs)
  have e0 : vl (pack (headB c q fl rs)) 0 16 = 22099 := vl_at (P := []) (R := vbits (c - 1) 1 ++ vbits q 4 ++ rows5 fl ++ rows5 rs) 0 (by simp [headB, List.append_assoc]) rfl hb (by omega) (by decide)
  have e1 : vl (pack (headB c q fl rs)) 16 1 = c - 1 := vl_at (P := vbits 22099 16) (R := vbits q 4 ++ rows5 fl ++ rows5 rs) 16 (by simp [headB, List.append_assoc]) (by rw [vbits_length]) hb (by omega) (by omega)
  have e2 : vl (pack (headB c q fl rs)) 17 4 = q := vl_at (P := vbits 22099 16 ++ vbits (c - 1) 1) (R := rows5 fl ++ rows5 rs) 17 (by simp [headB, List.append_assoc]) (by rw [List.length_append, vbits_length, vbits_length]) hb (by omega) (by omega)
  have e3 : lst (pack (headB c q fl rs)) 21 45 = fl := lst_at (P := vbits 22099 16 ++ vbits (c - 1) 1 ++ vbits q 4) (R := rows5 rs) 21 45 (by simp [headB, List.append_assoc]) (by simp only [List.length_append, vbits_length]) a5 hb (inl_mem (right_inl a7))
  have e4 : lst (pack (headB c q fl rs)) 246 16 = rs := lst_at (P := vbits 22099 16 ++ vbits (c - 1) 1 ++ vbits q 4 ++ rows5 fl) (R := []) 246 16 (by simp [headB, List.append_assoc]) (by simp only [List.length_append, vbits_length, rows5_length]; omega) a6 hb (inl_mem (right_inl a8))
  have e5 : vl (pack (headB c q fl rs)) 326 2 = 0 := by
    have : seg (pack (headB c q fl rs)) 326 2 = [0, 0] := by
      have := seg_of (B := pack (headB c q fl rs)) (M := [0, 0]) (a := 326) (by simp only [List.length_cons, List.length_nil]; omega) (fun i hi => by
        rw [bitN_pack hb, nth_ge (by omega)]
        simp only [List.length_cons, List.length_nil] at hi
        have : i = 0 ∨ i = 1 := by omega
        rcases this with rfl | rfl <;> rfl)
      exact this
    unfold vl; rw [this]; rfl
  unfold readS readH
  rw [if_neg (by omega), if_neg (by omega), e0, e1, e2, e3, e4, e5, show c - 1 + 1 = c by omega, if_pos ⟨rfl, rfl, hr⟩]
theorem HeadBack : psalterylaw16_HeadBack.Pure := by
  intro c q fl rs _ _ _ _
  obtain ⟨K, hK⟩ : ∃ K : Nat, 100000 ≤ K := ⟨_, Nat.le_refl _⟩
  refine ⟨K, ?_⟩
  unfold psalterylaw16_HeadBack.f
  rw [great_eq, Option.bind_some, knows16 K (by omega)]
  by_cases g : 200 < fl.length ∨ 200 < rs.length
  · rw [decide_eq_true g, if_pos rfl]; rfl
  · rw [decide_eq_false g, if_neg (by decide), write_eq c q fl rs K (by omega), Option.bind_some]
    unfold psalterylaw16_As.f writeS
    by_cases hr : rightHd c q fl rs = true
    · have hb := headB_bits c q fl rs
      obtain ⟨a1, a2, a3, a4, a5, a6, a7, a8, a9⟩ := right_parts hr
      rw [if_pos hr, if_pos rfl, read_eq (pack_bytes hb) (by rw [pack_length, headB_length]; omega) K (by omega), Option.bind_some, back hr, Option.bind_some, Option.bind_some]
      rw [same16 c q fl rs (by omega) (by omega) K (by omega) (by omega), Option.bind_some, if_pos rfl, if_pos rfl]; rfl
    · rw [if_neg hr, if_neg (by decide), if_pos (show ((([] : List Int), (1 : Int)).1.length : Int) = 0 from rfl)]; rfl
end Go.Proofs.Ytpdfdaoohknfoaa.Pure
