/- What vhead.Read answers. -/
import Derived.Test.YtpdfdaoohknfoaaPx12
import Derived.Test.YtpdfdaoohknfoaaLHead
import Derived.Test.YtpdfdaoohknfoaaLHeadBits
namespace Go.Proofs.Ytpdfdaoohknfoaa.LV
set_option linter.unusedVariables false
set_option linter.unusedSimpArgs false
open Go.RowKit Go.Proofs.YtpdfdaoohknfoaaW.PrintWords Go.Proofs.YtpdfdaoohknfoaaW.PrintLast Go.Proofs.YtpdfdaoohknfoaaW.PrintMore Go.Proofs.Ytpdfdaoohknfoaa.P Go.Proofs.Ytpdfdaoohknfoaa.LB Go.Proofs.Ytpdfdaoohknfoaa.HT Go.Proofs.Ytpdfdaoohknfoaa.LH Go.Proofs.Ytpdfdaoohknfoaa.BT
theorem getS_in {B : List Int} {a n : Nat} (h : a + n ≤ 8 * B.length) (hn : n ≤ 32) : getS B (a : Int) (n : Int) = (((a + n : Nat) : Int), vl B a n, 0) := by
  unfold getS
  rw [if_neg (by omega), if_neg (by omega), Int.toNat_natCast, Int.toNat_natCast]; rfl
theorem vl_small {B : List Int} {a n : Nat} (h : a + n ≤ 8 * B.length) (hn : n ≤ 32) : 0 ≤ vl B a n ∧ vl B a n < 4294967296 := by
  have h1 := vl_range h
  have h2 := pow_le32 hn
  omega
theorem rget {B : List Int} (hB : Bytes B) (hl : B.length ≤ 1000000) (a n : Nat) (x m : Int) (hx : x = (a : Int)) (hm : m = (n : Int)) (h : a + n ≤ 8 * B.length) (hn : n ≤ 32) (k : Nat) (hk : 40 ≤ k) :
    vhead_Read.get k B x m = some (((a + n : Nat) : Int), vl B a n) := by
  subst hx hm
  have hv := vl_small h hn
  unfold vhead_Read.get
  rw [get_eq hB hl (by omega) k hk, Option.bind_some, getS_in h hn]
  show some (((a + n : Nat) : Int), wrap64 (vl B a n)) = _
  rw [w64 (by omega) (by omega)]
theorem rlist {B : List Int} (hB : Bytes B) (hl : B.length ≤ 1000000) (k : Nat) (hk : 40 ≤ k) : ∀ (d a : Nat) (out : List Int), a + 5 * d ≤ 8 * B.length → vhead_Read.list k B d (a : Int) out = some (out ++ lst B a d, ((a + 5 * d : Nat) : Int))
  | 0, a, out, h => by rw [lst, List.append_nil]; rfl
  | d + 1, a, out, h => by
    rw [vhead_Read.list, rget hB hl a 5 a 5 rfl rfl (by omega) (by omega) k hk, Option.bind_some]
    show vhead_Read.list k B d ((a + 5 : Nat) : Int) (out ++ [vl B a 5]) = _
    rw [rlist hB hl k hk d (a + 5) _ (by omega), lst, List.append_assoc, List.singleton_append, show a + 5 + 5 * d = a + 5 * (d + 1) by omega]
def nothing (e : Int) : Int × Int × List Int × List Int × Int := (0, 0, [], [], e)
def readH (B : List Int) : Int × Int × List Int × List Int × Int :=
  if vl B 0 16 = 22099 ∧ vl B 326 2 = 0 ∧ rightHd (vl B 16 1 + 1) (vl B 17 4) (lst B 21 45) (lst B 246 16) = true then (vl B 16 1 + 1, vl B 17 4, lst B 21 45, lst B 246 16, 0) else nothing 2
def readS (B : List Int) : Int × Int × List Int × List Int × Int := if B.length < 41 then nothing 4 else if 41 < B.length then nothing 2 else readH B
theorem read_eq {B : List Int} (hB : Bytes B) (hl : B.length ≤ 1000000) (k : Nat) (hk : 300 < k) : vhead_Read.f k B = some (readS B) := by
  unfold vhead_Read.f readS
  by_cases c1 : (B.length : Int) < 41
  · rw [if_pos c1, if_pos (show B.length < 41 by omega)]; rfl
  rw [if_neg c1, if_neg (show ¬ B.length < 41 by omega)]
  by_cases c2 : (B.length : Int) > 41
  · rw [if_pos c2, if_pos (show 41 < B.length by omega)]; rfl
  rw [if_neg c2, if_neg (show ¬ 41 < B.length by omega)]
  unfold readH
  rw [rget hB hl 0 16 0 16 rfl rfl (by omega) (by omega) k (by omega), Option.bind_some]
  by_cases c3 : vl B 0 16 = 22099
  · rw [if_pos c3, rget hB hl 16 1 _ 1 rfl rfl (by omega) (by omega) k (by omega), Option.bind_some, rget hB hl 17 4 _ 4 rfl rfl (by omega) (by omega) k (by omega), Option.bind_some]
    have e1 := rlist hB hl k (by omega) 45 21 [] (by omega)
    have e2 := rlist hB hl k (by omega) 16 246 [] (by omega)
    rw [List.nil_append] at e1 e2
    show (vhead_Read.list k B 45 ((21 : Nat) : Int) []).bind _ = _
    rw [e1, Option.bind_some]
    show (vhead_Read.list k B 16 ((246 : Nat) : Int) []).bind _ = _
    rw [e2, Option.bind_some]
    show (bits_Left.f B ((326 : Nat) : Int)).bind _ = _
    rw [left_eq B hl (by omega), Option.bind_some, if_neg (by omega)]
    show (vhead_Read.get k B ((326 : Nat) : Int) _).bind _ = _
    rw [rget hB hl 326 2 _ _ rfl (by omega) (by omega) (by omega) k (by omega), Option.bind_some]
    by_cases c4 : vl B 326 2 = 0
    · rw [if_pos c4]
      have hv := vl_small (B := B) (a := 16) (n := 1) (by omega) (by omega)
      show (vhead_Right.f k (wrap64 (vl B 16 1 + 1)) (vl B 17 4) (lst B 21 45) (lst B 246 16)).bind (fun t => if t = true then some (wrap64 (vl B 16 1 + 1), vl B 17 4, lst B 21 45, lst B 246 16, 0) else vhead_Read.no 2) = _
      rw [w64 (x := vl B 16 1 + 1) (by omega) (by omega), head_right _ _ _ _ k hk, Option.bind_some]
      by_cases c5 : rightHd (vl B 16 1 + 1) (vl B 17 4) (lst B 21 45) (lst B 246 16) = true
      · rw [if_pos c5, if_pos ⟨c3, c4, c5⟩]
      · rw [if_neg c5, if_neg (fun h => c5 h.2.2)]; rfl
    · rw [if_neg c4, if_neg (fun h => c4 h.2.1)]; rfl
  · rw [if_neg c3, if_neg (fun h => c3 h.1)]; rfl
end Go.Proofs.Ytpdfdaoohknfoaa.LV
