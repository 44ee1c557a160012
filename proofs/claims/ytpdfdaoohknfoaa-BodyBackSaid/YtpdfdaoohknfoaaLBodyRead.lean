/- What vpack.Read answers. -/
import Derived.Test.YtpdfdaoohknfoaaQ3
import Derived.Test.YtpdfdaoohknfoaaT1
import Derived.Test.YtpdfdaoohknfoaaLHeadR
namespace Go.Proofs.Ytpdfdaoohknfoaa.LK
set_option linter.unusedVariables false
set_option linter.unusedSimpArgs false
open Go.RowKit Go.Proofs.YtpdfdaoohknfoaaW.PrintWords Go.Proofs.YtpdfdaoohknfoaaW.PrintLast Go.Proofs.YtpdfdaoohknfoaaW.PrintMore Go.Proofs.Ytpdfdaoohknfoaa.P Go.Proofs.Ytpdfdaoohknfoaa.LB Go.Proofs.Ytpdfdaoohknfoaa.HT Go.Proofs.Ytpdfdaoohknfoaa.LH Go.Proofs.Ytpdfdaoohknfoaa.BT Go.Proofs.Ytpdfdaoohknfoaa.LV
theorem hread {l B : List Int} (hB : Bytes B) (hl : B.length ≤ 1000000) (hr : rightH l = true) (a : Nat) (ha : a ≤ 8 * B.length) (k : Nat) (hk : 1500 < k) :
    huff_Read.f k B (a : Int) l = some (match sym l B a with | none => ((a : Int), 0, serr l B a) | some t => (((a + blen l t : Nat) : Int), (t : Int), 0)) := by
  rcases read_spec hB hl hr a (by omega) k hk with ⟨t, h1, h2⟩ | ⟨h1, h2⟩
  · have h3 := at_in h1
    rw [h2, sym_some hr h1]
    show _ = some (((a + blen l t : Nat) : Int), (t : Int), 0)
    rw [show (a : Int) + bk l t = ((a + blen l t : Nat) : Int) by omega]
  · rw [h2, sym_none h1]; rfl
theorem get_out {B : List Int} (hB : Bytes B) (hl : B.length ≤ 1000000) (a n : Nat) (m : Int) (hm : m = (n : Int)) (ha : a ≤ 8 * B.length) (hn : n ≤ 32) (h : 8 * B.length < a + n) (k : Nat) (hk : 40 ≤ k) : bits_Get.f k B (a : Int) m = some ((a : Int), 0, 4) := by
  subst hm
  rw [get_eq hB hl (by omega) k hk]
  unfold getS
  rw [if_neg (by omega), if_pos (by omega)]
theorem get_in {B : List Int} (hB : Bytes B) (hl : B.length ≤ 1000000) (a n : Nat) (m : Int) (hm : m = (n : Int)) (hn : n ≤ 32) (h : a + n ≤ 8 * B.length) (k : Nat) (hk : 40 ≤ k) : bits_Get.f k B (a : Int) m = some (((a + n : Nat) : Int), vl B a n, 0) := by
  subst hm
  rw [get_eq hB hl (by omega) k hk, getS_in h hn]
theorem vl_bit {B : List Int} {a : Nat} (h : a + 1 ≤ 8 * B.length) : vl B a 1 = bitN B a := by
  unfold vl
  rw [show (1 : Nat) = 0 + 1 from rfl, seg_snoc (by omega)]
  unfold seg
  simp [numOf]
theorem taken_eq {l B : List Int} (hB : Bytes B) (hl : B.length ≤ 1000000) (hr : rightH l = true) (h16 : l.length = 16) (a : Nat) (ha : a ≤ 8 * B.length) (k : Nat) (hk : 1510 < k) :
    ∃ x v : Int, vpack_taken.f k B (a : Int) l = some (x, v, (valS l B a).1) ∧ ((valS l B a).1 = 0 → x = ((valS l B a).2.1 : Int) ∧ v = (valS l B a).2.2) := by
  obtain ⟨k, rfl⟩ : ∃ j, k = j + 2 := ⟨k - 2, by omega⟩
  unfold vpack_taken.f
  rw [hread hB hl hr a ha (k + 2) (by omega), Option.bind_some]
  unfold valS
  cases hs : sym l B a with
  | none =>
    have hne := serr_ne l B a
    simp only
    rw [if_neg hne]
    simp only [vpack_taken.j0, if_true]
    exact ⟨_, _, rfl, fun e => absurd e hne⟩
  | some t =>
    have hat := sym_at hs
    have hin := at_in hat
    have htl := hat.1
    simp only
    rw [if_pos trivial]
    by_cases ht : t = 15
    · rw [show ((t : Int) != 15) = false from bne_eq_false_iff_eq.mpr (by omega), if_pos ht]
      simp only [vpack_taken.j0, Bool.false_eq_true, if_false]
      unfold escS
      by_cases c1 : 8 * B.length < a + blen l t + 1
      · rw [if_pos c1, get_out hB hl (a + blen l t) 1 1 rfl hin.1 (by omega) c1 (k + 1) (by omega), Option.bind_some]
        simp only
        rw [get_out hB hl (a + blen l t) 22 22 rfl hin.1 (by omega) (by omega) (k + 1) (by omega), Option.bind_some, if_neg (by decide)]
        exact ⟨_, _, rfl, fun e => by simp at e⟩
      · rw [if_neg c1, get_in hB hl (a + blen l t) 1 1 rfl (by omega) (by omega) (k + 1) (by omega), Option.bind_some]
        simp only
        by_cases c2 : 8 * B.length < a + blen l t + 1 + 22
        · rw [if_pos c2, get_out hB hl (a + blen l t + 1) 22 22 rfl (by omega) (by omega) c2 (k + 1) (by omega), Option.bind_some]
          simp only
          rw [if_pos trivial, if_neg (by decide)]
          exact ⟨_, _, rfl, fun e => by simp at e⟩
        · rw [if_neg c2, get_in hB hl (a + blen l t + 1) 22 22 rfl (by omega) (by omega) (k + 1) (by omega), Option.bind_some]
          have hv := vl_range (B := B) (a := a + blen l t + 1) (n := 22) (by omega)
          have hp : (2 : Int) ^ 22 = 4194304 := by decide
          simp only
          rw [if_pos trivial, if_pos trivial, vl_bit (by omega)]
          have hb := bitN_bit B (a + blen l t)
          unfold IsBit at hb
          by_cases c3 : bitN B (a + blen l t) = 1
          · rw [if_pos c3, if_pos c3]
            simp only [vpack_taken.j1]
            by_cases c4 : vl B (a + blen l t + 1) 22 = 0
            · rw [if_pos c4, show (vl B (a + blen l t + 1) 22 == 0) = true from beq_iff_eq.mpr c4, if_pos rfl]
              exact ⟨_, _, rfl, fun e => by simp at e⟩
            · rw [if_neg c4, show (vl B (a + blen l t + 1) 22 == 0) = false from beq_eq_false_iff_ne.mpr c4, if_neg (by decide), if_pos c3, w64 (x := vl B (a + blen l t + 1) 22) (by omega) (by omega), w64 (x := -vl B (a + blen l t + 1) 22) (by omega) (by omega)]
              exact ⟨_, _, rfl, fun _ => ⟨rfl, rfl⟩⟩
          · rw [if_neg c3, if_neg c3]
            simp only [vpack_taken.j1, Bool.false_eq_true, if_false]
            rw [if_neg c3, w64 (x := vl B (a + blen l t + 1) 22) (by omega) (by omega)]
            exact ⟨_, _, rfl, fun _ => ⟨rfl, rfl⟩⟩
    · rw [show ((t : Int) != 15) = true from bne_iff_ne.mpr (by omega), if_neg ht]
      simp only [vpack_taken.j0, if_true]
      rw [w64 (x := (t : Int) - 7) (by omega) (by omega)]
      exact ⟨_, _, rfl, fun _ => ⟨rfl, rfl⟩⟩
theorem L1_at (P : List (List Int)) (i : Nat) (h : i < P.length) : rd_L1 P (i : Int) = P[i] := by
  simp [rd_L1, List.getD_eq_getElem?_getD, h]
theorem err_l2 (k : Nat) (e i c q : Int) (fl rs B : List Int) (x : Int) (P R : List (List Int)) (he : e ≠ 0) (hk : 2 ≤ k) : vpack_Read.l2 k e i c q fl rs B x P R = some (no e) := by
  obtain ⟨k, rfl⟩ : ∃ j, k = j + 2 := ⟨k - 2, by omega⟩
  simp only [vpack_Read.l2]
  have h : ∀ b, b = false → vpack_Read.j5 (k + 1) e i b c q fl rs B x P R = some (no e) := by
    intro b hb
    subst hb
    simp only [vpack_Read.j5, Bool.false_eq_true, if_false]
    rw [if_neg he]; rfl
  split
  · exact h _ (beq_eq_false_iff_ne.mpr he)
  · exact h _ rfl
theorem err_l3 (k : Nat) (e : Int) (i : Nat) (c q : Int) (fl rs B : List Int) (x : Int) (P R : List (List Int)) (acc : List Int) (he : e ≠ 0) (hk : 3 ≤ k) (hi : i < P.length) (hR : R.length ≤ 1000) : vpack_Read.l3 k e (i : Int) acc c q fl rs B x P R = some (no e) := by
  obtain ⟨k, rfl⟩ : ∃ j, k = j + 1 := ⟨k - 1, by omega⟩
  simp only [vpack_Read.l3]
  rw [if_pos (show 0 ≤ (i : Int) by omega), if_pos (show (i : Int) < (P.length : Int) by omega), if_neg he, if_pos (show R.length < 5864062014805 by omega), err_l2 k e _ c q fl rs B x P _ he (by omega)]
  simp
theorem read_l3 {B rs : List Int} (hB : Bytes B) (hl : B.length ≤ 1000000) (hr : rightH rs = true) (h16 : rs.length = 16) (c q : Int) (fl : List Int) (P R : List (List Int)) (i : Nat) (hi : i < P.length) (hp : ¬ (P[i]).length = 0) (hR : R.length ≤ 1000)
    (F : Nat → List Int → List (List Int) × List (List Int) × Int) (N : Nat) (hF : ∀ k' a' r, N ≤ k' → a' ≤ 8 * B.length → vpack_Read.l2 k' 0 (wrap64 ((i : Int) + 1)) c q fl rs B (a' : Int) P (R ++ [r]) = some (F a' r)) (d : Nat) :
    ∀ (k a : Nat) (acc : List Int), acc.length + d = 16 → N + d + 1 ≤ k ∧ d + 1600 ≤ k → a ≤ 8 * B.length →
    vpack_Read.l3 k 0 (i : Int) acc c q fl rs B (a : Int) P R = some (if (resS rs B d a acc).1 = 0 then F (resS rs B d a acc).2.1 (resS rs B d a acc).2.2 else no (resS rs B d a acc).1) := by
  induction d with
  | zero =>
    intro k a acc hd hk ha
    obtain ⟨k, rfl⟩ : ∃ j, k = j + 1 := ⟨k - 1, by omega⟩
    simp only [vpack_Read.l3, resS, if_true]
    rw [if_neg (by omega), if_pos (show R.length < 5864062014805 by omega)]
    exact hF k a acc (by omega) ha
  | succ d ih =>
    intro k a acc hd hk ha
    obtain ⟨k, rfl⟩ : ∃ j, k = j + 1 := ⟨k - 1, by omega⟩
    obtain ⟨x, v, h1, h2⟩ := taken_eq hB hl hr h16 a ha k (by omega)
    by_cases e : (valS rs B a).1 = 0
    · have hz : resS rs B (d + 1) a acc = resS rs B d (valS rs B a).2.1 (acc ++ [(valS rs B a).2.2]) := by rw [resS, if_pos e]
      obtain ⟨rfl, rfl⟩ := h2 e
      rw [hz]
      simp only [vpack_Read.l3, if_true]
      rw [if_pos (by omega), if_pos (by omega), if_pos (by omega), L1_at P i hi, if_pos (by omega), h1, Option.bind_some, if_pos (by omega)]
      simp only
      rw [e]
      exact ih k _ _ (by rw [List.length_append, List.length_singleton]; omega) (by omega) (valS_in rs ha)
    · have hz : resS rs B (d + 1) a acc = ((valS rs B a).1, a, acc) := by rw [resS, if_neg e]
      rw [hz, if_neg (show ¬ ((valS rs B a).1, a, acc).1 = 0 from e)]
      simp only [vpack_Read.l3, if_true]
      rw [if_pos (by omega), if_pos (by omega), if_pos (by omega), L1_at P i hi, if_pos (by omega), h1, Option.bind_some, if_pos (by omega)]
      exact err_l3 k _ i c q fl rs B x P R _ e (by omega) hi hR
theorem end_eq {B : List Int} (hB : Bytes B) (hl : B.length ≤ 1000000) (i c q : Int) (fl rs : List Int) (P R : List (List Int)) (a : Nat) (ha : a ≤ 8 * B.length) (k : Nat) (hk : 50 ≤ k) :
    vpack_Read.j5 k 0 i false c q fl rs B (a : Int) P R = some (endS B a P R) := by
  obtain ⟨k, rfl⟩ : ∃ j, k = j + 1 := ⟨k - 1, by omega⟩
  simp only [vpack_Read.j5, Bool.false_eq_true, if_false, if_true]
  unfold endS
  have hleft : bits_Left.f B (a : Int) = some (8 * (B.length : Int) - a) := by rw [left_eq B hl (by omega), if_neg (by omega)]
  rw [hleft, Option.bind_some]
  by_cases c1 : 8 ≤ 8 * B.length - a
  · rw [if_pos (by omega), if_pos c1]; rfl
  · rw [if_neg (by omega), if_neg c1, get_in hB hl a (8 * B.length - a) _ (by omega) (by omega) (by omega) k (by omega), Option.bind_some]
    by_cases c2 : vl B a (8 * B.length - a) = 0
    · rw [if_pos c2, if_pos c2]
    · rw [if_neg c2, if_neg c2]; rfl
theorem read_l2 {B rs : List Int} (hB : Bytes B) (hl : B.length ≤ 1000000) (hr : rightH rs = true) (h16 : rs.length = 16) (c q : Int) (fl : List Int) (P : List (List Int)) (hP : P.length ≤ 100) (d : Nat) :
    ∀ (i k a : Nat) (R : List (List Int)), i + d = P.length → R.length = i → 30 * d + 2000 ≤ k → a ≤ 8 * B.length →
    vpack_Read.l2 k 0 (i : Int) c q fl rs B (a : Int) P R = some (tailR B P (allS rs B (P.drop i) a R)) := by
  induction d with
  | zero =>
    intro i k a R hi hR hk ha
    obtain ⟨k, rfl⟩ : ∃ j, k = j + 1 := ⟨k - 1, by omega⟩
    simp only [vpack_Read.l2]
    rw [if_neg (by omega), List.drop_eq_nil_of_le (by omega), end_eq hB hl _ c q fl rs P R a ha k (by omega)]
    simp only [allS, tailR, if_true]
  | succ d ih =>
    intro i k a R hi hR hk ha
    obtain ⟨k, rfl⟩ : ∃ j, k = j + 2 := ⟨k - 2, by omega⟩
    have hil : i < P.length := by omega
    simp only [vpack_Read.l2]
    rw [if_pos (by omega), show ((0 : Int) == 0) = true from rfl]
    simp only [vpack_Read.j5, if_true]
    rw [List.drop_eq_getElem_cons hil]
    unfold allS
    have hw : wrap64 ((i : Int) + 1) = ((i + 1 : Nat) : Int) := by rw [w64 (by omega) (by omega)]; rfl
    by_cases hp : (P[i]).length = 0
    · rw [if_pos hp]
      obtain ⟨k, rfl⟩ : ∃ j, k = j + 1 := ⟨k - 1, by omega⟩
      simp only [vpack_Read.l3, List.length_nil]
      rw [if_pos (by omega), if_pos (by omega), if_pos (by omega), L1_at P i hil, hp, if_neg (by omega), if_pos (by omega), hw]
      exact ih (i + 1) k a _ (by omega) (by rw [List.length_append, hR]; rfl) (by omega) ha
    · rw [if_neg hp]
      rw [read_l3 hB hl hr h16 c q fl P R i hil hp (by omega) (fun a' r => tailR B P (allS rs B (P.drop (i + 1)) a' (R ++ [r]))) (30 * d + 2000)
        (fun k' a' r hk' ha' => by rw [hw]; exact ih (i + 1) k' a' _ (by omega) (by rw [List.length_append, hR]; rfl) hk' ha') 16 k a [] (by simp) (by omega) ha]
      by_cases e : (resS rs B 16 a []).1 = 0
      · rw [if_pos e, if_pos e]
      · rw [if_neg e, if_neg e]
        unfold tailR
        rw [if_neg (show ¬ ((resS rs B 16 a []).1, a, R).1 = 0 from e)]
theorem read_j3 {B rs : List Int} (hB : Bytes B) (hl : B.length ≤ 1000000) (hr : rightH rs = true) (h16 : rs.length = 16) (c q : Int) (fl : List Int) (P : List (List Int)) (hP : P.length ≤ 100) (a k : Nat) (hk : 30 * P.length + 2001 ≤ k) (ha : a ≤ 8 * B.length) :
    vpack_Read.j3 k 0 c q fl rs B (a : Int) P = some (tailP rs B (0, a, P)) := by
  obtain ⟨k, rfl⟩ : ∃ j, k = j + 1 := ⟨k - 1, by omega⟩
  simp only [vpack_Read.j3, tailP, if_true]
  exact read_l2 hB hl hr h16 c q fl P hP P.length 0 k a [] (by omega) rfl (by omega) ha
theorem err_j3 (k : Nat) (e c q : Int) (fl rs B : List Int) (x : Int) (P : List (List Int)) (he : e ≠ 0) (hk : 3 ≤ k) : vpack_Read.j3 k e c q fl rs B x P = some (no e) := by
  obtain ⟨k, rfl⟩ : ∃ j, k = j + 1 := ⟨k - 1, by omega⟩
  simp only [vpack_Read.j3]
  exact err_l2 k e _ c q fl rs B x P _ he (by omega)
theorem read_l1 {B fl : List Int} (hB : Bytes B) (hl : B.length ≤ 1000000) (hr : rightH fl = true) (c q n i : Int) (rs : List Int) (P : List (List Int)) (hP : P.length ≤ 100)
    (F : Nat → List Int → List (List Int) × List (List Int) × Int) (N : Nat) (hF : ∀ k' a' l, N ≤ k' → a' ≤ 8 * B.length → vpack_Read.l0 k' 0 n (wrap64 (i + 1)) c q fl rs B (a' : Int) (P ++ [l]) = some (F a' l)) (d : Nat) :
    ∀ (k a : Nat) (acc : List Int), acc.length + d = 6 → N + 2 * d + 2 ≤ k ∧ 2 * d + 1600 ≤ k → a ≤ 8 * B.length →
    vpack_Read.l1 k 0 1 acc n i c q fl rs B (a : Int) P = some (if (postsS fl B d a acc).1 = 0 then F (postsS fl B d a acc).2.1 (postsS fl B d a acc).2.2 else no (postsS fl B d a acc).1) := by
  induction d with
  | zero =>
    intro k a acc hd hk ha
    obtain ⟨k, rfl⟩ : ∃ j, k = j + 2 := ⟨k - 2, by omega⟩
    simp only [vpack_Read.l1, postsS, if_true]
    rw [if_neg (by omega)]
    simp only [vpack_Read.j2, Bool.false_eq_true, if_false]
    rw [if_pos (by omega)]
    exact hF k a acc (by omega) ha
  | succ d ih =>
    intro k a acc hd hk ha
    obtain ⟨k, rfl⟩ : ∃ j, k = j + 2 := ⟨k - 2, by omega⟩
    simp only [vpack_Read.l1]
    rw [if_pos (by omega), show ((1 : Int) == 1) = true from rfl]
    simp only [vpack_Read.j2, if_true]
    rw [hread hB hl hr a ha k (by omega), Option.bind_some]
    unfold postsS
    cases hs : sym fl B a with
    | none =>
      have hne := serr_ne fl B a
      simp only
      rw [if_pos (by omega), if_neg hne, if_neg hne]
      exact err_j3 k _ c q fl rs B _ P hne (by omega)
    | some t =>
      simp only
      rw [if_pos (by omega), if_pos trivial]
      exact ih k _ _ (by rw [List.length_append, List.length_singleton]; omega) (by omega) (at_in (sym_at hs)).1
theorem read_l0 {B fl rs : List Int} (hB : Bytes B) (hl : B.length ≤ 1000000) (hr : rightH fl = true) (hr2 : rightH rs = true) (h16 : rs.length = 16) (c q : Int) (n : Nat) (hn : n ≤ 50) (d : Nat) :
    ∀ (i k a : Nat) (P : List (List Int)), i + d = n → P.length = i → 20 * d + 30 * n + 4000 ≤ k → a ≤ 8 * B.length →
    vpack_Read.l0 k 0 (n : Int) (i : Int) c q fl rs B (a : Int) P = some (tailP rs B (chansS fl B d a P)) := by
  induction d with
  | zero =>
    intro i k a P hi hP hk ha
    obtain ⟨k, rfl⟩ : ∃ j, k = j + 1 := ⟨k - 1, by omega⟩
    simp only [vpack_Read.l0, chansS]
    rw [if_neg (by omega)]
    exact read_j3 hB hl hr2 h16 c q fl P (by omega) a k (by omega) ha
  | succ d ih =>
    intro i k a P hi hP hk ha
    obtain ⟨k, rfl⟩ : ∃ j, k = j + 1 := ⟨k - 1, by omega⟩
    have hw : wrap64 ((i : Int) + 1) = ((i + 1 : Nat) : Int) := by rw [w64 (by omega) (by omega)]; rfl
    simp only [vpack_Read.l0]
    rw [if_pos (by omega)]
    unfold chansS
    by_cases c1 : 8 * B.length < a + 1
    · rw [if_pos c1, get_out hB hl a 1 1 rfl ha (by omega) c1 k (by omega), Option.bind_some]
      simp only
      rw [if_neg (by decide), err_j3 k 4 c q fl rs B _ P (by decide) (by omega)]
      rfl
    · rw [if_neg c1, get_in hB hl a 1 1 rfl (by omega) (by omega) k (by omega), Option.bind_some]
      simp only
      rw [if_pos trivial, vl_bit (by omega)]
      by_cases c2 : bitN B a = 1
      · rw [if_pos c2, c2]
        rw [read_l1 hB hl hr c q n i rs P (by omega) (fun a' l => tailP rs B (chansS fl B d a' (P ++ [l]))) (20 * d + 30 * n + 4000)
          (fun k' a' l hk' ha' => by rw [hw]; exact ih (i + 1) k' a' _ (by omega) (by rw [List.length_append, hP]; rfl) hk' ha') 6 k (a + 1) [] (by simp) (by omega) (by omega)]
        by_cases e : (postsS fl B 6 (a + 1) []).1 = 0
        · rw [if_pos e, if_pos e]
        · rw [if_neg e, if_neg e]
          unfold tailP
          rw [if_neg (show ¬ ((postsS fl B 6 (a + 1) []).1, a, P).1 = 0 from e)]
      · rw [if_neg c2]
        obtain ⟨k, rfl⟩ : ∃ j, k = j + 2 := ⟨k - 2, by omega⟩
        simp only [vpack_Read.l1, List.length_nil]
        rw [if_pos (by omega), show (bitN B a == 1) = false from beq_eq_false_iff_ne.mpr c2]
        simp only [vpack_Read.j2, Bool.false_eq_true, if_false]
        rw [if_pos (by omega), hw]
        exact ih (i + 1) k (a + 1) _ (by omega) (by rw [List.length_append, hP]; rfl) (by omega) (by omega)
theorem readBd_eq {B : List Int} (hB : Bytes B) (hl : B.length ≤ 1000000) (c q : Int) (fl rs : List Int) (k : Nat) (hk : 5000 ≤ k) : vpack_Read.f k c q fl rs B = some (readBd c q fl rs B) := by
  unfold vpack_Read.f readBd
  rw [head_right c q fl rs k (by omega), Option.bind_some]
  by_cases hr : rightHd c q fl rs = true
  · obtain ⟨a1, a2, a3, a4, a5, a6, a7, a8, a9⟩ := right_parts hr
    rw [if_pos hr, if_pos hr]
    have := read_l0 hB hl a7 a8 a6 c q c.toNat (by omega) c.toNat 0 k 0 [] (by omega) rfl (by omega) (by omega)
    rw [Int.toNat_of_nonneg (by omega)] at this
    exact this
  · rw [if_neg hr, if_neg hr]; rfl
end Go.Proofs.Ytpdfdaoohknfoaa.LK
