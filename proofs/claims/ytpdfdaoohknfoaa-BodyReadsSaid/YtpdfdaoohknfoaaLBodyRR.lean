/- What the document reads of bytes. -/
import Derived.Test.YtpdfdaoohknfoaaPx65
import Derived.Test.YtpdfdaoohknfoaaT1
import Derived.Test.YtpdfdaoohknfoaaLHeadR
import Derived.Test.YtpdfdaoohknfoaaLHuffRef
import Derived.Test.YtpdfdaoohknfoaaLBitsGetR
namespace Go.Proofs.Ytpdfdaoohknfoaa.LK
set_option linter.unusedVariables false
set_option linter.unusedSimpArgs false
open Go.RowKit Go.Proofs.YtpdfdaoohknfoaaW.PrintWords Go.Proofs.YtpdfdaoohknfoaaW.PrintLast Go.Proofs.YtpdfdaoohknfoaaW.PrintMore Go.Proofs.Ytpdfdaoohknfoaa.P Go.Proofs.Ytpdfdaoohknfoaa.LB Go.Proofs.Ytpdfdaoohknfoaa.HT Go.Proofs.Ytpdfdaoohknfoaa.LH Go.Proofs.Ytpdfdaoohknfoaa.BT Go.Proofs.Ytpdfdaoohknfoaa.LV
theorem vl_bit' {B : List Int} {a : Nat} (h : a + 1 ≤ 8 * B.length) : vl B a 1 = bitN B a := by
  unfold vl
  rw [show (1 : Nat) = 0 + 1 from rfl, seg_snoc (by omega)]
  unfold seg
  simp [numOf]
theorem some_in {B : List Int} (hB : Bytes B) (hl : B.length ≤ 1000000) (a n : Nat) (e m : Int) (hm : m = (n : Int)) (hn : n ≤ 32) (h : a + n ≤ 8 * B.length) (k : Nat) (hk : 10 * B.length + 100 ≤ k) : psalteryref17_some.f k B (a : Int) e m = some (((a + n : Nat) : Int), 0, vl B a n) := by
  subst hm
  have hv := vl_small h hn
  unfold psalteryref17_some.f
  rw [refGet_eq hB hl (by omega) k hk, Option.bind_some, getS_in h hn]
  simp only
  rw [if_pos trivial, w64 (x := (a : Int) + n) (by omega) (by omega), w64 (x := vl B a n) (by omega) (by omega)]; rfl
theorem some_out {B : List Int} (hB : Bytes B) (hl : B.length ≤ 1000000) (a n : Nat) (e m : Int) (hm : m = (n : Int)) (ha : a ≤ 8 * B.length) (hn : n ≤ 32) (h : 8 * B.length < a + n) (k : Nat) (hk : 10 * B.length + 100 ≤ k) : psalteryref17_some.f k B (a : Int) e m = some ((a : Int), 4, 0) := by
  subst hm
  have hg : getS B (a : Int) (n : Int) = ((a : Int), 0, 4) := by unfold getS; rw [if_neg (by omega), if_pos (by omega)]
  unfold psalteryref17_some.f
  rw [refGet_eq hB hl (by omega) k hk, Option.bind_some, hg]
  simp only
  rw [if_neg (by decide)]
theorem symbol_eq {l B : List Int} (hB : Bytes B) (hl : B.length ≤ 1000000) (hr : rightH l = true) (a : Nat) (ha : a ≤ 8 * B.length) (e : Int) (k : Nat) (hk : 10 * B.length + 3000 < k) :
    psalteryref17_symbol.f k B (a : Int) e l = some (match sym l B a with | none => ((a : Int), serr l B a, 0) | some t => (((a + blen l t : Nat) : Int), 0, (t : Int))) := by
  unfold psalteryref17_symbol.f
  rcases ref_spec hB hl hr a ha k hk with ⟨t, h1, h2⟩ | ⟨h1, h2⟩
  · have h3 := at_in h1
    rw [h2, sym_some hr h1, Option.bind_some]
    simp only
    rw [w64 (x := (a : Int) + bk l t) (by omega) (by omega), show (a : Int) + bk l t = ((a + blen l t : Nat) : Int) by omega]
  · rw [h2, sym_none h1, Option.bind_some]
    simp only
    rw [w64 (x := (a : Int) + 0) (by omega) (by omega), Int.add_zero]; rfl
theorem value_eq {l B : List Int} (hB : Bytes B) (hl : B.length ≤ 1000000) (hr : rightH l = true) (h16 : l.length = 16) (a : Nat) (ha : a ≤ 8 * B.length) (e : Int) (k : Nat) (hk : 10 * B.length + 3010 < k) :
    ∃ x v : Int, psalteryref17_value.f k B (a : Int) e l = some (x, (valS l B a).1, v) ∧ ((valS l B a).1 = 0 → x = ((valS l B a).2.1 : Int) ∧ v = (valS l B a).2.2) := by
  obtain ⟨k, rfl⟩ : ∃ j, k = j + 2 := ⟨k - 2, by omega⟩
  unfold psalteryref17_value.f
  rw [symbol_eq hB hl hr a ha e (k + 2) (by omega), Option.bind_some]
  unfold valS
  cases hs : sym l B a with
  | none =>
    have hne := serr_ne l B a
    simp only
    rw [if_neg hne]
    simp only [psalteryref17_value.j0, if_true]
    exact ⟨_, _, rfl, fun e => absurd e hne⟩
  | some t =>
    have hat := sym_at hs
    have hin := at_in hat
    have htl := hat.1
    simp only
    rw [if_pos trivial]
    by_cases ht : t = 15
    · rw [show ((t : Int) != 15) = false from bne_eq_false_iff_eq.mpr (by omega), if_pos ht]
      simp only [psalteryref17_value.j0, Bool.false_eq_true, if_false]
      unfold escS
      by_cases c1 : 8 * B.length < a + blen l t + 1
      · rw [if_pos c1, some_out hB hl (a + blen l t) 1 0 1 rfl hin.1 (by omega) c1 (k + 1) (by omega), Option.bind_some]
        simp only
        rw [if_neg (by decide)]
        exact ⟨_, _, rfl, fun e => by simp at e⟩
      · rw [if_neg c1, some_in hB hl (a + blen l t) 1 0 1 rfl (by omega) (by omega) (k + 1) (by omega), Option.bind_some]
        simp only
        rw [if_pos trivial]
        by_cases c2 : 8 * B.length < a + blen l t + 1 + 22
        · rw [if_pos c2, some_out hB hl (a + blen l t + 1) 22 0 22 rfl (by omega) (by omega) c2 (k + 1) (by omega), Option.bind_some]
          simp only
          rw [if_neg (by decide)]
          exact ⟨_, _, rfl, fun e => by simp at e⟩
        · rw [if_neg c2, some_in hB hl (a + blen l t + 1) 22 0 22 rfl (by omega) (by omega) (k + 1) (by omega), Option.bind_some]
          have hv := vl_range (B := B) (a := a + blen l t + 1) (n := 22) (by omega)
          have hp : (2 : Int) ^ 22 = 4194304 := by decide
          simp only
          rw [if_pos trivial, vl_bit' (by omega)]
          by_cases c3 : bitN B (a + blen l t) = 1
          · rw [if_pos c3, if_pos c3]
            simp only [psalteryref17_value.j1]
            by_cases c4 : vl B (a + blen l t + 1) 22 = 0
            · rw [if_pos c4, show (vl B (a + blen l t + 1) 22 == 0) = true from beq_iff_eq.mpr c4, if_pos rfl]
              exact ⟨_, _, rfl, fun e => by simp at e⟩
            · rw [if_neg c4, show (vl B (a + blen l t + 1) 22 == 0) = false from beq_eq_false_iff_ne.mpr c4, if_neg (by decide), if_pos c3, w64 (x := -vl B (a + blen l t + 1) 22) (by omega) (by omega)]
              exact ⟨_, _, rfl, fun _ => ⟨rfl, rfl⟩⟩
          · rw [if_neg c3, if_neg c3]
            simp only [psalteryref17_value.j1, Bool.false_eq_true, if_false]
            rw [if_neg c3]
            exact ⟨_, _, rfl, fun _ => ⟨rfl, rfl⟩⟩
    · rw [show ((t : Int) != 15) = true from bne_iff_ne.mpr (by omega), if_neg ht]
      simp only [psalteryref17_value.j0, if_true]
      rw [w64 (x := (t : Int) - 7) (by omega) (by omega)]
      exact ⟨_, _, rfl, fun _ => ⟨rfl, rfl⟩⟩
theorem numOf_zero : ∀ l : List Int, Bits01 l → (numOf l = 0 ↔ l.all (fun x => x == 0) = true)
  | [], _ => by simp [numOf]
  | x :: l, h => by
    have hx := h x (List.mem_cons_self ..)
    have hl : Bits01 l := fun y hy => h y (List.mem_cons_of_mem _ hy)
    have hr := numOf_range hl
    have ih := numOf_zero l hl
    unfold IsBit at hx
    rw [numOf, List.all_cons, Bool.and_eq_true, ← ih, beq_iff_eq]
    omega
theorem rest_l4 (y : List Int) (hy : y.length ≤ 1000000000) (P R : List (List Int)) (d : Nat) : ∀ (i k : Nat), i + d = y.length → d < k → psalteryref17_Read.l4 k y (i : Int) P R = some (if (y.drop i).all (fun x => x == 0) = true then (P, R, 0) else no 2) := by
  induction d with
  | zero =>
    intro i k hi hk
    obtain ⟨k, rfl⟩ : ∃ j, k = j + 1 := ⟨k - 1, by omega⟩
    simp only [psalteryref17_Read.l4]
    rw [if_neg (by omega), List.drop_eq_nil_of_le (by omega), List.all_nil, if_pos rfl]
  | succ d ih =>
    intro i k hi hk
    obtain ⟨k, rfl⟩ : ∃ j, k = j + 1 := ⟨k - 1, by omega⟩
    have hil : i < y.length := by omega
    have nx := ih (i + 1) k (by omega) (by omega)
    simp only [psalteryref17_Read.l4]
    rw [if_pos (by omega), if_pos (by omega), rd_get y i hil, List.drop_eq_getElem_cons hil, List.all_cons, w64 (x := (i : Int) + 1) (by omega) (by omega)]
    by_cases c : y[i] = 0
    · rw [if_pos c, show (y[i] == 0) = true from beq_iff_eq.mpr c, Bool.true_and]
      exact nx
    · rw [if_neg c, show (y[i] == 0) = false from beq_eq_false_iff_ne.mpr c, Bool.false_and, if_neg (by decide)]; rfl
theorem rref_l3 {B rs : List Int} (hB : Bytes B) (hl : B.length ≤ 1000000) (hr : rightH rs = true) (h16 : rs.length = 16) (c q : Int) (fl : List Int) (P R : List (List Int)) (i : Nat) (hi : i < P.length) (hp : ¬ (P[i]).length = 0) (hR : R.length ≤ 1000)
    (F : Nat → List Int → List (List Int) × List (List Int) × Int) (N : Nat) (hF : ∀ k' a' r, N ≤ k' → a' ≤ 8 * B.length → psalteryref17_Read.l2 k' B (wrap64 ((i : Int) + 1)) c q fl rs (a' : Int) 0 P (R ++ [r]) = some (F a' r)) (d : Nat) :
    ∀ (j k a : Nat) (acc : List Int), acc.length = j → j + d = 16 → N + 2 * d + 2 ≤ k ∧ 2 * d + 10 * B.length + 3020 ≤ k → a ≤ 8 * B.length →
    psalteryref17_Read.l3 k B (i : Int) acc (j : Int) c q fl rs (a : Int) 0 P R = some (if (resS rs B d a acc).1 = 0 then F (resS rs B d a acc).2.1 (resS rs B d a acc).2.2 else no (resS rs B d a acc).1) := by
  induction d with
  | zero =>
    intro j k a acc hj hd hk ha
    obtain ⟨k, rfl⟩ : ∃ m, k = m + 2 := ⟨k - 2, by omega⟩
    simp only [psalteryref17_Read.l3, resS, if_true]
    rw [if_neg (by omega)]
    simp only [psalteryref17_Read.j5, Bool.false_eq_true, if_false]
    rw [if_pos (show R.length < 5864062014805 by omega)]
    exact hF k a acc (by omega) ha
  | succ d ih =>
    intro j k a acc hj hd hk ha
    obtain ⟨k, rfl⟩ : ∃ m, k = m + 2 := ⟨k - 2, by omega⟩
    obtain ⟨x, v, h1, h2⟩ := value_eq hB hl hr h16 a ha 0 k (by omega)
    have step : psalteryref17_Read.l3 (k + 2) B (i : Int) acc (j : Int) c q fl rs (a : Int) 0 P R = ((some (x, (valS rs B a).1, v)).bind fun bt804 => (if bt804.2.1 = 0 then (if acc.length < 17592186044416 then (psalteryref17_Read.l3 k B (i : Int) (acc ++ [bt804.2.2]) (wrap64 ((j : Int) + 1)) c q fl rs bt804.1 bt804.2.1 P R) else (none)) else (some (([] : List (List Int)), ([] : List (List Int)), bt804.2.1)))) := by
      simp only [psalteryref17_Read.l3]
      rw [if_pos (by omega), if_pos (by omega), if_pos (by omega), L1_at' P i hi, decide_eq_true (by omega)]
      simp only [psalteryref17_Read.j5, if_true]
      rw [h1]
    rw [step, Option.bind_some]
    simp only
    by_cases e : (valS rs B a).1 = 0
    · have hz : resS rs B (d + 1) a acc = resS rs B d (valS rs B a).2.1 (acc ++ [(valS rs B a).2.2]) := by rw [resS, if_pos e]
      obtain ⟨rfl, rfl⟩ := h2 e
      rw [hz, if_pos e, if_pos (by omega), e, w64 (x := (j : Int) + 1) (by omega) (by omega)]
      exact ih (j + 1) k _ _ (by rw [List.length_append, List.length_singleton]; omega) (by omega) (by omega) (valS_in rs ha)
    · have hz : resS rs B (d + 1) a acc = ((valS rs B a).1, a, acc) := by rw [resS, if_neg e]
      rw [hz, if_neg (show ¬ ((valS rs B a).1, a, acc).1 = 0 from e), if_neg e]; rfl
theorem rref_end {B : List Int} (hB : Bytes B) (hl : B.length ≤ 1000000) (c q : Int) (fl rs : List Int) (P R : List (List Int)) (a : Nat) (ha : a ≤ 8 * B.length) (i : Int) (hi : ¬ i < c) (k : Nat) (hk : 10 * B.length + 100 ≤ k) :
    psalteryref17_Read.l2 k B i c q fl rs (a : Int) 0 P R = some (endS B a P R) := by
  obtain ⟨k, rfl⟩ : ∃ j, k = j + 1 := ⟨k - 1, by omega⟩
  have hbl := bitsL_length B
  simp only [psalteryref17_Read.l2]
  rw [if_neg hi, refBits_eq hB hl k (by omega), Option.bind_some, if_pos (by omega), if_pos (by omega), Option.bind_some, Int.toNat_natCast]
  have hd : ((bitsL B).drop a).length = 8 * B.length - a := by rw [List.length_drop]; omega
  unfold endS
  by_cases c1 : 8 ≤ 8 * B.length - a
  · rw [if_pos (by omega), if_pos c1]; rfl
  · rw [if_neg (by omega), if_neg c1]
    have h4 := rest_l4 ((bitsL B).drop a) (by omega) P R ((bitsL B).drop a).length 0 k (by omega) (by omega)
    rw [List.drop_zero] at h4
    rw [show ((0 : Nat) : Int) = 0 from rfl] at h4
    rw [h4]
    have hs : seg B a (8 * B.length - a) = (bitsL B).drop a := by unfold seg; rw [List.take_of_length_le (by omega)]
    have hz := numOf_zero ((bitsL B).drop a) (fun x hx => bitsL_bits B x (List.mem_of_mem_drop hx))
    unfold vl
    rw [hs]
    by_cases c2 : numOf ((bitsL B).drop a) = 0
    · rw [if_pos c2, if_pos (hz.1 c2)]
    · rw [if_neg c2, if_neg (fun h => c2 (hz.2 h))]
theorem rref_l2 {B rs : List Int} (hB : Bytes B) (hl : B.length ≤ 1000000) (hr : rightH rs = true) (h16 : rs.length = 16) (q : Int) (fl : List Int) (P : List (List Int)) (hP : P.length ≤ 100) (d : Nat) :
    ∀ (i k a : Nat) (R : List (List Int)), i + d = P.length → R.length = i → 40 * d + 10 * B.length + 4000 ≤ k → a ≤ 8 * B.length →
    psalteryref17_Read.l2 k B (i : Int) (P.length : Int) q fl rs (a : Int) 0 P R = some (tailR B P (allS rs B (P.drop i) a R)) := by
  induction d with
  | zero =>
    intro i k a R hi hR hk ha
    rw [List.drop_eq_nil_of_le (by omega), rref_end hB hl (P.length : Int) q fl rs P R a ha i (by omega) k (by omega)]
    simp only [allS, tailR, if_true]
  | succ d ih =>
    intro i k a R hi hR hk ha
    obtain ⟨k, rfl⟩ : ∃ j, k = j + 1 := ⟨k - 1, by omega⟩
    have hil : i < P.length := by omega
    have hw : wrap64 ((i : Int) + 1) = ((i + 1 : Nat) : Int) := by rw [w64 (by omega) (by omega)]; rfl
    simp only [psalteryref17_Read.l2]
    rw [if_pos (by omega), List.drop_eq_getElem_cons hil]
    unfold allS
    by_cases hp : (P[i]).length = 0
    · rw [if_pos hp]
      obtain ⟨k, rfl⟩ : ∃ j, k = j + 2 := ⟨k - 2, by omega⟩
      simp only [psalteryref17_Read.l3]
      rw [if_pos (by omega), if_pos (by omega), if_pos (by omega), L1_at' P i hil, hp, decide_eq_false (by omega)]
      simp only [psalteryref17_Read.j5, Bool.false_eq_true, if_false]
      rw [if_pos (by omega), hw]
      exact ih (i + 1) k a _ (by omega) (by rw [List.length_append, hR]; rfl) (by omega) ha
    · rw [if_neg hp]
      have := rref_l3 hB hl hr h16 (P.length : Int) q fl P R i hil hp (by omega) (fun a' r => tailR B P (allS rs B (P.drop (i + 1)) a' (R ++ [r]))) (40 * d + 10 * B.length + 4000)
        (fun k' a' r hk' ha' => by rw [hw]; exact ih (i + 1) k' a' _ (by omega) (by rw [List.length_append, hR]; rfl) hk' ha') 16 0 k a [] rfl (by omega) (by omega) ha
      rw [show ((0 : Nat) : Int) = 0 from rfl] at this
      rw [this]
      by_cases e : (resS rs B 16 a []).1 = 0
      · rw [if_pos e, if_pos e]
      · rw [if_neg e, if_neg e]
        unfold tailR
        rw [if_neg (show ¬ ((resS rs B 16 a []).1, a, R).1 = 0 from e)]
theorem rref_l1 {B fl : List Int} (hB : Bytes B) (hl : B.length ≤ 1000000) (hr : rightH fl = true) (c q i : Int) (rs : List Int) (P : List (List Int)) (hP : P.length ≤ 100)
    (F : Nat → List Int → List (List Int) × List (List Int) × Int) (N : Nat) (hF : ∀ k' a' l, N ≤ k' → a' ≤ 8 * B.length → psalteryref17_Read.l0 k' B (wrap64 (i + 1)) c q fl rs (a' : Int) 0 (P ++ [l]) = some (F a' l)) (d : Nat) :
    ∀ (j k a : Nat) (acc : List Int), acc.length = j → j + d = 6 → N + 2 * d + 2 ≤ k ∧ 2 * d + 10 * B.length + 3020 ≤ k → a ≤ 8 * B.length →
    psalteryref17_Read.l1 k B i 1 acc (j : Int) c q fl rs (a : Int) 0 P = some (if (postsS fl B d a acc).1 = 0 then F (postsS fl B d a acc).2.1 (postsS fl B d a acc).2.2 else no (postsS fl B d a acc).1) := by
  induction d with
  | zero =>
    intro j k a acc hj hd hk ha
    obtain ⟨k, rfl⟩ : ∃ m, k = m + 2 := ⟨k - 2, by omega⟩
    simp only [psalteryref17_Read.l1, postsS, if_true]
    rw [if_neg (by omega)]
    simp only [psalteryref17_Read.j2, Bool.false_eq_true, if_false]
    rw [if_pos (by omega)]
    exact hF k a acc (by omega) ha
  | succ d ih =>
    intro j k a acc hj hd hk ha
    obtain ⟨k, rfl⟩ : ∃ m, k = m + 2 := ⟨k - 2, by omega⟩
    simp only [psalteryref17_Read.l1]
    rw [if_pos (by omega), show ((1 : Int) == 1) = true from rfl]
    simp only [psalteryref17_Read.j2, if_true]
    rw [symbol_eq hB hl hr a ha 0 k (by omega), Option.bind_some]
    unfold postsS
    cases hs : sym fl B a with
    | none =>
      have hne := serr_ne fl B a
      simp only
      rw [if_neg hne, if_neg hne]; rfl
    | some t =>
      simp only
      rw [if_pos trivial, if_pos (by omega), w64 (x := (j : Int) + 1) (by omega) (by omega)]
      exact ih (j + 1) k _ _ (by rw [List.length_append, List.length_singleton]; omega) (by omega) (by omega) (at_in (sym_at hs)).1
theorem rref_l0 {B fl rs : List Int} (hB : Bytes B) (hl : B.length ≤ 1000000) (hr : rightH fl = true) (hr2 : rightH rs = true) (h16 : rs.length = 16) (q : Int) (n : Nat) (hn : n ≤ 50) (d : Nat) :
    ∀ (i k a : Nat) (P : List (List Int)), i + d = n → P.length = i → 20 * d + 40 * n + 10 * B.length + 5000 ≤ k → a ≤ 8 * B.length →
    psalteryref17_Read.l0 k B (i : Int) (n : Int) q fl rs (a : Int) 0 P = some (tailP rs B (chansS fl B d a P)) := by
  induction d with
  | zero =>
    intro i k a P hi hP hk ha
    obtain ⟨k, rfl⟩ : ∃ j, k = j + 1 := ⟨k - 1, by omega⟩
    simp only [psalteryref17_Read.l0, chansS]
    rw [if_neg (by omega)]
    have := rref_l2 hB hl hr2 h16 q fl P (by omega) P.length 0 k a [] (by omega) rfl (by omega) ha
    rw [show ((0 : Nat) : Int) = 0 from rfl, List.drop_zero, show P.length = n by omega] at this
    rw [this]; rfl
  | succ d ih =>
    intro i k a P hi hP hk ha
    obtain ⟨k, rfl⟩ : ∃ j, k = j + 1 := ⟨k - 1, by omega⟩
    have hw : wrap64 ((i : Int) + 1) = ((i + 1 : Nat) : Int) := by rw [w64 (by omega) (by omega)]; rfl
    simp only [psalteryref17_Read.l0]
    rw [if_pos (by omega)]
    unfold chansS
    by_cases c1 : 8 * B.length < a + 1
    · rw [if_pos c1, some_out hB hl a 1 0 1 rfl ha (by omega) c1 k (by omega), Option.bind_some]
      simp only
      rw [if_neg (by decide)]; rfl
    · rw [if_neg c1, some_in hB hl a 1 0 1 rfl (by omega) (by omega) k (by omega), Option.bind_some]
      simp only
      rw [if_pos trivial, vl_bit' (by omega)]
      by_cases c2 : bitN B a = 1
      · rw [if_pos c2, c2]
        have := rref_l1 hB hl hr (n : Int) q (i : Int) rs P (by omega) (fun a' l => tailP rs B (chansS fl B d a' (P ++ [l]))) (20 * d + 40 * n + 10 * B.length + 5000)
          (fun k' a' l hk' ha' => by rw [hw]; exact ih (i + 1) k' a' _ (by omega) (by rw [List.length_append, hP]; rfl) hk' ha') 6 0 k (a + 1) [] rfl (by omega) (by omega) (by omega)
        rw [show ((0 : Nat) : Int) = 0 from rfl] at this
        rw [this]
        by_cases e : (postsS fl B 6 (a + 1) []).1 = 0
        · rw [if_pos e, if_pos e]
        · rw [if_neg e, if_neg e]
          unfold tailP
          rw [if_neg (show ¬ ((postsS fl B 6 (a + 1) []).1, a, P).1 = 0 from e)]
      · rw [if_neg c2]
        obtain ⟨k, rfl⟩ : ∃ j, k = j + 2 := ⟨k - 2, by omega⟩
        simp only [psalteryref17_Read.l1]
        rw [if_pos (by omega), show (bitN B a == 1) = false from beq_eq_false_iff_ne.mpr c2]
        simp only [psalteryref17_Read.j2, Bool.false_eq_true, if_false]
        rw [if_pos (by omega), hw]
        exact ih (i + 1) k (a + 1) _ (by omega) (by rw [List.length_append, hP]; rfl) (by omega) (by omega)
theorem rrefBd_eq {B : List Int} (hB : Bytes B) (hl : B.length ≤ 1000000) (c q : Int) (fl rs : List Int) (k : Nat) (hk : 10 * B.length + 8000 ≤ k) : psalteryref17_Read.f k c q fl rs B = some (readBd c q fl rs B) := by
  unfold psalteryref17_Read.f readBd
  rw [ref_right c q fl rs k (by omega), Option.bind_some]
  by_cases hr : rightHd c q fl rs = true
  · obtain ⟨a1, a2, a3, a4, a5, a6, a7, a8, a9⟩ := right_parts hr
    rw [if_pos hr, if_pos hr]
    have := rref_l0 hB hl a7 a8 a6 q c.toNat (by omega) c.toNat 0 k 0 [] (by omega) rfl (by omega) (by omega)
    rw [Int.toNat_of_nonneg (by omega)] at this
    exact this
  · rw [if_neg hr, if_neg hr]; rfl
end Go.Proofs.Ytpdfdaoohknfoaa.LK
