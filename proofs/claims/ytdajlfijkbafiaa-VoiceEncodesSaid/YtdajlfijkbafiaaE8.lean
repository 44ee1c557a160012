/- Words, walks and what they compute, as the law's proof needs them. -/
import Derived.Test.YtdajlfijkbafiaaE3
import Derived.Test.YtdajlfijkbafiaaE6
import Derived.Test.YtdajlfijkbafiaaE7
import Derived.Test.YtdajlfijkbafiaaE5
import Derived.Test.YtdajlfijkbafiaaE4
import Derived.Test.YtdajlfijkbafiaaE2
import Derived.Deep.Slices
import Derived.Lib.SmallJoins
import Derived.WideShapes
set_option linter.unusedVariables false
set_option linter.unusedSimpArgs false
namespace Go.Proofs.Ytdajlfijkbafiaa.LB
open Go.RowKit Go.Proofs.YtdajlfijkbafiaaW.PrintWords Go.Proofs.YtdajlfijkbafiaaW.PrintLast Go.Proofs.Ytdajlfijkbafiaa.P Go.Proofs.Ytdajlfijkbafiaa.NT
theorem size_eq {a : Int} (ha : -9223372036854775808 ≤ a ∧ a ≤ 9223372036854775807) : num_size.f a = some (if a < 0 then -a else a) := by
  unfold num_size.f
  simp only [u64_eq]
  split <;> (congr 1; omega)
theorem div_eq {a b : Int} (ha : -9223372036854775808 ≤ a ∧ a ≤ 9223372036854775807) (hb : b ≤ 9223372036854775807) : num_Div.f a b = some (if b < 1 then (0, 1) else (near a b, 0)) := by
  unfold num_Div.f
  by_cases h1 : b < 1
  · rw [if_pos h1, if_pos h1]
  rw [if_neg h1, if_neg h1, size_eq ha]
  simp only [Option.bind_some]
  rw [u64w (x := b) (by omega) (by omega), if_neg (by omega)]
  have fin : ∀ n : Int, 0 ≤ n → n ≤ 9223372036854775808 → ∃ q, q = near n b ∧ 0 ≤ q ∧ q ≤ n ∧ (if n % b ≥ b - n % b then n / b + 1 else n / b) = q := by
    intro n h0 _
    have := (near_bound (a := n) (b := b) (by omega)).1 h0
    exact ⟨near n b, rfl, this.1, this.2, (near_pos (by omega) h0).symm⟩
  have hn0 : 0 ≤ (if a < 0 then -a else a) := by split <;> omega
  have hn1 : (if a < 0 then -a else a) ≤ 9223372036854775808 := by split <;> omega
  have hn2 : ¬ a < 0 → (if a < 0 then -a else a) ≤ 9223372036854775807 := by intro h; rw [if_neg h]; omega
  have hs : near a b = if a < 0 then - near (if a < 0 then -a else a) b else near (if a < 0 then -a else a) b := by
    split
    · exact near_neg (by assumption)
    · rfl
  rw [hs]
  generalize (if a < 0 then -a else a) = n at *
  obtain ⟨q, hq, q0, q1, q2⟩ := fin n hn0 hn1
  have m0 := Int.emod_nonneg n (show b ≠ 0 by omega)
  have m1 := Int.emod_lt_of_pos n (show 0 < b by omega)
  have d0 : 0 ≤ n / b := Int.ediv_nonneg hn0 (by omega)
  have d1 : n / b ≤ n := Int.ediv_le_self _ hn0
  rw [tmod_nn b hn0, tdiv_nn b hn0, u64w (x := b - n % b) (by omega) (by omega), u64w (x := n / b) d0 (by omega), ← hq]
  by_cases hc : n % b ≥ b - n % b
  · rw [if_pos hc] at q2 ⊢
    rw [q2]
    simp only [u64_eq, wrap64_eq]
    split
    · congr 2; omega
    · have := hn2 (by assumption); congr 2; omega
  · rw [if_neg hc] at q2 ⊢
    rw [q2]
    simp only [u64_eq, wrap64_eq]
    split
    · congr 2; omega
    · have := hn2 (by assumption); congr 2; omega
theorem tdiv_neg {a b : Int} (ha : a < 0) : Int.tdiv a b = -((-a) / b) := by
  have := tdiv_nn (a := -a) b (by omega)
  rw [Int.neg_tdiv] at this; omega
theorem refDiv_eq {a b : Int} (ha : -9223372036854775808 ≤ a ∧ a ≤ 9223372036854775807) (hb : 1 ≤ b) (hb' : b ≤ 9223372036854775807) (k : Nat) (hk : 0 < k) : psalteryref03_Div.f k a b = some (near a b) := by
  obtain ⟨k, rfl⟩ : ∃ m, k = m + 1 := ⟨k - 1, by omega⟩
  unfold psalteryref03_Div.f
  rw [if_neg (by omega)]
  simp only [psalteryref03_Div.j0]
  by_cases h0 : 0 ≤ a
  · have e1 := Int.mul_ediv_add_emod a b
    have m0 := Int.emod_nonneg a (show b ≠ 0 by omega)
    have m1 := Int.emod_lt_of_pos a (show 0 < b by omega)
    have d0 : 0 ≤ a / b := Int.ediv_nonneg h0 (by omega)
    have d1 : a / b ≤ a := Int.ediv_le_self _ h0
    have hq := near_pos (b := b) (by omega) h0
    rw [Int.mul_comm] at e1
    have hm : 0 ≤ a / b * b := Int.mul_nonneg d0 (by omega)
    have hnb := (near_bound (a := a) (b := b) (by omega)).1 h0
    rw [tdiv_nn b h0, w64 (x := a / b) (by omega) (by omega), w64 (x := a / b * b) (by omega) (by omega), w64 (x := a - a / b * b) (by omega) (by omega), show a - a / b * b = a % b by omega]
    rw [if_pos (by omega), w64 (x := b - a % b) (by omega) (by omega)]
    by_cases hc : a % b ≥ b - a % b
    · rw [if_pos hc] at hq
      rw [decide_eq_true hc, if_pos rfl, w64 (by omega) (by omega), hq]
    · rw [if_neg hc] at hq
      rw [decide_eq_false hc, if_neg (by decide), if_neg (by omega), hq]
  · have e1 := Int.mul_ediv_add_emod (-a) b
    have m0 := Int.emod_nonneg (-a) (show b ≠ 0 by omega)
    have m1 := Int.emod_lt_of_pos (-a) (show 0 < b by omega)
    have d0 : 0 ≤ (-a) / b := Int.ediv_nonneg (by omega) (by omega)
    have d1 : (-a) / b ≤ -a := Int.ediv_le_self _ (by omega)
    have hq := near_pos (a := -a) (b := b) (by omega) (by omega)
    have hs := near_neg (a := a) (b := b) (by omega)
    rw [Int.mul_comm] at e1
    have hm : 0 ≤ (-a) / b * b := Int.mul_nonneg d0 (by omega)
    have hnb := (near_bound (a := a) (b := b) (by omega)).2 (by omega)
    have en : -((-a) / b) * b = -((-a) / b * b) := Int.neg_mul _ _
    rw [tdiv_neg (by omega), w64 (x := -((-a) / b)) (by omega) (by omega), en, w64 (x := -((-a) / b * b)) (by omega) (by omega), w64 (x := a - -((-a) / b * b)) (by omega) (by omega), show a - -((-a) / b * b) = -((-a) % b) by omega]
    by_cases hz : -((-a) % b) ≥ 0
    · rw [if_pos hz, w64 (x := b - -((-a) % b)) (by omega) (by omega), decide_eq_false (by omega), if_neg (by decide), if_neg (by omega)]
      rw [if_neg (by omega)] at hq
      congr 1; omega
    · rw [if_neg hz, if_neg (by decide), if_pos (by omega), w64 (x := - -((-a) % b)) (by omega) (by omega), w64 (x := b + -((-a) % b)) (by omega) (by omega)]
      by_cases hc : (-a) % b ≥ b - (-a) % b
      · rw [if_pos hc] at hq
        rw [if_pos (by omega), w64 (by omega) (by omega)]; congr 1; omega
      · rw [if_neg hc] at hq
        rw [if_neg (by omega)]; congr 1; omega
end Go.Proofs.Ytdajlfijkbafiaa.LB
namespace Go.Proofs.Ytdajlfijkbafiaa.LR
open Go.RowKit Go.Proofs.YtdajlfijkbafiaaW.PrintWords Go.Proofs.YtdajlfijkbafiaaW.PrintLast Go.Proofs.YtdajlfijkbafiaaW.PrintMore Go.Proofs.Ytdajlfijkbafiaa.P Go.Proofs.Ytdajlfijkbafiaa.LB Go.Proofs.Ytdajlfijkbafiaa.NT
def inr (lo hi : Int) : List Int → Bool
  | [] => true
  | v :: l => decide (lo ≤ v ∧ v ≤ hi) && inr lo hi l
def cl (v : Int) : Int := if v < -1048576 then -1048576 else if v > 1048576 then 1048576 else v
def rs (a b : Int) : Int := cl (a * b)
def okq (m : Int) (l r : List Int) : Bool := inr (-m) m l && l.length == 16 && inr 1 4194304 r && r.length == 16
theorem inr_mem {lo hi : Int} : ∀ {l : List Int}, inr lo hi l = true → ∀ x ∈ l, lo ≤ x ∧ x ≤ hi
  | [], _, x, hx => by cases hx
  | v :: l, h, x, hx => by
    simp only [inr, Bool.and_eq_true, decide_eq_true_eq] at h
    rcases List.mem_cons.1 hx with rfl | hx
    · exact h.1
    · exact inr_mem h.2 x hx
theorem inr_of {lo hi : Int} : ∀ {l : List Int}, (∀ x ∈ l, lo ≤ x ∧ x ≤ hi) → inr lo hi l = true
  | [], _ => rfl
  | v :: l, h => by
    simp only [inr, Bool.and_eq_true, decide_eq_true_eq]
    exact ⟨h v (List.mem_cons_self ..), inr_of fun x hx => h x (List.mem_cons_of_mem _ hx)⟩
theorem rd_mid (l r : List Int) (x : Int) : rd (l ++ x :: r) (l.length : Int) = x := by simp [rd]
theorem rd_mid' (l l' r : List Int) (x : Int) (h : l.length = l'.length) : rd (l ++ x :: r) (l'.length : Int) = x := by rw [← h]; exact rd_mid l r x
theorem clamp_eq {v lo hi : Int} (h : lo ≤ hi) : num_Clamp.f v lo hi = some (if lo ≤ v ∧ v ≤ hi then v else if v < lo then lo else hi) := by
  unfold num_Clamp.f; repeat' split
  all_goals (simp only [Option.some.injEq] <;> omega)
theorem row_loop (lo hi : Int) (h : lo ≤ hi) (whole : List Int) : ∀ (s p : List Int) (k : Nat), p.length + s.length ≤ 1000 → s.length < k →
    remap_row.l0 k whole lo hi (p ++ s) ((p ++ s).length : Int) (p.length : Int) = some (if inr lo hi s = true then ((whole.length : Int) == 16) else false)
  | [], p, k, hn, hk => by
    obtain ⟨k, rfl⟩ : ∃ j, k = j + 1 := ⟨k - 1, by omega⟩
    simp only [remap_row.l0, List.append_nil]
    rw [if_neg (by omega)]; simp [inr]
  | v :: s, p, k, hn, hk => by
    obtain ⟨k, rfl⟩ : ∃ j, k = j + 1 := ⟨k - 1, by omega⟩
    simp only [List.length_cons] at hn hk
    have hlen : ((p ++ v :: s).length : Int) = p.length + s.length + 1 := by simp only [List.length_append, List.length_cons]; omega
    simp only [remap_row.l0]
    rw [if_pos (by omega), if_pos (by omega), if_pos (by omega), rd_mid, clamp_eq h]
    simp only [Option.bind_some]
    by_cases c : lo ≤ v ∧ v ≤ hi
    · rw [if_pos c, if_pos rfl, w64 (by omega) (by omega), show inr lo hi (v :: s) = inr lo hi s by simp only [inr, decide_eq_true c, Bool.true_and]]
      have ih := row_loop lo hi h whole s (p ++ [v]) k (by simp only [List.length_append, List.length_cons, List.length_nil]; omega) (by omega)
      simp only [List.append_assoc, List.singleton_append] at ih
      rw [show (((p ++ [v]).length : Nat) : Int) = (p.length : Int) + 1 by simp only [List.length_append, List.length_cons, List.length_nil]; omega] at ih
      exact ih
    · rw [if_neg c, if_neg (by split <;> omega), show inr lo hi (v :: s) = false by simp only [inr, decide_eq_false c, Bool.false_and]]
      rfl
theorem row_eq {lo hi : Int} (h : lo ≤ hi) (l : List Int) (hl : l.length ≤ 1000) (k : Nat) (hk : l.length < k) : remap_row.f k l lo hi = some (inr lo hi l && l.length == 16) := by
  unfold remap_row.f
  have := row_loop lo hi h l l [] k (by simpa using hl) hk
  simp only [List.nil_append, List.length_nil] at this
  rw [show ((0 : Nat) : Int) = 0 from rfl] at this
  rw [this]
  have e : ((l.length : Int) == 16) = (l.length == 16) := by rw [Bool.eq_iff_iff]; simp only [beq_iff_eq]; omega
  rw [e]; cases inr lo hi l <;> simp
theorem quantized_eq {a b : Int} (ha : -1048576 ≤ a ∧ a ≤ 1048576) (hb : 1 ≤ b ∧ b ≤ 4194304) : remap_quantized.f a b = some (near a b) := by
  unfold remap_quantized.f
  rw [div_eq (by omega) (by omega), if_neg (by omega)]; rfl
theorem over_near : ∀ (s t p q out : List Int) (k : Nat), p.length = q.length → s.length = t.length → p.length + s.length ≤ 1000 → out.length ≤ p.length → s.length < k → inr (-1048576) 1048576 s = true → inr 1 4194304 t = true →
    remap_over_int64_by_remap_quantized.l0 k (q ++ t) out (p ++ s) ((p ++ s).length : Int) (p.length : Int) = some (out ++ List.zipWith near s t)
  | [], [], p, q, out, k, hp, _, hn, ho, hk, _, _ => by
    obtain ⟨k, rfl⟩ : ∃ j, k = j + 1 := ⟨k - 1, by omega⟩
    simp only [remap_over_int64_by_remap_quantized.l0, List.append_nil]
    rw [if_neg (by omega)]; simp
  | x :: s, y :: t, p, q, out, k, hp, hl, hn, ho, hk, hs, ht => by
    obtain ⟨k, rfl⟩ : ∃ j, k = j + 1 := ⟨k - 1, by omega⟩
    simp only [List.length_cons] at hl hn hk
    simp only [inr, Bool.and_eq_true, decide_eq_true_eq] at hs ht
    have hlen : ((p ++ x :: s).length : Int) = p.length + s.length + 1 := by simp only [List.length_append, List.length_cons]; omega
    have hlen' : ((q ++ y :: t).length : Int) = q.length + t.length + 1 := by simp only [List.length_append, List.length_cons]; omega
    simp only [remap_over_int64_by_remap_quantized.l0]
    rw [if_pos (by omega), if_pos (by omega), if_pos (by omega), if_pos (by omega), rd_mid, rd_mid' q p t y hp.symm, quantized_eq hs.1 ht.1]
    simp only [Option.bind_some]
    rw [if_pos (by omega), w64 (by omega) (by omega)]
    have ih := over_near s t (p ++ [x]) (q ++ [y]) (out ++ [near x y]) k (by simp [hp]) (by omega) (by simp only [List.length_append, List.length_cons, List.length_nil]; omega) (by simp only [List.length_append, List.length_cons, List.length_nil]; omega) (by omega) hs.2 ht.2
    simp only [List.append_assoc, List.singleton_append] at ih
    rw [show (((p ++ [x]).length : Nat) : Int) = (p.length : Int) + 1 by simp only [List.length_append, List.length_cons, List.length_nil]; omega] at ih
    exact ih
theorem Quantize_eq (l r : List Int) (hl : l.length ≤ 1000) (hr : r.length ≤ 1000) (k : Nat) (hk : 1001 < k) : remap_Quantize.f k l r = some (if okq 1048576 l r = true then (List.zipWith near l r, 0) else ([], 1)) := by
  unfold remap_Quantize.f okq
  rw [row_eq (by omega) l hl k (by omega), row_eq (by omega) r hr k (by omega)]
  simp only [Option.bind_some]
  cases h1 : (inr (-1048576) 1048576 l && l.length == 16) with
  | false => rfl
  | true =>
    cases h2 : (inr 1 4194304 r && r.length == 16) with
    | false => rw [Bool.true_and, h2]; rfl
    | true =>
      rw [Bool.true_and, h2]
      simp only [if_true]
      simp only [Bool.and_eq_true, beq_iff_eq] at h1 h2
      unfold remap_over_int64_by_remap_quantized.f
      have := over_near l r [] [] [] k rfl (by omega) (by simp only [List.length_nil]; omega) (Nat.le_refl _) (by omega) h1.1 h2.1
      simp only [List.nil_append, List.length_nil] at this
      rw [show ((0 : Nat) : Int) = 0 from rfl] at this
      rw [this]; rfl
theorem refQuantize_loop : ∀ (s t p q out : List Int) (k : Nat), p.length = q.length → s.length = t.length → p.length + s.length = 16 → out.length ≤ p.length → s.length + 1 < k → inr (-1048576) 1048576 s = true → inr 1 4194304 t = true →
    psalteryref21_Quantize.l0 k (p ++ s) (q ++ t) out (p.length : Int) = some (out ++ List.zipWith near s t)
  | [], [], p, q, out, k, hp, _, hn, ho, hk, _, _ => by
    obtain ⟨k, rfl⟩ : ∃ j, k = j + 1 := ⟨k - 1, by omega⟩
    simp only [List.length_nil] at hn
    simp only [psalteryref21_Quantize.l0, List.append_nil]
    rw [if_neg (by omega)]; simp
  | x :: s, y :: t, p, q, out, k, hp, hl, hn, ho, hk, hs, ht => by
    obtain ⟨k, rfl⟩ : ∃ j, k = j + 1 := ⟨k - 1, by omega⟩
    simp only [List.length_cons] at hl hn hk
    simp only [inr, Bool.and_eq_true, decide_eq_true_eq] at hs ht
    have hlen : ((p ++ x :: s).length : Int) = p.length + s.length + 1 := by simp only [List.length_append, List.length_cons]; omega
    have hlen' : ((q ++ y :: t).length : Int) = q.length + t.length + 1 := by simp only [List.length_append, List.length_cons]; omega
    simp only [psalteryref21_Quantize.l0]
    rw [if_pos (by omega), if_pos (by omega), if_pos (by omega), if_pos (by omega), rd_mid, rd_mid' q p t y hp.symm, refDiv_eq (by omega) (by omega) (by omega) k (by omega)]
    simp only [Option.bind_some]
    rw [if_pos (by omega), w64 (by omega) (by omega)]
    have ih := refQuantize_loop s t (p ++ [x]) (q ++ [y]) (out ++ [near x y]) k (by simp [hp]) (by omega) (by simp only [List.length_append, List.length_cons, List.length_nil]; omega) (by simp only [List.length_append, List.length_cons, List.length_nil]; omega) (by omega) hs.2 ht.2
    simp only [List.append_assoc, List.singleton_append] at ih
    rw [show (((p ++ [x]).length : Nat) : Int) = (p.length : Int) + 1 by simp only [List.length_append, List.length_cons, List.length_nil]; omega] at ih
    exact ih
theorem refQuantize_eq (l r : List Int) (h : okq 1048576 l r = true) (k : Nat) (hk : 20 < k) : psalteryref21_Quantize.f k l r = some (List.zipWith near l r) := by
  simp only [okq, Bool.and_eq_true, beq_iff_eq] at h
  unfold psalteryref21_Quantize.f
  have := refQuantize_loop l r [] [] [] k rfl (by omega) (by simp only [List.length_nil]; omega) (Nat.le_refl _) (by omega) h.1.1.1 h.1.2
  simp only [List.nil_append, List.length_nil] at this
  rw [show ((0 : Nat) : Int) = 0 from rfl] at this
  exact this
theorem rd_in {lo hi : Int} {l : List Int} (h : inr lo hi l = true) (i : Nat) (hi' : i < l.length) : lo ≤ rd l i ∧ rd l i ≤ hi := by
  have : rd l i ∈ l := by simp [rd, List.getD_eq_getElem?_getD, hi']
  exact inr_mem h _ this
end Go.Proofs.Ytdajlfijkbafiaa.LR
namespace Go.Proofs.Ytdajlfijkbafiaa.LW
open Go.RowKit Go.Proofs.YtdajlfijkbafiaaW.PrintWords Go.Proofs.YtdajlfijkbafiaaW.PrintLast Go.Proofs.YtdajlfijkbafiaaW.PrintMore Go.Proofs.Ytdajlfijkbafiaa.P Go.Proofs.Ytdajlfijkbafiaa.LB Go.Proofs.Ytdajlfijkbafiaa.NT
theorem rd_ext {l m : List Int} (hl : l.length = m.length) (h : ∀ i : Nat, i < l.length → rd l (i : Int) = rd m (i : Int)) : l = m := by
  apply List.ext_getElem hl
  intro i h1 h2
  have := h i h1
  simpa [rd, List.getD_eq_getElem?_getD, h1, h2] using this
def floorL (l : List Int) : List Int := (List.range 16).map fun (i : Nat) => LF.flv (LF.lineV l (i : Int))
theorem floorL_length (l : List Int) : (floorL l).length = 16 := by simp [floorL]
theorem floorL_rd (l : List Int) (i : Nat) (h : i < 16) : rd (floorL l) (i : Int) = LF.flv (LF.lineV l (i : Int)) := by
  simp [floorL, rd, List.getD_eq_getElem?_getD, h]
theorem floor_is {l : List Int} (h : LF.okl 6 l = true) (k : Nat) (hk : 1000 < k) : floor_Floor.f k l = some (floorL l, 0) := by
  have hM : (maxLen : Int) = 9223372036854775807 := rfl
  have h6 : l.length = 6 := by
    have h' := h
    simp only [LF.okl, Bool.and_eq_true, beq_iff_eq] at h'
    exact h'.2
  rcases LF.floor_eq l (by omega) k (by omega) with ⟨_, out, e1, e2, e3⟩ | ⟨e, _⟩
  · rw [e1, rd_ext (l := out) (m := floorL l) (by rw [e2, floorL_length]) (fun i hi => by rw [e3 i (by omega), floorL_rd l i (by omega)])]
  · rw [h] at e; cases e
theorem refFloors_loop {l : List Int} (h : LF.okl 6 l = true) (d : Nat) : ∀ (i k : Nat), i + d = 16 → d + 300 < k → psalteryref22_Floors.l0 k l ((List.range i).map fun (i : Nat) => LF.flv (LF.lineV l (i : Int))) (i : Int) = some (floorL l) := by
  induction d with
  | zero =>
    intro i k hi hk
    obtain ⟨k, rfl⟩ : ∃ j, k = j + 1 := ⟨k - 1, by omega⟩
    simp only [psalteryref22_Floors.l0]
    rw [if_neg (by omega), show i = 16 by omega]; rfl
  | succ d ih =>
    intro i k hi hk
    obtain ⟨k, rfl⟩ : ∃ j, k = j + 1 := ⟨k - 1, by omega⟩
    have nx := ih (i + 1) k (by omega) (by omega)
    rw [List.range_succ, List.map_append] at nx
    simp only [psalteryref22_Floors.l0]
    rw [if_pos (by omega), LF.refFloor_eq l h (i : Int) (by omega) k (by omega), Option.bind_some, if_pos (by rw [List.length_map, List.length_range]; omega), w64 (by omega) (by omega), show (i : Int) + 1 = ((i + 1 : Nat) : Int) by omega]
    exact nx
theorem refFloors_eq {l : List Int} (h : LF.okl 6 l = true) (k : Nat) (hk : 1000 < k) : psalteryref22_Floors.f k l = some (floorL l) := by
  unfold psalteryref22_Floors.f
  exact refFloors_loop h 16 0 k (by omega) (by omega)
theorem val_top : LF.val 44 ≤ 4194304 := by
  obtain ⟨s, h1, h2⟩ := LF.value_root 44 (by omega) 100 (by omega)
  rw [LF.val_eq 44 100 (by omega)] at h1
  rw [Option.some.inj h1]
  apply Decidable.byContradiction; intro hc
  have h3 := sq_mono (x := 4194305) (y := s) (by omega) (by omega)
  have h4 := h2.2.1
  have h5 : (2 : Int) ^ ((44 : Int) - 1).toNat = 8796093022208 := by decide
  omega
theorem flv_in {g : Int} (h : g ≤ 44) : 1 ≤ LF.flv g ∧ LF.flv g ≤ 4194304 := by
  have h1 := LF.val_mono h (Int.le_refl _)
  have h2 := val_top
  unfold LF.flv; split <;> omega
theorem line_in {l : List Int} (h : LF.okl 6 l = true) (i : Nat) (hi : i < 16) : LF.lineV l (i : Int) ≤ 44 := by
  simp only [LF.okl, Bool.and_eq_true, beq_iff_eq] at h
  have b : ∀ p : Int, 0 ≤ p → p < 6 → rd l p ≤ 44 := fun p h0 h1 => (LF.rd_in' h.1 p h0 (by omega)).2
  have b0 := b 0 (by omega) (by omega)
  have b1 := b 1 (by omega) (by omega)
  have b2 := b 2 (by omega) (by omega)
  have b3 := b 3 (by omega) (by omega)
  have b4 := b 4 (by omega) (by omega)
  have b5 := b 5 (by omega) (by omega)
  unfold LF.lineV
  by_cases c1 : (i : Int) < 1
  · rw [if_pos c1]
    have := (LF.V_in l 0 (x := 0) (w := 1) (j := (i : Int)) (by omega) (by omega) (by omega)).2
    rw [show (0 : Int) + 1 = 1 from rfl] at this; omega
  rw [if_neg c1]
  by_cases c2 : (i : Int) < 2
  · rw [if_pos c2]
    have := (LF.V_in l 1 (x := 1) (w := 2) (j := (i : Int)) (by omega) (by omega) (by omega)).2
    rw [show (1 : Int) + 1 = 2 from rfl] at this; omega
  rw [if_neg c2]
  by_cases c3 : (i : Int) < 4
  · rw [if_pos c3]
    have := (LF.V_in l 2 (x := 2) (w := 4) (j := (i : Int)) (by omega) (by omega) (by omega)).2
    rw [show (2 : Int) + 1 = 3 from rfl] at this; omega
  rw [if_neg c3]
  by_cases c4 : (i : Int) < 8
  · rw [if_pos c4]
    have := (LF.V_in l 3 (x := 4) (w := 8) (j := (i : Int)) (by omega) (by omega) (by omega)).2
    rw [show (3 : Int) + 1 = 4 from rfl] at this; omega
  rw [if_neg c4]
  have := (LF.V_in l 4 (x := 8) (w := 15) (j := (i : Int)) (by omega) (by omega) (by omega)).2
  rw [show (4 : Int) + 1 = 5 from rfl] at this; omega
theorem floorL_in {l : List Int} (h : LF.okl 6 l = true) : LR.inr 1 4194304 (floorL l) = true := by
  refine LR.inr_of fun x hx => ?_
  simp only [floorL, List.mem_map, List.mem_range] at hx
  obtain ⟨i, hi, rfl⟩ := hx
  exact flv_in (line_in h i hi)
def floorC (fl : List Int) (q : Int) (x : List Int) : List Int := floorL (postL fl q x)
def resid (fl : List Int) (q : Int) (x : List Int) : List Int := List.zipWith near x (floorC fl q x)
theorem fair_inr {x : List Int} (h : fairB x = true) : LR.inr (-1048576) 1048576 x = true := LR.inr_of fun v hv => LQ.inc_mem (fairB_parts h).2.1 v hv
theorem okq_fair {x y : List Int} (h : fairB x = true) (hy : LR.inr 1 4194304 y = true) (hl : y.length = 16) : LR.okq 1048576 x y = true := by
  simp only [LR.okq, Bool.and_eq_true, beq_iff_eq]
  exact ⟨⟨⟨fair_inr h, (fairB_parts h).2.2⟩, hy⟩, hl⟩
theorem resid_length {fl : List Int} {q : Int} {x : List Int} (h : fairB x = true) : (resid fl q x).length = 16 := by
  unfold resid floorC
  rw [List.length_zipWith, (fairB_parts h).2.2, floorL_length]; rfl
theorem resid_in {fl : List Int} (hu : Uses fl) (q : Int) {x : List Int} (h : fairB x = true) : ∀ v ∈ resid fl q x, -1048576 ≤ v ∧ v ≤ 1048576 := by
  have : ∀ l r : List Int, LR.inr (-1048576) 1048576 l = true → LR.inr 1 4194304 r = true → LR.inr (-1048576) 1048576 (List.zipWith near l r) = true := by
    intro l
    induction l with
    | nil => intro r _ _; rfl
    | cons a l ih =>
      intro r h1 h2
      cases r with
      | nil => rfl
      | cons b r =>
        simp only [LR.inr, Bool.and_eq_true, decide_eq_true_eq] at h1 h2
        simp only [List.zipWith_cons_cons, LR.inr, Bool.and_eq_true, decide_eq_true_eq]
        have h3 := near_bound (a := a) (b := b) (by omega)
        exact ⟨by omega, ih r h1.2 h2.2⟩
  exact fun v hv => LR.inr_mem (this x _ (fair_inr h) (floorL_in (postL_okl hu q x))) v hv
theorem quant_eq {fl : List Int} (hu : Uses fl) (q : Int) {x : List Int} (h : fairB x = true) (k : Nat) (hk : 1001 < k) : remap_Quantize.f k x (floorC fl q x) = some (resid fl q x, 0) := by
  rw [LR.Quantize_eq x (floorC fl q x) (by rw [(fairB_parts h).2.2]; omega) (by unfold floorC; rw [floorL_length]; omega) k hk, if_pos (show LR.okq 1048576 x (floorC fl q x) = true from okq_fair h (floorL_in (postL_okl hu q x)) (floorL_length _))]; rfl
theorem refQuant_eq {fl : List Int} (hu : Uses fl) (q : Int) {x : List Int} (h : fairB x = true) (k : Nat) (hk : 20 < k) : psalteryref21_Quantize.f k x (floorC fl q x) = some (resid fl q x) :=
  LR.refQuantize_eq x (floorC fl q x) (okq_fair h (floorL_in (postL_okl hu q x)) (floorL_length _)) k hk
def zerB (r : List Int) : Bool := r.all fun v => decide (v = 0)
theorem silent_loop : ∀ (s p : List Int) (k : Nat), p.length + s.length ≤ 1000 → s.length < k → vcodec_silent.l0 k (p ++ s) ((p ++ s).length : Int) (p.length : Int) = some (zerB s)
  | [], p, k, h, hk => by
    obtain ⟨k, rfl⟩ : ∃ j, k = j + 1 := ⟨k - 1, by omega⟩
    simp only [vcodec_silent.l0, List.append_nil]
    rw [if_neg (by omega)]; rfl
  | v :: s, p, k, h, hk => by
    obtain ⟨k, rfl⟩ : ∃ j, k = j + 1 := ⟨k - 1, by omega⟩
    simp only [List.length_cons] at h hk
    have hlen : ((p ++ v :: s).length : Int) = p.length + s.length + 1 := by simp only [List.length_append, List.length_cons]; omega
    have ih := silent_loop s (p ++ [v]) k (by simp only [List.length_append, List.length_cons, List.length_nil]; omega) (by omega)
    simp only [List.append_assoc, List.singleton_append] at ih
    rw [show (((p ++ [v]).length : Nat) : Int) = (p.length : Int) + 1 by simp only [List.length_append, List.length_cons, List.length_nil]; omega] at ih
    simp only [vcodec_silent.l0]
    rw [if_pos (by omega), if_pos (by omega), if_pos (by omega), LQ.rd_mid, w64 (by omega) (by omega)]
    unfold zerB
    rw [List.all_cons]
    by_cases c : v = 0
    · rw [if_pos c, decide_eq_true c, Bool.true_and]; exact ih
    · rw [if_neg c, decide_eq_false c, Bool.false_and]
theorem silent_eq (r : List Int) (h : r.length ≤ 1000) (k : Nat) (hk : r.length < k) : vcodec_silent.f k r = some (zerB r) := by
  unfold vcodec_silent.f
  exact silent_loop r [] k (by simpa using h) hk
theorem noughts_loop : ∀ (s p : List Int) (k : Nat), p.length + s.length ≤ 1000 → s.length < k → psalteryref22_noughts.l0 k (p ++ s) (p.length : Int) = some (zerB s)
  | [], p, k, h, hk => by
    obtain ⟨k, rfl⟩ : ∃ j, k = j + 1 := ⟨k - 1, by omega⟩
    simp only [psalteryref22_noughts.l0, List.append_nil]
    rw [if_neg (by omega)]; rfl
  | v :: s, p, k, h, hk => by
    obtain ⟨k, rfl⟩ : ∃ j, k = j + 1 := ⟨k - 1, by omega⟩
    simp only [List.length_cons] at h hk
    have hlen : ((p ++ v :: s).length : Int) = p.length + s.length + 1 := by simp only [List.length_append, List.length_cons]; omega
    have ih := noughts_loop s (p ++ [v]) k (by simp only [List.length_append, List.length_cons, List.length_nil]; omega) (by omega)
    simp only [List.append_assoc, List.singleton_append] at ih
    rw [show (((p ++ [v]).length : Nat) : Int) = (p.length : Int) + 1 by simp only [List.length_append, List.length_cons, List.length_nil]; omega] at ih
    simp only [psalteryref22_noughts.l0]
    rw [if_pos (by omega), if_pos (by omega), LQ.rd_mid, w64 (by omega) (by omega)]
    unfold zerB
    rw [List.all_cons]
    by_cases c : v = 0
    · rw [if_pos c, decide_eq_true c, Bool.true_and]; exact ih
    · rw [if_neg c, decide_eq_false c, Bool.false_and]
theorem noughts_eq (r : List Int) (h : r.length ≤ 1000) (k : Nat) (hk : r.length < k) : psalteryref22_noughts.f k r = some (zerB r) := by
  unfold psalteryref22_noughts.f
  exact noughts_loop r [] k (by simpa using h) hk
end Go.Proofs.Ytdajlfijkbafiaa.LW
namespace Go.Proofs.Ytdajlfijkbafiaa.P
open Go.RowKit Go.Proofs.YtdajlfijkbafiaaW.PrintWords Go.Proofs.YtdajlfijkbafiaaW.PrintLast Go.Proofs.YtdajlfijkbafiaaW.PrintMore
attribute [local go_sem] max2_int min2_int max_two min_two max_three min_three max_four min_four
def psalteryref15_Part.j0 : Nat → Int → Int → Bool → Option (Int × Int)
  | 0, _, _, _ => none
  | k + 1, x0, x1, a0 => if a0 = true then (some (x0, wrap64 (x0 - x1))) else (if x0 > 0 then (some (wrap64 (x0 + x1), x0)) else (if x1 > 0 then (some (x0, wrap64 (x0 + x1))) else (some (wrap64 (x0 - x1), x0))))
def psalteryref15_Part.f (k : Nat) (a0 : Int) (a1 : Int) : Option (Int × Int) := if a0 > 0 then (psalteryref15_Part.j0 k a0 a1 (decide (a1 > 0))) else (psalteryref15_Part.j0 k a0 a1 false)
theorem psalteryref15_Part.mono_l : ∀ k, (∀ y0 y1 y2, LeO (psalteryref15_Part.j0 k y0 y1 y2) (psalteryref15_Part.j0 (k + 1) y0 y1 y2))
  | 0 => fun _ _ _ r h => by simp [psalteryref15_Part.j0] at h
  | k + 1 => by
    have a0 := psalteryref15_Part.mono_l k
    · intro y0 y1 y2
      unfold psalteryref15_Part.j0
      with_reducible repeat' first
   | apply a0
   | exact LeO.refl _
   | exact LeO.none _
   | refine LeO.ite ?_ ?_
   | refine LeO.bind ?_ (fun _ => ?_)
theorem psalteryref15_Part.mono : ∀ a0 a1 k, LeO (psalteryref15_Part.f k a0 a1) (psalteryref15_Part.f (k + 1) a0 a1) := by
  intro a0 a1 k
  have b0 := psalteryref15_Part.mono_l k
  unfold psalteryref15_Part.f
  with_reducible repeat' first
   | apply b0
   | exact LeO.refl _
   | exact LeO.none _
   | refine LeO.ite ?_ ?_
   | refine LeO.bind ?_ (fun _ => ?_)
end Go.Proofs.Ytdajlfijkbafiaa.P
namespace Go.Proofs.Ytdajlfijkbafiaa.LC
open Go.RowKit Go.Proofs.YtdajlfijkbafiaaW.PrintWords Go.Proofs.YtdajlfijkbafiaaW.PrintLast Go.Proofs.YtdajlfijkbafiaaW.PrintMore Go.Proofs.Ytdajlfijkbafiaa.P Go.Proofs.Ytdajlfijkbafiaa.LB
abbrev fair (m x y : Int) : Prop := -m ≤ x ∧ x ≤ m ∧ -m ≤ y ∧ y ≤ m
def ab (x : Int) : Int := if x < 0 then -x else x
def cp (x y : Int) : Int × Int := if ab x > ab y then (x, if x > 0 then x - y else y - x) else (y, if y > 0 then x - y else y - x)
def allf (m : Int) : List Int → List Int → Bool
  | x :: l, y :: r => decide (fair m x y) && allf m l r
  | _, _ => true
def prs (f : Int → Int → Int × Int) : List Int → List Int → List Int × List Int
  | x :: l, y :: r => ((f x y).1 :: (prs f l r).1, (f x y).2 :: (prs f l r).2)
  | _, _ => ([], [])
theorem rd_mid (l r : List Int) (x : Int) : rd (l ++ x :: r) (l.length : Int) = x := by simp [rd]
theorem rd_mid' (l l' r : List Int) (x : Int) (h : l.length = l'.length) : rd (l ++ x :: r) (l'.length : Int) = x := by rw [← h]; exact rd_mid l r x
theorem clamp_eq {v m : Int} (hm : 0 ≤ m) : num_Clamp.f v (-m) m = some (if -m ≤ v ∧ v ≤ m then v else if v < -m then -m else m) := by
  unfold num_Clamp.f; repeat' split
  all_goals (simp only [Option.some.injEq] <;> omega)
theorem within_eq {m x y : Int} (hm : 0 ≤ m) (hm' : m ≤ 4398046511104) (k : Nat) (hk : 2 < k) : couple_within.f k m [x, y] = some (decide (fair m x y)) := by
  obtain ⟨k, rfl⟩ : ∃ j, k = j + 3 := ⟨k - 3, by omega⟩
  have e1 : wrap64 (-m) = -m := w64 (by omega) (by omega)
  have e2 : wrap64 ((0 : Int) + 1) = 1 := (w64 (by omega) (by omega)).trans rfl
  have e3 : wrap64 ((1 : Int) + 1) = 2 := (w64 (by omega) (by omega)).trans rfl
  have r0 : rd [x, y] 0 = x := rfl
  have r1 : rd [x, y] 1 = y := rfl
  unfold couple_within.f
  simp only [couple_within.l0, e1, e2, e3, r0, r1, clamp_eq hm, Option.bind_some, List.length_cons, List.length_nil]
  by_cases h : fair m x y
  · have h' := h
    unfold fair at h'
    simp [h, h', show (-m ≤ x ∧ x ≤ m) from ⟨h'.1, h'.2.1⟩]
  · rw [decide_eq_false h]
    unfold fair at h
    by_cases h1 : -m ≤ x ∧ x ≤ m
    · have h2 : ¬ (-m ≤ y ∧ y ≤ m) := fun h2 => h ⟨h1.1, h1.2, h2.1, h2.2⟩
      have h3 : ¬ (y = if y < -m then -m else m) := by split <;> omega
      simp [h1, h2, h3]
    · have h3 : ¬ (x = if x < -m then -m else m) := by split <;> omega
      simp [h1, h3]
theorem cp_eq {x y : Int} (h : fair 1099511627776 x y) : couple_couple.f x y = some (cp x y) := by
  unfold fair at h
  unfold couple_couple.f mx cp ab
  rw [w64 (x := -x) (by omega) (by omega), w64 (x := -y) (by omega) (by omega), w64 (x := x - y) (by omega) (by omega), w64 (x := y - x) (by omega) (by omega)]
  repeat' split
  all_goals (simp only [Option.some.injEq, Prod.mk.injEq, true_and, and_true] <;> omega)
theorem refCp_eq {x y : Int} (h : fair 1099511627776 x y) : psalteryref15_Couple.f x y = some (cp x y) := by
  unfold fair at h
  unfold psalteryref15_Couple.f psalteryref15_size.f cp ab
  rw [w64 (x := -x) (by omega) (by omega), w64 (x := -y) (by omega) (by omega), w64 (x := x - y) (by omega) (by omega), w64 (x := y - x) (by omega) (by omega)]
  have e : ∀ v : Int, (if v < 0 then some (-v) else some v) = some (if v < 0 then -v else v) := fun v => by split <;> rfl
  rw [e, e]; simp only [Option.bind_some]
  repeat' split
  all_goals (simp only [Option.some.injEq, Prod.mk.injEq, true_and, and_true] <;> omega)
theorem prs_len (f : Int → Int → Int × Int) : ∀ l r : List Int, l.length = r.length → (prs f l r).1.length = l.length ∧ (prs f l r).2.length = l.length
  | [], [], _ => by simp [prs]
  | x :: l, y :: r, h => by have := prs_len f l r (by simpa using h); simp [prs, this]
theorem one_cp (x y : Int) (k : Nat) (hk : 2 < k) : couple_way_one_by_couple_couple.f k 1099511627776 x y = some (if fair 1099511627776 x y then ((cp x y).1, (cp x y).2, 0) else (0, 0, 1)) := by
  unfold couple_way_one_by_couple_couple.f
  rw [within_eq (by omega) (by omega) k hk]
  simp only [Option.bind_some]
  by_cases h : fair 1099511627776 x y
  · rw [decide_eq_true h, if_pos rfl, if_pos h, cp_eq h]; rfl
  · rw [decide_eq_false h, if_neg (by decide), if_neg h]
theorem all_cp : ∀ (l r pl pr xs ys : List Int) (k : Nat), pl.length = pr.length → l.length = r.length → pl.length + l.length ≤ 1000 → xs.length ≤ pl.length → ys.length ≤ pl.length → l.length + 3 < k →
    couple_way_all_by_couple_couple.l0 k (pl ++ l) (pr ++ r) xs ys ((pl ++ l).length : Int) (pl.length : Int) 1099511627776 = some (if allf 1099511627776 l r = true then (xs ++ (prs cp l r).1, ys ++ (prs cp l r).2, 0) else ([], [], 1))
  | [], [], pl, pr, xs, ys, k, hp, _, hn, hx, hy, hk => by
    obtain ⟨k, rfl⟩ : ∃ j, k = j + 1 := ⟨k - 1, by omega⟩
    simp only [couple_way_all_by_couple_couple.l0, List.append_nil]
    rw [if_neg (by omega)]; simp [allf, prs]
  | x :: l, y :: r, pl, pr, xs, ys, k, hp, hl, hn, hx, hy, hk => by
    obtain ⟨k, rfl⟩ : ∃ j, k = j + 1 := ⟨k - 1, by omega⟩
    simp only [List.length_cons] at hl hn hk
    simp only [couple_way_all_by_couple_couple.l0]
    rw [if_pos (by simp only [List.length_append, List.length_cons]; omega), if_pos (by omega), if_pos (by simp only [List.length_append, List.length_cons]; omega), if_pos (by simp only [List.length_append, List.length_cons]; omega),
      rd_mid, rd_mid' pr pl r y hp.symm, one_cp x y k (by omega)]
    simp only [Option.bind_some, prs]
    by_cases h : fair 1099511627776 x y
    · rw [if_pos h]
      dsimp only
      rw [if_pos rfl, if_pos (by omega), if_pos (by omega), w64 (by omega) (by omega), show allf 1099511627776 (x :: l) (y :: r) = allf 1099511627776 l r by simp only [allf, decide_eq_true h, Bool.true_and]]
      have ih := all_cp l r (pl ++ [x]) (pr ++ [y]) (xs ++ [(cp x y).1]) (ys ++ [(cp x y).2]) k (by simp [hp]) (by omega) (by simp only [List.length_append, List.length_cons, List.length_nil]; omega)
        (by simp only [List.length_append, List.length_cons, List.length_nil]; omega) (by simp only [List.length_append, List.length_cons, List.length_nil]; omega) (by omega)
      simp only [List.append_assoc, List.singleton_append, List.length_append, List.length_cons, List.length_nil] at ih ⊢
      rw [show (((pl.length + (0 + 1) : Nat) : Int)) = (pl.length : Int) + 1 by omega] at ih
      exact ih
    · rw [if_neg h]
      dsimp only
      rw [if_neg (by decide), show allf 1099511627776 (x :: l) (y :: r) = false by simp only [allf, decide_eq_false h, Bool.false_and], if_neg (by decide)]
theorem couple_CoupleAll_eq (l r : List Int) (k : Nat) (hn : l.length ≤ 1000) (hk : l.length + 3 < k) : couple_CoupleAll.f k l r = some (if l.length = r.length then (if allf 1099511627776 l r = true then ((prs cp l r).1, (prs cp l r).2, 0) else ([], [], 1)) else ([], [], 1)) := by
  unfold couple_CoupleAll.f couple_coupling.f
  simp only [Option.bind_some]
  unfold couple_way_all_by_couple_couple.f
  by_cases h : l.length = r.length
  · rw [if_pos (by omega), if_pos h]
    have := all_cp l r [] [] [] [] k rfl h (by simpa using hn) (Nat.le_refl _) (Nat.le_refl _) hk
    simp only [List.nil_append, List.length_nil] at this
    rw [show ((0 : Nat) : Int) = 0 from rfl] at this
    rw [this]; rfl
  · rw [if_neg (by omega), if_neg h]; rfl
end Go.Proofs.Ytdajlfijkbafiaa.LC
namespace Go.Proofs.Ytdajlfijkbafiaa.HT
def S (f : Nat → Int) : Nat → Int
  | 0 => 0
  | n + 1 => S f n + f n
theorem S_congr {f g : Nat → Int} (n : Nat) (h : ∀ t, t < n → f t = g t) : S f n = S g n := by
  induction n with
  | zero => rfl
  | succ n ih => rw [S, S, ih fun t ht => h t (by omega), h n (by omega)]
theorem S_zero (n : Nat) : S (fun _ => 0) n = 0 := by
  induction n with
  | zero => rfl
  | succ n ih => rw [S, ih]; rfl
section
variable (b : Nat → Int) (n : Nat)
def wt (t : Nat) : Int := if 0 < b t then 2 ^ (16 - (b t).toNat) else 0
def W (k : Nat) (s : Nat) : Int := S (fun t => if 0 < b t ∧ (b t < k ∨ (b t = k ∧ t < s)) then wt b t else 0) n
theorem wt_nonneg (t : Nat) : 0 ≤ wt b t := by
  unfold wt; split
  · exact Int.le_of_lt (Int.pow_pos (by omega))
  · exact Int.le_refl _
theorem wt_used {s : Nat} (h : 0 < b s) : wt b s = 2 ^ (16 - (b s).toNat) := by unfold wt; rw [if_pos h]
end
def hi (f : Nat → Int) (at_ : Nat) : Nat → Int
  | 0 => 0
  | m + 1 => 2 * hi f at_ m + f (at_ + m)
end Go.Proofs.Ytdajlfijkbafiaa.HT
namespace Go.Proofs.Ytdajlfijkbafiaa.LH
open Go.RowKit Go.Proofs.YtdajlfijkbafiaaW.PrintWords Go.Proofs.YtdajlfijkbafiaaW.PrintLast Go.Proofs.YtdajlfijkbafiaaW.PrintMore Go.Proofs.Ytdajlfijkbafiaa.P Go.Proofs.Ytdajlfijkbafiaa.LB Go.Proofs.Ytdajlfijkbafiaa.HT
def bk (l : List Int) (i : Nat) : Int := rd l (i : Int)
theorem bk_rd (l : List Int) (i : Nat) : rd l (i : Int) = bk l i := rfl
def inl (l : List Int) : Bool := l.all fun x => decide (0 ≤ x ∧ x ≤ 16)
theorem inl_at {l : List Int} (h : inl l = true) (i : Nat) : 0 ≤ bk l i ∧ bk l i ≤ 16 := by
  by_cases hi : i < l.length
  · have : bk l i ∈ l := by simp [bk, rd, List.getD_eq_getElem?_getD, hi]
    simpa using List.all_eq_true.1 h _ this
  · have : bk l i = 0 := by simp [bk, rd, List.getD_eq_getElem?_getD, Nat.le_of_not_lt hi]
    omega
theorem inl_drop {l : List Int} {i : Nat} (hi : i < l.length) : inl (l.drop i) = (decide (0 ≤ bk l i ∧ bk l i ≤ 16) && inl (l.drop (i + 1))) := by
  rw [List.drop_eq_getElem_cons hi]
  have : bk l i = l[i] := by simp [bk, rd, List.getD_eq_getElem?_getD, hi]
  rw [this]; rfl
def one (l : List Int) (i : Nat) : Int := if 0 < bk l i then 1 else 0
def used (l : List Int) : Int := S (one l) l.length
def whole (l : List Int) : Int := S (wt (bk l)) l.length
theorem used_to (l : List Int) (i : Nat) : 0 ≤ S (one l) i ∧ S (one l) i ≤ i := by
  induction i with
  | zero => simp [S]
  | succ i ih =>
    have h : one l i = 0 ∨ one l i = 1 := by unfold one; split <;> simp
    rw [S]; omega
theorem whole_to (l : List Int) (i : Nat) : 0 ≤ S (wt (bk l)) i ∧ S (wt (bk l)) i ≤ 32768 * (i : Int) := by
  induction i with
  | zero => simp [S]
  | succ i ih =>
    rw [S]
    have h1 := wt_nonneg (bk l) i
    have h2 : wt (bk l) i ≤ 32768 := by
      unfold wt; split
      · have : (2 : Nat) ^ (16 - (bk l i).toNat) ≤ 2 ^ 15 := Nat.pow_le_pow_right (by omega) (by omega)
        have := Int.ofNat_le.2 this; simpa using this
      · omega
    omega
theorem used_loop (l : List Int) (hl : l.length ≤ maxLen) (d : Nat) : ∀ (i k : Nat), i + d = l.length → d < k → huff_used.l0 k (S (one l) i) l (l.length : Int) (i : Int) = some (used l) := by
  have hM : (maxLen : Int) = 9223372036854775807 := rfl
  induction d with
  | zero =>
    intro i k hi hk
    obtain ⟨k, rfl⟩ : ∃ j, k = j + 1 := ⟨k - 1, by omega⟩
    simp only [huff_used.l0]
    rw [if_neg (by omega), show i = l.length by omega]; rfl
  | succ d ih =>
    intro i k hi hk
    obtain ⟨k, rfl⟩ : ∃ j, k = j + 1 := ⟨k - 1, by omega⟩
    have hu := used_to l i
    have nx := ih (i + 1) k (by omega) (by omega)
    simp only [huff_used.l0]
    rw [if_pos (by omega), if_pos (by omega), if_pos (by omega), bk_rd, w64 (x := (i : Int) + 1) (by omega) (by omega), show (i : Int) + 1 = ((i + 1 : Nat) : Int) by omega]
    rw [S] at nx
    by_cases c : bk l i > 0
    · rw [if_pos c, w64 (by omega) (by omega)]
      rw [show one l i = 1 from if_pos c] at nx; exact nx
    · rw [if_neg c]
      rw [show one l i = 0 from if_neg c, Int.add_zero] at nx; exact nx
theorem used_eq (l : List Int) (hl : l.length ≤ maxLen) (k : Nat) (hk : l.length < k) : huff_used.f k l = some (used l) := used_loop l hl l.length 0 k (by omega) hk
def full (l : List Int) : Bool := if used l = 1 then whole l == 32768 else whole l == 65536
def rightH (l : List Int) : Bool := decide (2 ≤ l.length ∧ l.length ≤ 64) && (inl l && full l)
theorem pow_shl {v : Int} (h : 0 < v) (h' : v ≤ 16) : shl .i64 1 (16 - v) = 2 ^ (16 - v.toNat) := by
  have e : v = 1 ∨ v = 2 ∨ v = 3 ∨ v = 4 ∨ v = 5 ∨ v = 6 ∨ v = 7 ∨ v = 8 ∨ v = 9 ∨ v = 10 ∨ v = 11 ∨ v = 12 ∨ v = 13 ∨ v = 14 ∨ v = 15 ∨ v = 16 := by omega
  rcases e with rfl | rfl | rfl | rfl | rfl | rfl | rfl | rfl | rfl | rfl | rfl | rfl | rfl | rfl | rfl | rfl <;> decide
theorem right_loop (l : List Int) (hl : l.length ≤ 64) (d : Nat) : ∀ (i k : Nat), i + d = l.length → 3 * d + l.length + 5 < k → huff_Right.l0 k l (S (wt (bk l)) i) l (l.length : Int) (i : Int) = some (inl (l.drop i) && full l) := by
  induction d with
  | zero =>
    intro i k hi hk
    obtain ⟨k, rfl⟩ : ∃ j, k = j + 1 := ⟨k - 1, by omega⟩
    simp only [huff_Right.l0]
    rw [if_neg (by omega), used_eq l (by unfold maxLen; omega) k (by omega)]
    obtain rfl : i = l.length := by omega
    simp only [Option.bind_some, List.drop_length]
    unfold full
    show _ = some (true && _)
    rw [Bool.true_and]
    by_cases c : used l = 1
    · rw [if_pos c, if_pos c]; rfl
    · rw [if_neg c, if_neg c]; rfl
  | succ d ih =>
    intro i k hi hk
    obtain ⟨k, rfl⟩ : ∃ j, k = j + 2 := ⟨k - 2, by omega⟩
    have hw := whole_to l i
    have nx := ih (i + 1) k (by omega) (by omega)
    have bad : huff_Right.j2 (k + 1) l (S (wt (bk l)) i) (bk l i) l (l.length : Int) (i : Int) true = some false := by simp only [huff_Right.j2, if_true]
    simp only [huff_Right.l0]
    rw [if_pos (by omega), if_pos (by omega), if_pos (by omega), bk_rd, inl_drop (by omega)]
    by_cases c0 : bk l i < 0
    · rw [if_pos c0, decide_eq_false (by omega)]; exact bad
    rw [if_neg c0]
    by_cases c1 : bk l i > 16
    · rw [decide_eq_true c1, decide_eq_false (by omega)]; exact bad
    rw [decide_eq_false c1, decide_eq_true (by omega), Bool.true_and]
    simp only [huff_Right.j2, Bool.false_eq_true, if_false]
    rw [w64 (x := (i : Int) + 1) (by omega) (by omega), show (i : Int) + 1 = ((i + 1 : Nat) : Int) by omega]
    rw [S] at nx
    by_cases c : bk l i > 0
    · have hw2 := whole_to l (i + 1)
      rw [S, wt_used _ c] at hw2
      rw [if_pos c, w64 (x := 16 - bk l i) (by omega) (by omega), if_pos (by omega), pow_shl c (by omega), w64 (by omega) (by omega)]
      rw [wt_used _ c] at nx; exact nx
    · rw [if_neg c]
      rw [show wt (bk l) i = 0 from if_neg c, Int.add_zero] at nx; exact nx
theorem right_eq (l : List Int) (k : Nat) (hk : 300 < k) : huff_Right.f k l = some (rightH l) := by
  obtain ⟨k, rfl⟩ : ∃ j, k = j + 1 := ⟨k - 1, by omega⟩
  unfold huff_Right.f rightH
  simp only [huff_Right.j0]
  by_cases c : (l.length : Int) < 2
  · rw [if_pos c, decide_eq_false (by omega)]; rfl
  rw [if_neg c]
  by_cases c1 : (l.length : Int) > 64
  · rw [decide_eq_true c1, decide_eq_false (by omega)]; rfl
  rw [decide_eq_false c1, decide_eq_true (by omega), if_neg (by simp), Bool.true_and]
  exact right_loop l (by omega) l.length 0 k (by omega) (by omega)
theorem half_loop (l : List Int) (a u : Int) (i v : Nat) (hi : i < l.length) (hv : bk l i = v) (h16 : v ≤ 16) (d : Nat) : ∀ (j k : Nat), j + d = v → psalteryref04_Right.l1 (k + d + 1) l a u (i : Int) (2 ^ (16 - j)) (j : Int) = psalteryref04_Right.l0 k l (wrap64 (a + 2 ^ (16 - v))) u (wrap64 ((i : Int) + 1)) := by
  induction d with
  | zero =>
    intro j k hj
    simp only [psalteryref04_Right.l1]
    rw [if_pos (by omega), if_pos (by omega), bk_rd, if_neg (by omega), show j = v by omega]
  | succ d ih =>
    intro j k hj
    have nx := ih (j + 1) k (by omega)
    have e : (2 : Int) ^ (16 - j) = 2 ^ (16 - (j + 1)) * 2 := by rw [show 16 - j = 16 - (j + 1) + 1 by omega, Int.pow_succ]
    have hb : (2 : Int) ^ (16 - (j + 1)) ≤ 65536 := by
      have : (2 : Nat) ^ (16 - (j + 1)) ≤ 2 ^ 16 := Nat.pow_le_pow_right (by omega) (by omega)
      have := Int.ofNat_le.2 this; simpa using this
    have hp : (0 : Int) < 2 ^ (16 - (j + 1)) := Int.pow_pos (by omega)
    rw [show k + (d + 1) + 1 = (k + d + 1) + 1 by omega]
    conv => lhs; unfold psalteryref04_Right.l1
    rw [if_pos (by omega), if_pos (by omega), bk_rd, if_pos (by omega), tdiv_nn 2 (by omega), e, Int.mul_ediv_cancel _ (by omega), w64 (by omega) (by omega), w64 (by omega) (by omega), show (j : Int) + 1 = ((j + 1 : Nat) : Int) by omega]
    exact nx
theorem refRight_loop (l : List Int) (hl : l.length ≤ 64) (h2 : 2 ≤ l.length) (d : Nat) : ∀ (i k : Nat), i + d = l.length → 20 * d < k → psalteryref04_Right.l0 k l (S (wt (bk l)) i) (S (one l) i) (i : Int) = some (inl (l.drop i) && full l) := by
  induction d with
  | zero =>
    intro i k hi hk
    obtain ⟨k, rfl⟩ : ∃ j, k = j + 1 := ⟨k - 1, by omega⟩
    simp only [psalteryref04_Right.l0]
    obtain rfl : i = l.length := by omega
    rw [if_neg (by omega)]
    simp only [List.drop_length]
    unfold full
    show _ = some (true && _)
    rw [Bool.true_and]
    show (if used l = 1 then some (whole l == 32768) else if used l > 1 then some (whole l == 65536) else some false) = _
    by_cases c : used l = 1
    · rw [if_pos c, if_pos c]
    · rw [if_neg c, if_neg c]
      by_cases c1 : used l > 1
      · rw [if_pos c1]
      · rw [if_neg c1]
        have h0 : used l = 0 := by have := used_to l l.length; unfold used at c c1 ⊢; omega
        have hz : ∀ n, S (one l) n = 0 → S (wt (bk l)) n = 0 := by
          intro n
          induction n with
          | zero => intro _; rfl
          | succ n ihn =>
            intro h
            rw [S] at h ⊢
            have h1 := (used_to l n).1
            have h2 : one l n = 0 ∨ one l n = 1 := by unfold one; split <;> simp
            have h3 : one l n = 0 := by omega
            have h4 : ¬ 0 < bk l n := by intro h5; unfold one at h3; rw [if_pos h5] at h3; omega
            rw [ihn (by omega), show wt (bk l) n = 0 from if_neg h4]; rfl
        have : whole l = 0 := hz _ h0
        rw [this]; rfl
  | succ d ih =>
    intro i k hi hk
    have hw := whole_to l i
    have hu := used_to l i
    have bad : ∀ k, psalteryref04_Right.j2 (k + 1) l (S (wt (bk l)) i) (S (one l) i) (i : Int) true = some false := fun k => by simp only [psalteryref04_Right.j2, if_true]
    obtain ⟨k, rfl⟩ : ∃ j, k = j + 2 := ⟨k - 2, by omega⟩
    simp only [psalteryref04_Right.l0]
    rw [if_pos (by omega), if_pos (by omega), bk_rd, inl_drop (by omega)]
    by_cases c0 : bk l i < 0
    · rw [if_pos c0, decide_eq_false (by omega)]; exact bad k
    rw [if_neg c0]
    by_cases c1 : bk l i > 16
    · rw [decide_eq_true c1, decide_eq_false (by omega)]; exact bad k
    rw [decide_eq_false c1, decide_eq_true (by omega), Bool.true_and]
    simp only [psalteryref04_Right.j2, Bool.false_eq_true, if_false]
    rw [if_pos (by omega), if_pos (by omega), bk_rd]
    by_cases c : bk l i > 0
    · have nx := ih (i + 1) (k - (bk l i).toNat - 1) (by omega) (by omega)
      have hh := half_loop l (S (wt (bk l)) i) (wrap64 (S (one l) i + 1)) i (bk l i).toNat (by omega) (by omega) (by omega) (bk l i).toNat 0 (k - (bk l i).toNat - 1) (by omega)
      rw [show k - (bk l i).toNat - 1 + (bk l i).toNat + 1 = k by omega] at hh
      have hw2 := whole_to l (i + 1)
      rw [S, wt_used _ c] at hw2
      rw [if_pos c]
      refine hh.trans ?_
      rw [w64 (x := S (one l) i + 1) (by omega) (by omega), w64 (x := (i : Int) + 1) (by omega) (by omega), w64 (by omega) (by omega), show (i : Int) + 1 = ((i + 1 : Nat) : Int) by omega]
      rw [S, S, wt_used _ c, show one l i = 1 from if_pos c] at nx
      exact nx
    · have nx := ih (i + 1) k (by omega) (by omega)
      rw [if_neg c, w64 (x := (i : Int) + 1) (by omega) (by omega), show (i : Int) + 1 = ((i + 1 : Nat) : Int) by omega]
      rw [S, S, show wt (bk l) i = 0 from if_neg c, show one l i = 0 from if_neg c, Int.add_zero, Int.add_zero] at nx
      exact nx
theorem refRight_eq (l : List Int) (k : Nat) (hk : 1400 < k) : psalteryref04_Right.f k l = some (rightH l) := by
  obtain ⟨k, rfl⟩ : ∃ j, k = j + 1 := ⟨k - 1, by omega⟩
  unfold psalteryref04_Right.f rightH
  simp only [psalteryref04_Right.j0]
  by_cases c : (l.length : Int) < 2
  · rw [if_pos c, decide_eq_false (by omega)]; rfl
  rw [if_neg c]
  by_cases c1 : (l.length : Int) > 64
  · rw [decide_eq_true c1, decide_eq_false (by omega)]; rfl
  rw [decide_eq_false c1, decide_eq_true (by omega), if_neg (by simp), Bool.true_and]
  exact refRight_loop l (by omega) (by omega) l.length 0 k (by omega) (by omega)
end Go.Proofs.Ytdajlfijkbafiaa.LH
namespace Go.Proofs.Ytdajlfijkbafiaa.LV
open Go.RowKit Go.Proofs.YtdajlfijkbafiaaW.PrintWords Go.Proofs.YtdajlfijkbafiaaW.PrintLast Go.Proofs.YtdajlfijkbafiaaW.PrintMore Go.Proofs.Ytdajlfijkbafiaa.P Go.Proofs.Ytdajlfijkbafiaa.LB Go.Proofs.Ytdajlfijkbafiaa.HT Go.Proofs.Ytdajlfijkbafiaa.LH
def rightHd (c q : Int) (fl rs : List Int) : Bool := decide (1 ≤ c ∧ c ≤ 2 ∧ 0 ≤ q ∧ q ≤ 12 ∧ fl.length = 45 ∧ rs.length = 16) && (rightH fl && (rightH rs && decide (0 < rd rs 15)))
theorem right_inl {l : List Int} (h : rightH l = true) : inl l = true := by
  simp only [rightH, Bool.and_eq_true, decide_eq_true_eq] at h
  exact h.2.1
theorem book_eq (l : List Int) (n : Nat) (m : Int) (hm : m = (n : Int)) (k : Nat) (hk : 300 < k) : vhead_book.f k l m = some (decide (l.length = n) && rightH l) := by
  subst hm
  unfold vhead_book.f
  by_cases c : (l.length : Int) = (n : Int)
  · rw [if_pos c, right_eq l k hk, decide_eq_true (by omega)]; rfl
  · rw [if_neg c, decide_eq_false (by omega)]; rfl
theorem head_right (c q : Int) (fl rs : List Int) (k : Nat) (hk : 300 < k) : vhead_Right.f k c q fl rs = some (rightHd c q fl rs) := by
  unfold vhead_Right.f rightHd
  rw [book_eq fl 45 45 rfl k hk, book_eq rs 16 16 rfl k hk]
  by_cases c1 : c ≥ 1
  · rw [if_pos c1]
    by_cases c2 : c ≤ 2
    · rw [if_pos c2]
      by_cases c3 : q ≥ 0
      · rw [if_pos c3]
        by_cases c4 : q ≤ 12
        · rw [if_pos c4]
          rw [Option.bind_some, Option.bind_some]
          by_cases c5 : fl.length = 45
          · by_cases c6 : rs.length = 16
            · rw [decide_eq_true c5, decide_eq_true c6, decide_eq_true (p := _ ∧ _) ⟨c1, c2, c3, c4, c5, c6⟩, if_pos (show (15 : Int) < (rs.length : Int) by omega)]
              cases rightH fl <;> cases rightH rs <;> simp
            · rw [decide_eq_true c5, decide_eq_false c6, decide_eq_false (p := _ ∧ _) (fun h => c6 h.2.2.2.2.2)]
              cases rightH fl <;> simp
          · rw [decide_eq_false c5, decide_eq_false (p := _ ∧ _) (fun h => c5 h.2.2.2.2.1)]; simp
        · rw [if_neg c4, decide_eq_false (p := _ ∧ _) (fun h => c4 h.2.2.2.1)]; simp
      · rw [if_neg c3, decide_eq_false (p := _ ∧ _) (fun h => c3 h.2.2.1)]; simp
    · rw [if_neg c2, decide_eq_false (p := _ ∧ _) (fun h => c2 h.2.1)]; simp
  · rw [if_neg c1, decide_eq_false (p := _ ∧ _) (fun h => c1 h.1)]; simp
theorem ref_j0 (x : Bool) (c q : Int) (fl rs : List Int) (k : Nat) (hk : 1402 < k) : psalteryref16_Right.j0 k x c q fl rs = some (!x && (decide (fl.length = 45 ∧ rs.length = 16) && (rightH fl && (rightH rs && decide (0 < rd rs 15))))) := by
  obtain ⟨k, rfl⟩ : ∃ j, k = j + 1 + 1 := ⟨k - 2, by omega⟩
  simp only [psalteryref16_Right.j0]
  cases x
  · rw [if_neg (by decide)]
    by_cases c5 : (fl.length : Int) = 45
    · rw [if_pos c5]
      simp only [psalteryref16_Right.j1]
      by_cases c6 : (rs.length : Int) = 16
      · rw [show ((rs.length : Int) != 16) = false from bne_eq_false_iff_eq.mpr c6, if_neg (by decide), decide_eq_true (p := _ ∧ _) ⟨by omega, by omega⟩, refRight_eq fl k (by omega), refRight_eq rs k (by omega), Option.bind_some, Option.bind_some, if_pos (show (15 : Int) < (rs.length : Int) by omega)]
        cases h1 : rightH fl
        · simp
        · cases h2 : rightH rs
          · simp
          · have h3 := inl_at (right_inl h2) 15
            have h4 : rd rs 15 = bk rs 15 := rfl
            by_cases h5 : rd rs 15 = 0
            · rw [h5]; simp
            · rw [show (rd rs 15 != 0) = true from bne_iff_ne.mpr h5, decide_eq_true (show 0 < rd rs 15 by omega)]; simp
      · rw [show ((rs.length : Int) != 16) = true from bne_iff_ne.mpr c6, if_pos rfl, decide_eq_false (p := _ ∧ _) (fun h => c6 (by omega))]; rfl
    · rw [if_neg c5]
      simp only [psalteryref16_Right.j1]
      rw [if_pos trivial, decide_eq_false (p := _ ∧ _) (fun h => c5 (by omega))]; rfl
  · rw [if_pos rfl]; rfl
theorem ref_right (c q : Int) (fl rs : List Int) (k : Nat) (hk : 1402 < k) : psalteryref16_Right.f k c q fl rs = some (rightHd c q fl rs) := by
  unfold psalteryref16_Right.f rightHd
  rw [ref_j0 _ c q fl rs k hk, ref_j0 _ c q fl rs k hk]
  by_cases c1 : c = 1
  · rw [if_pos c1]
    by_cases c3 : q < 0
    · rw [if_pos c3, decide_eq_false (p := 1 ≤ c ∧ c ≤ 2 ∧ 0 ≤ q ∧ q ≤ 12 ∧ fl.length = 45 ∧ rs.length = 16) (fun h => by omega)]; rfl
    · rw [if_neg c3]
      by_cases c4 : q > 12
      · rw [decide_eq_true c4, decide_eq_false (p := 1 ≤ c ∧ c ≤ 2 ∧ 0 ≤ q ∧ q ≤ 12 ∧ fl.length = 45 ∧ rs.length = 16) (fun h => by omega)]; rfl
      · rw [decide_eq_false c4]
        by_cases c5 : fl.length = 45 ∧ rs.length = 16
        · rw [decide_eq_true c5, decide_eq_true (p := 1 ≤ c ∧ c ≤ 2 ∧ 0 ≤ q ∧ q ≤ 12 ∧ fl.length = 45 ∧ rs.length = 16) ⟨by omega, by omega, by omega, by omega, c5.1, c5.2⟩]; rfl
        · rw [decide_eq_false c5, decide_eq_false (p := 1 ≤ c ∧ c ≤ 2 ∧ 0 ≤ q ∧ q ≤ 12 ∧ fl.length = 45 ∧ rs.length = 16) (fun h => c5 h.2.2.2.2)]; rfl
  · rw [if_neg c1]
    by_cases c2 : c = 2
    · rw [if_pos c2]
      by_cases c3 : q < 0
      · rw [if_pos c3, decide_eq_false (p := 1 ≤ c ∧ c ≤ 2 ∧ 0 ≤ q ∧ q ≤ 12 ∧ fl.length = 45 ∧ rs.length = 16) (fun h => by omega)]; rfl
      · rw [if_neg c3]
        by_cases c4 : q > 12
        · rw [decide_eq_true c4, decide_eq_false (p := 1 ≤ c ∧ c ≤ 2 ∧ 0 ≤ q ∧ q ≤ 12 ∧ fl.length = 45 ∧ rs.length = 16) (fun h => by omega)]; rfl
        · rw [decide_eq_false c4]
          by_cases c5 : fl.length = 45 ∧ rs.length = 16
          · rw [decide_eq_true c5, decide_eq_true (p := 1 ≤ c ∧ c ≤ 2 ∧ 0 ≤ q ∧ q ≤ 12 ∧ fl.length = 45 ∧ rs.length = 16) ⟨by omega, by omega, by omega, by omega, c5.1, c5.2⟩]; rfl
          · rw [decide_eq_false c5, decide_eq_false (p := 1 ≤ c ∧ c ≤ 2 ∧ 0 ≤ q ∧ q ≤ 12 ∧ fl.length = 45 ∧ rs.length = 16) (fun h => c5 h.2.2.2.2)]; rfl
    · rw [if_neg c2, decide_eq_false (p := 1 ≤ c ∧ c ≤ 2 ∧ 0 ≤ q ∧ q ≤ 12 ∧ fl.length = 45 ∧ rs.length = 16) (fun h => by omega)]; rfl
theorem right_parts {c q : Int} {fl rs : List Int} (h : rightHd c q fl rs = true) : 1 ≤ c ∧ c ≤ 2 ∧ 0 ≤ q ∧ q ≤ 12 ∧ fl.length = 45 ∧ rs.length = 16 ∧ rightH fl = true ∧ rightH rs = true ∧ 0 < rd rs 15 := by
  simp only [rightHd, Bool.and_eq_true, decide_eq_true_eq] at h
  obtain ⟨⟨a, b, c, d, e, f⟩, g, h, i⟩ := h
  exact ⟨a, b, c, d, e, f, g, h, i⟩
theorem great_eq (c q : Int) (fl rs : List Int) : psalterylaw16_Great.f c q fl rs = some (decide (200 < fl.length ∨ 200 < rs.length)) := by
  unfold psalterylaw16_Great.f
  by_cases c1 : (fl.length : Int) > 200
  · rw [if_pos c1, decide_eq_true (Or.inl (by omega))]
  · rw [if_neg c1]
    by_cases c2 : (rs.length : Int) > 200
    · rw [decide_eq_true c2, decide_eq_true (Or.inr (by omega))]
    · rw [decide_eq_false c2, decide_eq_false (by omega)]
end Go.Proofs.Ytdajlfijkbafiaa.LV
namespace Go.Proofs.Ytdajlfijkbafiaa.LW
open Go.RowKit Go.Proofs.YtdajlfijkbafiaaW.PrintWords Go.Proofs.YtdajlfijkbafiaaW.PrintLast Go.Proofs.YtdajlfijkbafiaaW.PrintMore Go.Proofs.Ytdajlfijkbafiaa.P Go.Proofs.Ytdajlfijkbafiaa.LB Go.Proofs.Ytdajlfijkbafiaa.NT
theorem rdL2_mid (p s : List (List Int)) (x : List Int) : rd_L2 (p ++ x :: s) (p.length : Int) = x := by simp [rd_L2]
def rightF (c q : Int) (fl rs : List Int) (X : List (List Int)) : Bool := LV.rightHd c q fl rs && (decide ((X.length : Int) = c) && X.all fairB)
theorem right_loop : ∀ (s p : List (List Int)) (k : Nat), p.length + s.length ≤ 1000 → (∀ x ∈ s, x.length ≤ 1000) → s.length + 2000 < k → vcodec_Right.l0 k (p ++ s) ((p ++ s).length : Int) (p.length : Int) = some (s.all fairB)
  | [], p, k, h, hx, hk => by
    obtain ⟨k, rfl⟩ : ∃ j, k = j + 1 := ⟨k - 1, by omega⟩
    simp only [vcodec_Right.l0, List.append_nil]
    rw [if_neg (by omega)]; rfl
  | v :: s, p, k, h, hx, hk => by
    have hM : (maxLen : Int) = 9223372036854775807 := rfl
    obtain ⟨k, rfl⟩ : ∃ j, k = j + 1 := ⟨k - 1, by omega⟩
    simp only [List.length_cons] at h hk
    have hlen : ((p ++ v :: s).length : Int) = p.length + s.length + 1 := by simp only [List.length_append, List.length_cons]; omega
    have hv := hx v (List.mem_cons_self ..)
    have ih := right_loop s (p ++ [v]) k (by simp only [List.length_append, List.length_cons, List.length_nil]; omega) (fun x hx' => hx x (List.mem_cons_of_mem _ hx')) (by omega)
    simp only [List.append_assoc, List.singleton_append] at ih
    rw [show (((p ++ [v]).length : Nat) : Int) = (p.length : Int) + 1 by simp only [List.length_append, List.length_cons, List.length_nil]; omega] at ih
    simp only [vcodec_Right.l0]
    rw [if_pos (by omega), if_pos (by omega), if_pos (by omega), rdL2_mid, LQ.split_eq v (by omega) (by omega) k (by omega), Option.bind_some, w64 (by omega) (by omega), List.all_cons]
    unfold fairB at ih ⊢
    by_cases c : LQ.fairL v = true ∧ v.length = 16
    · rw [if_pos c, decide_eq_true c, Bool.true_and, if_pos rfl]; exact ih
    · rw [if_neg c, decide_eq_false c, Bool.false_and]; rfl
theorem right22_eq (c q : Int) (fl rs : List Int) (X : List (List Int)) (hn : X.length ≤ 1000) (hX : ∀ x ∈ X, x.length ≤ 1000) (k : Nat) (hk : 5000 < k) : vcodec_Right.f k c q fl rs X = some (rightF c q fl rs X) := by
  obtain ⟨k, rfl⟩ : ∃ j, k = j + 1 := ⟨k - 1, by omega⟩
  unfold vcodec_Right.f rightF
  rw [LV.head_right c q fl rs (k + 1) (by omega), Option.bind_some]
  cases hh : LV.rightHd c q fl rs
  · rw [if_neg (by decide)]; simp only [vcodec_Right.j0, if_true, Bool.false_and]
  · rw [if_pos rfl, Bool.true_and]
    simp only [vcodec_Right.j0]
    by_cases e : (X.length : Int) = c
    · rw [show ((X.length : Int) != c) = false from bne_eq_false_iff_eq.mpr e, if_neg (by decide), decide_eq_true e, Bool.true_and]
      exact right_loop X [] k (by simpa using hn) hX (by omega)
    · rw [show ((X.length : Int) != c) = true from bne_iff_ne.mpr e, if_pos rfl, decide_eq_false e, Bool.false_and]
theorem refFair10_eq (x : List Int) (hx : x.length ≤ 1000) (k : Nat) (hk : 2000 < k) : psalteryref10_Fair.f k x = some (fairB x) := by
  have hM : (maxLen : Int) = 9223372036854775807 := rfl
  unfold psalteryref10_Fair.f fairB
  by_cases c2 : x.length = 16
  · rw [if_pos (by omega), LQ.refFair_eq x (by omega) k (by omega)]; simp [c2]
  · rw [if_neg (by omega), decide_eq_false (fun h => c2 h.2)]
theorem refRight_loop : ∀ (s p : List (List Int)) (k : Nat), p.length + s.length ≤ 1000 → (∀ x ∈ s, x.length ≤ 1000) → s.length + 2000 < k → psalteryref22_Right.l0 k (p.length : Int) (p ++ s) = some (s.all fairB)
  | [], p, k, h, hx, hk => by
    obtain ⟨k, rfl⟩ : ∃ j, k = j + 1 := ⟨k - 1, by omega⟩
    simp only [psalteryref22_Right.l0, List.append_nil]
    rw [if_neg (by omega)]; rfl
  | v :: s, p, k, h, hx, hk => by
    obtain ⟨k, rfl⟩ : ∃ j, k = j + 1 := ⟨k - 1, by omega⟩
    simp only [List.length_cons] at h hk
    have hlen : ((p ++ v :: s).length : Int) = p.length + s.length + 1 := by simp only [List.length_append, List.length_cons]; omega
    have hv := hx v (List.mem_cons_self ..)
    have ih := refRight_loop s (p ++ [v]) k (by simp only [List.length_append, List.length_cons, List.length_nil]; omega) (fun x hx' => hx x (List.mem_cons_of_mem _ hx')) (by omega)
    simp only [List.append_assoc, List.singleton_append] at ih
    rw [show (((p ++ [v]).length : Nat) : Int) = (p.length : Int) + 1 by simp only [List.length_append, List.length_cons, List.length_nil]; omega] at ih
    simp only [psalteryref22_Right.l0]
    rw [if_pos (by omega), if_pos (by omega), rdL2_mid, refFair10_eq v hv k (by omega), Option.bind_some, w64 (by omega) (by omega), List.all_cons]
    cases c : fairB v
    · rw [Bool.false_and]; rfl
    · rw [Bool.true_and, if_pos rfl]; exact ih
theorem refRight22_eq (c q : Int) (fl rs : List Int) (X : List (List Int)) (hn : X.length ≤ 1000) (hX : ∀ x ∈ X, x.length ≤ 1000) (k : Nat) (hk : 5000 < k) : psalteryref22_Right.f k c q fl rs X = some (rightF c q fl rs X) := by
  obtain ⟨k, rfl⟩ : ∃ j, k = j + 1 := ⟨k - 1, by omega⟩
  unfold psalteryref22_Right.f rightF
  rw [LV.ref_right c q fl rs (k + 1) (by omega), Option.bind_some]
  cases hh : LV.rightHd c q fl rs
  · rw [if_neg (by decide)]; simp only [psalteryref22_Right.j0, if_true, Bool.false_and]
  · rw [if_pos rfl, Bool.true_and]
    simp only [psalteryref22_Right.j0]
    by_cases e : (X.length : Int) = c
    · rw [show ((X.length : Int) != c) = false from bne_eq_false_iff_eq.mpr e, if_neg (by decide), decide_eq_true e, Bool.true_and]
      exact refRight_loop X [] k (by simpa using hn) hX (by omega)
    · rw [show ((X.length : Int) != c) = true from bne_iff_ne.mpr e, if_pos rfl, decide_eq_false e, Bool.false_and]
def encP (fl : List Int) (q : Int) (x : List Int) : List Int := if zerB (resid fl q x) = true then [] else postL fl q x
def encR (fl : List Int) (q : Int) (x : List Int) : List Int := if zerB (resid fl q x) = true then [] else resid fl q x
theorem enc_silent {fl : List Int} {q : Int} {x : List Int} (h : zerB (resid fl q x) = true) : encP fl q x = [] ∧ encR fl q x = [] := by unfold encP encR; rw [if_pos h, if_pos h]; exact ⟨rfl, rfl⟩
theorem enc_loud {fl : List Int} {q : Int} {x : List Int} (h : ¬ zerB (resid fl q x) = true) : encP fl q x = postL fl q x ∧ encR fl q x = resid fl q x := by unfold encP encR; rw [if_neg h, if_neg h]; exact ⟨rfl, rfl⟩
def coupled : List (List Int) → List (List Int)
  | [r0, r1] => if r0.length = 0 ∨ r1.length = 0 then [r0, r1] else [(LC.prs LC.cp r0 r1).1, (LC.prs LC.cp r0 r1).2]
  | R => R
theorem coupled_two {r0 r1 : List Int} (h : ¬ (r0.length = 0 ∨ r1.length = 0)) : coupled [r0, r1] = [(LC.prs LC.cp r0 r1).1, (LC.prs LC.cp r0 r1).2] := by
  show (if _ then _ else _) = _
  rw [if_neg h]
theorem coupled_not {r0 r1 : List Int} (h : r0.length = 0 ∨ r1.length = 0) : coupled [r0, r1] = [r0, r1] := by
  show (if _ then _ else _) = _
  rw [if_pos h]
def encPs (fl : List Int) (q : Int) (X : List (List Int)) : List (List Int) := X.map (encP fl q)
def encRs (fl : List Int) (q : Int) (X : List (List Int)) : List (List Int) := coupled (X.map (encR fl q))
theorem rightF_parts {c q : Int} {fl rs : List Int} {X : List (List Int)} (h : rightF c q fl rs X = true) : LV.rightHd c q fl rs = true ∧ (X.length : Int) = c ∧ ∀ x ∈ X, fairB x = true := by
  simp only [rightF, Bool.and_eq_true, decide_eq_true_eq, List.all_eq_true] at h
  exact ⟨h.1, h.2.1, h.2.2⟩
theorem rightF_cases {c q : Int} {fl rs : List Int} {X : List (List Int)} (h : rightF c q fl rs X = true) : (c = 1 ∧ ∃ x, X = [x] ∧ fairB x = true) ∨ (c = 2 ∧ ∃ x y, X = [x, y] ∧ fairB x = true ∧ fairB y = true) := by
  obtain ⟨h1, h2, h3⟩ := rightF_parts h
  obtain ⟨a1, a2, _⟩ := LV.right_parts h1
  match X, h2, h3 with
  | [], h2, _ => simp only [List.length_nil] at h2; omega
  | [x], h2, h3 => simp only [List.length_cons, List.length_nil] at h2; exact .inl ⟨by omega, x, rfl, h3 x (by simp)⟩
  | [x, y], h2, h3 => simp only [List.length_cons, List.length_nil] at h2; exact .inr ⟨by omega, x, y, rfl, h3 x (by simp), h3 y (by simp)⟩
  | x :: y :: z :: X, h2, _ => simp only [List.length_cons] at h2; omega
theorem allf_of {m b : Int} (hb : b ≤ m) : ∀ l r : List Int, (∀ v ∈ l, -b ≤ v ∧ v ≤ b) → (∀ v ∈ r, -b ≤ v ∧ v ≤ b) → LC.allf m l r = true
  | [], r, _, _ => by cases r <;> rfl
  | x :: l, [], _, _ => rfl
  | x :: l, y :: r, h1, h2 => by
    have a := h1 x (List.mem_cons_self ..)
    have b' := h2 y (List.mem_cons_self ..)
    simp only [LC.allf, Bool.and_eq_true, decide_eq_true_eq]
    exact ⟨⟨by omega, by omega, by omega, by omega⟩, allf_of hb l r (fun v hv => h1 v (List.mem_cons_of_mem _ hv)) (fun v hv => h2 v (List.mem_cons_of_mem _ hv))⟩
theorem encode_step {c q : Int} {fl : List Int} (rs : List Int) (hu : Uses fl) (hq : 0 ≤ q ∧ q ≤ 12) (X : List (List Int)) (hn : X.length ≤ 1000) (i : Nat) (hi : i < X.length) {x : List Int} (hx : rd_L2 X (i : Int) = x) (h : fairB x = true) (P R : List (List Int)) (hP : P.length ≤ 1000) (hR : R.length ≤ 1000) (k : Nat) (hk : 2000 < k) :
    vcodec_Encode.l0 (k + 1) X (X.length : Int) (i : Int) c q fl rs P R = vcodec_Encode.l0 k X (X.length : Int) ((i + 1 : Nat) : Int) c q fl rs (P ++ [encP fl q x]) (R ++ [encR fl q x]) := by
  have hr := resid_length (fl := fl) (q := q) h
  conv => lhs; unfold vcodec_Encode.l0
  rw [if_pos (by omega), if_pos (by omega), if_pos (by omega), hx, posts_eq c q rs hu hq h k (by omega), Option.bind_some, floor_is (postL_okl hu q x) k (by omega), Option.bind_some]
  show (remap_Quantize.f k x (floorC fl q x)).bind _ = _
  rw [quant_eq hu q h k (by omega), Option.bind_some]
  show (vcodec_silent.f k (resid fl q x)).bind _ = _
  rw [silent_eq _ (by omega) k (by omega), Option.bind_some]
  have one : ∀ y : List Int, ([y] : List (List Int)).length = 1 := fun y => rfl
  by_cases c0 : zerB (resid fl q x) = true
  · obtain ⟨e1, e2⟩ := enc_silent c0
    rw [if_pos c0, Option.bind_some, one, if_pos (by omega), Option.bind_some, one, if_pos (by omega), e1, e2, w64 (by omega) (by omega)]; rfl
  · obtain ⟨e1, e2⟩ := enc_loud c0
    rw [if_neg c0, Option.bind_some, one, if_pos (by omega), Option.bind_some, one, if_pos (by omega), e1, e2, w64 (by omega) (by omega)]; rfl
theorem zerB_enc {fl : List Int} {q : Int} {x : List Int} (h : fairB x = true) : (zerB (resid fl q x) = true ∧ encP fl q x = [] ∧ encR fl q x = []) ∨ (zerB (resid fl q x) = false ∧ encP fl q x = postL fl q x ∧ encR fl q x = resid fl q x ∧ (encP fl q x).length = 6 ∧ (encR fl q x).length = 16) := by
  cases hz : zerB (resid fl q x)
  · obtain ⟨e1, e2⟩ := enc_loud (fl := fl) (q := q) (x := x) (by rw [hz]; decide)
    exact .inr ⟨rfl, e1, e2, by rw [e1]; rfl, by rw [e2]; exact resid_length h⟩
  · obtain ⟨e1, e2⟩ := enc_silent hz
    exact .inl ⟨rfl, e1, e2⟩
theorem encode_one (q : Int) {fl : List Int} (rs : List Int) (hu : Uses fl) (hq : 0 ≤ q ∧ q ≤ 12) {x : List Int} (h : fairB x = true) (k : Nat) (hk : 3000 < k) :
    vcodec_Encode.l0 k [x] 1 0 1 q fl rs [] [] = some (encPs fl q [x], encRs fl q [x], 0) := by
  obtain ⟨k, rfl⟩ : ∃ j, k = j + 2 := ⟨k - 2, by omega⟩
  have s0 := encode_step (c := 1) rs hu hq [x] (by simp) 0 (by simp) (x := x) rfl h [] [] (by simp) (by simp) (k + 1) (by omega)
  refine Eq.trans s0 ?_
  simp only [vcodec_Encode.l0]
  rw [if_neg (by simp)]
  rfl
theorem encode_two (q : Int) {fl : List Int} (rs : List Int) (hu : Uses fl) (hq : 0 ≤ q ∧ q ≤ 12) {x y : List Int} (hx : fairB x = true) (hy : fairB y = true) (k : Nat) (hk : 3000 < k) :
    vcodec_Encode.l0 k [x, y] 2 0 2 q fl rs [] [] = some (encPs fl q [x, y], encRs fl q [x, y], 0) := by
  obtain ⟨k, rfl⟩ : ∃ j, k = j + 3 := ⟨k - 3, by omega⟩
  have s0 := encode_step (c := 2) rs hu hq [x, y] (by simp) 0 (by simp) (x := x) rfl hx [] [] (by simp) (by simp) (k + 2) (by omega)
  have s1 := encode_step (c := 2) rs hu hq [x, y] (by simp) 1 (by simp) (x := y) rfl hy ([] ++ [encP fl q x]) ([] ++ [encR fl q x]) (by simp) (by simp) (k + 1) (by omega)
  refine Eq.trans s0 (Eq.trans s1 ?_)
  have e : encRs fl q [x, y] = coupled [encR fl q x, encR fl q y] := rfl
  have e' : encPs fl q [x, y] = [encP fl q x, encP fl q y] := rfl
  rw [e, e']
  simp only [vcodec_Encode.l0, List.nil_append, List.cons_append]
  rw [if_neg (by simp)]
  have two : ∀ a b : List Int, (([a, b] : List (List Int)).length : Int) = 2 := fun a b => rfl
  have l0 : ∀ a b : List Int, rd_L1 [a, b] 0 = a := fun a b => rfl
  have l1 : ∀ a b : List Int, rd_L1 [a, b] 1 = b := fun a b => rfl
  have m0 : ∀ a b : List Int, rd_L2 [a, b] 0 = a := fun a b => rfl
  have m1 : ∀ a b : List Int, rd_L2 [a, b] 1 = b := fun a b => rfl
  unfold vcodec_codec_both.f
  rw [if_pos rfl, two, if_pos (by omega), l0, l1]
  rcases zerB_enc (fl := fl) (q := q) hx with ⟨z1, p1, r1⟩ | ⟨z1, p1, r1, n1, n1'⟩
  · rw [p1, r1]
    rfl
  · rcases zerB_enc (fl := fl) (q := q) hy with ⟨z2, p2, r2⟩ | ⟨z2, p2, r2, n2, n2'⟩
    · rw [p2, r2]
      rw [if_pos (show ((encP fl q x).length : Int) > 0 by omega), if_pos (by omega), Option.bind_some]
      rw [decide_eq_false (show ¬ ((([] : List Int).length : Int) > 0) by simp), if_neg (by decide)]
      rw [coupled_not (.inr rfl)]
    · rw [if_pos (show ((encP fl q x).length : Int) > 0 by omega), if_pos (by omega), Option.bind_some, decide_eq_true (show ((encP fl q y).length : Int) > 0 by omega), if_pos rfl, two, if_pos (by omega), if_pos (by omega), m0, m1]
      rw [LC.couple_CoupleAll_eq (encR fl q x) (encR fl q y) k (by omega) (by omega)]
      rw [if_pos (by omega), if_pos (allf_of (b := 1048576) (by omega) _ _ (by rw [r1]; exact resid_in hu q hx) (by rw [r2]; exact resid_in hu q hy)), Option.bind_some]
      rw [coupled_two (by omega)]; rfl
theorem encode_eq {c q : Int} {fl rs : List Int} (X : List (List Int)) (hn : X.length ≤ 1000) (hX : ∀ x ∈ X, x.length ≤ 1000) (hfl : LV.rightHd c q fl rs = true → Uses fl) (k : Nat) (hk : 6000 < k) : vcodec_Encode.f k c q fl rs X = some (if rightF c q fl rs X = true then (encPs fl q X, encRs fl q X, 0) else ([], [], 1)) := by
  unfold vcodec_Encode.f
  rw [right22_eq c q fl rs X hn hX k (by omega), Option.bind_some]
  by_cases h : rightF c q fl rs X = true
  · rw [if_pos h, if_pos h]
    have hh := (rightF_parts h).1
    obtain ⟨a1, a2, a3, a4, _⟩ := LV.right_parts hh
    rcases rightF_cases h with ⟨rfl, x, rfl, hx⟩ | ⟨rfl, x, y, rfl, hx, hy⟩
    · exact encode_one q rs (hfl hh) ⟨a3, a4⟩ hx k (by omega)
    · exact encode_two q rs (hfl hh) ⟨a3, a4⟩ hx hy k (by omega)
  · rw [if_neg h, if_neg h]
theorem knows22 (k : Nat) (hk : 2000 ≤ k) : psalterylaw22_knows.f k = some true := at_rounds (g := fun k => psalterylaw22_knows.f k) (fun k => psalterylaw22_knows.mono k) hk psalterylaw22_knows.sure
theorem great_loop (c q : Int) (fl rs : List Int) : ∀ (s p : List (List Int)) (k : Nat), p.length + s.length ≤ maxLen → s.length < k → ∃ b, psalterylaw22_great.l0 k (p.length : Int) c q fl rs (p ++ s) = some b ∧ (b = false → (∀ x ∈ s, x.length ≤ 100) ∧ (p ++ s).length ≤ 10)
  | [], p, k, h, hk => by
    obtain ⟨k, rfl⟩ : ∃ j, k = j + 1 := ⟨k - 1, by omega⟩
    simp only [psalterylaw22_great.l0, List.append_nil]
    rw [if_neg (by omega), LV.great_eq, Option.bind_some]
    by_cases g : 200 < fl.length ∨ 200 < rs.length
    · rw [decide_eq_true g, if_pos rfl]; exact ⟨true, rfl, (fun h => by cases h)⟩
    · rw [decide_eq_false g, if_neg (by decide)]
      exact ⟨_, rfl, (fun h => ⟨(fun x hx => by cases hx), by have := of_decide_eq_false h; omega⟩)⟩
  | v :: s, p, k, h, hk => by
    have hM : (maxLen : Int) = 9223372036854775807 := rfl
    obtain ⟨k, rfl⟩ : ∃ j, k = j + 1 := ⟨k - 1, by omega⟩
    simp only [List.length_cons] at h hk
    have hlen : ((p ++ v :: s).length : Int) = p.length + s.length + 1 := by simp only [List.length_append, List.length_cons]; omega
    have ih := great_loop c q fl rs s (p ++ [v]) k (by simp only [List.length_append, List.length_cons, List.length_nil]; omega) (by omega)
    simp only [List.append_assoc, List.singleton_append] at ih
    rw [show (((p ++ [v]).length : Nat) : Int) = (p.length : Int) + 1 by simp only [List.length_append, List.length_cons, List.length_nil]; omega] at ih
    simp only [psalterylaw22_great.l0]
    rw [if_pos (by omega), if_pos (by omega), rdL2_mid, w64 (by omega) (by omega)]
    by_cases g : (v.length : Int) > 100
    · rw [if_pos g]; exact ⟨true, rfl, (fun h => by cases h)⟩
    · rw [if_neg g]
      obtain ⟨b, h1, h2⟩ := ih
      refine ⟨b, h1, fun hb => ⟨fun x hx => ?_, (h2 hb).2⟩⟩
      rcases List.mem_cons.1 hx with rfl | hx
      · omega
      · exact (h2 hb).1 x hx
theorem great22 (c q : Int) (fl rs : List Int) (X : List (List Int)) (hX : X.length ≤ maxLen) (k : Nat) (hk : X.length < k) : ∃ b, psalterylaw22_great.f k c q fl rs X = some b ∧ (b = false → (∀ x ∈ X, x.length ≤ 100) ∧ X.length ≤ 10) := by
  unfold psalterylaw22_great.f
  exact great_loop c q fl rs X [] k (by simpa using hX) hk
theorem refEncode_step {c q : Int} {fl : List Int} (rs : List Int) (hu : Uses fl) (hq : 0 ≤ q ∧ q ≤ 12) (X : List (List Int)) (hn : X.length ≤ 1000) (i : Nat) (hi : i < X.length) (hc : (i : Int) < c) {x : List Int} (hx : rd_L2 X (i : Int) = x) (h : fairB x = true) (m : Int) (P R : List (List Int)) (hP : P.length ≤ 1000) (hR : R.length ≤ 1000) (k : Nat) (hk : 2000 < k) :
    psalteryref22_Encode.l0 (k + 1) m (i : Int) c q fl rs X P R = psalteryref22_Encode.l0 k (if zerB (resid fl q x) = true then m else wrap64 (m + 1)) ((i + 1 : Nat) : Int) c q fl rs X (P ++ [encP fl q x]) (R ++ [encR fl q x]) := by
  have hr := resid_length (fl := fl) (q := q) h
  conv => lhs; unfold psalteryref22_Encode.l0
  rw [if_pos hc, if_pos (by omega), if_pos (by omega), hx, refPosts_eq c q rs hu hq h k (by omega), Option.bind_some, refFloors_eq (postL_okl hu q x) k (by omega), Option.bind_some]
  show (psalteryref21_Quantize.f k x (floorC fl q x)).bind _ = _
  rw [refQuant_eq hu q h k (by omega), Option.bind_some, noughts_eq _ (by omega) k (by omega), Option.bind_some]
  by_cases c0 : zerB (resid fl q x) = true
  · obtain ⟨e1, e2⟩ := enc_silent c0
    rw [if_pos c0, if_pos c0, if_pos (by omega), if_pos (by omega), e1, e2, w64 (by omega) (by omega)]; rfl
  · obtain ⟨e1, e2⟩ := enc_loud c0
    rw [if_neg c0, if_neg c0, if_pos (by omega), if_pos (by omega), e1, e2, w64 (x := (i : Int) + 1) (by omega) (by omega)]; rfl
theorem refCouple_loop (P : List (List Int)) : ∀ (s t p r m a : List Int) (k : Nat), p.length = r.length → s.length = t.length → p.length + s.length = 16 → m.length = p.length → a.length = p.length → s.length + 1 < k → LC.allf 1099511627776 s t = true →
    psalteryref22_Encode.l1 k m a (p.length : Int) P [p ++ s, r ++ t] = some (P, [m ++ (LC.prs LC.cp s t).1, a ++ (LC.prs LC.cp s t).2])
  | [], [], p, r, m, a, k, h1, h2, h3, h4, h5, hk, hf => by
    obtain ⟨k, rfl⟩ : ∃ j, k = j + 1 := ⟨k - 1, by omega⟩
    simp only [List.length_nil] at h3
    simp only [psalteryref22_Encode.l1, LC.prs, List.append_nil]
    rw [if_neg (by omega)]
  | [], y :: t, p, r, m, a, k, h1, h2, h3, h4, h5, hk, hf => by simp at h2
  | x :: s, [], p, r, m, a, k, h1, h2, h3, h4, h5, hk, hf => by simp at h2
  | x :: s, y :: t, p, r, m, a, k, h1, h2, h3, h4, h5, hk, hf => by
    obtain ⟨k, rfl⟩ : ∃ j, k = j + 1 := ⟨k - 1, by omega⟩
    simp only [List.length_cons] at h2 h3 hk
    simp only [LC.allf, Bool.and_eq_true, decide_eq_true_eq] at hf
    have two : ∀ a b : List Int, (([a, b] : List (List Int)).length : Int) = 2 := fun a b => rfl
    have m0 : ∀ a b : List Int, rd_L2 [a, b] 0 = a := fun a b => rfl
    have m1 : ∀ a b : List Int, rd_L2 [a, b] 1 = b := fun a b => rfl
    have hl1 : ((p ++ x :: s).length : Int) = p.length + s.length + 1 := by simp only [List.length_append, List.length_cons]; omega
    have hl2 : ((r ++ y :: t).length : Int) = p.length + s.length + 1 := by simp only [List.length_append, List.length_cons]; omega
    have ih := refCouple_loop P s t (p ++ [x]) (r ++ [y]) (m ++ [(LC.cp x y).1]) (a ++ [(LC.cp x y).2]) k (by simp only [List.length_append, List.length_cons, List.length_nil]; omega) (by omega) (by simp only [List.length_append, List.length_cons, List.length_nil]; omega) (by simp only [List.length_append, List.length_cons, List.length_nil]; omega) (by simp only [List.length_append, List.length_cons, List.length_nil]; omega) (by omega) hf.2
    simp only [List.append_assoc, List.singleton_append] at ih
    rw [show (((p ++ [x]).length : Nat) : Int) = (p.length : Int) + 1 by simp only [List.length_append, List.length_cons, List.length_nil]; omega] at ih
    have r1 : rd (p ++ x :: s) (p.length : Int) = x := LQ.rd_mid p s x
    have r2 : rd (r ++ y :: t) (p.length : Int) = y := LC.rd_mid' r p t y h1.symm
    simp only [psalteryref22_Encode.l1]
    rw [two, m0, m1, hl1, hl2, r1, r2, if_pos (by omega), if_pos (by omega), if_pos (by omega), if_pos (by omega), if_pos (by omega), if_pos (by omega), LC.refCp_eq hf.1, Option.bind_some, if_pos (by omega), if_pos (by omega), w64 (by omega) (by omega)]
    rw [ih]; rfl
theorem refEncode_one (q : Int) {fl : List Int} (rs : List Int) (hu : Uses fl) (hq : 0 ≤ q ∧ q ≤ 12) {x : List Int} (h : fairB x = true) (k : Nat) (hk : 3000 < k) :
    psalteryref22_Encode.l0 k 0 0 1 q fl rs [x] [] [] = some (encPs fl q [x], encRs fl q [x]) := by
  obtain ⟨k, rfl⟩ : ∃ j, k = j + 2 := ⟨k - 2, by omega⟩
  have s0 := refEncode_step (c := 1) rs hu hq [x] (by simp) 0 (by simp) (by omega) (x := x) rfl h 0 [] [] (by simp) (by simp) (k + 1) (by omega)
  refine Eq.trans s0 ?_
  simp only [psalteryref22_Encode.l0]
  rw [if_neg (by omega), if_neg ?_]
  · rfl
  · split
    · omega
    · rw [w64 (by omega) (by omega)]; omega
theorem refEncode_two (q : Int) {fl : List Int} (rs : List Int) (hu : Uses fl) (hq : 0 ≤ q ∧ q ≤ 12) {x y : List Int} (hx : fairB x = true) (hy : fairB y = true) (k : Nat) (hk : 3000 < k) :
    psalteryref22_Encode.l0 k 0 0 2 q fl rs [x, y] [] [] = some (encPs fl q [x, y], encRs fl q [x, y]) := by
  obtain ⟨k, rfl⟩ : ∃ j, k = j + 3 := ⟨k - 3, by omega⟩
  have s0 := refEncode_step (c := 2) rs hu hq [x, y] (by simp) 0 (by simp) (by omega) (x := x) rfl hx 0 [] [] (by simp) (by simp) (k + 2) (by omega)
  have s1 := fun m => refEncode_step (c := 2) rs hu hq [x, y] (by simp) 1 (by simp) (by omega) (x := y) rfl hy m ([] ++ [encP fl q x]) ([] ++ [encR fl q x]) (by simp) (by simp) (k + 1) (by omega)
  refine Eq.trans s0 (Eq.trans (s1 _) ?_)
  have e : encRs fl q [x, y] = coupled [encR fl q x, encR fl q y] := rfl
  have e' : encPs fl q [x, y] = [encP fl q x, encP fl q y] := rfl
  rw [e, e']
  simp only [psalteryref22_Encode.l0, List.nil_append, List.cons_append]
  rw [if_neg (by omega)]
  rcases zerB_enc (fl := fl) (q := q) hx with ⟨z1, p1, r1⟩ | ⟨z1, p1, r1, n1, n1'⟩
  · rw [coupled_not (.inl (by rw [r1]; rfl)), if_pos z1, if_neg ?_]
    split
    · omega
    · rw [w64 (by omega) (by omega)]; omega
  · rw [if_neg (show ¬ zerB (resid fl q x) = true by rw [z1]; decide)]
    rcases zerB_enc (fl := fl) (q := q) hy with ⟨z2, p2, r2⟩ | ⟨z2, p2, r2, n2, n2'⟩
    · rw [coupled_not (.inr (by rw [r2]; rfl)), if_pos z2, if_neg (by rw [w64 (by omega) (by omega)]; omega)]
    · rw [if_neg (show ¬ zerB (resid fl q y) = true by rw [z2]; decide), if_pos (by rw [w64 (x := (0 : Int) + 1) (by omega) (by omega), w64 (by omega) (by omega)]; rfl), coupled_two (by omega)]
      have := refCouple_loop [encP fl q x, encP fl q y] (encR fl q x) (encR fl q y) [] [] [] [] k rfl (by omega) (by simpa using n1') rfl rfl (by omega) (allf_of (b := 1048576) (by omega) _ _ (by rw [r1]; exact resid_in hu q hx) (by rw [r2]; exact resid_in hu q hy))
      exact this
theorem refEncode_eq {c q : Int} {fl rs : List Int} {X : List (List Int)} (h : rightF c q fl rs X = true) (hu : Uses fl) (k : Nat) (hk : 6000 < k) : psalteryref22_Encode.f k c q fl rs X = some (encPs fl q X, encRs fl q X) := by
  unfold psalteryref22_Encode.f
  have hh := (rightF_parts h).1
  obtain ⟨a1, a2, a3, a4, _⟩ := LV.right_parts hh
  rcases rightF_cases h with ⟨rfl, x, rfl, hx⟩ | ⟨rfl, x, y, rfl, hx, hy⟩
  · exact refEncode_one q rs hu ⟨a3, a4⟩ hx k (by omega)
  · exact refEncode_two q rs hu ⟨a3, a4⟩ hx hy k (by omega)
end Go.Proofs.Ytdajlfijkbafiaa.LW
namespace Go.Proofs.Ytdajlfijkbafiaa.LK
open Go.RowKit Go.Proofs.YtdajlfijkbafiaaW.PrintWords Go.Proofs.YtdajlfijkbafiaaW.PrintLast Go.Proofs.YtdajlfijkbafiaaW.PrintMore Go.Proofs.Ytdajlfijkbafiaa.P Go.Proofs.Ytdajlfijkbafiaa.LB Go.Proofs.Ytdajlfijkbafiaa.HT Go.Proofs.Ytdajlfijkbafiaa.LH Go.Proofs.Ytdajlfijkbafiaa.LV
def postOk (fl : List Int) (g : Int) : Bool := decide (0 ≤ g ∧ g ≤ 44) && decide (rd fl g ≠ 0)
def resOk (v : Int) : Bool := decide (-4194303 ≤ v ∧ v ≤ 4194303)
def chanOk (fl p r : List Int) : Bool := (decide (p.length = 0 ∧ r.length = 0)) || (decide (p.length = 6) && p.all (postOk fl) && decide (r.length = 16) && r.all resOk)
def chansOk (fl : List Int) : List (List Int) → List (List Int) → Bool
  | p :: P, r :: R => chanOk fl p r && chansOk fl P R
  | _, _ => true
def rightBd (c q : Int) (fl rs : List Int) (P R : List (List Int)) : Bool := rightHd c q fl rs && decide ((P.length : Int) = c ∧ (R.length : Int) = c) && chansOk fl P R
theorem rightBd_parts {c q : Int} {fl rs : List Int} {P R : List (List Int)} (h : rightBd c q fl rs P R = true) : rightHd c q fl rs = true ∧ (P.length : Int) = c ∧ (R.length : Int) = c ∧ chansOk fl P R = true := by
  simp only [rightBd, Bool.and_eq_true, decide_eq_true_eq] at h
  exact ⟨h.1.1, h.1.2.1, h.1.2.2, h.2⟩
def inG (g : Int) : Bool := decide (0 ≤ g ∧ g ≤ 44)
theorem rd_get (l : List Int) (i : Nat) (h : i < l.length) : rd l (i : Int) = l[i] := by simp [rd, List.getD_eq_getElem?_getD, h]
theorem gains_loop (l : List Int) (hl : l.length ≤ 1000) (n : Int) (d : Nat) : ∀ (i k : Nat), i + d = l.length → d < k → floor_gains.l0 k l n l (l.length : Int) (i : Int) = some ((l.drop i).all inG && ((l.length : Int) == n)) := by
  induction d with
  | zero =>
    intro i k hi hk
    obtain ⟨k, rfl⟩ : ∃ j, k = j + 1 := ⟨k - 1, by omega⟩
    simp only [floor_gains.l0]
    rw [if_neg (by omega), List.drop_eq_nil_of_le (by omega)]; rfl
  | succ d ih =>
    intro i k hi hk
    obtain ⟨k, rfl⟩ : ∃ j, k = j + 1 := ⟨k - 1, by omega⟩
    have hil : i < l.length := by omega
    have nx := ih (i + 1) k (by omega) (by omega)
    simp only [floor_gains.l0]
    rw [if_pos (by omega), if_pos (by omega), if_pos (by omega), rd_get l i hil, List.drop_eq_getElem_cons hil, List.all_cons, w64 (x := (i : Int) + 1) (by omega) (by omega)]
    by_cases c1 : l[i] < 0
    · rw [if_pos c1, show inG l[i] = false from decide_eq_false (by omega)]; rfl
    · rw [if_neg c1]
      by_cases c2 : l[i] > 44
      · rw [if_pos c2, show inG l[i] = false from decide_eq_false (by omega)]; rfl
      · rw [if_neg c2, show inG l[i] = true from decide_eq_true (by omega), Bool.true_and]
        exact nx
theorem floorRight_eq (l : List Int) (hl : l.length ≤ 1000) (k : Nat) (hk : 1001 < k) : floor_Right.f k l = some (l.all inG && decide (l.length = 6)) := by
  unfold floor_Right.f floor_gains.f
  have := gains_loop l hl 6 l.length 0 k (by omega) (by omega)
  rw [show ((0 : Nat) : Int) = 0 from rfl, List.drop_zero] at this
  rw [this, Option.bind_some]
  congr 2
  by_cases c : l.length = 6
  · rw [decide_eq_true c]; exact beq_iff_eq.mpr (by omega)
  · rw [decide_eq_false c]; exact beq_eq_false_iff_ne.mpr (by omega)
def nz (fl : List Int) (g : Int) : Bool := decide (rd fl g ≠ 0)
theorem posts_loop (fl : List Int) (hfl : fl.length = 45) (l : List Int) (hl : l.length ≤ 1000) (hin : ∀ g ∈ l, 0 ≤ g ∧ g ≤ 44) (c q : Int) (rs : List Int) (d : Nat) : ∀ (i k : Nat), i + d = l.length → d < k → vpack_posts.l0 k l (l.length : Int) (i : Int) c q fl rs = some ((l.drop i).all (nz fl)) := by
  induction d with
  | zero =>
    intro i k hi hk
    obtain ⟨k, rfl⟩ : ∃ j, k = j + 1 := ⟨k - 1, by omega⟩
    simp only [vpack_posts.l0]
    rw [if_neg (by omega), List.drop_eq_nil_of_le (by omega)]; rfl
  | succ d ih =>
    intro i k hi hk
    obtain ⟨k, rfl⟩ : ∃ j, k = j + 1 := ⟨k - 1, by omega⟩
    have hil : i < l.length := by omega
    have nx := ih (i + 1) k (by omega) (by omega)
    have hg := hin l[i] (List.getElem_mem hil)
    simp only [vpack_posts.l0]
    rw [if_pos (by omega), if_pos (by omega), if_pos (by omega), rd_get l i hil, if_pos hg.1, if_pos (by omega), List.drop_eq_getElem_cons hil, List.all_cons, w64 (x := (i : Int) + 1) (by omega) (by omega)]
    by_cases c1 : rd fl l[i] = 0
    · rw [if_pos c1, show nz fl l[i] = false from decide_eq_false (by omega)]; rfl
    · rw [if_neg c1, show nz fl l[i] = true from decide_eq_true c1, Bool.true_and]
      exact nx
theorem all_and (f g : Int → Bool) : ∀ l : List Int, l.all (fun x => f x && g x) = (l.all f && l.all g)
  | [] => rfl
  | x :: l => by rw [List.all_cons, List.all_cons, List.all_cons, all_and f g l]; cases f x <;> cases g x <;> simp
theorem postOk_all (fl l : List Int) : l.all (postOk fl) = (l.all inG && l.all (nz fl)) := all_and inG (nz fl) l
theorem posts_eq (fl : List Int) (hfl : fl.length = 45) (l : List Int) (hl : l.length ≤ 1000) (c q : Int) (rs : List Int) (k : Nat) (hk : 1001 < k) : vpack_posts.f k c q fl rs l = some (decide (l.length = 6) && l.all (postOk fl)) := by
  unfold vpack_posts.f
  rw [floorRight_eq l hl k hk, Option.bind_some, postOk_all]
  cases h1 : l.all inG
  · rw [Bool.false_and, if_neg (by decide), Bool.false_and, Bool.and_false]
  · rw [Bool.true_and, Bool.true_and]
    by_cases c6 : l.length = 6
    · rw [decide_eq_true c6, if_pos rfl, Bool.true_and]
      have := posts_loop fl hfl l hl (fun g hg => by have := List.all_eq_true.1 h1 g hg; simpa [inG] using this) c q rs l.length 0 k (by omega) (by omega)
      rw [show ((0 : Nat) : Int) = 0 from rfl, List.drop_zero] at this
      exact this
    · rw [decide_eq_false c6, if_neg (by decide), Bool.false_and]
theorem L5_at (P : List (List Int)) (i : Nat) (h : i < P.length) : rd_L2 P (i : Int) = P[i] := by
  simp [rd_L2, List.getD_eq_getElem?_getD, h]
theorem L1_at' (P : List (List Int)) (i : Nat) (h : i < P.length) : rd_L1 P (i : Int) = P[i] := by
  simp [rd_L1, List.getD_eq_getElem?_getD, h]
end Go.Proofs.Ytdajlfijkbafiaa.LK
namespace Go.Proofs.Ytdajlfijkbafiaa.LW
open Go.RowKit Go.Proofs.YtdajlfijkbafiaaW.PrintWords Go.Proofs.YtdajlfijkbafiaaW.PrintLast Go.Proofs.YtdajlfijkbafiaaW.PrintMore Go.Proofs.Ytdajlfijkbafiaa.P Go.Proofs.Ytdajlfijkbafiaa.LB Go.Proofs.Ytdajlfijkbafiaa.NT
theorem chan_cases {fl p r : List Int} (h : LK.chanOk fl p r = true) : (p = [] ∧ r = []) ∨ (p.length = 6 ∧ LF.okl 6 p = true ∧ r.length = 16 ∧ (∀ v ∈ r, -4194303 ≤ v ∧ v ≤ 4194303)) := by
  simp only [LK.chanOk, Bool.or_eq_true, Bool.and_eq_true, decide_eq_true_eq] at h
  rcases h with h | h
  · exact .inl ⟨List.length_eq_zero_iff.1 h.1, List.length_eq_zero_iff.1 h.2⟩
  · refine .inr ⟨h.1.1.1, ?_, h.1.2, fun v hv => ?_⟩
    · unfold LF.okl
      rw [Bool.and_eq_true, beq_iff_eq]
      refine ⟨LF.inr_of fun g hg => ?_, h.1.1.1⟩
      have := List.all_eq_true.1 h.1.1.2 g hg
      simp only [LK.postOk, Bool.and_eq_true, decide_eq_true_eq] at this
      exact this.1
    · have := List.all_eq_true.1 h.2 v hv
      simpa [LK.resOk] using this
theorem body_cases {c q : Int} {fl rs : List Int} {P R : List (List Int)} (h : LK.rightBd c q fl rs P R = true) : (c = 1 ∧ ∃ p r, P = [p] ∧ R = [r] ∧ LK.chanOk fl p r = true) ∨ (c = 2 ∧ ∃ p0 p1 r0 r1, P = [p0, p1] ∧ R = [r0, r1] ∧ LK.chanOk fl p0 r0 = true ∧ LK.chanOk fl p1 r1 = true) := by
  obtain ⟨h1, h2, h3, h4⟩ := LK.rightBd_parts h
  obtain ⟨a1, a2, _⟩ := LV.right_parts h1
  match P, R, h2, h3, h4 with
  | [], _, h2, _, _ => simp only [List.length_nil] at h2; omega
  | [p], [r], h2, _, h4 =>
    simp only [List.length_cons, List.length_nil] at h2
    simp only [LK.chansOk, Bool.and_true] at h4
    exact .inl ⟨by omega, p, r, rfl, rfl, h4⟩
  | [p0, p1], [r0, r1], h2, _, h4 =>
    simp only [List.length_cons, List.length_nil] at h2
    simp only [LK.chansOk, Bool.and_true, Bool.and_eq_true] at h4
    exact .inr ⟨by omega, p0, p1, r0, r1, rfl, rfl, h4.1, h4.2⟩
  | p :: P, [], h2, h3, _ => simp only [List.length_nil] at h3; omega
  | [p], r0 :: r1 :: R, h2, h3, _ => simp only [List.length_cons, List.length_nil] at h2 h3; omega
  | p0 :: p1 :: P, [r], h2, h3, _ => simp only [List.length_cons, List.length_nil] at h2 h3; omega
  | [p0, p1], r0 :: r1 :: r2 :: R, h2, h3, _ => simp only [List.length_cons, List.length_nil] at h2 h3; omega
  | p0 :: p1 :: p2 :: P, r0 :: r1 :: R, h2, h3, _ => simp only [List.length_cons] at h2; omega
theorem uses_of {c q : Int} {fl rs : List Int} (h : LV.rightHd c q fl rs = true) : Uses fl := by
  obtain ⟨a1, a2, a3, a4, a5, a6, a7, _⟩ := LV.right_parts h
  refine ⟨a5, Decidable.byContradiction fun hn => ?_⟩
  have hz : ∀ u : Nat, u < fl.length → ¬ 0 < rd fl (u : Int) := fun u hu h => hn ⟨u, hu, h⟩
  have e : LH.whole fl = 0 := by
    unfold LH.whole
    rw [HT.S_congr (g := fun _ => 0) fl.length (fun t ht => by unfold HT.wt; rw [if_neg (show ¬ 0 < LH.bk fl t from hz t ht)]), HT.S_zero]
  simp only [LH.rightH, Bool.and_eq_true, decide_eq_true_eq] at a7
  obtain ⟨_, _, h4⟩ := a7
  unfold LH.full at h4
  split at h4
  · rw [beq_iff_eq] at h4; omega
  · rw [beq_iff_eq] at h4; omega
theorem enc_both {fl : List Int} {q : Int} {x : List Int} (h : fairB x = true) : ((encP fl q x).length = 0 ↔ (encR fl q x).length = 0) ∧ (¬ (encR fl q x).length = 0 → encR fl q x = resid fl q x ∧ (encR fl q x).length = 16) := by
  rcases zerB_enc (fl := fl) (q := q) h with ⟨z, e1, e2⟩ | ⟨z, e1, e2, e3, e4⟩
  · rw [e1, e2]; exact ⟨Iff.rfl, fun h => absurd rfl h⟩
  · exact ⟨by omega, fun _ => ⟨e2, e4⟩⟩
theorem chanOk_of {fl p r : List Int} (h6 : p.length = 6) (hp : ∀ g ∈ p, 0 ≤ g ∧ g ≤ 44 ∧ 0 < rd fl g) (h16 : r.length = 16) (hr : ∀ v ∈ r, -4194303 ≤ v ∧ v ≤ 4194303) : LK.chanOk fl p r = true := by
  simp only [LK.chanOk, Bool.or_eq_true, Bool.and_eq_true, decide_eq_true_eq]
  refine .inr ⟨⟨⟨h6, List.all_eq_true.2 fun g hg => ?_⟩, h16⟩, List.all_eq_true.2 fun v hv => ?_⟩
  · have := hp g hg
    simp only [LK.postOk, Bool.and_eq_true, decide_eq_true_eq]; omega
  · have := hr v hv
    simp only [LK.resOk, decide_eq_true_eq]; exact this
theorem cp_in {x y : Int} (hx : -1048576 ≤ x ∧ x ≤ 1048576) (hy : -1048576 ≤ y ∧ y ≤ 1048576) : (-4194303 ≤ (LC.cp x y).1 ∧ (LC.cp x y).1 ≤ 4194303) ∧ (-4194303 ≤ (LC.cp x y).2 ∧ (LC.cp x y).2 ≤ 4194303) := by
  unfold LC.cp LC.ab; repeat' split
  all_goals (dsimp only; omega)
theorem prs_in : ∀ l r : List Int, (∀ v ∈ l, -1048576 ≤ v ∧ v ≤ 1048576) → (∀ v ∈ r, -1048576 ≤ v ∧ v ≤ 1048576) → (∀ v ∈ (LC.prs LC.cp l r).1, -4194303 ≤ v ∧ v ≤ 4194303) ∧ (∀ v ∈ (LC.prs LC.cp l r).2, -4194303 ≤ v ∧ v ≤ 4194303)
  | [], r, _, _ => by cases r <;> exact ⟨(fun v hv => by cases hv), (fun v hv => by cases hv)⟩
  | x :: l, [], _, _ => ⟨(fun v hv => by cases hv), (fun v hv => by cases hv)⟩
  | x :: l, y :: r, h1, h2 => by
    have a := cp_in (h1 x (List.mem_cons_self ..)) (h2 y (List.mem_cons_self ..))
    have ih := prs_in l r (fun v hv => h1 v (List.mem_cons_of_mem _ hv)) (fun v hv => h2 v (List.mem_cons_of_mem _ hv))
    simp only [LC.prs]
    refine ⟨fun v hv => ?_, fun v hv => ?_⟩
    · rcases List.mem_cons.1 hv with rfl | hv
      · exact a.1
      · exact ih.1 v hv
    · rcases List.mem_cons.1 hv with rfl | hv
      · exact a.2
      · exact ih.2 v hv
theorem chan_enc {fl : List Int} (hu : Uses fl) (q : Int) {x : List Int} (h : fairB x = true) : LK.chanOk fl (encP fl q x) (encR fl q x) = true := by
  rcases zerB_enc (fl := fl) (q := q) h with ⟨z, e1, e2⟩ | ⟨z, e1, e2, e3, e4⟩
  · rw [e1, e2]; rfl
  · refine chanOk_of e3 (by rw [e1]; exact postL_in hu q x) e4 (by rw [e2]; exact fun v hv => by have := resid_in hu q h v hv; omega)
theorem enc_right {c q : Int} {fl rs : List Int} {X : List (List Int)} (h : rightF c q fl rs X = true) : LK.rightBd c q fl rs (encPs fl q X) (encRs fl q X) = true := by
  have hh := (rightF_parts h).1
  have hu := uses_of hh
  unfold LK.rightBd
  rw [hh, Bool.true_and]
  rcases rightF_cases h with ⟨rfl, x, rfl, hx⟩ | ⟨rfl, x, y, rfl, hx, hy⟩
  · show (true && (LK.chanOk fl (encP fl q x) (encR fl q x) && true)) = true
    rw [chan_enc hu q hx]; rfl
  · obtain ⟨i1, i2⟩ := enc_both (fl := fl) (q := q) hx
    obtain ⟨j1, j2⟩ := enc_both (fl := fl) (q := q) hy
    have e : encRs fl q [x, y] = coupled [encR fl q x, encR fl q y] := rfl
    rw [e]
    by_cases z : (encR fl q x).length = 0 ∨ (encR fl q y).length = 0
    · rw [coupled_not z]
      show (true && (LK.chanOk fl (encP fl q x) (encR fl q x) && (LK.chanOk fl (encP fl q y) (encR fl q y) && true))) = true
      rw [chan_enc hu q hx, chan_enc hu q hy]; rfl
    · have hx2 := i2 (fun e => z (.inl e))
      have hy2 := j2 (fun e => z (.inr e))
      rw [coupled_two z]
      show (true && (LK.chanOk fl (encP fl q x) (LC.prs LC.cp (encR fl q x) (encR fl q y)).1 && (LK.chanOk fl (encP fl q y) (LC.prs LC.cp (encR fl q x) (encR fl q y)).2 && true))) = true
      have hp := prs_in (encR fl q x) (encR fl q y) (by rw [hx2.1]; exact resid_in hu q hx) (by rw [hy2.1]; exact resid_in hu q hy)
      have hl := LC.prs_len LC.cp (encR fl q x) (encR fl q y) (by omega)
      rcases zerB_enc (fl := fl) (q := q) hx with ⟨_, _, e2⟩ | ⟨_, p1, _, p3, _⟩
      · rw [e2] at z; exact absurd (.inl rfl) z
      rcases zerB_enc (fl := fl) (q := q) hy with ⟨_, _, e2⟩ | ⟨_, q1, _, q3, _⟩
      · rw [e2] at z; exact absurd (.inr rfl) z
      rw [chanOk_of p3 (by rw [p1]; exact postL_in hu q x) (by omega) hp.1, chanOk_of q3 (by rw [q1]; exact postL_in hu q y) (by omega) hp.2]; rfl
theorem enc_small {c q : Int} {fl rs : List Int} {X : List (List Int)} (h : rightF c q fl rs X = true) : (encPs fl q X).length ≤ 1000 ∧ (encRs fl q X).length ≤ 1000 ∧ (∀ p ∈ encPs fl q X, p.length ≤ 1000) ∧ (∀ r ∈ encRs fl q X, r.length ≤ 1000) := by
  have hr := enc_right h
  obtain ⟨h1, h2, h3, h4⟩ := LK.rightBd_parts hr
  obtain ⟨a1, a2, _⟩ := LV.right_parts h1
  have small : ∀ {p r : List Int}, LK.chanOk fl p r = true → p.length ≤ 1000 ∧ r.length ≤ 1000 := fun hc => by
    rcases chan_cases hc with ⟨e1, e2⟩ | ⟨e1, _, e2, _⟩
    · rw [e1, e2]; simp
    · omega
  refine ⟨by omega, by omega, ?_⟩
  rcases body_cases hr with ⟨rfl, p, r, e1, e2, hc⟩ | ⟨rfl, p0, p1, r0, r1, e1, e2, hc0, hc1⟩
  · rw [e1, e2]
    refine ⟨fun v hv => ?_, fun v hv => ?_⟩
    · rw [List.mem_singleton] at hv; subst hv; exact (small hc).1
    · rw [List.mem_singleton] at hv; subst hv; exact (small hc).2
  · rw [e1, e2]
    refine ⟨fun v hv => ?_, fun v hv => ?_⟩
    · simp only [List.mem_cons, List.not_mem_nil, or_false] at hv
      rcases hv with rfl | rfl
      · exact (small hc0).1
      · exact (small hc1).1
    · simp only [List.mem_cons, List.not_mem_nil, or_false] at hv
      rcases hv with rfl | rfl
      · exact (small hc0).2
      · exact (small hc1).2
end Go.Proofs.Ytdajlfijkbafiaa.LW
namespace Go.Proofs.Ytdajlfijkbafiaa.LV
open Go.RowKit Go.Proofs.YtdajlfijkbafiaaW.PrintWords Go.Proofs.YtdajlfijkbafiaaW.PrintLast Go.Proofs.YtdajlfijkbafiaaW.PrintMore Go.Proofs.Ytdajlfijkbafiaa.P Go.Proofs.Ytdajlfijkbafiaa.LB Go.Proofs.Ytdajlfijkbafiaa.HT Go.Proofs.Ytdajlfijkbafiaa.LH
theorem same6_loop (l : List Int) (hl : l.length ≤ 1000000) (d : Nat) : ∀ (i k : Nat), i + d = l.length → d < k → psalteryref06_Same.l0 k l l (i : Int) = some true := by
  induction d with
  | zero =>
    intro i k hi hk
    obtain ⟨k, rfl⟩ : ∃ j, k = j + 1 := ⟨k - 1, by omega⟩
    simp only [psalteryref06_Same.l0]
    rw [if_neg (by omega)]
  | succ d ih =>
    intro i k hi hk
    obtain ⟨k, rfl⟩ : ∃ j, k = j + 1 := ⟨k - 1, by omega⟩
    simp only [psalteryref06_Same.l0]
    rw [if_pos (by omega), if_pos (by omega), if_pos (by omega), if_pos trivial, w64 (x := (i : Int) + 1) (by omega) (by omega)]
    exact ih (i + 1) k (by omega) (by omega)
theorem same6 (l : List Int) (hl : l.length ≤ 1000000) (k : Nat) (hk : l.length < k) : psalteryref06_Same.f k l l = some true := by
  unfold psalteryref06_Same.f
  rw [if_pos rfl]
  exact same6_loop l hl l.length 0 k (by omega) hk
end Go.Proofs.Ytdajlfijkbafiaa.LV
namespace Go.Proofs.Ytdajlfijkbafiaa.LK
open Go.RowKit Go.Proofs.YtdajlfijkbafiaaW.PrintWords Go.Proofs.YtdajlfijkbafiaaW.PrintLast Go.Proofs.YtdajlfijkbafiaaW.PrintMore Go.Proofs.Ytdajlfijkbafiaa.P Go.Proofs.Ytdajlfijkbafiaa.LB Go.Proofs.Ytdajlfijkbafiaa.HT Go.Proofs.Ytdajlfijkbafiaa.LH Go.Proofs.Ytdajlfijkbafiaa.LV
theorem same7_loop (l : List Int) (hl : l.length ≤ 1000000) (d : Nat) : ∀ (i k : Nat), i + d = l.length → d < k → psalteryref07_Same.l0 k l l (i : Int) = some true := by
  induction d with
  | zero =>
    intro i k hi hk
    obtain ⟨k, rfl⟩ : ∃ j, k = j + 1 := ⟨k - 1, by omega⟩
    simp only [psalteryref07_Same.l0]
    rw [if_neg (by omega)]
  | succ d ih =>
    intro i k hi hk
    obtain ⟨k, rfl⟩ : ∃ j, k = j + 1 := ⟨k - 1, by omega⟩
    simp only [psalteryref07_Same.l0]
    rw [if_pos (by omega), if_pos (by omega), if_pos (by omega), if_pos trivial, w64 (x := (i : Int) + 1) (by omega) (by omega)]
    exact ih (i + 1) k (by omega) (by omega)
theorem same7 (l : List Int) (hl : l.length ≤ 1000000) (k : Nat) (hk : l.length < k) : psalteryref07_Same.f k l l = some true := by
  unfold psalteryref07_Same.f
  rw [if_pos rfl]
  exact same7_loop l hl l.length 0 k (by omega) hk
theorem same17_l1 (P R : List (List Int)) (hR : R.length ≤ 1000) (h2 : ∀ r ∈ R, r.length ≤ 1000) (d : Nat) : ∀ (i k : Nat), i + d = R.length → d + 1001 < k → psalteryref17_Same.l1 k (i : Int) P R P R = some true := by
  induction d with
  | zero =>
    intro i k hi hk
    obtain ⟨k, rfl⟩ : ∃ j, k = j + 1 := ⟨k - 1, by omega⟩
    simp only [psalteryref17_Same.l1]
    rw [if_neg (by omega)]
  | succ d ih =>
    intro i k hi hk
    obtain ⟨k, rfl⟩ : ∃ j, k = j + 1 := ⟨k - 1, by omega⟩
    have hi2 : i < R.length := by omega
    have hr := h2 R[i] (List.getElem_mem hi2)
    simp only [psalteryref17_Same.l1]
    rw [if_pos (by omega), if_pos (by omega), if_pos (by omega), L5_at R i hi2, same7 R[i] (by omega) k (by omega), Option.bind_some, if_pos rfl, w64 (x := (i : Int) + 1) (by omega) (by omega)]
    exact ih (i + 1) k (by omega) (by omega)
theorem same17_l0 (P R : List (List Int)) (hP : P.length ≤ 1000) (hR : R.length ≤ 1000) (h1 : ∀ p ∈ P, p.length ≤ 1000) (h2 : ∀ r ∈ R, r.length ≤ 1000) (d : Nat) : ∀ (i k : Nat), i + d = P.length → d + 2003 < k → psalteryref17_Same.l0 k (i : Int) P R P R = some true := by
  induction d with
  | zero =>
    intro i k hi hk
    obtain ⟨k, rfl⟩ : ∃ j, k = j + 1 := ⟨k - 1, by omega⟩
    simp only [psalteryref17_Same.l0]
    rw [if_neg (by omega)]
    exact same17_l1 P R hR h2 R.length 0 k (by omega) (by omega)
  | succ d ih =>
    intro i k hi hk
    obtain ⟨k, rfl⟩ : ∃ j, k = j + 1 := ⟨k - 1, by omega⟩
    have hi2 : i < P.length := by omega
    have hp := h1 P[i] (List.getElem_mem hi2)
    simp only [psalteryref17_Same.l0]
    rw [if_pos (by omega), if_pos (by omega), if_pos (by omega), L1_at' P i hi2, same6 P[i] (by omega) k (by omega), Option.bind_some, if_pos rfl, w64 (x := (i : Int) + 1) (by omega) (by omega)]
    exact ih (i + 1) k (by omega) (by omega)
theorem same17 (P R : List (List Int)) (hP : P.length ≤ 1000) (hR : R.length ≤ 1000) (h1 : ∀ p ∈ P, p.length ≤ 1000) (h2 : ∀ r ∈ R, r.length ≤ 1000) (k : Nat) (hk : 5000 ≤ k) : psalteryref17_Same.f k P R P R = some true := by
  obtain ⟨k, rfl⟩ : ∃ j, k = j + 1 := ⟨k - 1, by omega⟩
  unfold psalteryref17_Same.f
  rw [if_pos rfl]
  simp only [psalteryref17_Same.j0]
  rw [if_neg (by simp)]
  exact same17_l0 P R hP hR h1 h2 P.length 0 k (by omega) (by omega)
theorem same_nil (k : Nat) (hk : 5000 ≤ k) : psalteryref17_Same.f k [] [] [] [] = some true := same17 [] [] (by simp) (by simp) (fun p hp => by cases hp) (fun p hp => by cases hp) k hk
end Go.Proofs.Ytdajlfijkbafiaa.LK
namespace Go.Proofs.Ytdajlfijkbafiaa.Pure
open Go.RowKit Go.Proofs.YtdajlfijkbafiaaW.PrintWords Go.Proofs.YtdajlfijkbafiaaW.PrintLast Go.Proofs.YtdajlfijkbafiaaW.PrintMore Go.Proofs.Ytdajlfijkbafiaa.P Go.Proofs.Ytdajlfijkbafiaa.LB Go.Proofs.Ytdajlfijkbafiaa.LW
theorem VoiceEncodes : psalterylaw22_VoiceEncodes.Pure := by
  intro c q fl rs X _ _ _ _ hX
  obtain ⟨K, hK⟩ : ∃ K : Nat, X.length + 100000 ≤ K := ⟨_, Nat.le_refl _⟩
  refine ⟨K, ?_⟩
  unfold psalterylaw22_VoiceEncodes.f
  obtain ⟨b, hg, hb⟩ := great22 c q fl rs X hX.1 K (by omega)
  rw [hg, Option.bind_some, knows22 K (by omega)]
  cases b
  · obtain ⟨h1, h2⟩ := hb rfl
    have hx : ∀ x ∈ X, x.length ≤ 1000 := fun x hx => Nat.le_trans (h1 x hx) (by omega)
    rw [if_neg (by decide), encode_eq X (by omega) hx uses_of K (by omega), Option.bind_some]
    unfold psalterylaw16_As.f psalterylaw17_As.f
    rw [Option.bind_some, refRight22_eq c q fl rs X (by omega) hx K (by omega), Option.bind_some, right22_eq c q fl rs X (by omega) hx K (by omega), Option.bind_some]
    cases h : rightF c q fl rs X
    · rw [if_neg (by decide), if_neg (by decide), if_neg (by decide), Option.bind_some, LK.same_nil K (by omega), Option.bind_some, if_pos rfl, if_pos rfl]; rfl
    · obtain ⟨s1, s2, s3, s4⟩ := enc_small h
      rw [if_neg (by decide), if_pos rfl, if_pos rfl, Option.bind_some, Option.bind_some, refEncode_eq h (uses_of (rightF_parts h).1) K (by omega), Option.bind_some, LK.same17 _ _ s1 s2 s3 s4 K (by omega), Option.bind_some, if_pos rfl, if_pos rfl]; rfl
  · rw [if_pos rfl]; rfl
end Go.Proofs.Ytdajlfijkbafiaa.Pure
namespace Go.Proofs.YtdajlfijkbafiaaW.Row
open Go.RowKit Go.Proofs.YtdajlfijkbafiaaW.PrintWords Go.Joins Go.WideShapes Go.ChangeShapes Go.Deep
/-- What comes in at type t reads as a kind's value, and is well formed. -/
def Opens {α : Type} (P : Program) (d : Kd α) (t : TypeId) (wf : α → Prop) : Prop :=
  ∀ {H : Type} {enc : TypeId × Value → H} {w : World} {base : Nat} {held : Bool} {fuel : Nat} {cs : List Value} {x : DataW H × List MemPlace},
    DataW.trod enc P w base (fun _ => true) held fuel t cs = some x → ∃ a, d.K w a cs ∧ wf a
variable {P : Program}
theorem opens_int {t : TypeId} {k : IntKind} (ht : P.underlying t = some (.int k)) : Opens P (Kd.int k) t (fun a => (Lit.int k a).wf = true) := by
  intro H enc w base held fuel cs x h
  obtain ⟨n, rfl, _, hw⟩ := DataW.trod_int ht h
  exact ⟨n, rfl, hw⟩
theorem list_of {β : Type} {p : Nat → β → Prop} (n : Nat) (h : ∀ i, i < n → ∃ y, p i y) : ∃ ys : List β, ys.length = n ∧ ∀ i y, ys[i]? = some y → p i y := by
  induction n with
  | zero => exact ⟨[], rfl, fun i y hy => by simp at hy⟩
  | succ n ih =>
    obtain ⟨ys, hl, hp⟩ := ih fun i hi => h i (by omega)
    obtain ⟨y, hy⟩ := h n (by omega)
    refine ⟨ys ++ [y], by simp [hl], fun i z hz => ?_⟩
    rcases Nat.lt_or_ge i ys.length with e | e
    · rw [List.getElem?_append_left e] at hz; exact hp i z hz
    · rw [List.getElem?_append_right e] at hz
      obtain ⟨h1, h2⟩ := List.getElem?_eq_some_iff.1 hz
      have : i = n := by simp at h1; omega
      subst this
      simp at h2; subst h2; exact hy
theorem opens_slice {α : Type} {d : Kd α} {t e : TypeId} {wf : α → Prop} (ht : P.underlying t = some (.slice e)) (ce : P.cellsOf e = d.sz) (h : Opens P d e wf) :
    Opens P (Kd.slice e d) t (fun l => l.length ≤ maxLen ∧ ∀ x ∈ l, wf x) := by
  intro H enc w base held fuel cs x hx
  rcases Deep.open_slice ht hx with ⟨rfl, _⟩ | ⟨a, len, cap, m, n, D, Pl, rfl, hb, hl, hm, hmm, _, hi⟩
  · exact ⟨[], ⟨none, 0, rfl, Nat.le_refl _, Kd.C_nil d w⟩, by simp, fun x hx => by simp at hx⟩
  · simp only [if_true] at hmm
    subst hmm
    have each : ∀ i, i < len → ∃ y : α × List Value, y.2.length = d.sz ∧ d.K w y.1 y.2 ∧ wf y.1 ∧ ∀ j u, y.2[j]? = some u → w.cell? (a.add (i * d.sz + j)) = some u := by
      intro i hlt
      obtain ⟨cs', h1, h2⟩ := hi i (by omega)
      obtain ⟨v, hK, hw⟩ := h h2
      obtain ⟨_, hlen, hcell⟩ := World.cells?_some h1
      rw [ce] at h1 hlen hcell
      refine ⟨(v, cs'), hlen, hK, hw, fun j u hj => ?_⟩
      have hjl : j < cs'.length := (List.getElem?_eq_some_iff.1 hj).1
      have := hcell j (by omega)
      rw [Addr.add_add] at this
      rw [this]; exact hj
    obtain ⟨ys, hyl, hy⟩ := list_of len each
    have hpts : ∀ (j : Nat) (p : α), (ys.map (·.1))[j]? = some p → ∃ c, (p, c) ∈ ys ∧ ys[j]? = some (p, c) := by
      intro j p hj
      rw [List.getElem?_map] at hj
      cases e : ys[j]? with
      | none => rw [e] at hj; cases hj
      | some z => rw [e] at hj; obtain rfl : z.1 = p := by simpa using hj
                  exact ⟨z.2, List.mem_of_getElem? e, rfl⟩
    refine ⟨ys.map (·.1), ⟨some a, m, by simp [hyl], by simpa [hyl] using hl, ?_⟩, ?_, ?_⟩
    · refine ⟨rfl, ?_, fun hp => ⟨a, rfl, fun j p hj => ?_⟩⟩
      · simp only [List.length_map]; unfold maxLen at hm; omega
      · obtain ⟨c, _, hc⟩ := hpts j p hj
        obtain ⟨e1, e2, _, e4⟩ := hy j _ hc
        exact ⟨c, e1, e2, e4⟩
    · simp only [List.length_map]; omega
    · intro x hx
      obtain ⟨z, hz, rfl⟩ := List.mem_map.1 hx
      obtain ⟨i, hi', hi''⟩ := List.getElem_of_mem hz
      exact (hy i z (by rw [← hi'']; exact List.getElem?_eq_getElem hi')).2.2.1
theorem opens_struct2 {α β γ : Type} {d0 : Kd α} {d1 : Kd β} {t : TypeId} {f0 f1 : Field} {wf0 : α → Prop} {wf1 : β → Prop} (f : γ → α × β) (mk : α → β → γ) (hf : ∀ a b, f (mk a b) = (a, b))
    (ht : P.underlying t = some (.struct #[f0, f1])) (o0 : f0.offset = 0) (o1 : f1.offset = d0.sz) (c0 : P.cellsOf f0.type = d0.sz) (c1 : P.cellsOf f1.type = d1.sz) (ct : P.cellsOf t = d0.sz + d1.sz)
    (h0 : Opens P d0 f0.type wf0) (h1 : Opens P d1 f1.type wf1) : Opens P (Kd.iso (Kd.pair d0 d1) f) t (fun x => wf0 (f x).1 ∧ wf1 (f x).2) := by
  intro H enc w base held fuel cs x hx
  obtain ⟨y0, y1, n, _, hlen, e0, e1⟩ := trod_struct2 ht hx
  rw [o0, c0, List.drop_zero] at e0
  rw [o1, c1] at e1
  obtain ⟨a, hA, wA⟩ := h0 e0
  obtain ⟨b, hB, wB⟩ := h1 e1
  refine ⟨mk a b, ?_, by show wf0 (f (mk a b)).1 ∧ wf1 (f (mk a b)).2; rw [hf]; exact ⟨wA, wB⟩⟩
  show (Kd.pair d0 d1).K w (f (mk a b)) cs
  rw [hf]
  refine ⟨_, _, ?_, hA, hB⟩
  rw [ct] at hlen
  rw [List.take_of_length_le (l := cs.drop d0.sz) (by rw [List.length_drop]; omega), List.take_append_drop]
variable {H : Type} {enc : TypeId × Value → H} {w : World} {base : Nat} {spare : Nat → Bool} {held : Bool}
theorem open_agg1 {r : Reach} {b0 : Nat} {t : TypeId} {f0 : Field} {v : Value} {d : DataW H} {p : List MemPlace} (hs : P.underlying t = some (.struct #[f0])) (hone : oneCellFields P #[f0] = true) (hC : P.cellsOf t = 1)
    (hv : Value.okWide P w r b0 t v) (h : DataW.Trod enc P w base spare held t v d p) :
    ∃ (v0 : Value) (y0 : DataW H × List MemPlace) (n : Nat), v = .agg #[v0] ∧ DataW.trod enc P w base spare held n f0.type [v0] = some y0 := by
  obtain ⟨cs, rfl, hsz⟩ := okWide_struct hs hv
  rw [hC] at hsz
  obtain ⟨c0, rfl⟩ : ∃ c0, cs = #[c0] := by
    cases cs with
    | mk l => match l, hsz with
      | [c], _ => exact ⟨c, rfl⟩
  obtain ⟨fuel, hf⟩ := h
  obtain ⟨y0, n, hx, _, h0⟩ := trod_struct1 hs hf
  obtain ⟨o0, k0⟩ := hone_of hone 0 f0 rfl
  exact ⟨c0, y0, n, rfl, by simpa [Value.cells, o0, k0] using h0⟩
theorem K_int {k : IntKind} {a : Int} {v : Value} (h : (Kd.int k).K w a [v]) : v = .int k a := by
  have e : [v] = [Value.int k a] := h
  injection e
theorem K_slice {α : Type} {e : Nat} {d : Kd α} {l : List α} {v : Value} (h : (Kd.slice e d).K w l [v]) : ∃ A c, v = .slice A l.length c ∧ l.length ≤ c ∧ d.C w A l.length l := by
  obtain ⟨A, c, hv, hl, hc⟩ := h
  injection hv with hv
  exact ⟨A, c, hv, hl, hc⟩
end Go.Proofs.YtdajlfijkbafiaaW.Row
