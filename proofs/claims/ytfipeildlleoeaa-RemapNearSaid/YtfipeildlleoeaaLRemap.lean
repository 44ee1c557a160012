/- What remap's functions compute, and its reference's. -/
import Derived.Test.YtfipeildlleoeaaPx13
import Derived.Test.YtfipeildlleoeaaPx8
import Derived.Test.YtfipeildlleoeaaPx11
import Derived.Test.YtfipeildlleoeaaPx14
import Derived.Test.YtfipeildlleoeaaPx17
import Derived.Test.YtfipeildlleoeaaPx20
import Derived.Test.YtfipeildlleoeaaPx15
import Derived.Test.YtfipeildlleoeaaPx12
import Derived.Test.YtfipeildlleoeaaPx1
import Derived.Test.YtfipeildlleoeaaLDiv
namespace Go.Proofs.Ytfipeildlleoeaa.LR
set_option linter.unusedVariables false
set_option linter.unusedSimpArgs false
open Go.RowKit Go.Proofs.YtfipeildlleoeaaW.PrintWords Go.Proofs.YtfipeildlleoeaaW.PrintLast Go.Proofs.YtfipeildlleoeaaW.PrintMore Go.Proofs.Ytfipeildlleoeaa.P Go.Proofs.Ytfipeildlleoeaa.LB Go.Proofs.Ytfipeildlleoeaa.NT
def inr (lo hi : Int) : List Int → Bool
  | [] => true
  | v :: l => decide (lo ≤ v ∧ v ≤ hi) && inr lo hi l
def cl (v : Int) : Int := if v < -1048576 then -1048576 else if v > 1048576 then 1048576 else v
def rs (a b : Int) : Int := cl (a * b)
def okq (m : Int) (l r : List Int) : Bool := inr (-m) m l && l.length == 16 && inr 1 4194304 r && r.length == 16
theorem inr_mem {lo hi : Int} : ∀ {l : List Int}, inr lo hi l = true → ∀ x ∈ l, lo ≤ x ∧ x ≤ hi
  | [], _, x, hx => by cases hx
  | v :: l, h, x, hx => by
    simp only [inr, Bool.and_eq_true, decide_eq_true_eq] at h
    rcases List.mem_cons.1 hx with rfl | hx
    · exact h.1
    · exact inr_mem h.2 x hx
theorem inr_of {lo hi : Int} : ∀ {l : List Int}, (∀ x ∈ l, lo ≤ x ∧ x ≤ hi) → inr lo hi l = true
  | [], _ => rfl
  | v :: l, h => by
    simp only [inr, Bool.and_eq_true, decide_eq_true_eq]
    exact ⟨h v (List.mem_cons_self ..), inr_of fun x hx => h x (List.mem_cons_of_mem _ hx)⟩
theorem rd_mid (l r : List Int) (x : Int) : rd (l ++ x :: r) (l.length : Int) = x := by simp [rd]
theorem rd_mid' (l l' r : List Int) (x : Int) (h : l.length = l'.length) : rd (l ++ x :: r) (l'.length : Int) = x := by rw [← h]; exact rd_mid l r x
theorem clamp_eq {v lo hi : Int} (h : lo ≤ hi) : num_Clamp.f v lo hi = some (if lo ≤ v ∧ v ≤ hi then v else if v < lo then lo else hi) := by
  unfold num_Clamp.f; repeat' split
  all_goals (simp only [Option.some.injEq] <;> omega)
theorem row_loop (lo hi : Int) (h : lo ≤ hi) (whole : List Int) : ∀ (s p : List Int) (k : Nat), p.length + s.length ≤ 1000 → s.length < k →
    remap_row.l0 k whole lo hi (p ++ s) ((p ++ s).length : Int) (p.length : Int) = some (if inr lo hi s = true then ((whole.length : Int) == 16) else false)
  | [], p, k, hn, hk => by
    obtain ⟨k, rfl⟩ : ∃ j, k = j + 1 := ⟨k - 1, by omega⟩
    simp only [remap_row.l0, List.append_nil]
    rw [if_neg (by omega)]; simp [inr]
  | v :: s, p, k, hn, hk => by
    obtain ⟨k, rfl⟩ : ∃ j, k = j + 1 := ⟨k - 1, by omega⟩
    simp only [List.length_cons] at hn hk
    have hlen : ((p ++ v :: s).length : Int) = p.length + s.length + 1 := by simp only [List.length_append, List.length_cons]; omega
    simp only [remap_row.l0]
    rw [if_pos (by omega), if_pos (by omega), if_pos (by omega), rd_mid, clamp_eq h]
    simp only [Option.bind_some]
    by_cases c : lo ≤ v ∧ v ≤ hi
    · rw [if_pos c, if_pos rfl, w64 (by omega) (by omega), show inr lo hi (v :: s) = inr lo hi s by simp only [inr, decide_eq_true c, Bool.true_and]]
      have ih := row_loop lo hi h whole s (p ++ [v]) k (by simp only [List.length_append, List.length_cons, List.length_nil]; omega) (by omega)
      simp only [List.append_assoc, List.singleton_append] at ih
      rw [show (((p ++ [v]).length : Nat) : Int) = (p.length : Int) + 1 by simp only [List.length_append, List.length_cons, List.length_nil]; omega] at ih
      exact ih
    · rw [if_neg c, if_neg (by split <;> omega), show inr lo hi (v :: s) = false by simp only [inr, decide_eq_false c, Bool.false_and]]
      rfl
theorem row_eq {lo hi : Int} (h : lo ≤ hi) (l : List Int) (hl : l.length ≤ 1000) (k : Nat) (hk : l.length < k) : remap_row.f k l lo hi = some (inr lo hi l && l.length == 16) := by
  unfold remap_row.f
  have := row_loop lo hi h l l [] k (by simpa using hl) hk
  simp only [List.nil_append, List.length_nil] at this
  rw [show ((0 : Nat) : Int) = 0 from rfl] at this
  rw [this]
  have e : ((l.length : Int) == 16) = (l.length == 16) := by rw [Bool.eq_iff_iff]; simp only [beq_iff_eq]; omega
  rw [e]; cases inr lo hi l <;> simp
theorem refRow_loop (lo hi : Int) : ∀ (s p : List Int) (ok : Bool) (k : Nat), p.length + s.length ≤ 1000 → s.length < k →
    psalteryref21_Row.l0 k (p ++ s) lo hi ok (p.length : Int) = some (ok && inr lo hi s)
  | [], p, ok, k, hn, hk => by
    obtain ⟨k, rfl⟩ : ∃ j, k = j + 1 := ⟨k - 1, by omega⟩
    simp only [psalteryref21_Row.l0, List.append_nil]
    rw [if_neg (by omega)]; simp [inr]
  | v :: s, p, ok, k, hn, hk => by
    obtain ⟨k, rfl⟩ : ∃ j, k = j + 1 := ⟨k - 1, by omega⟩
    simp only [List.length_cons] at hn hk
    have hlen : ((p ++ v :: s).length : Int) = p.length + s.length + 1 := by simp only [List.length_append, List.length_cons]; omega
    have ih := fun ok => refRow_loop lo hi s (p ++ [v]) ok k (by simp only [List.length_append, List.length_cons, List.length_nil]; omega) (by omega)
    simp only [List.append_assoc, List.singleton_append] at ih
    rw [show (((p ++ [v]).length : Nat) : Int) = (p.length : Int) + 1 by simp only [List.length_append, List.length_cons, List.length_nil]; omega] at ih
    simp only [psalteryref21_Row.l0]
    rw [if_pos (by omega), if_pos (by omega : (0 : Int) ≤ (p.length : Int)), rd_mid, w64 (by omega) (by omega), ih, ih]
    cases ok with
    | false => simp
    | true =>
      by_cases c1 : v ≥ lo
      · rw [if_pos rfl, if_pos c1]; by_cases c2 : v ≤ hi
        · simp [inr, c1, c2]
        · simp [inr, c2]
      · rw [if_pos rfl, if_neg c1]; simp only [inr, decide_eq_false (show ¬ (lo ≤ v ∧ v ≤ hi) by omega), Bool.false_and, Bool.and_false]
theorem refRow_eq {lo hi : Int} (l : List Int) (hl : l.length ≤ 1000) (k : Nat) (hk : l.length < k) : psalteryref21_Row.f k l lo hi = some (inr lo hi l && l.length == 16) := by
  unfold psalteryref21_Row.f
  have := refRow_loop lo hi l [] ((l.length : Int) == 16) k (by simpa using hl) hk
  simp only [List.nil_append, List.length_nil] at this
  rw [show ((0 : Nat) : Int) = 0 from rfl] at this
  rw [this]
  have e : ((l.length : Int) == 16) = (l.length == 16) := by rw [Bool.eq_iff_iff]; simp only [beq_iff_eq]; omega
  rw [e, Bool.and_comm]
theorem quantized_eq {a b : Int} (ha : -1048576 ≤ a ∧ a ≤ 1048576) (hb : 1 ≤ b ∧ b ≤ 4194304) : remap_quantized.f a b = some (near a b) := by
  unfold remap_quantized.f
  rw [div_eq (by omega) (by omega), if_neg (by omega)]; rfl
theorem prod_bound {a b : Int} (ha : -8388608 ≤ a ∧ a ≤ 8388608) (hb : 1 ≤ b ∧ b ≤ 4194304) : -35184372088832 ≤ a * b ∧ a * b ≤ 35184372088832 := by
  have h1 : a * b ≤ 8388608 * b := Int.mul_le_mul_of_nonneg_right ha.2 (by omega)
  have h2 : -8388608 * b ≤ a * b := Int.mul_le_mul_of_nonneg_right ha.1 (by omega)
  omega
theorem restored_eq {a b : Int} (ha : -8388608 ≤ a ∧ a ≤ 8388608) (hb : 1 ≤ b ∧ b ≤ 4194304) : remap_restored.f a b = some (rs a b) := by
  have := prod_bound ha hb
  unfold remap_restored.f rs
  rw [w64 (by omega) (by omega), clamp_eq (by omega)]
  simp only [Option.bind_some]
  unfold cl; repeat' split
  all_goals (simp only [Option.some.injEq] <;> omega)
theorem refClamp_eq (v : Int) : psalteryref03_Clamp.f v (-1048576) 1048576 = some (cl v) := by
  unfold psalteryref03_Clamp.f cl; repeat' split
  all_goals (simp only [Option.some.injEq] <;> omega)
theorem over_near : ∀ (s t p q out : List Int) (k : Nat), p.length = q.length → s.length = t.length → p.length + s.length ≤ 1000 → out.length ≤ p.length → s.length < k → inr (-1048576) 1048576 s = true → inr 1 4194304 t = true →
    remap_over_int64_by_remap_quantized.l0 k (q ++ t) out (p ++ s) ((p ++ s).length : Int) (p.length : Int) = some (out ++ List.zipWith near s t)
  | [], [], p, q, out, k, hp, _, hn, ho, hk, _, _ => by
    obtain ⟨k, rfl⟩ : ∃ j, k = j + 1 := ⟨k - 1, by omega⟩
    simp only [remap_over_int64_by_remap_quantized.l0, List.append_nil]
    rw [if_neg (by omega)]; simp
  | x :: s, y :: t, p, q, out, k, hp, hl, hn, ho, hk, hs, ht => by
    obtain ⟨k, rfl⟩ : ∃ j, k = j + 1 := ⟨k - 1, by omega⟩
    simp only [List.length_cons] at hl hn hk
    simp only [inr, Bool.and_eq_true, decide_eq_true_eq] at hs ht
    have hlen : ((p ++ x :: s).length : Int) = p.length + s.length + 1 := by simp only [List.length_append, List.length_cons]; omega
    have hlen' : ((q ++ y :: t).length : Int) = q.length + t.length + 1 := by simp only [List.length_append, List.length_cons]; omega
    simp only [remap_over_int64_by_remap_quantized.l0]
    rw [if_pos (by omega), if_pos (by omega), if_pos (by omega), if_pos (by omega), rd_mid, rd_mid' q p t y hp.symm, quantized_eq hs.1 ht.1]
    simp only [Option.bind_some]
    rw [if_pos (by omega), w64 (by omega) (by omega)]
    have ih := over_near s t (p ++ [x]) (q ++ [y]) (out ++ [near x y]) k (by simp [hp]) (by omega) (by simp only [List.length_append, List.length_cons, List.length_nil]; omega) (by simp only [List.length_append, List.length_cons, List.length_nil]; omega) (by omega) hs.2 ht.2
    simp only [List.append_assoc, List.singleton_append] at ih
    rw [show (((p ++ [x]).length : Nat) : Int) = (p.length : Int) + 1 by simp only [List.length_append, List.length_cons, List.length_nil]; omega] at ih
    exact ih
theorem Quantize_eq (l r : List Int) (hl : l.length ≤ 1000) (hr : r.length ≤ 1000) (k : Nat) (hk : 1001 < k) : remap_Quantize.f k l r = some (if okq 1048576 l r = true then (List.zipWith near l r, 0) else ([], 1)) := by
  unfold remap_Quantize.f okq
  rw [row_eq (by omega) l hl k (by omega), row_eq (by omega) r hr k (by omega)]
  simp only [Option.bind_some]
  cases h1 : (inr (-1048576) 1048576 l && l.length == 16) with
  | false => rfl
  | true =>
    cases h2 : (inr 1 4194304 r && r.length == 16) with
    | false => rw [Bool.true_and, h2]; rfl
    | true =>
      rw [Bool.true_and, h2]
      simp only [if_true]
      simp only [Bool.and_eq_true, beq_iff_eq] at h1 h2
      unfold remap_over_int64_by_remap_quantized.f
      have := over_near l r [] [] [] k rfl (by omega) (by simp only [List.length_nil]; omega) (Nat.le_refl _) (by omega) h1.1 h2.1
      simp only [List.nil_append, List.length_nil] at this
      rw [show ((0 : Nat) : Int) = 0 from rfl] at this
      rw [this]; rfl
theorem refQuantize_loop : ∀ (s t p q out : List Int) (k : Nat), p.length = q.length → s.length = t.length → p.length + s.length = 16 → out.length ≤ p.length → s.length + 1 < k → inr (-1048576) 1048576 s = true → inr 1 4194304 t = true →
    psalteryref21_Quantize.l0 k (p ++ s) (q ++ t) out (p.length : Int) = some (out ++ List.zipWith near s t)
  | [], [], p, q, out, k, hp, _, hn, ho, hk, _, _ => by
    obtain ⟨k, rfl⟩ : ∃ j, k = j + 1 := ⟨k - 1, by omega⟩
    simp only [List.length_nil] at hn
    simp only [psalteryref21_Quantize.l0, List.append_nil]
    rw [if_neg (by omega)]; simp
  | x :: s, y :: t, p, q, out, k, hp, hl, hn, ho, hk, hs, ht => by
    obtain ⟨k, rfl⟩ : ∃ j, k = j + 1 := ⟨k - 1, by omega⟩
    simp only [List.length_cons] at hl hn hk
    simp only [inr, Bool.and_eq_true, decide_eq_true_eq] at hs ht
    have hlen : ((p ++ x :: s).length : Int) = p.length + s.length + 1 := by simp only [List.length_append, List.length_cons]; omega
    have hlen' : ((q ++ y :: t).length : Int) = q.length + t.length + 1 := by simp only [List.length_append, List.length_cons]; omega
    simp only [psalteryref21_Quantize.l0]
    rw [if_pos (by omega), if_pos (by omega), if_pos (by omega), if_pos (by omega), rd_mid, rd_mid' q p t y hp.symm, refDiv_eq (by omega) (by omega) (by omega) k (by omega)]
    simp only [Option.bind_some]
    rw [if_pos (by omega), w64 (by omega) (by omega)]
    have ih := refQuantize_loop s t (p ++ [x]) (q ++ [y]) (out ++ [near x y]) k (by simp [hp]) (by omega) (by simp only [List.length_append, List.length_cons, List.length_nil]; omega) (by simp only [List.length_append, List.length_cons, List.length_nil]; omega) (by omega) hs.2 ht.2
    simp only [List.append_assoc, List.singleton_append] at ih
    rw [show (((p ++ [x]).length : Nat) : Int) = (p.length : Int) + 1 by simp only [List.length_append, List.length_cons, List.length_nil]; omega] at ih
    exact ih
theorem refQuantize_eq (l r : List Int) (h : okq 1048576 l r = true) (k : Nat) (hk : 20 < k) : psalteryref21_Quantize.f k l r = some (List.zipWith near l r) := by
  simp only [okq, Bool.and_eq_true, beq_iff_eq] at h
  unfold psalteryref21_Quantize.f
  have := refQuantize_loop l r [] [] [] k rfl (by omega) (by simp only [List.length_nil]; omega) (Nat.le_refl _) (by omega) h.1.1.1 h.1.2
  simp only [List.nil_append, List.length_nil] at this
  rw [show ((0 : Nat) : Int) = 0 from rfl] at this
  exact this
theorem over_rs : ∀ (s t p q out : List Int) (k : Nat), p.length = q.length → s.length = t.length → p.length + s.length ≤ 1000 → out.length ≤ p.length → s.length < k → inr (-8388608) 8388608 s = true → inr 1 4194304 t = true →
    remap_over_int64_by_remap_restored.l0 k (q ++ t) out (p ++ s) ((p ++ s).length : Int) (p.length : Int) = some (out ++ List.zipWith rs s t)
  | [], [], p, q, out, k, hp, _, hn, ho, hk, _, _ => by
    obtain ⟨k, rfl⟩ : ∃ j, k = j + 1 := ⟨k - 1, by omega⟩
    simp only [remap_over_int64_by_remap_restored.l0, List.append_nil]
    rw [if_neg (by omega)]; simp
  | x :: s, y :: t, p, q, out, k, hp, hl, hn, ho, hk, hs, ht => by
    obtain ⟨k, rfl⟩ : ∃ j, k = j + 1 := ⟨k - 1, by omega⟩
    simp only [List.length_cons] at hl hn hk
    simp only [inr, Bool.and_eq_true, decide_eq_true_eq] at hs ht
    have hlen : ((p ++ x :: s).length : Int) = p.length + s.length + 1 := by simp only [List.length_append, List.length_cons]; omega
    have hlen' : ((q ++ y :: t).length : Int) = q.length + t.length + 1 := by simp only [List.length_append, List.length_cons]; omega
    simp only [remap_over_int64_by_remap_restored.l0]
    rw [if_pos (by omega), if_pos (by omega), if_pos (by omega), if_pos (by omega), rd_mid, rd_mid' q p t y hp.symm, restored_eq hs.1 ht.1]
    simp only [Option.bind_some]
    rw [if_pos (by omega), w64 (by omega) (by omega)]
    have ih := over_rs s t (p ++ [x]) (q ++ [y]) (out ++ [rs x y]) k (by simp [hp]) (by omega) (by simp only [List.length_append, List.length_cons, List.length_nil]; omega) (by simp only [List.length_append, List.length_cons, List.length_nil]; omega) (by omega) hs.2 ht.2
    simp only [List.append_assoc, List.singleton_append] at ih
    rw [show (((p ++ [x]).length : Nat) : Int) = (p.length : Int) + 1 by simp only [List.length_append, List.length_cons, List.length_nil]; omega] at ih
    exact ih
theorem Restore_eq (l r : List Int) (hl : l.length ≤ 1000) (hr : r.length ≤ 1000) (k : Nat) (hk : 1001 < k) : remap_Restore.f k l r = some (if okq 8388608 l r = true then (List.zipWith rs l r, 0) else ([], 1)) := by
  unfold remap_Restore.f okq
  rw [row_eq (by omega) l hl k (by omega), row_eq (by omega) r hr k (by omega)]
  simp only [Option.bind_some]
  cases h1 : (inr (-8388608) 8388608 l && l.length == 16) with
  | false => rfl
  | true =>
    cases h2 : (inr 1 4194304 r && r.length == 16) with
    | false => rw [Bool.true_and, h2]; rfl
    | true =>
      rw [Bool.true_and, h2]
      simp only [if_true]
      simp only [Bool.and_eq_true, beq_iff_eq] at h1 h2
      unfold remap_over_int64_by_remap_restored.f
      have := over_rs l r [] [] [] k rfl (by omega) (by simp only [List.length_nil]; omega) (Nat.le_refl _) (by omega) h1.1 h2.1
      simp only [List.nil_append, List.length_nil] at this
      rw [show ((0 : Nat) : Int) = 0 from rfl] at this
      rw [this]; rfl
theorem refRestore_loop : ∀ (s t p q out : List Int) (k : Nat), p.length = q.length → s.length = t.length → p.length + s.length = 16 → out.length ≤ p.length → s.length + 1 < k → inr (-8388608) 8388608 s = true → inr 1 4194304 t = true →
    psalteryref21_Restore.l0 k (p ++ s) (q ++ t) out (p.length : Int) = some (out ++ List.zipWith rs s t)
  | [], [], p, q, out, k, hp, _, hn, ho, hk, _, _ => by
    obtain ⟨k, rfl⟩ : ∃ j, k = j + 1 := ⟨k - 1, by omega⟩
    simp only [List.length_nil] at hn
    simp only [psalteryref21_Restore.l0, List.append_nil]
    rw [if_neg (by omega)]; simp
  | x :: s, y :: t, p, q, out, k, hp, hl, hn, ho, hk, hs, ht => by
    obtain ⟨k, rfl⟩ : ∃ j, k = j + 1 := ⟨k - 1, by omega⟩
    simp only [List.length_cons] at hl hn hk
    simp only [inr, Bool.and_eq_true, decide_eq_true_eq] at hs ht
    have hlen : ((p ++ x :: s).length : Int) = p.length + s.length + 1 := by simp only [List.length_append, List.length_cons]; omega
    have hlen' : ((q ++ y :: t).length : Int) = q.length + t.length + 1 := by simp only [List.length_append, List.length_cons]; omega
    simp only [psalteryref21_Restore.l0]
    rw [if_pos (by omega), if_pos (by omega), if_pos (by omega), if_pos (by omega), rd_mid, rd_mid' q p t y hp.symm, w64 (x := x * y) (by have := prod_bound hs.1 ht.1; omega) (by have := prod_bound hs.1 ht.1; omega), refClamp_eq, show cl (x * y) = rs x y from rfl]
    simp only [Option.bind_some]
    rw [if_pos (by omega), w64 (by omega) (by omega)]
    have ih := refRestore_loop s t (p ++ [x]) (q ++ [y]) (out ++ [rs x y]) k (by simp [hp]) (by omega) (by simp only [List.length_append, List.length_cons, List.length_nil]; omega) (by simp only [List.length_append, List.length_cons, List.length_nil]; omega) (by omega) hs.2 ht.2
    simp only [List.append_assoc, List.singleton_append] at ih
    rw [show (((p ++ [x]).length : Nat) : Int) = (p.length : Int) + 1 by simp only [List.length_append, List.length_cons, List.length_nil]; omega] at ih
    exact ih
theorem refRestore_eq (l r : List Int) (h : okq 8388608 l r = true) (k : Nat) (hk : 20 < k) : psalteryref21_Restore.f k l r = some (List.zipWith rs l r) := by
  simp only [okq, Bool.and_eq_true, beq_iff_eq] at h
  unfold psalteryref21_Restore.f
  have := refRestore_loop l r [] [] [] k rfl (by omega) (by simp only [List.length_nil]; omega) (Nat.le_refl _) (by omega) h.1.1.1 h.1.2
  simp only [List.nil_append, List.length_nil] at this
  rw [show ((0 : Nat) : Int) = 0 from rfl] at this
  exact this
theorem same_loop (l : List Int) (hl : l.length ≤ 1000) (d : Nat) : ∀ (k : Nat) (i : Int), 0 ≤ i → i + d = l.length → d < k → psalteryref07_Same.l0 k l l i = some true := by
  induction d with
  | zero =>
    intro k i h0 hi hk
    obtain ⟨k, rfl⟩ : ∃ j, k = j + 1 := ⟨k - 1, by omega⟩
    simp only [psalteryref07_Same.l0]; rw [if_neg (by omega)]
  | succ d ih =>
    intro k i h0 hi hk
    obtain ⟨k, rfl⟩ : ∃ j, k = j + 1 := ⟨k - 1, by omega⟩
    simp only [psalteryref07_Same.l0]; rw [if_pos (by omega), if_pos h0, if_pos (by omega), if_pos trivial, w64 (by omega) (by omega)]
    exact ih k (i + 1) (by omega) (by omega) (by omega)
theorem same_self (l : List Int) (hl : l.length ≤ 1000) (k : Nat) (hk : l.length < k) : psalteryref07_Same.f k l l = some true := by
  unfold psalteryref07_Same.f; rw [if_pos rfl]; exact same_loop l hl l.length k 0 (by omega) (by omega) hk
theorem knows21 (k : Nat) (hk : 200 ≤ k) : psalterylaw21_knows.f k = some true := at_rounds (g := fun k => psalterylaw21_knows.f k) (fun k => psalterylaw21_knows.mono k) hk psalterylaw21_knows.sure
theorem great_eq (l r : List Int) : psalterylaw21_great.f l r = some (decide (100 < l.length ∨ 100 < r.length)) := by
  unfold psalterylaw21_great.f
  by_cases h : (l.length : Int) > 100
  · rw [if_pos h, decide_eq_true (.inl (by omega))]
  · rw [if_neg h]; congr 1; rw [Bool.eq_iff_iff]; simp only [decide_eq_true_eq]; omega
theorem all_loop (v : Int) (d : Nat) : ∀ (out : List Int) (k : Nat), out.length + d = 16 → d < k → psalterylaw21_all.l0 k v out (out.length : Int) = some (out ++ List.replicate d v) := by
  induction d with
  | zero =>
    intro out k h hk
    obtain ⟨k, rfl⟩ : ∃ j, k = j + 1 := ⟨k - 1, by omega⟩
    simp only [psalterylaw21_all.l0]; rw [if_neg (by omega)]; simp
  | succ d ih =>
    intro out k h hk
    obtain ⟨k, rfl⟩ : ∃ j, k = j + 1 := ⟨k - 1, by omega⟩
    simp only [psalterylaw21_all.l0]; rw [if_pos (by omega), if_pos (by omega), w64 (by omega) (by omega)]
    have := ih (out ++ [v]) k (by simp only [List.length_append, List.length_cons, List.length_nil]; omega) (by omega)
    rw [show (((out ++ [v]).length : Nat) : Int) = (out.length : Int) + 1 by simp only [List.length_append, List.length_cons, List.length_nil]; omega] at this
    rw [this]; simp [List.replicate_succ]
theorem all_eq (v : Int) (k : Nat) (hk : 20 < k) : psalterylaw21_all.f k v = some (List.replicate 16 v) := by
  unfold psalterylaw21_all.f
  have := all_loop v 16 [] k rfl (by omega)
  simp only [List.nil_append, List.length_nil] at this
  rw [show ((0 : Nat) : Int) = 0 from rfl] at this
  exact this
theorem near_times {a b : Int} (hb : 0 < b) : near (a * b) b = a := by
  have h := near_close (a := a * b) hb
  generalize near (a * b) b = n at *
  have e : a * b - n * b = (a - n) * b := (Int.sub_mul _ _ _).symm
  have e' : n * b - a * b = (n - a) * b := (Int.sub_mul _ _ _).symm
  rw [e, e'] at h
  apply Decidable.byContradiction; intro hc
  rcases Int.lt_or_gt_of_ne hc with h1 | h1
  · have := Int.mul_le_mul_of_nonneg_right (show 1 ≤ a - n by omega) (show 0 ≤ b by omega); omega
  · have := Int.mul_le_mul_of_nonneg_right (show 1 ≤ n - a by omega) (show 0 ≤ b by omega); omega
theorem near_one (a : Int) : near a 1 = a := by have := near_times (a := a) (b := 1) (by omega); rwa [Int.mul_one] at this
theorem rs_small {a b : Int} (h : -1048576 ≤ a * b ∧ a * b ≤ 1048576) : rs a b = a * b := by unfold rs cl; rw [if_neg (by omega), if_neg (by omega)]
theorem zip_one (f : Int → Int → Int) (h : ∀ a, -1048576 ≤ a ∧ a ≤ 1048576 → f a 1 = a) : ∀ l : List Int, inr (-1048576) 1048576 l = true → List.zipWith f l (List.replicate l.length 1) = l
  | [], _ => rfl
  | x :: l, hl => by
    simp only [inr, Bool.and_eq_true, decide_eq_true_eq] at hl
    simp only [List.length_cons, List.replicate_succ, List.zipWith_cons_cons, h x hl.1, zip_one f h l hl.2]
theorem rs_in (a b : Int) : -1048576 ≤ rs a b ∧ rs a b ≤ 1048576 := by unfold rs cl; repeat' split
                                                                       all_goals omega
theorem zip_in : ∀ l r : List Int, inr (-1048576) 1048576 (List.zipWith rs l r) = true
  | [], _ => rfl
  | _ :: _, [] => rfl
  | x :: l, y :: r => by simp only [List.zipWith_cons_cons, inr, Bool.and_eq_true, decide_eq_true_eq]; exact ⟨rs_in x y, zip_in l r⟩
theorem rd_zip (f : Int → Int → Int) (l r : List Int) (i : Nat) (h : i < l.length) (h' : i < r.length) : rd (List.zipWith f l r) (i : Int) = f (rd l i) (rd r i) := by
  simp [rd, List.getD_eq_getElem?_getD, List.getElem?_zipWith, h, h']
theorem rd_in {lo hi : Int} {l : List Int} (h : inr lo hi l = true) (i : Nat) (hi' : i < l.length) : lo ≤ rd l i ∧ rd l i ≤ hi := by
  have : rd l i ∈ l := by simp [rd, List.getD_eq_getElem?_getD, hi']
  exact inr_mem h _ this
end Go.Proofs.Ytfipeildlleoeaa.LR
