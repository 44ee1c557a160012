/- Plain theory of bits, with no program in sight. -/
namespace Go.Proofs.Ytpdfdaoohknfoaa.BT
set_option linter.unusedVariables false
set_option linter.unusedSimpArgs false
def nth (l : List Int) (i : Nat) : Int := l.getD i 0
theorem nth_lt {l : List Int} {i : Nat} (h : i < l.length) : nth l i = l[i] := by simp [nth, h]
theorem nth_ge {l : List Int} {i : Nat} (h : l.length ≤ i) : nth l i = 0 := by simp [nth, h]
theorem nth_mem {l : List Int} {i : Nat} (h : i < l.length) : nth l i ∈ l := by rw [nth_lt h]; exact List.getElem_mem h
theorem ext_nth {l m : List Int} (hl : l.length = m.length) (h : ∀ i, i < l.length → nth l i = nth m i) : l = m := by
  apply List.ext_getElem hl
  intro i h1 h2
  have := h i h1
  rwa [nth_lt h1, nth_lt h2] at this
theorem nth_append (l m : List Int) (i : Nat) : nth (l ++ m) i = if i < l.length then nth l i else nth m (i - l.length) := by
  unfold nth List.getD; rw [List.getElem?_append]; split <;> rfl
theorem nth_snoc (l : List Int) (b : Int) (i : Nat) : nth (l ++ [b]) i = if i < l.length then nth l i else if i = l.length then b else 0 := by
  rw [nth_append]; split
  · rfl
  · split
    · rename_i e; subst e; simp [nth]
    · rw [nth_ge]; simp; omega
theorem nth_map_range (f : Nat → Int) (n i : Nat) : nth ((List.range n).map f) i = if i < n then f i else 0 := by
  by_cases h : i < n
  · rw [if_pos h, nth_lt (by simpa using h)]; simp
  · rw [if_neg h, nth_ge (by simpa using h)]
theorem nth_take (l : List Int) (n i : Nat) : nth (l.take n) i = if i < n then nth l i else 0 := by
  unfold nth List.getD; rw [List.getElem?_take]; split <;> rfl
theorem nth_set (l : List Int) (j i : Nat) (x : Int) (hj : j < l.length) : nth (l.set j x) i = if i = j then x else nth l i := by
  unfold nth List.getD; rw [List.getElem?_set]
  by_cases e : i = j
  · subst e; simp [hj]
  · rw [if_neg (by omega), if_neg e]
/-- bit number i of bytes -/
def bitN (l : List Int) (i : Nat) : Int := nth l (i / 8) / 2 ^ (i % 8) % 2
def bitsL (l : List Int) : List Int := (List.range (8 * l.length)).map (bitN l)
def byteOf (f : Nat → Int) : Int := f 0 + 2 * f 1 + 4 * f 2 + 8 * f 3 + 16 * f 4 + 32 * f 5 + 64 * f 6 + 128 * f 7
def byteAt (l : List Int) (j : Nat) : Int := byteOf fun k => nth l (8 * j + k)
def pack (l : List Int) : List Int := (List.range ((l.length + 7) / 8)).map (byteAt l)
def IsBit (x : Int) : Prop := x = 0 ∨ x = 1
def Bits01 (l : List Int) : Prop := ∀ x ∈ l, IsBit x
def Bytes (l : List Int) : Prop := ∀ x ∈ l, 0 ≤ x ∧ x < 256

theorem bitN_bit (l : List Int) (i : Nat) : IsBit (bitN l i) := by unfold bitN IsBit; omega
theorem bitsL_length (l : List Int) : (bitsL l).length = 8 * l.length := by simp [bitsL]
theorem bitsL_bits (l : List Int) : Bits01 (bitsL l) := by
  intro x hx; simp only [bitsL, List.mem_map] at hx; obtain ⟨i, _, rfl⟩ := hx; exact bitN_bit l i
theorem bitN_beyond (l : List Int) (i : Nat) (h : 8 * l.length ≤ i) : bitN l i = 0 := by
  unfold bitN; rw [nth_ge (by omega)]; simp
theorem bitsL_nth (l : List Int) (i : Nat) : nth (bitsL l) i = bitN l i := by
  unfold bitsL; rw [nth_map_range]; split
  · rfl
  · rw [bitN_beyond l i (by omega)]
theorem pack_length (l : List Int) : (pack l).length = (l.length + 7) / 8 := by simp [pack]
theorem nth_bit {l : List Int} (h : Bits01 l) (i : Nat) : IsBit (nth l i) := by
  by_cases hi : i < l.length
  · exact h _ (nth_mem hi)
  · rw [nth_ge (by omega)]; exact .inl rfl
theorem nth_byte {l : List Int} (h : Bytes l) (i : Nat) : 0 ≤ nth l i ∧ nth l i < 256 := by
  by_cases hi : i < l.length
  · exact h _ (nth_mem hi)
  · rw [nth_ge (by omega)]; omega
theorem pack_nth (l : List Int) (j : Nat) : nth (pack l) j = byteAt l j := by
  unfold pack; rw [nth_map_range]; split
  · rfl
  · unfold byteAt byteOf; simp only
    repeat rw [nth_ge (l := l) (by omega)]
    rfl
theorem byteOf_range {f : Nat → Int} (a : ∀ i, IsBit (f i)) : 0 ≤ byteOf f ∧ byteOf f < 256 := by
  have a0 := a 0; have a1 := a 1; have a2 := a 2; have a3 := a 3
  have a4 := a 4; have a5 := a 5; have a6 := a 6; have a7 := a 7
  unfold byteOf IsBit at *; omega
theorem byteAt_range {l : List Int} (h : Bits01 l) (j : Nat) : 0 ≤ byteAt l j ∧ byteAt l j < 256 := byteOf_range fun _ => nth_bit h _
theorem pack_bytes {l : List Int} (h : Bits01 l) : Bytes (pack l) := by
  intro x hx; simp only [pack, List.mem_map] at hx; obtain ⟨i, _, rfl⟩ := hx; exact byteAt_range h i
theorem byteOf_bit {f : Nat → Int} (a : ∀ i, IsBit (f i)) (i : Nat) (hi : i < 8) : byteOf f / 2 ^ i % 2 = f i := by
  have a0 := a 0; have a1 := a 1; have a2 := a 2; have a3 := a 3
  have a4 := a 4; have a5 := a 5; have a6 := a 6; have a7 := a 7
  have hr : i = 0 ∨ i = 1 ∨ i = 2 ∨ i = 3 ∨ i = 4 ∨ i = 5 ∨ i = 6 ∨ i = 7 := by omega
  have bd : ∀ i, 0 ≤ f i ∧ f i ≤ 1 := fun i => by have := a i; unfold IsBit at this; omega
  clear a a0 a1 a2 a3 a4 a5 a6 a7
  have a0 := bd 0; have a1 := bd 1; have a2 := bd 2; have a3 := bd 3
  have a4 := bd 4; have a5 := bd 5; have a6 := bd 6; have a7 := bd 7
  clear bd
  unfold byteOf
  rcases hr with e | e | e | e | e | e | e | e <;> subst e <;> simp only [Int.reducePow] <;> omega
theorem bitN_pack {l : List Int} (h : Bits01 l) (i : Nat) : bitN (pack l) i = nth l i := by
  unfold bitN; rw [pack_nth]; unfold byteAt
  rw [byteOf_bit (fun k => nth_bit h _) _ (by omega)]
  congr 1; omega
theorem byteOf_bits {x : Int} (h : 0 ≤ x ∧ x < 256) : byteOf (fun k => x / 2 ^ k % 2) = x := by
  unfold byteOf; simp only [Int.reducePow]; omega
theorem byteAt_bitN {B : List Int} (h : Bytes B) (l : List Int) (hl : ∀ i, nth l i = bitN B i) (j : Nat) : byteAt l j = nth B j := by
  rw [← byteOf_bits (nth_byte h j)]
  unfold byteAt byteOf; simp only [hl]; unfold bitN
  simp only [show (8 * j + 0) / 8 = j by omega, show (8 * j + 1) / 8 = j by omega, show (8 * j + 2) / 8 = j by omega, show (8 * j + 3) / 8 = j by omega,
    show (8 * j + 4) / 8 = j by omega, show (8 * j + 5) / 8 = j by omega, show (8 * j + 6) / 8 = j by omega, show (8 * j + 7) / 8 = j by omega,
    show (8 * j + 0) % 8 = 0 by omega, show (8 * j + 1) % 8 = 1 by omega, show (8 * j + 2) % 8 = 2 by omega, show (8 * j + 3) % 8 = 3 by omega,
    show (8 * j + 4) % 8 = 4 by omega, show (8 * j + 5) % 8 = 5 by omega, show (8 * j + 6) % 8 = 6 by omega, show (8 * j + 7) % 8 = 7 by omega]
/-- a writer that is right, in one's own words -/
def RightW (B : List Int) (N : Int) : Prop := 0 ≤ N ∧ N ≤ 32000 ∧ (B.length : Int) = (N + 7) / 8 ∧ ∀ i : Nat, N ≤ i → bitN B i = 0
def bitsTo (B : List Int) (N : Int) : List Int := (bitsL B).take N.toNat
theorem bitsTo_bits (B : List Int) (N : Int) : Bits01 (bitsTo B N) := fun x hx => bitsL_bits B x (List.mem_of_mem_take hx)
theorem bitsTo_length {B : List Int} {N : Int} (h : RightW B N) : (bitsTo B N).length = N.toNat := by
  obtain ⟨h0, h1, h2, h3⟩ := h
  unfold bitsTo; rw [List.length_take, bitsL_length]; omega
theorem pack_bitsTo {B : List Int} {N : Int} (hB : Bytes B) (h : RightW B N) : pack (bitsTo B N) = B := by
  have hl := bitsTo_length h
  have hb : ∀ i, nth (bitsTo B N) i = bitN B i := by
    intro i; unfold bitsTo; rw [nth_take]; split
    · exact bitsL_nth B i
    · rw [h.2.2.2 i (by omega)]
  obtain ⟨h0, h1, h2, h3⟩ := h
  apply ext_nth
  · rw [pack_length, hl]; omega
  · intro j hj; rw [pack_nth]; exact byteAt_bitN hB _ hb j
theorem right_pack {l : List Int} (h : Bits01 l) (hl : l.length ≤ 32000) : RightW (pack l) l.length := by
  refine ⟨by omega, by omega, by rw [pack_length]; omega, fun i hi => ?_⟩
  rw [bitN_pack h, nth_ge (by omega)]
theorem bitsTo_pack {l : List Int} (h : Bits01 l) : bitsTo (pack l) l.length = l := by
  unfold bitsTo
  apply ext_nth
  · rw [List.length_take, bitsL_length, pack_length]; simp; omega
  · intro j hj
    rw [List.length_take] at hj
    rw [nth_take, if_pos (by omega), bitsL_nth, bitN_pack h]
theorem pack_snoc_new {l : List Int} (b : Int) (h : l.length % 8 = 0) : pack (l ++ [b]) = pack l ++ [b] := by
  apply ext_nth
  · rw [List.length_append, pack_length, pack_length, List.length_append]; simp only [List.length_cons, List.length_nil]; omega
  · intro j hj
    rw [pack_length, List.length_append] at hj; simp only [List.length_cons, List.length_nil] at hj
    rw [pack_nth, nth_snoc, pack_length, pack_nth]
    by_cases hc : j < (l.length + 7) / 8
    · rw [if_pos hc]
      unfold byteAt byteOf; simp only [nth_snoc]
      repeat rw [if_pos (by omega)]
    · rw [if_neg hc, if_pos (by omega)]
      unfold byteAt byteOf; simp only [nth_snoc]
      rw [if_neg (by omega), if_pos (by omega)]
      repeat rw [if_neg (by omega), if_neg (by omega)]
      omega
theorem pack_snoc_in {l : List Int} (b : Int) (h : ¬ l.length % 8 = 0) : pack (l ++ [b]) = (pack l).set (l.length / 8) (byteAt l (l.length / 8) + b * 2 ^ (l.length % 8)) := by
  have hlen : (pack l).length = (l.length + 7) / 8 := pack_length l
  apply ext_nth
  · rw [List.length_set, pack_length, pack_length, List.length_append]; simp only [List.length_cons, List.length_nil]; omega
  · intro j hj
    rw [pack_length, List.length_append] at hj; simp only [List.length_cons, List.length_nil] at hj
    rw [nth_set _ _ _ _ (by omega), pack_nth, pack_nth]
    by_cases e : j = l.length / 8
    · rw [if_pos e, ← e]
      have hr : l.length % 8 = 1 ∨ l.length % 8 = 2 ∨ l.length % 8 = 3 ∨ l.length % 8 = 4 ∨ l.length % 8 = 5 ∨ l.length % 8 = 6 ∨ l.length % 8 = 7 := by omega
      have hn : ∀ k, nth (l ++ [b]) (8 * j + k) = nth l (8 * j + k) + if k = l.length % 8 then b else 0 := by
        intro k; rw [nth_snoc]
        by_cases h1 : 8 * j + k < l.length
        · rw [if_pos h1, if_neg (by omega)]; omega
        · rw [if_neg h1, nth_ge (by omega)]
          by_cases h2 : k = l.length % 8
          · rw [if_pos (by omega), if_pos h2]; omega
          · rw [if_neg (by omega), if_neg h2]; omega
      unfold byteAt byteOf; simp only [hn]
      rcases hr with e | e | e | e | e | e | e <;> rw [e] <;> simp only [Int.reducePow] <;> simp <;> omega
    · rw [if_neg e]
      unfold byteAt byteOf; simp only [nth_snoc]
      repeat rw [if_pos (by omega)]
theorem byteAt_low {l : List Int} (h : Bits01 l) (hr : ¬ l.length % 8 = 0) : 0 ≤ byteAt l (l.length / 8) ∧ byteAt l (l.length / 8) < 2 ^ (l.length % 8) := by
  have hz : ∀ k, l.length % 8 ≤ k → nth l (8 * (l.length / 8) + k) = 0 := fun k hk => nth_ge (by omega)
  have a := fun k => nth_bit h (8 * (l.length / 8) + k)
  have a0 := a 0; have a1 := a 1; have a2 := a 2; have a3 := a 3
  have a4 := a 4; have a5 := a 5; have a6 := a 6; have a7 := a 7
  have z1 := hz 1; have z2 := hz 2; have z3 := hz 3; have z4 := hz 4; have z5 := hz 5; have z6 := hz 6; have z7 := hz 7
  unfold byteAt byteOf IsBit at *
  have hr : l.length % 8 = 1 ∨ l.length % 8 = 2 ∨ l.length % 8 = 3 ∨ l.length % 8 = 4 ∨ l.length % 8 = 5 ∨ l.length % 8 = 6 ∨ l.length % 8 = 7 := by omega
  rcases hr with e | e | e | e | e | e | e <;> rw [e] at z1 z2 z3 z4 z5 z6 z7 ⊢ <;> simp only [Int.reducePow] <;> simp only [Nat.reduceLeDiff, Nat.le_refl, forall_const] at z1 z2 z3 z4 z5 z6 z7 <;> omega
/-- a number's bits, from the lowest one on -/
def vbits (v : Int) (n : Nat) : List Int := (List.range n).map fun i => v / 2 ^ i % 2
/-- the number of bits, from the lowest one on -/
def numOf : List Int → Int
  | [] => 0
  | b :: l => b + 2 * numOf l
theorem vbits_length (v : Int) (n : Nat) : (vbits v n).length = n := by simp [vbits]
theorem vbits_bits (v : Int) (n : Nat) : Bits01 (vbits v n) := by
  intro x hx; simp only [vbits, List.mem_map] at hx; obtain ⟨i, _, rfl⟩ := hx; unfold IsBit; omega
theorem vbits_zero (v : Int) : vbits v 0 = [] := rfl
theorem vbits_succ (v : Int) (n : Nat) : vbits v (n + 1) = vbits v n ++ [v / 2 ^ n % 2] := by simp [vbits, List.range_succ]
theorem vbits_cons (v : Int) (n : Nat) : vbits v (n + 1) = v % 2 :: vbits (v / 2) n := by
  unfold vbits
  rw [List.range_succ_eq_map, List.map_cons, List.map_map]
  congr 1
  · simp
  · apply List.map_congr_left; intro i _
    simp only [Function.comp]
    rw [show (2:Int) ^ (i + 1) = 2 * 2 ^ i from by rw [Int.pow_succ, Int.mul_comm], ← Int.ediv_ediv_of_nonneg (by omega)]
theorem numOf_vbits (n : Nat) : ∀ v : Int, numOf (vbits v n) = v % 2 ^ n := by
  induction n with
  | zero => intro v; simp [vbits, numOf]
  | succ n ih =>
    intro v
    rw [vbits_cons, numOf, ih, Int.pow_succ, Int.mul_comm (2 ^ n) 2]
    have hp : (0:Int) < 2 ^ n := Int.pow_pos (by omega)
    have h1 := Int.mul_ediv_add_emod (v / 2) (2 ^ n)
    have h2 := Int.mul_ediv_add_emod v (2 * 2 ^ n)
    rw [← Int.ediv_ediv_of_nonneg (by omega)] at h2
    have h3 : 2 * 2 ^ n * (v / 2 / 2 ^ n) = 2 * (2 ^ n * (v / 2 / 2 ^ n)) := by rw [Int.mul_assoc]
    omega
theorem numOf_range {l : List Int} : Bits01 l → 0 ≤ numOf l ∧ numOf l < 2 ^ l.length := by
  induction l with
  | nil => intro _; simp [numOf]
  | cons b l ih =>
    intro h
    have := ih fun x hx => h x (List.mem_cons_of_mem _ hx)
    have hb := h b (List.mem_cons_self ..)
    rw [numOf, List.length_cons, Int.pow_succ]
    unfold IsBit at hb; omega
theorem numOf_append (l m : List Int) : numOf (l ++ m) = numOf l + 2 ^ l.length * numOf m := by
  induction l with
  | nil => simp [numOf]
  | cons b l ih =>
    rw [List.cons_append, numOf, ih, numOf, List.length_cons, Int.pow_succ, Int.mul_comm (2 ^ l.length) 2, Int.mul_assoc]; omega
theorem numOf_snoc (l : List Int) (b : Int) : numOf (l ++ [b]) = numOf l + b * 2 ^ l.length := by
  rw [numOf_append]; simp [numOf, Int.mul_comm]
theorem vbits_numOf {l : List Int} : Bits01 l → vbits (numOf l) l.length = l := by
  induction l with
  | nil => intro _; rfl
  | cons b l ih =>
    intro h
    have hb := h b (List.mem_cons_self ..)
    rw [List.length_cons, vbits_cons, numOf]
    unfold IsBit at hb
    rw [show (b + 2 * numOf l) / 2 = numOf l by omega, ih fun x hx => h x (List.mem_cons_of_mem _ hx)]
    congr 1; omega
theorem vbits_add (v : Int) (m n : Nat) : vbits v (m + n) = vbits v m ++ vbits (v / 2 ^ m) n := by
  induction m generalizing v with
  | zero => simp [vbits]
  | succ m ih =>
    rw [show m + 1 + n = (m + n) + 1 by omega, vbits_cons, vbits_cons, ih, List.cons_append]
    rw [Int.pow_succ, Int.mul_comm (2 ^ m) 2, Int.ediv_ediv_of_nonneg (by omega)]
theorem vbits_emod (v : Int) (m : Nat) : vbits (v % 2 ^ m) m = vbits v m := by
  rw [← numOf_vbits m v]
  have := vbits_numOf (vbits_bits v m)
  rwa [vbits_length] at this
theorem bits_append {l m : List Int} (h : Bits01 l) (k : Bits01 m) : Bits01 (l ++ m) := fun x hx => by
  rcases List.mem_append.1 hx with e | e
  · exact h x e
  · exact k x e
end Go.Proofs.Ytpdfdaoohknfoaa.BT
