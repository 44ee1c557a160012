/- Words, walks and what they compute, as the law's proof needs them. -/
import Derived.Test.YtdajlfijkbafiaaD4
import Derived.Test.YtdajlfijkbafiaaD7
import Derived.Test.YtdajlfijkbafiaaD3
import Derived.Test.YtdajlfijkbafiaaD6
import Derived.Test.YtdajlfijkbafiaaD2
import Derived.Deep.Slices
import Derived.Lib.SmallJoins
import Derived.WideShapes
set_option linter.unusedVariables false
set_option linter.unusedSimpArgs false
namespace Go.Proofs.Ytdajlfijkbafiaa.LW
open Go.RowKit Go.Proofs.YtdajlfijkbafiaaW.PrintWords Go.Proofs.YtdajlfijkbafiaaW.PrintLast Go.Proofs.YtdajlfijkbafiaaW.PrintMore Go.Proofs.Ytdajlfijkbafiaa.P Go.Proofs.Ytdajlfijkbafiaa.LB Go.Proofs.Ytdajlfijkbafiaa.NT
def clp (v : Int) : Int := if v < -8388608 then -8388608 else if v > 8388608 then 8388608 else v
theorem clp_in (v : Int) : -8388608 ≤ clp v ∧ clp v ≤ 8388608 := by
  unfold clp; repeat' split
  all_goals omega
theorem clamp_clp (v : Int) : num_Clamp.f v (-8388608) 8388608 = some (clp v) := by
  unfold num_Clamp.f clp; repeat' split
  all_goals (simp only [Option.some.injEq] <;> omega)
theorem near_loop : ∀ (s p acc : List Int) (k : Nat), p.length + s.length ≤ 1000 → acc.length = p.length → s.length < k → vcodec_near.l0 k acc (p ++ s) ((p ++ s).length : Int) (p.length : Int) = some (acc ++ s.map clp)
  | [], p, acc, k, h, ha, hk => by
    obtain ⟨k, rfl⟩ : ∃ j, k = j + 1 := ⟨k - 1, by omega⟩
    simp only [vcodec_near.l0, List.append_nil, List.map_nil]
    rw [if_neg (by omega)]
  | v :: s, p, acc, k, h, ha, hk => by
    obtain ⟨k, rfl⟩ : ∃ j, k = j + 1 := ⟨k - 1, by omega⟩
    simp only [List.length_cons] at h hk
    have hlen : ((p ++ v :: s).length : Int) = p.length + s.length + 1 := by simp only [List.length_append, List.length_cons]; omega
    have ih := near_loop s (p ++ [v]) (acc ++ [clp v]) k (by simp only [List.length_append, List.length_cons, List.length_nil]; omega) (by simp only [List.length_append, List.length_cons, List.length_nil]; omega) (by omega)
    simp only [List.append_assoc, List.singleton_append] at ih
    rw [show (((p ++ [v]).length : Nat) : Int) = (p.length : Int) + 1 by simp only [List.length_append, List.length_cons, List.length_nil]; omega] at ih
    simp only [vcodec_near.l0]
    rw [if_pos (by omega), if_pos (by omega), if_pos (by omega), LQ.rd_mid, clamp_clp, Option.bind_some, if_pos (by omega), w64 (by omega) (by omega), List.map_cons]
    exact ih
theorem near_eq (r : List Int) (h : r.length ≤ 1000) (k : Nat) (hk : r.length < k) : vcodec_near.f k r = some (r.map clp) := by
  unfold vcodec_near.f
  exact near_loop r [] [] k (by simpa using h) rfl hk
def decCh (p r : List Int) : List Int := if p.length = 0 then List.replicate 16 0 else List.zipWith LR.rs (r.map clp) (floorL p)
def parted : List (List Int) → List (List Int) → List (List Int)
  | [p0, p1], [r0, r1] => if p0.length = 0 ∨ p1.length = 0 then [r0, r1] else [(LC.prs LC.pt r0 r1).1, (LC.prs LC.pt r0 r1).2]
  | _, R => R
theorem parted_two {p0 p1 r0 r1 : List Int} (h : ¬ (p0.length = 0 ∨ p1.length = 0)) : parted [p0, p1] [r0, r1] = [(LC.prs LC.pt r0 r1).1, (LC.prs LC.pt r0 r1).2] := by
  show (if _ then _ else _) = _
  rw [if_neg h]
theorem parted_not {p0 p1 r0 r1 : List Int} (h : p0.length = 0 ∨ p1.length = 0) : parted [p0, p1] [r0, r1] = [r0, r1] := by
  show (if _ then _ else _) = _
  rw [if_pos h]
def decX (P R : List (List Int)) : List (List Int) := List.zipWith decCh P (parted P R)
theorem chan_cases {fl p r : List Int} (h : LK.chanOk fl p r = true) : (p = [] ∧ r = []) ∨ (p.length = 6 ∧ LF.okl 6 p = true ∧ r.length = 16 ∧ (∀ v ∈ r, -4194303 ≤ v ∧ v ≤ 4194303)) := by
  simp only [LK.chanOk, Bool.or_eq_true, Bool.and_eq_true, decide_eq_true_eq] at h
  rcases h with h | h
  · exact .inl ⟨List.length_eq_zero_iff.1 h.1, List.length_eq_zero_iff.1 h.2⟩
  · refine .inr ⟨h.1.1.1, ?_, h.1.2, fun v hv => ?_⟩
    · unfold LF.okl
      rw [Bool.and_eq_true, beq_iff_eq]
      refine ⟨LF.inr_of fun g hg => ?_, h.1.1.1⟩
      have := List.all_eq_true.1 h.1.1.2 g hg
      simp only [LK.postOk, Bool.and_eq_true, decide_eq_true_eq] at this
      exact this.1
    · have := List.all_eq_true.1 h.2 v hv
      simpa [LK.resOk] using this
theorem okq_clp {p r : List Int} (hp : LF.okl 6 p = true) (hr : r.length = 16) : LR.okq 8388608 (r.map clp) (floorL p) = true := by
  simp only [LR.okq, Bool.and_eq_true, beq_iff_eq]
  refine ⟨⟨⟨LR.inr_of fun v hv => ?_, by rw [List.length_map]; exact hr⟩, floorL_in hp⟩, floorL_length p⟩
  obtain ⟨u, _, rfl⟩ := List.mem_map.1 hv
  exact clp_in u
theorem decode_step (X P : List (List Int)) (hP : P.length ≤ 1000) (i : Nat) (hi : i < P.length) (hi2 : i < X.length) {p r : List Int} (hp : rd_L1 P (i : Int) = p) (hr : rd_L2 X (i : Int) = r) (h : p = [] ∨ (p.length = 6 ∧ LF.okl 6 p = true ∧ r.length = 16)) (out : List (List Int)) (ho : out.length ≤ 1000) (k : Nat) (hk : 2000 < k) :
    vcodec_Decode.l0 (k + 1) X P (P.length : Int) (i : Int) out = vcodec_Decode.l0 k X P (P.length : Int) ((i + 1 : Nat) : Int) (out ++ [decCh p r]) := by
  conv => lhs; unfold vcodec_Decode.l0
  rw [if_pos (by omega), if_pos (by omega), if_pos (by omega), if_pos (by omega), hp, hr, w64 (x := (i : Int) + 1) (by omega) (by omega)]
  rcases h with rfl | ⟨h1, h2, h3⟩
  · rw [if_neg (by simp), if_pos (by omega)]; rfl
  · rw [if_pos (by omega), floor_is h2 k (by omega), Option.bind_some, if_pos (by omega), near_eq r (by omega) k (by omega), Option.bind_some]
    show (remap_Restore.f k (r.map clp) (floorL p)).bind _ = _
    rw [LR.Restore_eq _ _ (by rw [List.length_map]; omega) (by rw [floorL_length]; omega) k (by omega), if_pos (okq_clp h2 h3), Option.bind_some, if_pos (by omega)]
    have e : decCh p r = List.zipWith LR.rs (r.map clp) (floorL p) := by unfold decCh; rw [if_neg (by omega)]
    rw [e]; rfl
theorem chan_part {fl p r r' : List Int} (h : LK.chanOk fl p r = true) (hr : r'.length = r.length) : p = [] ∨ (p.length = 6 ∧ LF.okl 6 p = true ∧ r'.length = 16) := by
  rcases chan_cases h with ⟨e, _⟩ | ⟨h1, h2, h3, _⟩
  · exact .inl e
  · exact .inr ⟨h1, h2, by omega⟩
theorem body_cases {c q : Int} {fl rs : List Int} {P R : List (List Int)} (h : LK.rightBd c q fl rs P R = true) : (c = 1 ∧ ∃ p r, P = [p] ∧ R = [r] ∧ LK.chanOk fl p r = true) ∨ (c = 2 ∧ ∃ p0 p1 r0 r1, P = [p0, p1] ∧ R = [r0, r1] ∧ LK.chanOk fl p0 r0 = true ∧ LK.chanOk fl p1 r1 = true) := by
  obtain ⟨h1, h2, h3, h4⟩ := LK.rightBd_parts h
  obtain ⟨a1, a2, _⟩ := LV.right_parts h1
  match P, R, h2, h3, h4 with
  | [], _, h2, _, _ => simp only [List.length_nil] at h2; omega
  | [p], [r], h2, _, h4 =>
    simp only [List.length_cons, List.length_nil] at h2
    simp only [LK.chansOk, Bool.and_true] at h4
    exact .inl ⟨by omega, p, r, rfl, rfl, h4⟩
  | [p0, p1], [r0, r1], h2, _, h4 =>
    simp only [List.length_cons, List.length_nil] at h2
    simp only [LK.chansOk, Bool.and_true, Bool.and_eq_true] at h4
    exact .inr ⟨by omega, p0, p1, r0, r1, rfl, rfl, h4.1, h4.2⟩
  | p :: P, [], h2, h3, _ => simp only [List.length_nil] at h3; omega
  | [p], r0 :: r1 :: R, h2, h3, _ => simp only [List.length_cons, List.length_nil] at h2 h3; omega
  | p0 :: p1 :: P, [r], h2, h3, _ => simp only [List.length_cons, List.length_nil] at h2 h3; omega
  | [p0, p1], r0 :: r1 :: r2 :: R, h2, h3, _ => simp only [List.length_cons, List.length_nil] at h2 h3; omega
  | p0 :: p1 :: p2 :: P, r0 :: r1 :: R, h2, h3, _ => simp only [List.length_cons] at h2; omega
theorem decode_one {p r : List Int} (h : p = [] ∨ (p.length = 6 ∧ LF.okl 6 p = true ∧ r.length = 16)) (k : Nat) (hk : 3000 < k) :
    vcodec_Decode.l0 k [r] [p] 1 0 [] = some ([decCh p r], 0) := by
  obtain ⟨k, rfl⟩ : ∃ j, k = j + 2 := ⟨k - 2, by omega⟩
  have s0 := decode_step [r] [p] (by simp) 0 (by simp) (by simp) (p := p) (r := r) rfl rfl h [] (by simp) (k + 1) (by omega)
  refine Eq.trans s0 ?_
  simp only [vcodec_Decode.l0]
  rw [if_neg (by simp)]; rfl
theorem decode_two {p0 p1 r0 r1 : List Int} (h0 : p0 = [] ∨ (p0.length = 6 ∧ LF.okl 6 p0 = true ∧ r0.length = 16)) (h1 : p1 = [] ∨ (p1.length = 6 ∧ LF.okl 6 p1 = true ∧ r1.length = 16)) (k : Nat) (hk : 3000 < k) :
    vcodec_Decode.l0 k [r0, r1] [p0, p1] 2 0 [] = some ([decCh p0 r0, decCh p1 r1], 0) := by
  obtain ⟨k, rfl⟩ : ∃ j, k = j + 3 := ⟨k - 3, by omega⟩
  have s0 := decode_step [r0, r1] [p0, p1] (by simp) 0 (by simp) (by simp) (p := p0) (r := r0) rfl rfl h0 [] (by simp) (k + 2) (by omega)
  have s1 := decode_step [r0, r1] [p0, p1] (by simp) 1 (by simp) (by simp) (p := p1) (r := r1) rfl rfl h1 [decCh p0 r0] (by simp) (k + 1) (by omega)
  refine Eq.trans s0 (Eq.trans s1 ?_)
  simp only [vcodec_Decode.l0]
  rw [if_neg (by simp)]; rfl
theorem allf_in {m b : Int} (hb : b ≤ m) : ∀ l r : List Int, (∀ v ∈ l, -b ≤ v ∧ v ≤ b) → (∀ v ∈ r, -b ≤ v ∧ v ≤ b) → LC.allf m l r = true
  | [], r, _, _ => by cases r <;> rfl
  | x :: l, [], _, _ => rfl
  | x :: l, y :: r, h1, h2 => by
    have a := h1 x (List.mem_cons_self ..)
    have b' := h2 y (List.mem_cons_self ..)
    simp only [LC.allf, Bool.and_eq_true, decide_eq_true_eq]
    exact ⟨⟨by omega, by omega, by omega, by omega⟩, allf_in hb l r (fun v hv => h1 v (List.mem_cons_of_mem _ hv)) (fun v hv => h2 v (List.mem_cons_of_mem _ hv))⟩
theorem decode_eq (c q : Int) (fl rs : List Int) (P R : List (List Int)) (hP : ∀ p ∈ P, p.length ≤ 1000) (hR : ∀ r ∈ R, r.length ≤ 1000) (k : Nat) (hk : 6000 < k) : vcodec_Decode.f k c q fl rs P R = some (if LK.rightBd c q fl rs P R = true then (decX P R, 0) else ([], 1)) := by
  obtain ⟨k, rfl⟩ : ∃ j, k = j + 1 := ⟨k - 1, by omega⟩
  have two : ∀ a b : List Int, (([a, b] : List (List Int)).length : Int) = 2 := fun a b => rfl
  have l0 : ∀ a b : List Int, rd_L1 [a, b] 0 = a := fun a b => rfl
  have l1 : ∀ a b : List Int, rd_L1 [a, b] 1 = b := fun a b => rfl
  have m0 : ∀ a b : List Int, rd_L2 [a, b] 0 = a := fun a b => rfl
  have m1 : ∀ a b : List Int, rd_L2 [a, b] 1 = b := fun a b => rfl
  unfold vcodec_Decode.f
  rw [LK.bdRight_eq c q fl rs P R hP hR (k + 1) (by omega), Option.bind_some]
  by_cases h : LK.rightBd c q fl rs P R = true
  · rw [if_pos h, if_pos h, Option.bind_some]
    rcases body_cases h with ⟨rfl, p, r, rfl, rfl, hc⟩ | ⟨rfl, p0, p1, r0, r1, rfl, rfl, hc0, hc1⟩
    · rw [if_pos (by simp), Option.bind_some]
      unfold vcodec_codec_both.f
      rw [if_neg (by omega), Option.bind_some, if_neg (by decide)]
      simp only [vcodec_Decode.j0, List.nil_append]
      exact decode_one (chan_part hc rfl) k (by omega)
    · rw [if_pos (by simp), Option.bind_some]
      unfold vcodec_codec_both.f
      rw [if_pos rfl, two, if_pos (by omega), l0, l1, List.nil_append]
      by_cases c0 : p0.length = 0
      · rw [if_neg (by omega), Option.bind_some, if_neg (by decide)]
        simp only [vcodec_Decode.j0]
        unfold decX
        rw [parted_not (.inl c0)]
        exact decode_two (chan_part hc0 rfl) (chan_part hc1 rfl) k (by omega)
      · rw [if_pos (by omega), if_pos (by omega), Option.bind_some]
        by_cases c1 : p1.length = 0
        · rw [decide_eq_false (by omega), if_neg (by decide)]
          simp only [vcodec_Decode.j0]
          unfold decX
          rw [parted_not (.inr c1)]
          exact decode_two (chan_part hc0 rfl) (chan_part hc1 rfl) k (by omega)
        · rw [decide_eq_true (by omega), if_pos rfl, two, if_pos (by omega), if_pos (by omega), m0, m1]
          rcases chan_cases hc0 with ⟨e, _⟩ | ⟨_, _, n0, b0⟩
          · rw [e] at c0; exact absurd rfl c0
          rcases chan_cases hc1 with ⟨e, _⟩ | ⟨_, _, n1, b1⟩
          · rw [e] at c1; exact absurd rfl c1
          rw [LC.couple_PartAll_eq r0 r1 (k + 1) (by omega) (by omega), if_pos (by omega), if_pos (allf_in (b := 4194303) (by omega) r0 r1 b0 b1), Option.bind_some]
          obtain ⟨g0, g1⟩ := LC.prs_len LC.pt r0 r1 (by omega)
          simp only [vcodec_Decode.j0]
          unfold decX
          rw [parted_two (by omega)]
          exact decode_two (chan_part hc0 g0) (chan_part hc1 (by omega)) k (by omega)
  · rw [if_neg h, if_neg h]
end Go.Proofs.Ytdajlfijkbafiaa.LW
namespace Go.Proofs.Ytdajlfijkbafiaa.P
open Go.RowKit Go.Proofs.YtdajlfijkbafiaaW.PrintWords Go.Proofs.YtdajlfijkbafiaaW.PrintLast Go.Proofs.YtdajlfijkbafiaaW.PrintMore
attribute [local go_sem] max2_int min2_int max_two min_two max_three min_three max_four min_four
def psalteryref06_Same.l0 : Nat → List Int → List Int → Int → Option (Bool)
  | 0, _, _, _ => none
  | k + 1, x0, x1, x5 => if x5 < (x0.length : Int) then (if 0 ≤ x5 then (if x5 < (x1.length : Int) then (if (rd x0 x5) = (rd x1 x5) then (psalteryref06_Same.l0 k x0 x1 (wrap64 (x5 + 1))) else (some false)) else (none)) else (none)) else (some true)
def psalteryref06_Same.f (k : Nat) (l0 : List Int) (l1 : List Int) : Option (Bool) := if (l0.length : Int) = (l1.length : Int) then (psalteryref06_Same.l0 k l0 l1 0) else (some false)
theorem psalteryref06_Same.mono_l : ∀ k, (∀ y0 y1 y2, LeO (psalteryref06_Same.l0 k y0 y1 y2) (psalteryref06_Same.l0 (k + 1) y0 y1 y2))
  | 0 => fun _ _ _ r h => by simp [psalteryref06_Same.l0] at h
  | k + 1 => by
    have a0 := psalteryref06_Same.mono_l k
    · intro y0 y1 y2
      unfold psalteryref06_Same.l0
      with_reducible repeat' first
   | exact a0 _ _ _
   | exact LeO.refl _
   | exact LeO.none _
   | refine LeO.ite ?_ ?_
   | refine LeO.bind ?_ (fun _ => ?_)
theorem psalteryref06_Same.mono : ∀ a0 a1 k, LeO (psalteryref06_Same.f k a0 a1) (psalteryref06_Same.f (k + 1) a0 a1) := by
  intro a0 a1 k
  have b0 := psalteryref06_Same.mono_l k
  unfold psalteryref06_Same.f
  with_reducible repeat' first
   | exact b0 _ _ _
   | exact LeO.refl _
   | exact LeO.none _
   | refine LeO.ite ?_ ?_
   | refine LeO.bind ?_ (fun _ => ?_)
mutual
def psalteryref17_Same.j0 : Nat → Bool → List (List Int) → List (List Int) → List (List Int) → List (List Int) → Option (Bool)
  | 0, _, _, _, _, _ => none
  | k + 1, e0, a0, b0, c0, d0 => if e0 = true then (some false) else (psalteryref17_Same.l0 k 0 a0 b0 c0 d0)
def psalteryref17_Same.l0 : Nat → Int → List (List Int) → List (List Int) → List (List Int) → List (List Int) → Option (Bool)
  | 0, _, _, _, _, _ => none
  | k + 1, x5, a0, c0, b0, d0 => if x5 < (a0.length : Int) then (if 0 ≤ x5 then (if x5 < (b0.length : Int) then ((psalteryref06_Same.f k (rd_L1 a0 x5) (rd_L1 b0 x5)).bind fun e0 => (if e0 = true then (psalteryref17_Same.l0 k (wrap64 (x5 + 1)) a0 c0 b0 d0) else (some false))) else (none)) else (none)) else (psalteryref17_Same.l1 k 0 a0 c0 b0 d0)
def psalteryref17_Same.l1 : Nat → Int → List (List Int) → List (List Int) → List (List Int) → List (List Int) → Option (Bool)
  | 0, _, _, _, _, _ => none
  | k + 1, x6, c0, a0, d0, b0 => if x6 < (a0.length : Int) then (if 0 ≤ x6 then (if x6 < (b0.length : Int) then ((psalteryref07_Same.f k (rd_L2 a0 x6) (rd_L2 b0 x6)).bind fun e0 => (if e0 = true then (psalteryref17_Same.l1 k (wrap64 (x6 + 1)) c0 a0 d0 b0) else (some false))) else (none)) else (none)) else (some true)
end
def psalteryref17_Same.f (k : Nat) (a0 : List (List Int)) (b0 : List (List Int)) (c0 : List (List Int)) (d0 : List (List Int)) : Option (Bool) := if (a0.length : Int) = (c0.length : Int) then (psalteryref17_Same.j0 k ((b0.length : Int) != (d0.length : Int)) a0 b0 c0 d0) else (psalteryref17_Same.j0 k true a0 b0 c0 d0)
theorem psalteryref17_Same.mono_l : ∀ k, (∀ y0 y1 y2 y3 y4, LeO (psalteryref17_Same.j0 k y0 y1 y2 y3 y4) (psalteryref17_Same.j0 (k + 1) y0 y1 y2 y3 y4)) ∧ (∀ y0 y1 y2 y3 y4, LeO (psalteryref17_Same.l0 k y0 y1 y2 y3 y4) (psalteryref17_Same.l0 (k + 1) y0 y1 y2 y3 y4)) ∧ (∀ y0 y1 y2 y3 y4, LeO (psalteryref17_Same.l1 k y0 y1 y2 y3 y4) (psalteryref17_Same.l1 (k + 1) y0 y1 y2 y3 y4))
  | 0 => ⟨fun _ _ _ _ _ r h => by simp [psalteryref17_Same.j0] at h, fun _ _ _ _ _ r h => by simp [psalteryref17_Same.l0] at h, fun _ _ _ _ _ r h => by simp [psalteryref17_Same.l1] at h⟩
  | k + 1 => by
    obtain ⟨a0, b0, c0⟩ := psalteryref17_Same.mono_l k
    refine ⟨?_, ?_, ?_⟩
    all_goals (intros; first | unfold psalteryref17_Same.j0 | unfold psalteryref17_Same.l0 | unfold psalteryref17_Same.l1)
    all_goals with_reducible repeat' first
     | exact a0 _ _ _ _ _
     | exact b0 _ _ _ _ _
     | exact c0 _ _ _ _ _
     | exact psalteryref06_Same.mono _ _ _
     | exact psalteryref07_Same.mono _ _ _
     | exact LeO.refl _
     | exact LeO.none _
     | refine LeO.ite ?_ ?_
     | refine LeO.bind ?_ (fun _ => ?_)
theorem psalteryref17_Same.mono : ∀ a0 a1 a2 a3 k, LeO (psalteryref17_Same.f k a0 a1 a2 a3) (psalteryref17_Same.f (k + 1) a0 a1 a2 a3) := by
  intro a0 a1 a2 a3 k
  obtain ⟨b0, c0, d0⟩ := psalteryref17_Same.mono_l k
  unfold psalteryref17_Same.f
  with_reducible repeat' first
   | exact b0 _ _ _ _ _
   | exact c0 _ _ _ _ _
   | exact d0 _ _ _ _ _
   | exact psalteryref06_Same.mono _ _ _
   | exact psalteryref07_Same.mono _ _ _
   | exact LeO.refl _
   | exact LeO.none _
   | refine LeO.ite ?_ ?_
   | refine LeO.bind ?_ (fun _ => ?_)
end Go.Proofs.Ytdajlfijkbafiaa.P
namespace Go.Proofs.Ytdajlfijkbafiaa.LK
open Go.RowKit Go.Proofs.YtdajlfijkbafiaaW.PrintWords Go.Proofs.YtdajlfijkbafiaaW.PrintLast Go.Proofs.YtdajlfijkbafiaaW.PrintMore Go.Proofs.Ytdajlfijkbafiaa.P Go.Proofs.Ytdajlfijkbafiaa.LB Go.Proofs.Ytdajlfijkbafiaa.HT Go.Proofs.Ytdajlfijkbafiaa.LH Go.Proofs.Ytdajlfijkbafiaa.LV
theorem same7_loop (l : List Int) (hl : l.length ≤ 1000000) (d : Nat) : ∀ (i k : Nat), i + d = l.length → d < k → psalteryref07_Same.l0 k l l (i : Int) = some true := by
  induction d with
  | zero =>
    intro i k hi hk
    obtain ⟨k, rfl⟩ : ∃ j, k = j + 1 := ⟨k - 1, by omega⟩
    simp only [psalteryref07_Same.l0]
    rw [if_neg (by omega)]
  | succ d ih =>
    intro i k hi hk
    obtain ⟨k, rfl⟩ : ∃ j, k = j + 1 := ⟨k - 1, by omega⟩
    simp only [psalteryref07_Same.l0]
    rw [if_pos (by omega), if_pos (by omega), if_pos (by omega), if_pos trivial, w64 (x := (i : Int) + 1) (by omega) (by omega)]
    exact ih (i + 1) k (by omega) (by omega)
theorem same7 (l : List Int) (hl : l.length ≤ 1000000) (k : Nat) (hk : l.length < k) : psalteryref07_Same.f k l l = some true := by
  unfold psalteryref07_Same.f
  rw [if_pos rfl]
  exact same7_loop l hl l.length 0 k (by omega) hk
end Go.Proofs.Ytdajlfijkbafiaa.LK
namespace Go.Proofs.Ytdajlfijkbafiaa.LW
open Go.RowKit Go.Proofs.YtdajlfijkbafiaaW.PrintWords Go.Proofs.YtdajlfijkbafiaaW.PrintLast Go.Proofs.YtdajlfijkbafiaaW.PrintMore Go.Proofs.Ytdajlfijkbafiaa.P Go.Proofs.Ytdajlfijkbafiaa.LB Go.Proofs.Ytdajlfijkbafiaa.NT
theorem refClamp_clp (v : Int) : psalteryref03_Clamp.f v (-8388608) 8388608 = some (clp v) := by
  unfold psalteryref03_Clamp.f clp; repeat' split
  all_goals (simp only [Option.some.injEq] <;> omega)
theorem rd_zipP {l r : List Int} (f : Int → Int → Int × Int) (hl : l.length = r.length) (n : Nat) (hn : n < l.length) : rd (LC.prs f l r).1 (n : Int) = (f (rd l (n : Int)) (rd r (n : Int))).1 ∧ rd (LC.prs f l r).2 (n : Int) = (f (rd l (n : Int)) (rd r (n : Int))).2 := by
  induction l generalizing r n with
  | nil => simp at hn
  | cons x l ih =>
    cases r with
    | nil => simp at hl
    | cons y r =>
      simp only [LC.prs]
      cases n with
      | zero => exact ⟨rfl, rfl⟩
      | succ n =>
        have := ih (r := r) (by simpa using hl) n (by simpa using hn)
        simpa [rd] using this
theorem rd_fair {m : Int} {l r : List Int} (hl : l.length = r.length) (h : LC.allf m l r = true) (n : Nat) (hn : n < l.length) : LC.fair m (rd l (n : Int)) (rd r (n : Int)) := by
  induction l generalizing r n with
  | nil => simp at hn
  | cons x l ih =>
    cases r with
    | nil => simp at hl
    | cons y r =>
      simp only [LC.allf, Bool.and_eq_true, decide_eq_true_eq] at h
      cases n with
      | zero => exact h.1
      | succ n =>
        have := ih (r := r) (by simpa using hl) h.2 n (by simpa using hn)
        simpa [rd] using this
theorem take_clp (vals : List Int) (n : Nat) (h : n < vals.length) : (vals.map clp).take n ++ [clp (rd vals (n : Int))] = (vals.map clp).take (n + 1) := by
  rw [List.take_succ_eq_append_getElem (by rw [List.length_map]; exact h), List.getElem_map]
  congr 3
  simp [rd, List.getD_eq_getElem?_getD, h]
theorem refDec_l1 (b : Bool) (i c q : Int) (fl rs : List Int) (P R out : List (List Int)) (vals : List Int) (hv : vals.length = 16) (hi : 0 ≤ i) (hi2 : i < (P.length : Int)) {p : List Int} (hp : rd_L1 P i = p) (h6 : LF.okl 6 p = true) (ho : out.length ≤ 1000)
    (step : ∀ (n : Nat) (acc : List Int) (k : Nat), n < 16 → acc.length = n → 10 < k → psalteryref22_Decode.l1 (k + 1) b i acc (n : Int) c q fl rs P R out = psalteryref22_Decode.l1 k b i (acc ++ [clp (rd vals (n : Int))]) ((n + 1 : Nat) : Int) c q fl rs P R out) (k : Nat) (hk : 2000 < k) (d : Nat) :
    ∀ n : Nat, n + d = 16 → psalteryref22_Decode.l1 (k + d + 1) b i ((vals.map clp).take n) (n : Int) c q fl rs P R out = psalteryref22_Decode.l0 k b (wrap64 (i + 1)) c q fl rs P R (out ++ [List.zipWith LR.rs (vals.map clp) (floorL p)]) := by
  induction d with
  | zero =>
    intro n hn
    obtain rfl : n = 16 := by omega
    rw [List.take_of_length_le (by rw [List.length_map]; omega)]
    conv => lhs; unfold psalteryref22_Decode.l1
    rw [if_neg (by omega), if_pos hi, if_pos hi2, hp, refFloors_eq h6 k (by omega), Option.bind_some, LR.refRestore_eq _ _ (okq_clp h6 hv) k (by omega), Option.bind_some, if_pos (by omega)]
  | succ d ih =>
    intro n hn
    rw [show k + (d + 1) + 1 = (k + d + 1) + 1 by omega, step n _ (k + d + 1) (by omega) (by rw [List.length_take, List.length_map]; omega) (by omega), take_clp vals n (by omega)]
    exact ih (n + 1) (by omega)
theorem refDec_loud (b : Bool) (i c q : Int) (fl rs : List Int) (P R out : List (List Int)) (vals : List Int) (hv : vals.length = 16) (hi : 0 ≤ i) (hi2 : i < (P.length : Int)) (hc : i < c) {p : List Int} (hp : rd_L1 P i = p) (h6 : LF.okl 6 p = true) (hl : p.length = 6) (ho : out.length ≤ 1000)
    (step : ∀ (n : Nat) (acc : List Int) (k : Nat), n < 16 → acc.length = n → 10 < k → psalteryref22_Decode.l1 (k + 1) b i acc (n : Int) c q fl rs P R out = psalteryref22_Decode.l1 k b i (acc ++ [clp (rd vals (n : Int))]) ((n + 1 : Nat) : Int) c q fl rs P R out) (k : Nat) (hk : 2000 < k) :
    psalteryref22_Decode.l0 (k + 18) b i c q fl rs P R out = psalteryref22_Decode.l0 k b (wrap64 (i + 1)) c q fl rs P R (out ++ [List.zipWith LR.rs (vals.map clp) (floorL p)]) := by
  conv => lhs; unfold psalteryref22_Decode.l0
  rw [if_pos hc, if_pos (by omega), if_pos hi, if_pos hi2, hp, if_pos (by omega)]
  exact refDec_l1 b i c q fl rs P R out vals hv hi hi2 hp h6 ho step k hk 16 0 rfl
theorem refDec_silent (b : Bool) (i c q : Int) (fl rs : List Int) (P R out : List (List Int)) (hi : 0 ≤ i) (hi2 : i < (P.length : Int)) (hc : i < c) (hp : rd_L1 P i = []) (ho : out.length ≤ 1000) (k : Nat) :
    psalteryref22_Decode.l0 (k + 1) b i c q fl rs P R out = psalteryref22_Decode.l0 k b (wrap64 (i + 1)) c q fl rs P R (out ++ [List.replicate 16 0]) := by
  conv => lhs; unfold psalteryref22_Decode.l0
  rw [if_pos hc, if_pos (by omega), if_pos hi, if_pos hi2, hp, if_neg (by simp), if_pos (by omega)]
theorem step_own (i c q : Int) (fl rs : List Int) (P R out : List (List Int)) (hi : 0 ≤ i) (hi2 : i < (R.length : Int)) {r : List Int} (hr : rd_L2 R i = r) (hl : r.length = 16) (n : Nat) (acc : List Int) (k : Nat) (hn : n < 16) (ha : acc.length = n) (hk : 10 < k) :
    psalteryref22_Decode.l1 (k + 1) false i acc (n : Int) c q fl rs P R out = psalteryref22_Decode.l1 k false i (acc ++ [clp (rd r (n : Int))]) ((n + 1 : Nat) : Int) c q fl rs P R out := by
  conv => lhs; unfold psalteryref22_Decode.l1
  rw [if_pos (by omega), if_pos hi, if_pos hi2, if_pos (by omega), hr, if_pos (by omega), if_neg (by decide), refClamp_clp, Option.bind_some, if_pos (by omega), w64 (by omega) (by omega)]; rfl
theorem step_two (i c q : Int) (fl rs : List Int) (P out : List (List Int)) {r0 r1 : List Int} (h0 : r0.length = 16) (h1 : r1.length = 16) (hf : LC.allf 4398046511104 r0 r1 = true) (hi : i = 0 ∨ i = 1) (n : Nat) (acc : List Int) (k : Nat) (hn : n < 16) (ha : acc.length = n) (hk : 10 < k) :
    psalteryref22_Decode.l1 (k + 1) true i acc (n : Int) c q fl rs P [r0, r1] out = psalteryref22_Decode.l1 k true i (acc ++ [clp (rd (if i = 1 then (LC.prs LC.pt r0 r1).2 else (LC.prs LC.pt r0 r1).1) (n : Int))]) ((n + 1 : Nat) : Int) c q fl rs P [r0, r1] out := by
  have two : ∀ a b : List Int, (([a, b] : List (List Int)).length : Int) = 2 := fun a b => rfl
  have m0 : ∀ a b : List Int, rd_L2 [a, b] 0 = a := fun a b => rfl
  have m1 : ∀ a b : List Int, rd_L2 [a, b] 1 = b := fun a b => rfl
  have hz := rd_zipP (l := r0) (r := r1) LC.pt (by omega) n (by omega)
  have hfn := rd_fair (l := r0) (r := r1) (by omega) hf n (by omega)
  conv => lhs; unfold psalteryref22_Decode.l1
  rcases hi with rfl | rfl
  · rw [two, m0, m1, if_pos (by omega), if_pos (by omega), if_pos (by omega), if_pos (by omega), if_pos (by omega), if_pos rfl, if_pos (by omega), if_pos (by omega), if_pos (by omega), if_pos (by omega), LC.refPt_eq hfn k (by omega), Option.bind_some, if_neg (by omega), refClamp_clp, Option.bind_some, if_pos (by omega), w64 (by omega) (by omega), if_neg (by omega), hz.1]; rfl
  · rw [two, m0, m1, if_pos (by omega), if_pos (by omega), if_pos (by omega), if_pos (by omega), if_pos (by omega), if_pos rfl, if_pos (by omega), if_pos (by omega), if_pos (by omega), if_pos (by omega), LC.refPt_eq hfn k (by omega), Option.bind_some, if_pos rfl, refClamp_clp, Option.bind_some, if_pos (by omega), w64 (by omega) (by omega), if_pos rfl, hz.2]; rfl
theorem refDec_own (i c q : Int) (fl rs : List Int) (P R out : List (List Int)) (hi : 0 ≤ i) (hi2 : i < (P.length : Int)) (hi3 : i < (R.length : Int)) (hc : i < c) {p r : List Int} (hp : rd_L1 P i = p) (hr : rd_L2 R i = r) (h : p = [] ∨ (p.length = 6 ∧ LF.okl 6 p = true ∧ r.length = 16)) (ho : out.length ≤ 1000) (k : Nat) (hk : 3000 < k) :
    ∃ k', k ≤ k' + 18 ∧ psalteryref22_Decode.l0 k false i c q fl rs P R out = psalteryref22_Decode.l0 k' false (wrap64 (i + 1)) c q fl rs P R (out ++ [decCh p r]) := by
  rcases h with rfl | ⟨h1, h2, h3⟩
  · obtain ⟨k, rfl⟩ : ∃ j, k = j + 1 := ⟨k - 1, by omega⟩
    exact ⟨k, by omega, refDec_silent false i c q fl rs P R out hi hi2 hc hp ho k⟩
  · obtain ⟨k, rfl⟩ : ∃ j, k = j + 18 := ⟨k - 18, by omega⟩
    refine ⟨k, by omega, ?_⟩
    rw [refDec_loud false i c q fl rs P R out r h3 hi hi2 hc hp h2 h1 ho (fun n acc k => step_own i c q fl rs P R out hi hi3 hr h3 n acc k) k (by omega)]
    have e : decCh p r = List.zipWith LR.rs (r.map clp) (floorL p) := by unfold decCh; rw [if_neg (by omega)]
    rw [e]
theorem refDec_end (b : Bool) (c q : Int) (fl rs : List Int) (P R out : List (List Int)) (k : Nat) (hk : 0 < k) : psalteryref22_Decode.l0 k b c c q fl rs P R out = some out := by
  obtain ⟨k, rfl⟩ : ∃ j, k = j + 1 := ⟨k - 1, by omega⟩
  conv => lhs; unfold psalteryref22_Decode.l0
  rw [if_neg (by omega)]
theorem refDecode_eq {c q : Int} {fl rs : List Int} {P R : List (List Int)} (h : LK.rightBd c q fl rs P R = true) (k : Nat) (hk : 6000 < k) : psalteryref22_Decode.f k c q fl rs P R = some (decX P R) := by
  obtain ⟨k, rfl⟩ : ∃ j, k = j + 1 := ⟨k - 1, by omega⟩
  have two : ∀ a b : List Int, (([a, b] : List (List Int)).length : Int) = 2 := fun a b => rfl
  have l0 : ∀ a b : List Int, rd_L1 [a, b] 0 = a := fun a b => rfl
  have l1 : ∀ a b : List Int, rd_L1 [a, b] 1 = b := fun a b => rfl
  have w1 : wrap64 (0 + 1) = 1 := w64 (by omega) (by omega)
  have w2 : wrap64 (1 + 1) = 2 := w64 (by omega) (by omega)
  unfold psalteryref22_Decode.f
  rcases body_cases h with ⟨rfl, p, r, rfl, rfl, hc⟩ | ⟨rfl, p0, p1, r0, r1, rfl, rfl, hc0, hc1⟩
  · rw [if_neg (by omega)]
    simp only [psalteryref22_Decode.j0]
    obtain ⟨k1, h1, e1⟩ := refDec_own 0 1 q fl rs [p] [r] [] (by omega) (by simp) (by simp) (by omega) (p := p) (r := r) rfl rfl (chan_part hc rfl) (by simp) k (by omega)
    rw [e1, w1, refDec_end _ _ _ _ _ _ _ _ k1 (by omega)]; rfl
  · have own : psalteryref22_Decode.l0 k false 0 2 q fl rs [p0, p1] [r0, r1] [] = some [decCh p0 r0, decCh p1 r1] := by
      obtain ⟨k1, h1, e1⟩ := refDec_own 0 2 q fl rs [p0, p1] [r0, r1] [] (by omega) (by simp) (by simp) (by omega) (p := p0) (r := r0) rfl rfl (chan_part hc0 rfl) (by simp) k (by omega)
      obtain ⟨k2, h2, e2⟩ := refDec_own 1 2 q fl rs [p0, p1] [r0, r1] ([] ++ [decCh p0 r0]) (by omega) (by simp) (by simp) (by omega) (p := p1) (r := r1) rfl rfl (chan_part hc1 rfl) (by simp) k1 (by omega)
      rw [e1, w1, e2, w2, refDec_end _ _ _ _ _ _ _ _ k2 (by omega)]; rfl
    rw [if_pos rfl, two, if_pos (by omega), l0, l1]
    by_cases c0 : p0.length = 0
    · rw [if_neg (by omega)]
      simp only [psalteryref22_Decode.j0]
      unfold decX
      rw [parted_not (.inl c0)]
      exact own
    · rw [if_pos (by omega), if_pos (by omega)]
      simp only [psalteryref22_Decode.j0]
      by_cases c1 : p1.length = 0
      · rw [decide_eq_false (by omega)]
        unfold decX
        rw [parted_not (.inr c1)]
        exact own
      · rw [decide_eq_true (by omega)]
        rcases chan_cases hc0 with ⟨e, _⟩ | ⟨q0, o0, n0, b0⟩
        · rw [e] at c0; exact absurd rfl c0
        rcases chan_cases hc1 with ⟨e, _⟩ | ⟨q1, o1, n1, b1⟩
        · rw [e] at c1; exact absurd rfl c1
        have hf := allf_in (b := 4194303) (m := 4398046511104) (by omega) r0 r1 b0 b1
        obtain ⟨g0, g1⟩ := LC.prs_len LC.pt r0 r1 (by omega)
        obtain ⟨k, rfl⟩ : ∃ j, k = j + 36 := ⟨k - 36, by omega⟩
        have s0 := refDec_loud true 0 2 q fl rs [p0, p1] [r0, r1] [] (if (0 : Int) = 1 then (LC.prs LC.pt r0 r1).2 else (LC.prs LC.pt r0 r1).1) (by rw [if_neg (by omega)]; omega) (by omega) (by simp) (by omega) (p := p0) rfl o0 q0 (by simp) (fun n acc k => step_two 0 2 q fl rs [p0, p1] [] n0 n1 hf (.inl rfl) n acc k) (k + 18) (by omega)
        have s1 := fun out ho => refDec_loud true 1 2 q fl rs [p0, p1] [r0, r1] out (if (1 : Int) = 1 then (LC.prs LC.pt r0 r1).2 else (LC.prs LC.pt r0 r1).1) (by rw [if_pos rfl]; omega) (by omega) (by simp) (by omega) (p := p1) rfl o1 q1 ho (fun n acc k => step_two 1 2 q fl rs [p0, p1] out n0 n1 hf (.inr rfl) n acc k) k (by omega)
        rw [w1] at s0
        refine Eq.trans s0 (Eq.trans (s1 _ (by simp)) ?_)
        rw [w2, refDec_end _ _ _ _ _ _ _ _ k (by omega)]
        unfold decX
        rw [parted_two (by omega), if_neg (by omega), if_pos rfl]
        show _ = some [decCh p0 (LC.prs LC.pt r0 r1).1, decCh p1 (LC.prs LC.pt r0 r1).2]
        unfold decCh
        rw [if_neg c0, if_neg c1]; rfl
theorem same22_loop (X : List (List Int)) (hX : X.length ≤ 1000) (h : ∀ x ∈ X, x.length ≤ 1000) (d : Nat) : ∀ (i k : Nat), i + d = X.length → d + 1001 < k → psalteryref22_Same.l0 k (i : Int) X X = some true := by
  induction d with
  | zero =>
    intro i k hi hk
    obtain ⟨k, rfl⟩ : ∃ j, k = j + 1 := ⟨k - 1, by omega⟩
    simp only [psalteryref22_Same.l0]
    rw [if_neg (by omega)]
  | succ d ih =>
    intro i k hi hk
    obtain ⟨k, rfl⟩ : ∃ j, k = j + 1 := ⟨k - 1, by omega⟩
    have hi2 : i < X.length := by omega
    have hr := h X[i] (List.getElem_mem hi2)
    simp only [psalteryref22_Same.l0]
    rw [if_pos (by omega), if_pos (by omega), if_pos (by omega), LK.L5_at X i hi2, LK.same7 X[i] (by omega) k (by omega), Option.bind_some, if_pos rfl, w64 (x := (i : Int) + 1) (by omega) (by omega)]
    exact ih (i + 1) k (by omega) (by omega)
theorem same22 (X : List (List Int)) (hX : X.length ≤ 1000) (h : ∀ x ∈ X, x.length ≤ 1000) (k : Nat) (hk : 3000 < k) : psalteryref22_Same.f k X X = some true := by
  unfold psalteryref22_Same.f
  rw [if_pos rfl]
  exact same22_loop X hX h X.length 0 k (by omega) (by omega)
theorem fair_of {x : List Int} (hl : x.length = 16) (h : ∀ v ∈ x, -1048576 ≤ v ∧ v ≤ 1048576) : fairB x = true := by
  unfold fairB LQ.fairL
  rw [LQ.inc_of h, hl]; rfl
theorem decCh_fair {p r : List Int} (h : p = [] ∨ (p.length = 6 ∧ LF.okl 6 p = true ∧ r.length = 16)) : fairB (decCh p r) = true := by
  rcases h with rfl | ⟨h1, h2, h3⟩
  · exact fair_of (by simp [decCh]) (fun v hv => by
      have e : v = 0 := by
        have : v ∈ List.replicate 16 (0 : Int) := hv
        exact (List.mem_replicate.1 this).2
      omega)
  · have e : decCh p r = List.zipWith LR.rs (r.map clp) (floorL p) := by unfold decCh; rw [if_neg (by omega)]
    rw [e]
    exact fair_of (by rw [List.length_zipWith, List.length_map, floorL_length, h3]; rfl) (LR.inr_mem (LR.zip_in _ _))
theorem dec_right {c q : Int} {fl rs : List Int} {P R : List (List Int)} (h : LK.rightBd c q fl rs P R = true) : rightF c q fl rs (decX P R) = true := by
  have hh := (LK.rightBd_parts h).1
  unfold rightF
  rw [hh, Bool.true_and]
  rcases body_cases h with ⟨rfl, p, r, rfl, rfl, hc⟩ | ⟨rfl, p0, p1, r0, r1, rfl, rfl, hc0, hc1⟩
  · show (true && (fairB (decCh p r) && true)) = true
    rw [decCh_fair (chan_part hc rfl)]; rfl
  · unfold decX
    by_cases z : p0.length = 0 ∨ p1.length = 0
    · rw [parted_not z]
      show (true && (fairB (decCh p0 r0) && (fairB (decCh p1 r1) && true))) = true
      rw [decCh_fair (chan_part hc0 rfl), decCh_fair (chan_part hc1 rfl)]; rfl
    · rw [parted_two z]
      rcases chan_cases hc0 with ⟨e, _⟩ | ⟨_, _, n0, _⟩
      · rw [e] at z; exact absurd (.inl rfl) z
      rcases chan_cases hc1 with ⟨e, _⟩ | ⟨_, _, n1, _⟩
      · rw [e] at z; exact absurd (.inr rfl) z
      obtain ⟨g0, g1⟩ := LC.prs_len LC.pt r0 r1 (by omega)
      show (true && (fairB (decCh p0 (LC.prs LC.pt r0 r1).1) && (fairB (decCh p1 (LC.prs LC.pt r0 r1).2) && true))) = true
      rw [decCh_fair (chan_part hc0 g0), decCh_fair (chan_part hc1 (by omega))]; rfl
end Go.Proofs.Ytdajlfijkbafiaa.LW
namespace Go.Proofs.Ytdajlfijkbafiaa.LK
open Go.RowKit Go.Proofs.YtdajlfijkbafiaaW.PrintWords Go.Proofs.YtdajlfijkbafiaaW.PrintLast Go.Proofs.YtdajlfijkbafiaaW.PrintMore Go.Proofs.Ytdajlfijkbafiaa.P Go.Proofs.Ytdajlfijkbafiaa.LB Go.Proofs.Ytdajlfijkbafiaa.HT Go.Proofs.Ytdajlfijkbafiaa.LH Go.Proofs.Ytdajlfijkbafiaa.LV
theorem ref14_loop (l : List Int) (hl : l.length ≤ 1000) (d : Nat) : ∀ (i k : Nat) (b : Bool), i + d = l.length → d < k → psalteryref14_Right.l0 k l b (i : Int) = some (b && (l.drop i).all inG) := by
  induction d with
  | zero =>
    intro i k b hi hk
    obtain ⟨k, rfl⟩ : ∃ j, k = j + 1 := ⟨k - 1, by omega⟩
    simp only [psalteryref14_Right.l0]
    rw [if_neg (by omega), List.drop_eq_nil_of_le (by omega), List.all_nil, Bool.and_true]
  | succ d ih =>
    intro i k b hi hk
    obtain ⟨k, rfl⟩ : ∃ j, k = j + 1 := ⟨k - 1, by omega⟩
    have hil : i < l.length := by omega
    simp only [psalteryref14_Right.l0]
    rw [if_pos (by omega), List.drop_eq_getElem_cons hil, List.all_cons, w64 (x := (i : Int) + 1) (by omega) (by omega)]
    cases b
    · rw [if_neg (by decide)]
      have nx := ih (i + 1) k false (by omega) (by omega)
      rw [Bool.false_and] at nx ⊢
      exact nx
    · rw [if_pos rfl, if_pos (by omega), rd_get l i hil, Bool.true_and]
      by_cases c1 : l[i] ≥ 0
      · rw [if_pos c1]
        have nx := ih (i + 1) k (decide (l[i] ≤ 44)) (by omega) (by omega)
        rw [show inG l[i] = decide (l[i] ≤ 44) by unfold inG; rw [decide_eq_decide]; omega]
        exact nx
      · rw [if_neg c1, show inG l[i] = false from decide_eq_false (by omega), Bool.false_and]
        have nx := ih (i + 1) k false (by omega) (by omega)
        rw [Bool.false_and] at nx
        exact nx
theorem ref14_eq (l : List Int) (hl : l.length ≤ 1000) (k : Nat) (hk : 1001 < k) : psalteryref14_Right.f k l = some (decide (l.length = 6) && l.all inG) := by
  unfold psalteryref14_Right.f
  have := ref14_loop l hl l.length 0 k ((l.length : Int) == 6) (by omega) (by omega)
  rw [show ((0 : Nat) : Int) = 0 from rfl, List.drop_zero] at this
  rw [this]
  congr 2
  by_cases c : l.length = 6
  · rw [decide_eq_true c]; exact beq_iff_eq.mpr (by omega)
  · rw [decide_eq_false c]; exact beq_eq_false_iff_ne.mpr (by omega)
theorem chan_l1 (r : List Int) (hr : r.length = 16) (d : Nat) : ∀ (i k : Nat), i + d = 16 → d < k → psalteryref17_channel.l1 k r (i : Int) = some ((r.drop i).all resOk) := by
  induction d with
  | zero =>
    intro i k hi hk
    obtain ⟨k, rfl⟩ : ∃ j, k = j + 1 := ⟨k - 1, by omega⟩
    simp only [psalteryref17_channel.l1]
    rw [if_neg (by omega), List.drop_eq_nil_of_le (by omega)]; rfl
  | succ d ih =>
    intro i k hi hk
    obtain ⟨k, rfl⟩ : ∃ j, k = j + 1 := ⟨k - 1, by omega⟩
    have hil : i < r.length := by omega
    have nx := ih (i + 1) k (by omega) (by omega)
    simp only [psalteryref17_channel.l1]
    rw [if_pos (by omega), if_pos (by omega), if_pos (by omega), rd_get r i hil, List.drop_eq_getElem_cons hil, List.all_cons, w64 (x := (i : Int) + 1) (by omega) (by omega)]
    by_cases c1 : r[i] > 4194303
    · rw [if_pos c1, show resOk r[i] = false from decide_eq_false (by omega)]; rfl
    · rw [if_neg c1]
      by_cases c2 : r[i] < -4194303
      · rw [if_pos c2, show resOk r[i] = false from decide_eq_false (by omega)]; rfl
      · rw [if_neg c2, show resOk r[i] = true from decide_eq_true (by omega), Bool.true_and]
        exact nx
theorem chan_l0 (fl : List Int) (hfl : fl.length = 45) (l r : List Int) (hl : l.length = 6) (hr : r.length = 16) (hin : ∀ g ∈ l, 0 ≤ g ∧ g ≤ 44) (c q : Int) (rs : List Int) (d : Nat) : ∀ (i k : Nat), i + d = 6 → d + 20 < k → psalteryref17_channel.l0 k l r (i : Int) c q fl rs = some ((l.drop i).all (nz fl) && r.all resOk) := by
  induction d with
  | zero =>
    intro i k hi hk
    obtain ⟨k, rfl⟩ : ∃ j, k = j + 1 := ⟨k - 1, by omega⟩
    simp only [psalteryref17_channel.l0]
    rw [if_neg (by omega), List.drop_eq_nil_of_le (by omega)]
    exact chan_l1 r hr 16 0 k (by omega) (by omega)
  | succ d ih =>
    intro i k hi hk
    obtain ⟨k, rfl⟩ : ∃ j, k = j + 1 := ⟨k - 1, by omega⟩
    have hil : i < l.length := by omega
    have nx := ih (i + 1) k (by omega) (by omega)
    have hg := hin l[i] (List.getElem_mem hil)
    simp only [psalteryref17_channel.l0]
    rw [if_pos (by omega), if_pos (by omega), if_pos (by omega), rd_get l i hil, if_pos hg.1, if_pos (by omega), List.drop_eq_getElem_cons hil, List.all_cons, w64 (x := (i : Int) + 1) (by omega) (by omega)]
    by_cases c1 : rd fl l[i] = 0
    · rw [if_pos c1, show nz fl l[i] = false from decide_eq_false (by omega)]; rfl
    · rw [if_neg c1, show nz fl l[i] = true from decide_eq_true c1, Bool.true_and]
      exact nx
theorem channel_eq (c q : Int) (fl rs : List Int) (hfl : fl.length = 45) (p r : List Int) (hp : p.length ≤ 1000) (k : Nat) (hk : 1100 < k) : psalteryref17_channel.f k c q fl rs p r = some (chanOk fl p r) := by
  obtain ⟨k, rfl⟩ : ∃ j, k = j + 1 := ⟨k - 1, by omega⟩
  unfold psalteryref17_channel.f chanOk
  by_cases c0 : p.length = 0
  · rw [if_pos (by omega)]
    by_cases c1 : r.length = 0
    · rw [decide_eq_true ⟨c0, c1⟩, Bool.true_or]
      exact congrArg some (beq_iff_eq.mpr (by omega))
    · rw [decide_eq_false (p := p.length = 0 ∧ r.length = 0) (fun h => c1 h.2), decide_eq_false (p := p.length = 6) (by omega), show ((r.length : Int) == 0) = false from beq_eq_false_iff_ne.mpr (by omega)]; rfl
  · rw [if_neg (by omega), decide_eq_false (p := p.length = 0 ∧ r.length = 0) (fun h => c0 h.1), Bool.false_or, ref14_eq p hp (k + 1) (by omega), Option.bind_some, postOk_all]
    have bad : psalteryref17_channel.j0 (k + 1) p r true c q fl rs = some false := by simp only [psalteryref17_channel.j0, if_true]
    by_cases c6 : p.length = 6
    · rw [decide_eq_true c6, Bool.true_and, Bool.true_and]
      cases h1 : p.all inG
      · rw [if_neg (by decide), bad]; simp
      · rw [if_pos rfl, Bool.true_and]
        by_cases c16 : r.length = 16
        · rw [show ((r.length : Int) != 16) = false from bne_eq_false_iff_eq.mpr (by omega), decide_eq_true c16, Bool.and_true]
          simp only [psalteryref17_channel.j0, Bool.false_eq_true, if_false]
          exact chan_l0 fl hfl p r c6 c16 (fun g hg => by have := List.all_eq_true.1 h1 g hg; simpa [inG] using this) c q rs 6 0 k (by omega) (by omega)
        · rw [show ((r.length : Int) != 16) = true from bne_iff_ne.mpr (by omega), bad, decide_eq_false c16]; simp
    · rw [decide_eq_false c6, Bool.false_and, if_neg (by decide), bad]; simp
theorem rright_l0 (fl rs : List Int) (hfl : fl.length = 45) (q : Int) (P R : List (List Int)) (hPR : P.length = R.length) (hn : P.length ≤ 100) (hP : ∀ p ∈ P, p.length ≤ 1000) (d : Nat) :
    ∀ (i k : Nat), i + d = P.length → d + 1200 ≤ k → psalteryref17_Right.l0 k (i : Int) (P.length : Int) q fl rs P R = some (chansOk fl (P.drop i) (R.drop i)) := by
  induction d with
  | zero =>
    intro i k hi hk
    obtain ⟨k, rfl⟩ : ∃ j, k = j + 1 := ⟨k - 1, by omega⟩
    simp only [psalteryref17_Right.l0]
    rw [if_neg (by omega), List.drop_eq_nil_of_le (by omega)]
    simp [chansOk]
  | succ d ih =>
    intro i k hi hk
    obtain ⟨k, rfl⟩ : ∃ j, k = j + 1 := ⟨k - 1, by omega⟩
    have hiP : i < P.length := by omega
    have hiR : i < R.length := by omega
    simp only [psalteryref17_Right.l0]
    rw [if_pos (by omega), if_pos (by omega), if_pos (by omega), if_pos (by omega), L1_at' P i hiP, L5_at R i hiR, channel_eq _ q fl rs hfl P[i] R[i] (hP _ (List.getElem_mem hiP)) k (by omega), Option.bind_some, List.drop_eq_getElem_cons hiP, List.drop_eq_getElem_cons hiR, chansOk, w64 (x := (i : Int) + 1) (by omega) (by omega)]
    cases h : chanOk fl P[i] R[i]
    · rw [if_neg (by decide), Bool.false_and]
    · rw [if_pos rfl, Bool.true_and]
      exact ih (i + 1) k (by omega) (by omega)
theorem rbdRight_eq (c q : Int) (fl rs : List Int) (P R : List (List Int)) (hP : ∀ p ∈ P, p.length ≤ 1000) (k : Nat) (hk : 5000 ≤ k) : psalteryref17_Right.f k c q fl rs P R = some (rightBd c q fl rs P R) := by
  obtain ⟨k, rfl⟩ : ∃ j, k = j + 1 := ⟨k - 1, by omega⟩
  unfold psalteryref17_Right.f rightBd
  rw [ref_right c q fl rs (k + 1) (by omega), Option.bind_some]
  have bad : psalteryref17_Right.j0 (k + 1) true c q fl rs P R = some false := by simp only [psalteryref17_Right.j0, if_true]
  by_cases hr : rightHd c q fl rs = true
  · obtain ⟨a1, a2, a3, a4, a5, a6, a7, a8, a9⟩ := right_parts hr
    rw [if_pos hr, hr, Bool.true_and]
    by_cases c1 : (P.length : Int) = c
    · rw [if_pos c1]
      by_cases c2 : (R.length : Int) = c
      · rw [show ((R.length : Int) != c) = false from bne_eq_false_iff_eq.mpr c2, decide_eq_true ⟨c1, c2⟩, Bool.true_and]
        simp only [psalteryref17_Right.j0, Bool.false_eq_true, if_false]
        have := rright_l0 fl rs a5 q P R (by omega) (by omega) hP P.length 0 k (by omega) (by omega)
        rw [show ((0 : Nat) : Int) = 0 from rfl, List.drop_zero, List.drop_zero, c1] at this
        exact this
      · rw [show ((R.length : Int) != c) = true from bne_iff_ne.mpr c2, decide_eq_false (fun h => c2 h.2), bad]; rfl
    · rw [if_neg c1, decide_eq_false (fun h => c1 h.1), bad]; rfl
  · rw [if_neg hr, bad]
    cases h : rightHd c q fl rs
    · rfl
    · exact absurd h hr
end Go.Proofs.Ytdajlfijkbafiaa.LK
namespace Go.Proofs.Ytdajlfijkbafiaa.Pure
open Go.RowKit Go.Proofs.YtdajlfijkbafiaaW.PrintWords Go.Proofs.YtdajlfijkbafiaaW.PrintLast Go.Proofs.YtdajlfijkbafiaaW.PrintMore Go.Proofs.Ytdajlfijkbafiaa.P Go.Proofs.Ytdajlfijkbafiaa.LB Go.Proofs.Ytdajlfijkbafiaa.LW
theorem VoiceDecodes : psalterylaw22_VoiceDecodes.Pure := by
  intro c q fl rs P R _ _ _ _ hP hR
  obtain ⟨K, hK⟩ : ∃ K : Nat, P.length + R.length + 100000 ≤ K := ⟨_, Nat.le_refl _⟩
  refine ⟨K, ?_⟩
  unfold psalterylaw22_VoiceDecodes.f
  obtain ⟨b, hg, hb⟩ := wide22 c q fl rs P R hP.1 hR.1 K (by omega)
  rw [hg, Option.bind_some, knows22 K (by omega)]
  cases b
  · obtain ⟨h1, h2, h3, h4⟩ := hb rfl
    have hp : ∀ p ∈ P, p.length ≤ 1000 := fun p hp => Nat.le_trans (h1 p hp) (by omega)
    have hr : ∀ r ∈ R, r.length ≤ 1000 := fun r hr => Nat.le_trans (h2 r hr) (by omega)
    rw [if_neg (by decide), decode_eq c q fl rs P R hp hr K (by omega), Option.bind_some]
    unfold psalterylaw16_As.f psalterylaw17_As.f
    rw [Option.bind_some, Option.bind_some, LK.rbdRight_eq c q fl rs P R hp K (by omega), Option.bind_some]
    cases h : LK.rightBd c q fl rs P R
    · rw [if_neg (show ¬ (false = true) by decide), if_neg (show ¬ (false = true) by decide), if_pos (show ((([] : List (List Int)), (1 : Int)).1.length : Int) = 0 from rfl), if_pos rfl]; rfl
    · obtain ⟨s1, s2, s3⟩ := rightF_parts (dec_right h)
      obtain ⟨a1, a2, _⟩ := LV.right_parts s1
      rw [if_pos rfl, if_pos rfl, Option.bind_some, Option.bind_some, refDecode_eq h K (by omega), Option.bind_some, same22 (decX P R) (by omega) (fun x hx => by rw [(fairB_parts (s3 x hx)).2.2]; omega) K (by omega), Option.bind_some, if_pos rfl, if_pos rfl]; rfl
  · rw [if_pos rfl]; rfl
end Go.Proofs.Ytdajlfijkbafiaa.Pure
namespace Go.Proofs.YtdajlfijkbafiaaW.Row
open Go.RowKit Go.Proofs.YtdajlfijkbafiaaW.PrintWords Go.Joins Go.WideShapes Go.ChangeShapes Go.Deep
/-- What comes in at type t reads as a kind's value, and is well formed. -/
def Opens {α : Type} (P : Program) (d : Kd α) (t : TypeId) (wf : α → Prop) : Prop :=
  ∀ {H : Type} {enc : TypeId × Value → H} {w : World} {base : Nat} {held : Bool} {fuel : Nat} {cs : List Value} {x : DataW H × List MemPlace},
    DataW.trod enc P w base (fun _ => true) held fuel t cs = some x → ∃ a, d.K w a cs ∧ wf a
variable {P : Program}
theorem opens_int {t : TypeId} {k : IntKind} (ht : P.underlying t = some (.int k)) : Opens P (Kd.int k) t (fun a => (Lit.int k a).wf = true) := by
  intro H enc w base held fuel cs x h
  obtain ⟨n, rfl, _, hw⟩ := DataW.trod_int ht h
  exact ⟨n, rfl, hw⟩
theorem list_of {β : Type} {p : Nat → β → Prop} (n : Nat) (h : ∀ i, i < n → ∃ y, p i y) : ∃ ys : List β, ys.length = n ∧ ∀ i y, ys[i]? = some y → p i y := by
  induction n with
  | zero => exact ⟨[], rfl, fun i y hy => by simp at hy⟩
  | succ n ih =>
    obtain ⟨ys, hl, hp⟩ := ih fun i hi => h i (by omega)
    obtain ⟨y, hy⟩ := h n (by omega)
    refine ⟨ys ++ [y], by simp [hl], fun i z hz => ?_⟩
    rcases Nat.lt_or_ge i ys.length with e | e
    · rw [List.getElem?_append_left e] at hz; exact hp i z hz
    · rw [List.getElem?_append_right e] at hz
      obtain ⟨h1, h2⟩ := List.getElem?_eq_some_iff.1 hz
      have : i = n := by simp at h1; omega
      subst this
      simp at h2; subst h2; exact hy
theorem opens_slice {α : Type} {d : Kd α} {t e : TypeId} {wf : α → Prop} (ht : P.underlying t = some (.slice e)) (ce : P.cellsOf e = d.sz) (h : Opens P d e wf) :
    Opens P (Kd.slice e d) t (fun l => l.length ≤ maxLen ∧ ∀ x ∈ l, wf x) := by
  intro H enc w base held fuel cs x hx
  rcases Deep.open_slice ht hx with ⟨rfl, _⟩ | ⟨a, len, cap, m, n, D, Pl, rfl, hb, hl, hm, hmm, _, hi⟩
  · exact ⟨[], ⟨none, 0, rfl, Nat.le_refl _, Kd.C_nil d w⟩, by simp, fun x hx => by simp at hx⟩
  · simp only [if_true] at hmm
    subst hmm
    have each : ∀ i, i < len → ∃ y : α × List Value, y.2.length = d.sz ∧ d.K w y.1 y.2 ∧ wf y.1 ∧ ∀ j u, y.2[j]? = some u → w.cell? (a.add (i * d.sz + j)) = some u := by
      intro i hlt
      obtain ⟨cs', h1, h2⟩ := hi i (by omega)
      obtain ⟨v, hK, hw⟩ := h h2
      obtain ⟨_, hlen, hcell⟩ := World.cells?_some h1
      rw [ce] at h1 hlen hcell
      refine ⟨(v, cs'), hlen, hK, hw, fun j u hj => ?_⟩
      have hjl : j < cs'.length := (List.getElem?_eq_some_iff.1 hj).1
      have := hcell j (by omega)
      rw [Addr.add_add] at this
      rw [this]; exact hj
    obtain ⟨ys, hyl, hy⟩ := list_of len each
    have hpts : ∀ (j : Nat) (p : α), (ys.map (·.1))[j]? = some p → ∃ c, (p, c) ∈ ys ∧ ys[j]? = some (p, c) := by
      intro j p hj
      rw [List.getElem?_map] at hj
      cases e : ys[j]? with
      | none => rw [e] at hj; cases hj
      | some z => rw [e] at hj; obtain rfl : z.1 = p := by simpa using hj
                  exact ⟨z.2, List.mem_of_getElem? e, rfl⟩
    refine ⟨ys.map (·.1), ⟨some a, m, by simp [hyl], by simpa [hyl] using hl, ?_⟩, ?_, ?_⟩
    · refine ⟨rfl, ?_, fun hp => ⟨a, rfl, fun j p hj => ?_⟩⟩
      · simp only [List.length_map]; unfold maxLen at hm; omega
      · obtain ⟨c, _, hc⟩ := hpts j p hj
        obtain ⟨e1, e2, _, e4⟩ := hy j _ hc
        exact ⟨c, e1, e2, e4⟩
    · simp only [List.length_map]; omega
    · intro x hx
      obtain ⟨z, hz, rfl⟩ := List.mem_map.1 hx
      obtain ⟨i, hi', hi''⟩ := List.getElem_of_mem hz
      exact (hy i z (by rw [← hi'']; exact List.getElem?_eq_getElem hi')).2.2.1
theorem opens_struct2 {α β γ : Type} {d0 : Kd α} {d1 : Kd β} {t : TypeId} {f0 f1 : Field} {wf0 : α → Prop} {wf1 : β → Prop} (f : γ → α × β) (mk : α → β → γ) (hf : ∀ a b, f (mk a b) = (a, b))
    (ht : P.underlying t = some (.struct #[f0, f1])) (o0 : f0.offset = 0) (o1 : f1.offset = d0.sz) (c0 : P.cellsOf f0.type = d0.sz) (c1 : P.cellsOf f1.type = d1.sz) (ct : P.cellsOf t = d0.sz + d1.sz)
    (h0 : Opens P d0 f0.type wf0) (h1 : Opens P d1 f1.type wf1) : Opens P (Kd.iso (Kd.pair d0 d1) f) t (fun x => wf0 (f x).1 ∧ wf1 (f x).2) := by
  intro H enc w base held fuel cs x hx
  obtain ⟨y0, y1, n, _, hlen, e0, e1⟩ := trod_struct2 ht hx
  rw [o0, c0, List.drop_zero] at e0
  rw [o1, c1] at e1
  obtain ⟨a, hA, wA⟩ := h0 e0
  obtain ⟨b, hB, wB⟩ := h1 e1
  refine ⟨mk a b, ?_, by show wf0 (f (mk a b)).1 ∧ wf1 (f (mk a b)).2; rw [hf]; exact ⟨wA, wB⟩⟩
  show (Kd.pair d0 d1).K w (f (mk a b)) cs
  rw [hf]
  refine ⟨_, _, ?_, hA, hB⟩
  rw [ct] at hlen
  rw [List.take_of_length_le (l := cs.drop d0.sz) (by rw [List.length_drop]; omega), List.take_append_drop]
variable {H : Type} {enc : TypeId × Value → H} {w : World} {base : Nat} {spare : Nat → Bool} {held : Bool}
theorem open_agg1 {r : Reach} {b0 : Nat} {t : TypeId} {f0 : Field} {v : Value} {d : DataW H} {p : List MemPlace} (hs : P.underlying t = some (.struct #[f0])) (hone : oneCellFields P #[f0] = true) (hC : P.cellsOf t = 1)
    (hv : Value.okWide P w r b0 t v) (h : DataW.Trod enc P w base spare held t v d p) :
    ∃ (v0 : Value) (y0 : DataW H × List MemPlace) (n : Nat), v = .agg #[v0] ∧ DataW.trod enc P w base spare held n f0.type [v0] = some y0 := by
  obtain ⟨cs, rfl, hsz⟩ := okWide_struct hs hv
  rw [hC] at hsz
  obtain ⟨c0, rfl⟩ : ∃ c0, cs = #[c0] := by
    cases cs with
    | mk l => match l, hsz with
      | [c], _ => exact ⟨c, rfl⟩
  obtain ⟨fuel, hf⟩ := h
  obtain ⟨y0, n, hx, _, h0⟩ := trod_struct1 hs hf
  obtain ⟨o0, k0⟩ := hone_of hone 0 f0 rfl
  exact ⟨c0, y0, n, rfl, by simpa [Value.cells, o0, k0] using h0⟩
theorem K_int {k : IntKind} {a : Int} {v : Value} (h : (Kd.int k).K w a [v]) : v = .int k a := by
  have e : [v] = [Value.int k a] := h
  injection e
theorem K_slice {α : Type} {e : Nat} {d : Kd α} {l : List α} {v : Value} (h : (Kd.slice e d).K w l [v]) : ∃ A c, v = .slice A l.length c ∧ l.length ≤ c ∧ d.C w A l.length l := by
  obtain ⟨A, c, hv, hl, hc⟩ := h
  injection hv with hv
  exact ⟨A, c, hv, hl, hc⟩
end Go.Proofs.YtdajlfijkbafiaaW.Row
