/- Words, walks and what they compute, as the law's proof needs them. -/
import Derived.Test.YtdajlfijkbafiaaE3
import Derived.Test.YtdajlfijkbafiaaE4
set_option linter.unusedVariables false
set_option linter.unusedSimpArgs false
namespace Go.Proofs.Ytdajlfijkbafiaa.P
open Go.RowKit Go.Proofs.YtdajlfijkbafiaaW.PrintWords Go.Proofs.YtdajlfijkbafiaaW.PrintLast Go.Proofs.YtdajlfijkbafiaaW.PrintMore
attribute [local go_sem] max2_int min2_int max_two min_two max_three min_three max_four min_four
def couple_way_all_by_couple_part.l0 : Nat → List Int → List Int → List Int → List Int → Int → Int → Int → Option (List Int × List Int × Int)
  | 0, _, _, _, _, _, _, _ => none
  | k + 1, x1, x2, x9, d0, e0, b0, c0 => if b0 < e0 then (if 0 ≤ b0 then (if b0 < (x1.length : Int) then (if b0 < (x2.length : Int) then ((couple_way_one_by_couple_part.f k c0 (rd x1 b0) (rd x2 b0)).bind fun a0 => (if a0.2.2 = 0 then (if x9.length < 17592186044416 then (if d0.length < 17592186044416 then (couple_way_all_by_couple_part.l0 k x1 x2 (x9 ++ [a0.1]) (d0 ++ [a0.2.1]) e0 (wrap64 (b0 + 1)) c0) else (none)) else (none)) else (some (([] : List Int), ([] : List Int), a0.2.2)))) else (none)) else (none)) else (none)) else (some (x9, d0, 0))
def couple_way_all_by_couple_part.f (k : Nat) (a0 : Int) (l1 : List Int) (l2 : List Int) : Option (List Int × List Int × Int) := if (l1.length : Int) = (l2.length : Int) then (couple_way_all_by_couple_part.l0 k l1 l2 ([] : List Int) ([] : List Int) (l1.length : Int) 0 a0) else (some (([] : List Int), ([] : List Int), 1))
theorem couple_way_all_by_couple_part.mono_l : ∀ k, (∀ y0 y1 y2 y3 y4 y5 y6, LeO (couple_way_all_by_couple_part.l0 k y0 y1 y2 y3 y4 y5 y6) (couple_way_all_by_couple_part.l0 (k + 1) y0 y1 y2 y3 y4 y5 y6))
  | 0 => fun _ _ _ _ _ _ _ r h => by simp [couple_way_all_by_couple_part.l0] at h
  | k + 1 => by
    have a0 := couple_way_all_by_couple_part.mono_l k
    · intro y0 y1 y2 y3 y4 y5 y6
      unfold couple_way_all_by_couple_part.l0
      with_reducible repeat' first
   | apply a0
   | apply couple_way_one_by_couple_part.mono
   | exact LeO.refl _
   | exact LeO.none _
   | refine LeO.ite ?_ ?_
   | refine LeO.bind ?_ (fun _ => ?_)
theorem couple_way_all_by_couple_part.mono : ∀ a0 a1 a2 k, LeO (couple_way_all_by_couple_part.f k a0 a1 a2) (couple_way_all_by_couple_part.f (k + 1) a0 a1 a2) := by
  intro a0 a1 a2 k
  have b0 := couple_way_all_by_couple_part.mono_l k
  unfold couple_way_all_by_couple_part.f
  with_reducible repeat' first
   | apply b0
   | apply couple_way_one_by_couple_part.mono
   | exact LeO.refl _
   | exact LeO.none _
   | refine LeO.ite ?_ ?_
   | refine LeO.bind ?_ (fun _ => ?_)
def couple_way_all_by_couple_part.T7 : Bool × List (List Nat × List Nat) := (true, [([], []), ([], []), ([], []), ([1, 2], [1, 2]), ([3], [3]), ([], []), ([], []), ([5, 6], [5, 6]), ([7], [7]), ([0, 4, 8], [0, 4, 8]), ([9], [9]), ([10], [10]), ([10], [10]), ([10], [10]), ([11, 9, 0, 1, 2, 3, 4, 5, 6, 7, 8, 9, 10, 11], [11]), ([12, 14, 0, 1, 2, 3, 4, 5, 6, 7, 8, 9, 10, 11, 12, 14], [12]), ([13, 15, 0, 1, 2, 3, 4, 5, 6, 7, 8, 9, 10, 11, 12, 13, 14, 15], [13])])
def couple_way_all_by_couple_part.B7 : List Nat := [0, 0, 0, 6, 14, 0, 0, 96, 224, 511, 1023, 2047, 2047, 2047, 4095, 24575, 65535]
theorem couple_way_all_by_couple_part.tab7 : rtab .any (opsOf Try.f67 7) = couple_way_all_by_couple_part.T7 := by kernel_rfl
theorem couple_way_all_by_couple_part.bits7 : waitsOk couple_way_all_by_couple_part.T7.2 couple_way_all_by_couple_part.B7 = true := by kernel_rfl
set_option maxHeartbeats 8000000 in
set_option maxRecDepth 100000 in
theorem couple_way_all_by_couple_part.calls (k : Nat) (g0 : Int) (A1 : Option Addr) (c1 : Nat) (l1 : List Int) (A2 : Option Addr) (c2 : Nat) (l2 : List Int) (r1 : List Int) (r2 : List Int) (r3 : Int) (w : World) (hr1 : Kd.C (Kd.int .i64) w A1 l1.length l1) (hc1 : l1.length ≤ c1) (hr2 : Kd.C (Kd.int .i64) w A2 l2.length l2) (hc2 : l2.length ≤ c2) (h : couple_way_all_by_couple_part.f k g0 l1 l2 = some (r1, r2, r3)) :
    Calls Try.prog 67 #[.agg #[.int .i64 g0, .func (.func 93) #[] #[]], .slice A1 l1.length c1, .slice A2 l2.length c2] w fun e w' => ∃ v0_ v1_ : Value, e = .returned (.tuple #[v0_, v1_, .int .i64 r3]) ∧ Kd.R (Kd.int .i64) 2 w' w.heap.size (fun k_ => no_ k_ v1_) v0_ r1 ∧ Kd.R (Kd.int .i64) 2 w' w.heap.size (fun k_ => no_ k_ v0_) v1_ r2 ∧ Below w.heap.size w w' := by
 have e1 := Try.underlying101
 have R0 := a_ hr1
 have m1 := a_ hc1
 clear hr1 hc1
 have S0 := a_ hr2
 have n1 := a_ hc2
 clear hr2 hc2
 have HB := a_ (Below.refl w.heap.size w)
 have H : (if (l1.length : Int) = (l2.length : Int) then (couple_way_all_by_couple_part.l0 k l1 l2 ([] : List Int) ([] : List Int) (l1.length : Int) 0 g0) else (some (([] : List Int), ([] : List Int), 1))) = some (r1, r2, r3) := h
 clear h
 replace H := ii_ H
 rcases H with ⟨c4, H⟩ | ⟨c4, H⟩
 {
 have F0 : ((l1.length : Int) == (l2.length : Int)) = true := beq_iff_eq.mpr c4
 have G0 : ((l1.length : Int) != (l2.length : Int)) = false := bne_eq_false_iff_eq.mpr c4
 have H0 : (l1.length == l2.length) = true := by first | simpa using c4 | (simp at c4 ⊢; omega)
 clear c4
 have H' := a_ H
 clear H
 go_enter Try.func67, Try.ntmps67
 go_wp2_with (first | ((with_reducible refine gate_dst (N := 3) rfl ?_); refine bx_ HB 3 #[.int .i64 g0, .func (.func 93) #[] #[]] 101 ?_; clear HB; intro j0 hg w5 hb b0 A0 HB; have J0 := A0; clear hb hg))
 go_loopg [9, 10, 22] k (fun kq v9 T0 d1 w' => ∃ (v0 : List Int) (p0 : List Int) (a0 : Int), d1 = .int .i64 a0 ∧ Aside0 (couple_way_all_by_couple_part.l0 kq l1 l2 v0 p0 (l1.length : Int) a0 g0 = some (r1, r2, r3)) ∧ Aside0 (kq ≤ k) ∧ Aside0 (Kd.R (Kd.int .i64) 2 w' w.heap.size (fun k_ => no_ k_ T0) v9 v0) ∧ Aside0 (Kd.R (Kd.int .i64) 2 w' w.heap.size (fun k_ => no_ k_ v9) T0 p0) ∧ Aside0 (w'.heap[j0]? = some (.cells #[.int .i64 g0, .func (.func 93) #[] #[]] 101 (0, 0))) ∧ Aside0 (Below w.heap.size w w'))
 case atStart => exact ⟨(([] : List Int)), (([] : List Int)), (0), rs_, H', ⟨Nat.le_refl _⟩, ⟨kn_⟩, ⟨kn_⟩, ⟨bk_ b0⟩, ⟨bl_ HB⟩⟩
 case round => (
 clear H'
 try clear c4
 try clear F0
 try clear G0
 try clear H0
 obtain ⟨v0, p0, a0, rfl, HA, U0, f0, c0, b0, HB⟩ := hrel
 cases gk with
 | zero => exact absurd HA.out (by simp [couple_way_all_by_couple_part.l0])
 | succ k1 => (
 have H := HA.out
 clear HA
 simp only [couple_way_all_by_couple_part.l0] at H
 replace H := id_ H
 rcases H with ⟨Y0, H⟩ | ⟨Y0, H⟩
 {
 replace H := gd_ H
 obtain ⟨f1, H⟩ := H
 replace H := gd_ H
 obtain ⟨h1, H⟩ := H
 replace H := gd_ H
 obtain ⟨i1, H⟩ := H
 obtain ⟨⟨y0, z0, I0⟩, V0, H⟩ := ob_ H
 (try dsimp only at H)
 replace H := ie_ H
 rcases H with ⟨K0, L0, H⟩ | ⟨o1, K0, L0, H⟩
 {
 replace H := gt_ H
 obtain ⟨W0, H⟩ := H
 have M0 := a_ W0
 clear W0
 obtain ⟨Z0, q0⟩ : ∃ y_ : List Int, y_ = (v0 ++ [y0]) := ⟨_, rfl⟩
 first | replace H := by_ H q0 | rw [← q0] at H
 have N0 := a_ q0
 clear q0
 replace H := gt_ H
 obtain ⟨X0, H⟩ := H
 have O0 := a_ X0
 clear X0
 obtain ⟨a1, r0⟩ : ∃ y_ : List Int, y_ = (p0 ++ [z0]) := ⟨_, rfl⟩
 first | replace H := by_ H r0 | rw [← r0] at H
 have P0 := a_ r0
 clear r0
 have H' := a_ H
 clear H
 try go_wp2
 replace f0 := a_ (Kd.R_drew f0.out)
 replace c0 := a_ (Kd.R_drew c0.out)
 replace b0 := a_ (blk_drew b0.out)
 replace HB := a_ (below_drew1 HB.out)
 have k0 : 0 ≤ (a0 : Int) := dm_
 have m0 : a0 < (l1.length : Int) := dm_
 obtain ⟨B0, D0, d0⟩ := Kd.at_int R0.out a0 k0 m0
 have h0 := d0
 cases D0
 replace d0 := hc_ HB d0
 replace k0 := eq_true k0
 replace m0 := eq_true m0
 have n0 : 0 ≤ (a0 : Int) := dm_
 have o0 : a0 < (l2.length : Int) := dm_
 obtain ⟨C0, E0, e0⟩ := Kd.at_int S0.out a0 n0 o0
 have i0 := e0
 cases E0
 replace e0 := hc_ HB e0
 replace n0 := eq_true n0
 replace o0 := eq_true o0
 refine start_ (n := 17) (S := fun w' => w'.cell? ⟨j0, 0, none⟩ = some (.int .i64 g0) ∧ w'.cell? ⟨j0, 1, none⟩ = some (.func (.func 93) #[] #[]) ∧ w'.cell? (B0.add (a0).toNat) = some (.int .i64 (rd l1 a0)) ∧ w'.cell? (C0.add (a0).toNat) = some (.int .i64 (rd l2 a0))) (ds := []) (B_ 17 0) kf_ rfl rfl ⟨ce_ b0 0, ce_ b0 1, (hc_ HB h0), (hc_ HB i0)⟩ (fun hHeld => ?_); refine with_tabW couple_way_all_by_couple_part.tab7 couple_way_all_by_couple_part.bits7 (fun HT_ HW_ => ?_)
 generalize wr.drew = p1 at f0 c0 b0 HB d0 e0 hHeld ⊢
 refine pu_ 1 (some 27) (B_ 17 2) HT_ ?_
 refine pu_ 2 (some 28) (B_ 17 6) HT_ ?_
 refine pu_ 3 (some 29) (B_ 17 14) HT_ ?_
 refine pu_ 5 (some 31) (B_ 17 46) HT_ ?_
 refine pu_ 6 (some 32) (B_ 17 110) HT_ ?_
 refine pu_ 7 (some 33) (B_ 17 238) HT_ ?_
 refine take_ (i := 0) (N := some 26) (v := ?_) (a' := ?_) (B_ 17 239) rfl rfl (take_ofW HT_.out HW_.out kf_) (fun _ _ _ h => h) (Or.inl ⟨by rfl, ?_⟩) hHeld ?_ ?_
 rotate_left
 {
 rintro w' ⟨s0, s1, s2, s3⟩
 go_simp
 with_reducible rfl}
 rotate_left
 {
 exact sp_}
 refine take_ (i := 4) (N := some 30) (v := ?_) (a' := ?_) (B_ 17 255) rfl rfl (take_ofW HT_.out HW_.out kf_) (fun _ _ _ h => h) (Or.inl ⟨by rfl, ?_⟩) hHeld ?_ ?_
 rotate_left
 {
 rintro w' ⟨s0, s1, s2, s3⟩
 go_simp
 with_reducible rfl}
 rotate_left
 {
 exact sp_}
 refine take_ (i := 8) (N := some 34) (v := ?_) (a' := ?_) (B_ 17 511) rfl rfl (take_ofW HT_.out HW_.out kf_) (fun _ _ _ h => h) (Or.inl ⟨by rfl, ?_⟩) hHeld ?_ ?_
 rotate_left
 {
 rintro w' ⟨s0, s1, s2, s3⟩
 go_simp
 with_reducible rfl}
 rotate_left
 {
 exact sp_}
 refine one_ (i := 9) (N := some 35) (B_ 17 1023) rfl rfl (one_of HT_.out kf_) (by decide) (fun K hK => ?_)
 refine goes_ Try.func94 kf_ rfl #[.agg #[.int .i64 g0, .func (.func 93) #[] #[]], .int .i64 (rd l1 a0), .int .i64 (rd l2 a0)] (by rfl) rfl rfl ar_ ?_
 with_reducible refine (couple_way_one_by_couple_part.calls k1 g0 (rd l1 a0) (rd l2 a0) y0 z0 I0 _ V0.out).mono ?_
 rintro e q1 ⟨rfl, hb⟩
 refine ⟨_, rfl, ?_⟩
 replace f0 := FR_ f0 hb
 replace c0 := FR_ c0 hb
 replace b0 := FB_ b0 hb
 replace HB := BS_ HB hb
 (try clear hb)
 refine hK.out _ _ ⟨ce_ b0 0, ce_ b0 1, (hc_ HB h0), (hc_ HB i0)⟩ (fun hHeld => ?_)
 clear hK K
 refine norm_ (a' := ?_) ?_ ?_
 rotate_left
 {
 show Act.put _ (some 35) _ = _
 exact sp_}
 refine pu_ 10 (some 25) (B_ 17 2047) HT_ ?_
 refine pu_ 11 (some 36) (B_ 17 4095) HT_ ?_
 refine pu_ 12 (some 37) (B_ 17 8191) HT_ ?_
 refine pu_ 13 (some 38) (B_ 17 16383) HT_ ?_
 refine pu_ 14 (some 12) (B_ 17 32767) HT_ ?_
 refine pu_ 15 (some 13) (B_ 17 65535) HT_ ?_
 refine pu_ 16 (some 14) (B_ 17 131071) HT_ ?_
 refine done_ (done_of HT_.out kf_) ?_
 try go_wp2_with (first | ((with_reducible refine gate_builtin (b := .append) (xs := #[.tmp 42, .tmp 44]) rfl ?_); at_builtin; refine Kd.R_append (Kd.int .i64) (w0 := w) w.heap.size rfl (.tmp 42) (.tmp 44) 53 2 (.int .i64 0) 8 rfl Try.underlying53 info2 rfl (by decide) (by omega) u9 v0 y0 [.int .i64 y0] (fun k_ => no_ k_ u10) (fun _ => False) rfl rfl ?aP (fun _ hk => hk.elim) ?aF ?aO ?aB ?aS ?aL ?_; (case aP => exact rfl); (case aB => exact (bl_ HB)); (case aF => exact (fun k_ hk => Kd.fresh' (Kd.R_lt (kR_ c0)) k_ hk)); (case aO => exact (kR_ f0)); (case aS => exact (bs_ HB)); (case aL => have := M0.out; omega); intro b1 t1 ho hb hg hat; rw [← N0.out] at ho; replace c0 := a_ (Kd.R_after (ok := (fun _ => True)) (by (with_reducible repeat (first | apply Kd.R_alloc | apply Kd.R_drewN | apply Kd.R_drew)); exact Kd.R_mono c0.out (fun _ hk => ⟨trivial, hk⟩)) hg hat); replace b0 := (FG_ b0 hg (Kd.R_ne f0.out b0.out (by decide))); replace HB := a_ (hb); have t0 := a_ (ho); clear f0; clear ho hb hg hat) | ((with_reducible refine gate_builtin (b := .append) (xs := #[.tmp 46, .tmp 48]) rfl ?_); at_builtin; refine Kd.R_append (Kd.int .i64) (w0 := w) w.heap.size rfl (.tmp 46) (.tmp 48) 53 2 (.int .i64 0) 8 rfl Try.underlying53 info2 rfl (by decide) (by omega) u10 p0 z0 [.int .i64 z0] (fun k_ => no_ k_ b1) (fun _ => False) rfl rfl ?aP (fun _ hk => hk.elim) ?aF ?aO ?aB ?aS ?aL ?_; (case aP => exact rfl); (case aB => exact (bl_ HB)); (case aF => exact (fun k_ hk => Kd.fresh' (Kd.R_lt (kR_ t0)) k_ hk)); (case aO => exact (by (with_reducible repeat (first | apply Kd.R_alloc | apply Kd.R_drewN | apply Kd.R_drew)); exact Kd.R_mono c0.out (fun _ hk => hk.2))); (case aS => exact (bs_ HB)); (case aL => have := O0.out; omega); intro j1 v1 ho hb hg hat; rw [← P0.out] at ho; replace b0 := (FG_ b0 hg (Kd.R_ne c0.out b0.out (by decide))); replace t0 := a_ (Kd.R_after (ok := (fun _ => True)) (by (with_reducible repeat (first | apply Kd.R_alloc | apply Kd.R_drewN | apply Kd.R_drew)); exact Kd.R_mono t0.out (fun _ hk => ⟨trivial, hk⟩)) hg hat); replace HB := a_ (hb); have Q0 := a_ (ho); clear c0; clear ho hb hg hat))
 go_roundg k1
 case measure => have := U0.out; omega
 case rel => exact ⟨(Z0), (a1), (wrap64 (a0 + 1)), rs_, H', ⟨by have := U0.out; omega⟩, ⟨by (with_reducible repeat (first | apply Kd.R_alloc | apply Kd.R_drewN | apply Kd.R_drew)); exact Kd.R_mono t0.out (fun _ hk => hk.2)⟩, ⟨kR_ Q0⟩, ⟨bk_ b0⟩, ⟨bl_ HB⟩⟩}
 {
 simp only [Option.some.injEq, Prod.mk.injEq] at H
 obtain ⟨rfl, rfl, rfl⟩ := H
 try go_wp2
 replace f0 := a_ (Kd.R_drew f0.out)
 replace c0 := a_ (Kd.R_drew c0.out)
 replace b0 := a_ (blk_drew b0.out)
 replace HB := a_ (below_drew1 HB.out)
 have k0 : 0 ≤ (a0 : Int) := dm_
 have m0 : a0 < (l1.length : Int) := dm_
 obtain ⟨B0, D0, d0⟩ := Kd.at_int R0.out a0 k0 m0
 have h0 := d0
 cases D0
 replace d0 := hc_ HB d0
 replace k0 := eq_true k0
 replace m0 := eq_true m0
 have n0 : 0 ≤ (a0 : Int) := dm_
 have o0 : a0 < (l2.length : Int) := dm_
 obtain ⟨C0, E0, e0⟩ := Kd.at_int S0.out a0 n0 o0
 have i0 := e0
 cases E0
 replace e0 := hc_ HB e0
 replace n0 := eq_true n0
 replace o0 := eq_true o0
 refine start_ (n := 17) (S := fun w' => w'.cell? ⟨j0, 0, none⟩ = some (.int .i64 g0) ∧ w'.cell? ⟨j0, 1, none⟩ = some (.func (.func 93) #[] #[]) ∧ w'.cell? (B0.add (a0).toNat) = some (.int .i64 (rd l1 a0)) ∧ w'.cell? (C0.add (a0).toNat) = some (.int .i64 (rd l2 a0))) (ds := []) (B_ 17 0) kf_ rfl rfl ⟨ce_ b0 0, ce_ b0 1, (hc_ HB h0), (hc_ HB i0)⟩ (fun hHeld => ?_); refine with_tabW couple_way_all_by_couple_part.tab7 couple_way_all_by_couple_part.bits7 (fun HT_ HW_ => ?_)
 generalize wr.drew = y1 at f0 c0 b0 HB d0 e0 hHeld ⊢
 refine pu_ 1 (some 27) (B_ 17 2) HT_ ?_
 refine pu_ 2 (some 28) (B_ 17 6) HT_ ?_
 refine pu_ 3 (some 29) (B_ 17 14) HT_ ?_
 refine pu_ 5 (some 31) (B_ 17 46) HT_ ?_
 refine pu_ 6 (some 32) (B_ 17 110) HT_ ?_
 refine pu_ 7 (some 33) (B_ 17 238) HT_ ?_
 refine take_ (i := 0) (N := some 26) (v := ?_) (a' := ?_) (B_ 17 239) rfl rfl (take_ofW HT_.out HW_.out kf_) (fun _ _ _ h => h) (Or.inl ⟨by rfl, ?_⟩) hHeld ?_ ?_
 rotate_left
 {
 rintro w' ⟨s0, s1, s2, s3⟩
 go_simp
 with_reducible rfl}
 rotate_left
 {
 exact sp_}
 refine take_ (i := 4) (N := some 30) (v := ?_) (a' := ?_) (B_ 17 255) rfl rfl (take_ofW HT_.out HW_.out kf_) (fun _ _ _ h => h) (Or.inl ⟨by rfl, ?_⟩) hHeld ?_ ?_
 rotate_left
 {
 rintro w' ⟨s0, s1, s2, s3⟩
 go_simp
 with_reducible rfl}
 rotate_left
 {
 exact sp_}
 refine take_ (i := 8) (N := some 34) (v := ?_) (a' := ?_) (B_ 17 511) rfl rfl (take_ofW HT_.out HW_.out kf_) (fun _ _ _ h => h) (Or.inl ⟨by rfl, ?_⟩) hHeld ?_ ?_
 rotate_left
 {
 rintro w' ⟨s0, s1, s2, s3⟩
 go_simp
 with_reducible rfl}
 rotate_left
 {
 exact sp_}
 refine one_ (i := 9) (N := some 35) (B_ 17 1023) rfl rfl (one_of HT_.out kf_) (by decide) (fun K hK => ?_)
 refine goes_ Try.func94 kf_ rfl #[.agg #[.int .i64 g0, .func (.func 93) #[] #[]], .int .i64 (rd l1 a0), .int .i64 (rd l2 a0)] (by rfl) rfl rfl ar_ ?_
 with_reducible refine (couple_way_one_by_couple_part.calls k1 g0 (rd l1 a0) (rd l2 a0) y0 z0 I0 _ V0.out).mono ?_
 rintro e z1 ⟨rfl, hb⟩
 refine ⟨_, rfl, ?_⟩
 replace f0 := FR_ f0 hb
 replace c0 := FR_ c0 hb
 replace b0 := FB_ b0 hb
 replace HB := BS_ HB hb
 (try clear hb)
 refine hK.out _ _ ⟨ce_ b0 0, ce_ b0 1, (hc_ HB h0), (hc_ HB i0)⟩ (fun hHeld => ?_)
 clear hK K
 refine norm_ (a' := ?_) ?_ ?_
 rotate_left
 {
 show Act.put _ (some 35) _ = _
 exact sp_}
 refine pu_ 10 (some 25) (B_ 17 2047) HT_ ?_
 refine pu_ 11 (some 36) (B_ 17 4095) HT_ ?_
 refine pu_ 12 (some 37) (B_ 17 8191) HT_ ?_
 refine pu_ 13 (some 38) (B_ 17 16383) HT_ ?_
 refine pu_ 14 (some 12) (B_ 17 32767) HT_ ?_
 refine pu_ 15 (some 13) (B_ 17 65535) HT_ ?_
 refine pu_ 16 (some 14) (B_ 17 131071) HT_ ?_
 refine done_ (done_of HT_.out kf_) ?_
 try go_wp2
 go_ret3
 exact ⟨_, _, er_, kn_, kn_, bl_ HB⟩}}
 {
 simp only [Option.some.injEq, Prod.mk.injEq] at H
 obtain ⟨rfl, rfl, rfl⟩ := H
 go_wp2
 go_ret3
 exact ⟨_, _, er_, kR_ f0, kR_ c0, bl_ HB⟩}))}
 {
 have F0 : ((l1.length : Int) == (l2.length : Int)) = false := beq_eq_false_iff_ne.mpr c4
 have G0 : ((l1.length : Int) != (l2.length : Int)) = true := bne_iff_ne.mpr c4
 have H0 : (l1.length == l2.length) = false := by first | simpa using c4 | (simp at c4 ⊢; omega)
 simp only [Option.some.injEq, Prod.mk.injEq] at H
 obtain ⟨rfl, rfl, rfl⟩ := H
 go_enter Try.func67, Try.ntmps67
 go_wp2_with (first | ((with_reducible refine gate_dst (N := 3) rfl ?_); refine bx_ HB 3 #[.int .i64 g0, .func (.func 93) #[] #[]] 101 ?_; clear HB; intro j0 hg B1 hb b0 A0 HB; have J0 := A0; clear hb hg))
 go_ret3
 exact ⟨_, _, er_, kn_, kn_, bl_ HB⟩}
def couple_PartAll.f (k : Nat) (l0 : List Int) (l1 : List Int) : Option (List Int × List Int × Int) := (couple_parting.f).bind fun b0 => ((couple_way_all_by_couple_part.f k b0 l0 l1).bind fun a0 => (some (a0.1, a0.2.1, a0.2.2)))
theorem couple_PartAll.mono : ∀ a0 a1 k, LeO (couple_PartAll.f k a0 a1) (couple_PartAll.f (k + 1) a0 a1) := by
  intro a0 a1 k
  unfold couple_PartAll.f
  with_reducible repeat' first
   | apply couple_way_all_by_couple_part.mono
   | exact LeO.refl _
   | exact LeO.none _
   | refine LeO.ite ?_ ?_
   | refine LeO.bind ?_ (fun _ => ?_)
set_option maxHeartbeats 8000000 in
set_option maxRecDepth 100000 in
theorem couple_PartAll.calls (k : Nat) (A0 : Option Addr) (c0 : Nat) (l0 : List Int) (A1 : Option Addr) (c1 : Nat) (l1 : List Int) (r1 : List Int) (r2 : List Int) (r3 : Int) (w : World) (hr0 : Kd.C (Kd.int .i64) w A0 l0.length l0) (hc0 : l0.length ≤ c0) (hr1 : Kd.C (Kd.int .i64) w A1 l1.length l1) (hc1 : l1.length ≤ c1) (h : couple_PartAll.f k l0 l1 = some (r1, r2, r3)) :
    Calls Try.prog 33 #[.slice A0 l0.length c0, .slice A1 l1.length c1] w fun e w' => ∃ v0_ v1_ : Value, e = .returned (.tuple #[v0_, v1_, .int .i64 r3]) ∧ Kd.R (Kd.int .i64) 2 w' w.heap.size (fun k_ => no_ k_ v1_) v0_ r1 ∧ Kd.R (Kd.int .i64) 2 w' w.heap.size (fun k_ => no_ k_ v0_) v1_ r2 ∧ Below w.heap.size w w' := by
 have k0 := a_ hr0
 have m0 := a_ hc0
 clear hr0 hc0
 have n0 := a_ hr1
 have o0 := a_ hc1
 clear hr1 hc1
 have HB := a_ (Below.refl w.heap.size w)
 have H : ((couple_parting.f).bind fun a0 => ((couple_way_all_by_couple_part.f k a0 l0 l1).bind fun b0 => (some (b0.1, b0.2.1, b0.2.2)))) = some (r1, r2, r3) := h
 clear h
 obtain ⟨a0, A3, H⟩ := ob_ H
 (try dsimp only at H)
 obtain ⟨⟨h0, i0, j0⟩, A4, H⟩ := ob_ H
 (try dsimp only at H)
 simp only [Option.some.injEq, Prod.mk.injEq] at H
 obtain ⟨rfl, rfl, rfl⟩ := H
 go_enter Try.func33, Try.ntmps33
 go_wp2_with (first | ((with_reducible refine gate_callee (f := 66) rfl ?_); refine gL_ (some 7) Try.func66 #[] ?_; (with_reducible refine (couple_parting.calls  a0 _ A3.out).mono ?_); rintro e w5 ⟨rfl, hb⟩; refine ⟨_, rfl, ?_⟩; replace HB := BS_ HB hb; (try clear hb)) | ((with_reducible refine gate_callee (f := 67) rfl ?_); refine gL_ (some 10) Try.func67 #[.agg #[.int .i64 a0, .func (.func 93) #[] #[]], .slice A0 l0.length c0, .slice A1 l1.length c1] ?_; (with_reducible refine (couple_way_all_by_couple_part.calls k a0 _ _ l0 _ _ l1 h0 i0 j0 _ ?side1 ?side2 ?side3 ?side4 A4.out).mono ?_); (case side1 => exact kC_ k0 HB); (case side2 => exact m0.out); (case side3 => exact kC_ n0 HB); (case side4 => exact o0.out); rintro e w6 ⟨p0, q0, rfl, f0, g0, hb⟩; refine ⟨_, rfl, ?_⟩; have d0 := a_ (Kd.R_lower f0 (bs_ HB)); have e0 := a_ (Kd.R_lower g0 (bs_ HB)); replace HB := BS_ HB hb; (try clear hb); (try clear f0); (try clear g0)))
 go_ret3
 exact ⟨_, _, er_, kR_ d0, kR_ e0, bl_ HB⟩
def remap_restored.f (a0 : Int) (a1 : Int) : Option (Int) := (num_Clamp.f (wrap64 (a0 * a1)) (-1048576) 1048576).bind fun b0 => (some b0)
set_option maxHeartbeats 8000000 in
set_option maxRecDepth 100000 in
theorem remap_restored.calls (a0 : Int) (a1 : Int) (r : Int) (w : World) (h : remap_restored.f a0 a1 = some r) :
    Calls Try.prog 72 #[.int .i64 a0, .int .i64 a1] w fun e w' => e = .returned (.int .i64 r) ∧ Drawn0 w w' := by
 have H : ((num_Clamp.f (wrap64 (a0 * a1)) (-1048576) 1048576).bind fun b0 => (some b0)) = some r := h
 clear h
 replace H := Option.bind_eq_some_iff.mp H
 obtain ⟨b0, c0, H⟩ := H
 replace H : (some b0) = some r := H
 have A3 := a_ c0
 clear c0
 obtain rfl := Option.some.inj H
 go_enter Try.func72, Try.ntmps72
 go_wp2_with (first | ((with_reducible refine gate_callee (f := 73) rfl ?_); refine gL_ (some 8) Try.func73 #[.int .i64 (wrap64 (a0 * a1)), .int .i64 (-1048576), .int .i64 1048576] ?_; (with_reducible refine (num_Clamp.calls (wrap64 (a0 * a1)) (-1048576) 1048576 b0 _ A3.out).mono ?_); rintro e w' ⟨rfl, ⟨nd, rfl⟩⟩; refine ⟨_, rfl, ?_⟩))
 go_ret
 exact ⟨es_, dr_⟩
def remap_over_int64_by_remap_restored.l0 : Nat → List Int → List Int → List Int → Int → Int → Option (List Int)
  | 0, _, _, _, _, _ => none
  | k + 1, x1, x7, b0, c0, a0 => if a0 < c0 then (if 0 ≤ a0 then (if a0 < (b0.length : Int) then (if a0 < (x1.length : Int) then ((remap_restored.f (rd b0 a0) (rd x1 a0)).bind fun d0 => (if x7.length < 17592186044416 then (remap_over_int64_by_remap_restored.l0 k x1 (x7 ++ [d0]) b0 c0 (wrap64 (a0 + 1))) else (none))) else (none)) else (none)) else (none)) else (some x7)
def remap_over_int64_by_remap_restored.f (k : Nat) (l0 : List Int) (l1 : List Int)  : Option (List Int) := remap_over_int64_by_remap_restored.l0 k l1 ([] : List Int) l0 (l0.length : Int) 0
theorem remap_over_int64_by_remap_restored.mono_l : ∀ k, (∀ y0 y1 y2 y3 y4, LeO (remap_over_int64_by_remap_restored.l0 k y0 y1 y2 y3 y4) (remap_over_int64_by_remap_restored.l0 (k + 1) y0 y1 y2 y3 y4))
  | 0 => fun _ _ _ _ _ r h => by simp [remap_over_int64_by_remap_restored.l0] at h
  | k + 1 => by
    have a0 := remap_over_int64_by_remap_restored.mono_l k
    · intro y0 y1 y2 y3 y4
      unfold remap_over_int64_by_remap_restored.l0
      with_reducible repeat' first
   | apply a0
   | exact LeO.refl _
   | exact LeO.none _
   | refine LeO.ite ?_ ?_
   | refine LeO.bind ?_ (fun _ => ?_)
theorem remap_over_int64_by_remap_restored.mono : ∀ a0 a1 k, LeO (remap_over_int64_by_remap_restored.f k a0 a1) (remap_over_int64_by_remap_restored.f (k + 1) a0 a1) := by
  intro a0 a1 k
  have b0 := remap_over_int64_by_remap_restored.mono_l k
  unfold remap_over_int64_by_remap_restored.f
  with_reducible repeat' first
   | apply b0
   | exact LeO.refl _
   | exact LeO.none _
   | refine LeO.ite ?_ ?_
   | refine LeO.bind ?_ (fun _ => ?_)
set_option maxHeartbeats 8000000 in
set_option maxRecDepth 100000 in
theorem remap_over_int64_by_remap_restored.calls (k : Nat) (A0 : Option Addr) (c0 : Nat) (l0 : List Int) (A1 : Option Addr) (c1 : Nat) (l1 : List Int)  (r : List Int) (w : World) (hr0 : Kd.C (Kd.int .i64) w A0 l0.length l0) (hc0 : l0.length ≤ c0) (hr1 : Kd.C (Kd.int .i64) w A1 l1.length l1) (hc1 : l1.length ≤ c1) (h : remap_over_int64_by_remap_restored.f k l0 l1 = some r) :
    Calls Try.prog 71 #[.slice A0 l0.length c0, .slice A1 l1.length c1, .func (.func 72) #[] #[]] w fun e w' => ∃ v0_ : Value, e = .returned (v0_) ∧ Kd.R (Kd.int .i64) 2 w' w.heap.size (fun _ => True) v0_ r ∧ Below w.heap.size w w' := by
 have y0 := a_ hr0
 have I0 := a_ hc0
 clear hr0 hc0
 have z0 := a_ hr1
 have J0 := a_ hc1
 clear hr1 hc1
 have HB := a_ (Below.refl w.heap.size w)
 have H : (remap_over_int64_by_remap_restored.l0 k l1 ([] : List Int) l0 (l0.length : Int) 0) = some r := h
 clear h
 have H' := a_ H
 clear H
 go_enter Try.func71, Try.ntmps71
 go_wp2
 go_loopg [7, 12] k (fun kq v7 B0 w' => ∃ (d0 : List Int) (a0 : Int), B0 = .int .i64 a0 ∧ Aside0 (remap_over_int64_by_remap_restored.l0 kq l1 d0 l0 (l0.length : Int) a0 = some r) ∧ Aside0 (kq ≤ k) ∧ Aside0 (Kd.R (Kd.int .i64) 2 w' w.heap.size (fun _ => True) v7 d0) ∧ Aside0 (Below w.heap.size w w'))
 case atStart => exact ⟨(([] : List Int)), (0), rs_, H', ⟨Nat.le_refl _⟩, ⟨kn_⟩, ⟨bl_ HB⟩⟩
 case round => (
 clear H'
 obtain ⟨d0, a0, rfl, HA, p0, h0, HB⟩ := hrel
 cases gk with
 | zero => exact absurd HA.out (by simp [remap_over_int64_by_remap_restored.l0])
 | succ k1 => (
 have H := HA.out
 clear HA
 simp only [remap_over_int64_by_remap_restored.l0] at H
 replace H := id_ H
 rcases H with ⟨q0, H⟩ | ⟨q0, H⟩
 {
 replace H := gd_ H
 obtain ⟨E0, H⟩ := H
 replace H := gd_ H
 obtain ⟨F0, H⟩ := H
 replace H := gd_ H
 obtain ⟨G0, H⟩ := H
 obtain ⟨g0, A8, H⟩ := ob_ H
 (try dsimp only at H)
 replace H := gt_ H
 obtain ⟨c9, H⟩ := H
 have r0 := a_ c9
 clear c9
 obtain ⟨s0, b0⟩ : ∃ y_ : List Int, y_ = (d0 ++ [g0]) := ⟨_, rfl⟩
 first | replace H := by_ H b0 | rw [← b0] at H
 have n0 := a_ b0
 clear b0
 have H' := a_ H
 clear H
 have i0 : 0 ≤ (a0 : Int) := dm_
 have j0 : a0 < (l0.length : Int) := dm_
 obtain ⟨C0, t0, e0⟩ := Kd.at_int y0.out a0 i0 j0
 cases t0
 replace e0 := hc_ HB e0
 replace i0 := eq_true i0
 replace j0 := eq_true j0
 have k0 : 0 ≤ (a0 : Int) := dm_
 have m0 : a0 < (l1.length : Int) := dm_
 obtain ⟨D0, v0, f0⟩ := Kd.at_int z0.out a0 k0 m0
 cases v0
 replace f0 := hc_ HB f0
 replace k0 := eq_true k0
 replace m0 := eq_true m0
 go_wp2_with (first | (go_at_call 72; (with_reducible refine (remap_restored.calls (rd l0 a0) (rd l1 a0) g0 _ A8.out).mono ?_); rintro e w' ⟨rfl, ⟨nd, rfl⟩⟩) | ((with_reducible refine gate_builtin (b := .append) (xs := #[.tmp 17, .tmp 25]) rfl ?_); at_builtin; refine Kd.R_append (Kd.int .i64) (w0 := w) w.heap.size rfl (.tmp 17) (.tmp 25) 53 2 (.int .i64 0) 8 rfl Try.underlying53 info2 rfl (by decide) (by omega) u7 d0 g0 [.int .i64 g0] (fun _ => True) (fun _ => False) rfl rfl ?aP (fun _ hk => hk.elim) ?aF ?aO ?aB ?aS ?aL ?_; (case aP => exact rfl); (case aB => exact (bl_ HB)); (case aF => exact (fun _ _ => trivial)); (case aO => exact (kR_ h0)); (case aS => exact (bs_ HB)); (case aL => have := r0.out; omega); intro H0 K0 ho hb hg hat; rw [← n0.out] at ho; replace HB := a_ (hb); have o0 := a_ (ho); clear h0; clear ho hb hg hat))
 go_roundg k1
 case measure => have := p0.out; omega
 case rel => exact ⟨(s0), (wrap64 (a0 + 1)), rs_, H', ⟨by have := p0.out; omega⟩, ⟨kR_ o0⟩, ⟨bl_ HB⟩⟩}
 {
 obtain rfl := Option.some.inj H
 go_wp2
 go_ret
 exact ⟨_, er_, kR_ h0, bl_ HB⟩}))
def remap_Restore.f (k : Nat) (l0 : List Int) (l1 : List Int) : Option (List Int × Int) := (remap_row.f k l0 (-8388608) 8388608).bind fun a0 => (if a0 = true then ((remap_row.f k l1 1 4194304).bind fun b0 => (if b0 = true then ((remap_over_int64_by_remap_restored.f k l0 l1).bind fun c0 => (some (c0, 0))) else (some (([] : List Int), 1)))) else (some (([] : List Int), 1)))
theorem remap_Restore.mono : ∀ a0 a1 k, LeO (remap_Restore.f k a0 a1) (remap_Restore.f (k + 1) a0 a1) := by
  intro a0 a1 k
  unfold remap_Restore.f
  with_reducible repeat' first
   | apply remap_over_int64_by_remap_restored.mono
   | apply remap_row.mono
   | exact LeO.refl _
   | exact LeO.none _
   | refine LeO.ite ?_ ?_
   | refine LeO.bind ?_ (fun _ => ?_)
set_option maxHeartbeats 8000000 in
set_option maxRecDepth 100000 in
theorem remap_Restore.calls (k : Nat) (A0 : Option Addr) (c0 : Nat) (l0 : List Int) (A1 : Option Addr) (c1 : Nat) (l1 : List Int) (r1 : List Int) (r2 : Int) (w : World) (hr0 : Kd.C (Kd.int .i64) w A0 l0.length l0) (hc0 : l0.length ≤ c0) (hr1 : Kd.C (Kd.int .i64) w A1 l1.length l1) (hc1 : l1.length ≤ c1) (h : remap_Restore.f k l0 l1 = some (r1, r2)) :
    Calls Try.prog 35 #[.slice A0 l0.length c0, .slice A1 l1.length c1] w fun e w' => ∃ v0_ : Value, e = .returned (.tuple #[v0_, .int .i64 r2]) ∧ Kd.R (Kd.int .i64) 2 w' w.heap.size (fun _ => True) v0_ r1 ∧ Below w.heap.size w w' := by
 have b0 := a_ hr0
 have d0 := a_ hc0
 clear hr0 hc0
 have e0 := a_ hr1
 have f0 := a_ hc1
 clear hr1 hc1
 have HB := a_ (Below.refl w.heap.size w)
 have H : ((remap_row.f k l0 (-8388608) 8388608).bind fun g0 => (if g0 = true then ((remap_row.f k l1 1 4194304).bind fun h0 => (if h0 = true then ((remap_over_int64_by_remap_restored.f k l0 l1).bind fun a0 => (some (a0, 0))) else (some (([] : List Int), 1)))) else (some (([] : List Int), 1)))) = some (r1, r2) := h
 clear h
 obtain ⟨g0, A3, H⟩ := ob_ H
 (try dsimp only at H)
 replace H := ib_ H
 rcases H with ⟨rfl, H⟩ | ⟨rfl, H⟩
 {
 obtain ⟨h0, A5, H⟩ := ob_ H
 (try dsimp only at H)
 replace H := ib_ H
 rcases H with ⟨rfl, H⟩ | ⟨rfl, H⟩
 {
 obtain ⟨a0, A7, H⟩ := ob_ H
 (try dsimp only at H)
 simp only [Option.some.injEq, Prod.mk.injEq] at H
 obtain ⟨rfl, rfl⟩ := H
 go_enter Try.func35, Try.ntmps35
 go_wp2_with (first | ((with_reducible refine gate_callee (f := 70) rfl ?_); refine gL_ (some 7) Try.func70 #[.slice A0 l0.length c0, .int .i64 (-8388608), .int .i64 8388608] ?_; (with_reducible refine (remap_row.calls k _ _ l0 (-8388608) 8388608 true _ ?side1 ?side2 A3.out).mono ?_); (case side1 => repeat (first | exact b0.out | (with_reducible refine Kd.C_alloc ?_ _) | (with_reducible refine Kd.C_drewN ?_ _) | (with_reducible refine Kd.C_drew ?_))); (case side2 => exact d0.out); rintro e w' ⟨rfl, ⟨nd, rfl⟩⟩; refine ⟨_, rfl, ?_⟩) | (go_at_call 70; (with_reducible refine (remap_row.calls k _ _ l1 1 4194304 true _ ?side1 ?side2 A5.out).mono ?_); (case side1 => repeat (first | exact e0.out | (with_reducible refine Kd.C_alloc ?_ _) | (with_reducible refine Kd.C_drewN ?_ _) | (with_reducible refine Kd.C_drew ?_))); (case side2 => exact f0.out); rintro e w' ⟨rfl, ⟨nd, rfl⟩⟩) | ((with_reducible refine gate_callee (f := 71) rfl ?_); refine gL_ (some 16) Try.func71 #[.slice A0 l0.length c0, .slice A1 l1.length c1, .func (.func 72) #[] #[]] ?_; (with_reducible refine (remap_over_int64_by_remap_restored.calls k _ _ l0 _ _ l1  a0 _ ?side1 ?side2 ?side3 ?side4 A7.out).mono ?_); (case side1 => repeat (first | exact b0.out | (with_reducible refine Kd.C_alloc ?_ _) | (with_reducible refine Kd.C_drewN ?_ _) | (with_reducible refine Kd.C_drew ?_))); (case side2 => exact d0.out); (case side3 => repeat (first | exact e0.out | (with_reducible refine Kd.C_alloc ?_ _) | (with_reducible refine Kd.C_drewN ?_ _) | (with_reducible refine Kd.C_drew ?_))); (case side4 => exact f0.out); rintro e w8 ⟨k0, rfl, j0, hb⟩; refine ⟨_, rfl, ?_⟩; have i0 := a_ (Kd.R_lower j0 (bs_ HB)); replace HB := BS_ HB hb; (try clear hb); (try clear j0)))
 go_ret2
 exact ⟨_, er_, kR_ i0, bl_ HB⟩}
 {
 simp only [Option.some.injEq, Prod.mk.injEq] at H
 obtain ⟨rfl, rfl⟩ := H
 go_enter Try.func35, Try.ntmps35
 go_wp2_with (first | ((with_reducible refine gate_callee (f := 70) rfl ?_); refine gL_ (some 7) Try.func70 #[.slice A0 l0.length c0, .int .i64 (-8388608), .int .i64 8388608] ?_; (with_reducible refine (remap_row.calls k _ _ l0 (-8388608) 8388608 true _ ?side1 ?side2 A3.out).mono ?_); (case side1 => repeat (first | exact b0.out | (with_reducible refine Kd.C_alloc ?_ _) | (with_reducible refine Kd.C_drewN ?_ _) | (with_reducible refine Kd.C_drew ?_))); (case side2 => exact d0.out); rintro e w' ⟨rfl, ⟨nd, rfl⟩⟩; refine ⟨_, rfl, ?_⟩) | (go_at_call 70; (with_reducible refine (remap_row.calls k _ _ l1 1 4194304 false _ ?side1 ?side2 A5.out).mono ?_); (case side1 => repeat (first | exact e0.out | (with_reducible refine Kd.C_alloc ?_ _) | (with_reducible refine Kd.C_drewN ?_ _) | (with_reducible refine Kd.C_drew ?_))); (case side2 => exact f0.out); rintro e w' ⟨rfl, ⟨nd, rfl⟩⟩))
 go_ret2
 exact ⟨_, er_, kn_, bl_ HB⟩}}
 {
 simp only [Option.some.injEq, Prod.mk.injEq] at H
 obtain ⟨rfl, rfl⟩ := H
 go_enter Try.func35, Try.ntmps35
 go_wp2_with (first | ((with_reducible refine gate_callee (f := 70) rfl ?_); refine gL_ (some 7) Try.func70 #[.slice A0 l0.length c0, .int .i64 (-8388608), .int .i64 8388608] ?_; (with_reducible refine (remap_row.calls k _ _ l0 (-8388608) 8388608 false _ ?side1 ?side2 A3.out).mono ?_); (case side1 => repeat (first | exact b0.out | (with_reducible refine Kd.C_alloc ?_ _) | (with_reducible refine Kd.C_drewN ?_ _) | (with_reducible refine Kd.C_drew ?_))); (case side2 => exact d0.out); rintro e w' ⟨rfl, ⟨nd, rfl⟩⟩; refine ⟨_, rfl, ?_⟩))
 go_ret2
 exact ⟨_, er_, kn_, bl_ HB⟩}
def vcodec_near.l0 : Nat → List Int → List Int → Int → Int → Option (List Int)
  | 0, _, _, _, _ => none
  | k + 1, x3, x6, x7, x8 => if x8 < x7 then (if 0 ≤ x8 then (if x8 < (x6.length : Int) then ((num_Clamp.f (rd x6 x8) (-8388608) 8388608).bind fun a0 => (if x3.length < 17592186044416 then (vcodec_near.l0 k (x3 ++ [a0]) x6 x7 (wrap64 (x8 + 1))) else (none))) else (none)) else (none)) else (some x3)
def vcodec_near.f (k : Nat) (l0 : List Int) : Option (List Int) := vcodec_near.l0 k ([] : List Int) l0 (l0.length : Int) 0
theorem vcodec_near.mono_l : ∀ k, (∀ y0 y1 y2 y3, LeO (vcodec_near.l0 k y0 y1 y2 y3) (vcodec_near.l0 (k + 1) y0 y1 y2 y3))
  | 0 => fun _ _ _ _ r h => by simp [vcodec_near.l0] at h
  | k + 1 => by
    have a0 := vcodec_near.mono_l k
    · intro y0 y1 y2 y3
      unfold vcodec_near.l0
      with_reducible repeat' first
   | apply a0
   | exact LeO.refl _
   | exact LeO.none _
   | refine LeO.ite ?_ ?_
   | refine LeO.bind ?_ (fun _ => ?_)
theorem vcodec_near.mono : ∀ a0 k, LeO (vcodec_near.f k a0) (vcodec_near.f (k + 1) a0) := by
  intro a0 k
  have b0 := vcodec_near.mono_l k
  unfold vcodec_near.f
  with_reducible repeat' first
   | apply b0
   | exact LeO.refl _
   | exact LeO.none _
   | refine LeO.ite ?_ ?_
   | refine LeO.bind ?_ (fun _ => ?_)
set_option maxHeartbeats 8000000 in
set_option maxRecDepth 100000 in
theorem vcodec_near.calls (k : Nat) (A0 : Option Addr) (c0 : Nat) (l0 : List Int) (r : List Int) (w : World) (hr0 : Kd.C (Kd.int .i64) w A0 l0.length l0) (hc0 : l0.length ≤ c0) (h : vcodec_near.f k l0 = some r) :
    Calls Try.prog 36 #[.slice A0 l0.length c0] w fun e w' => ∃ v0_ : Value, e = .returned (v0_) ∧ Kd.R (Kd.int .i64) 2 w' w.heap.size (fun _ => True) v0_ r ∧ Below w.heap.size w w' := by
 have r0 := a_ hr0
 have z0 := a_ hc0
 clear hr0 hc0
 have HB := a_ (Below.refl w.heap.size w)
 have H : (vcodec_near.l0 k ([] : List Int) l0 (l0.length : Int) 0) = some r := h
 clear h
 have H' := a_ H
 clear H
 go_enter Try.func36, Try.ntmps36
 go_wp2
 go_loopg [3, 8] k (fun kq v3 v8 w' => ∃ (d0 : List Int) (a0 : Int), v8 = .int .i64 a0 ∧ Aside0 (vcodec_near.l0 kq d0 l0 (l0.length : Int) a0 = some r) ∧ Aside0 (kq ≤ k) ∧ Aside0 (Kd.R (Kd.int .i64) 2 w' w.heap.size (fun _ => True) v3 d0) ∧ Aside0 (Below w.heap.size w w'))
 case atStart => exact ⟨(([] : List Int)), (0), rs_, H', ⟨Nat.le_refl _⟩, ⟨kn_⟩, ⟨bl_ HB⟩⟩
 case round => (
 clear H'
 obtain ⟨d0, a0, rfl, HA, m0, g0, HB⟩ := hrel
 cases gk with
 | zero => exact absurd HA.out (by simp [vcodec_near.l0])
 | succ k1 => (
 have H := HA.out
 clear HA
 simp only [vcodec_near.l0] at H
 replace H := id_ H
 rcases H with ⟨n0, H⟩ | ⟨n0, H⟩
 {
 replace H := gd_ H
 obtain ⟨t0, H⟩ := H
 replace H := gd_ H
 obtain ⟨v0, H⟩ := H
 obtain ⟨f0, A5, H⟩ := ob_ H
 (try dsimp only at H)
 replace H := gt_ H
 obtain ⟨c6, H⟩ := H
 have o0 := a_ c6
 clear c6
 obtain ⟨p0, b0⟩ : ∃ y_ : List Int, y_ = (d0 ++ [f0]) := ⟨_, rfl⟩
 first | replace H := by_ H b0 | rw [← b0] at H
 have j0 := a_ b0
 clear b0
 have H' := a_ H
 clear H
 have h0 : 0 ≤ (a0 : Int) := dm_
 have i0 : a0 < (l0.length : Int) := dm_
 obtain ⟨s0, q0, e0⟩ := Kd.at_int r0.out a0 h0 i0
 cases q0
 replace e0 := hc_ HB e0
 replace h0 := eq_true h0
 replace i0 := eq_true i0
 go_wp2_with (first | ((with_reducible refine gate_callee (f := 73) rfl ?_); refine gL_ (some 14) Try.func73 #[.int .i64 (rd l0 a0), .int .i64 (-8388608), .int .i64 8388608] ?_; (with_reducible refine (num_Clamp.calls (rd l0 a0) (-8388608) 8388608 f0 _ A5.out).mono ?_); rintro e w' ⟨rfl, ⟨nd, rfl⟩⟩; refine ⟨_, rfl, ?_⟩) | ((with_reducible refine gate_builtin (b := .append) (xs := #[.tmp 12, .tmp 15]) rfl ?_); at_builtin; refine Kd.R_append (Kd.int .i64) (w0 := w) w.heap.size rfl (.tmp 12) (.tmp 15) 53 2 (.int .i64 0) 8 rfl Try.underlying53 info2 rfl (by decide) (by omega) u3 d0 f0 [.int .i64 f0] (fun _ => True) (fun _ => False) rfl rfl ?aP (fun _ hk => hk.elim) ?aF ?aO ?aB ?aS ?aL ?_; (case aP => exact rfl); (case aB => exact (bl_ HB)); (case aF => exact (fun _ _ => trivial)); (case aO => exact (kR_ g0)); (case aS => exact (bs_ HB)); (case aL => have := o0.out; omega); intro y0 w7 ho hb hg hat; rw [← j0.out] at ho; replace HB := a_ (hb); have k0 := a_ (ho); clear g0; clear ho hb hg hat))
 go_roundg k1
 case measure => have := m0.out; omega
 case rel => exact ⟨(p0), (wrap64 (a0 + 1)), rs_, H', ⟨by have := m0.out; omega⟩, ⟨kR_ k0⟩, ⟨bl_ HB⟩⟩}
 {
 obtain rfl := Option.some.inj H
 go_wp2
 go_ret
 exact ⟨_, er_, kR_ g0, bl_ HB⟩}))
mutual
def vcodec_Decode.j0 : Nat → List (List Int) → List (List Int) → List (List Int) → Option ((List (List Int)) × Int)
  | 0, _, _, _ => none
  | k + 1, x7, a0, b0 => vcodec_Decode.l0 k x7 a0 (a0.length : Int) 0 ([] : List (List Int))
def vcodec_Decode.l0 : Nat → List (List Int) → List (List Int) → Int → Int → List (List Int) → Option ((List (List Int)) × Int)
  | 0, _, _, _, _, _ => none
  | k + 1, x7, c0, d0, b0, a0 => if b0 < d0 then (if 0 ≤ b0 then (if b0 < (c0.length : Int) then (if 16 ≤ 35184372088832 then (if ((rd_L1 c0 b0).length : Int) > 0 then ((floor_Floor.f k (rd_L1 c0 b0)).bind fun e0 => (if b0 < (x7.length : Int) then ((vcodec_near.f k (rd_L2 x7 b0)).bind fun g0 => ((remap_Restore.f k g0 e0.1).bind fun f0 => (if a0.length < 5864062014805 then (vcodec_Decode.l0 k x7 c0 d0 (wrap64 (b0 + 1)) (a0 ++ [f0.1])) else (none)))) else (none))) else (if a0.length < 5864062014805 then (vcodec_Decode.l0 k x7 c0 d0 (wrap64 (b0 + 1)) (a0 ++ [(List.replicate 16 0)])) else (none))) else (none)) else (none)) else (none)) else (some (a0, 0))
end
def vcodec_Decode.f (k : Nat) (e0 : Int) (f0 : Int) (g0 : List Int) (h0 : List Int) (c0 : List (List Int)) (b0 : List (List Int)) : Option ((List (List Int)) × Int) := (vpack_Right.f k e0 f0 g0 h0 c0 b0).bind fun k0 => (if k0 = true then ((some (([] : List (List Int)) : List (List Int))).bind fun i0 => (if i0.length + b0.length < 5864062014805 then ((some (i0 ++ b0 : List (List Int))).bind fun a0 => ((vcodec_codec_both.f e0 f0 g0 h0 c0).bind fun l0 => (if l0 = true then (if 0 < (a0.length : Int) then (if 1 < (a0.length : Int) then ((couple_PartAll.f k (rd_L2 a0 0) (rd_L2 a0 1)).bind fun d0 => (vcodec_Decode.j0 k ((a0.set (0 : Int).toNat d0.1).set (1 : Int).toNat d0.2.1) c0 b0)) else (none)) else (none)) else (vcodec_Decode.j0 k a0 c0 b0)))) else (none))) else (some (([] : List (List Int)), 1)))
theorem vcodec_Decode.mono_l : ∀ k, (∀ y0 y1 y2, LeO (vcodec_Decode.j0 k y0 y1 y2) (vcodec_Decode.j0 (k + 1) y0 y1 y2)) ∧ (∀ y0 y1 y2 y3 y4, LeO (vcodec_Decode.l0 k y0 y1 y2 y3 y4) (vcodec_Decode.l0 (k + 1) y0 y1 y2 y3 y4))
  | 0 => ⟨fun _ _ _ r h => by simp [vcodec_Decode.j0] at h, fun _ _ _ _ _ r h => by simp [vcodec_Decode.l0] at h⟩
  | k + 1 => by
    obtain ⟨a0, b0⟩ := vcodec_Decode.mono_l k
    refine ⟨?_, ?_⟩
    all_goals (intros; first | unfold vcodec_Decode.j0 | unfold vcodec_Decode.l0)
    all_goals with_reducible repeat' first
     | apply a0
     | exact b0 _ _ _ _ _
     | apply couple_PartAll.mono
     | apply floor_Floor.mono
     | apply remap_Restore.mono
     | apply vcodec_near.mono
     | apply vpack_Right.mono
     | exact LeO.refl _
     | exact LeO.none _
     | refine LeO.ite ?_ ?_
     | refine LeO.bind ?_ (fun _ => ?_)
theorem vcodec_Decode.mono : ∀ a0 a1 a2 a3 a4 a5 k, LeO (vcodec_Decode.f k a0 a1 a2 a3 a4 a5) (vcodec_Decode.f (k + 1) a0 a1 a2 a3 a4 a5) := by
  intro a0 a1 a2 a3 a4 a5 k
  obtain ⟨b0, c0⟩ := vcodec_Decode.mono_l k
  unfold vcodec_Decode.f
  with_reducible repeat' first
   | apply b0
   | exact c0 _ _ _ _ _
   | apply couple_PartAll.mono
   | apply floor_Floor.mono
   | apply remap_Restore.mono
   | apply vcodec_near.mono
   | apply vpack_Right.mono
   | exact LeO.refl _
   | exact LeO.none _
   | refine LeO.ite ?_ ?_
   | refine LeO.bind ?_ (fun _ => ?_)
def vcodec_Decode.T6 : Bool × List (List Nat × List Nat) := (true, [([], []), ([], []), ([], []), ([2], [2]), ([3], [3]), ([], []), ([5], [5]), ([6], [6]), ([4, 7], [4, 7]), ([8], [8]), ([9], [9]), ([9], [9]), ([9], [9]), ([0, 0, 2, 3, 4, 5, 6, 7, 8, 9, 10], [0]), ([13, 10, 8, 0, 2, 3, 4, 5, 6, 7, 8, 9, 10], [10, 13]), ([1, 0, 1, 2, 3, 4, 5, 6, 7, 8, 9, 10, 11, 13, 14], [1]), ([15, 11, 14, 0, 1, 2, 3, 4, 5, 6, 7, 8, 9, 10, 11, 13, 14], [11, 15])])
def vcodec_Decode.B6 : List Nat := [0, 0, 0, 4, 12, 0, 32, 96, 252, 508, 1020, 1020, 1020, 2045, 10237, 28671, 61439]
theorem vcodec_Decode.tab6 : rtab .any (opsOf Try.f14 6) = vcodec_Decode.T6 := by kernel_rfl
theorem vcodec_Decode.bits6 : waitsOk vcodec_Decode.T6.2 vcodec_Decode.B6 = true := by kernel_rfl
set_option maxHeartbeats 8000000 in
set_option maxRecDepth 100000 in
theorem vcodec_Decode.calls (k : Nat) (C0 : Int) (D0 : Int) (H0 : Option Addr) (I0 : Nat) (z0 : List Int) (J0 : Option Addr) (K0 : Nat) (A0 : List Int) (Y0 : Option Addr) (Q0 : Nat) (q0 : List (List Int)) (P1_1_ : Nat → Prop) (M0 : Option Addr) (N0 : Nat) (v0 : List (List Int)) (r1 : List (List Int)) (r2 : Int) (w : World) (hr0_2 : Kd.C (Kd.int .i64) w H0 z0.length z0) (hc0_2 : z0.length ≤ I0) (hr0_3 : Kd.C (Kd.int .i64) w J0 A0.length A0) (hc0_3 : A0.length ≤ K0) (hr1_0 : Kd.C (Kd.slice 3 (Kd.int .i64)) w Y0 q0.length q0) (hc1_0 : q0.length ≤ Q0) (hs1_1 : Kd.V (Kd.slice 2 (Kd.int .i64)) 53 w w.heap.size (fun k_ => P1_1_ k_) (.slice M0 v0.length N0) v0) (h : vcodec_Decode.f k C0 D0 z0 A0 q0 v0 = some (r1, r2)) :
    Calls Try.prog 14 #[.agg #[.int .i64 C0, .int .i64 D0, .slice H0 z0.length I0, .slice J0 A0.length K0], .agg #[.slice Y0 q0.length Q0, .slice M0 v0.length N0]] w fun e w' => ∃ v0_ : Value, e = .returned (.tuple #[.agg #[v0_], .int .i64 r2]) ∧ Kd.N (Kd.slice 2 (Kd.int .i64)) 53 w' w.heap.size (fun k_ => (P1_1_ k_ ∨ w.heap.size ≤ k_)) v0_ r1 ∧ Below w.heap.size w w' := by
 have z7 := Try.underlying24
 have A7 := Try.underlying28
 have B7 := Try.underlying37
 have C7 := Try.underlying61
 have s3 := a_ hr0_2
 have t3 := a_ hc0_2
 clear hr0_2 hc0_2
 have v3 := a_ hr0_3
 have w3 := a_ hc0_3
 clear hr0_3 hc0_3
 have J1 := a_ hr1_0
 have y3 := a_ hc1_0
 clear hr1_0 hc1_0
 have m0 := a_ (show Kd.V (Kd.slice 2 (Kd.int .i64)) 53 w w.heap.size (fun k_ => (P1_1_ k_ ∨ w.heap.size ≤ k_)) (.slice M0 v0.length N0) v0 from Kd.V_mono hs1_1 (fun k_ hk => .inl hk))
 have HB := a_ (Below.refl w.heap.size w)
 have H : ((vpack_Right.f k C0 D0 z0 A0 q0 v0).bind fun C4 => (if C4 = true then ((some (([] : List (List Int)) : List (List Int))).bind fun c2 => (if c2.length + v0.length < 5864062014805 then ((some (c2 ++ v0 : List (List Int))).bind fun o0 => ((vcodec_codec_both.f C0 D0 z0 A0 q0).bind fun z3 => (if z3 = true then (if 0 < (o0.length : Int) then (if 1 < (o0.length : Int) then ((couple_PartAll.f k (rd_L2 o0 0) (rd_L2 o0 1)).bind fun h4 => (vcodec_Decode.j0 k ((o0.set (0 : Int).toNat h4.1).set (1 : Int).toNat h4.2.1) q0 v0)) else (none)) else (none)) else (vcodec_Decode.j0 k o0 q0 v0)))) else (none))) else (some (([] : List (List Int)), 1)))) = some (r1, r2) := h
 clear h
 obtain ⟨C4, A3, H⟩ := ob_ H
 (try dsimp only at H)
 replace H := ib_ H
 rcases H with ⟨rfl, H⟩ | ⟨rfl, H⟩
 {
 obtain ⟨c2, S1⟩ : ∃ y_ : List (List Int), y_ = (([] : List (List Int))) := ⟨_, rfl⟩
 first | replace H := by_ H S1 | rw [← S1] at H
 have i4 := a_ S1
 clear S1
 replace H := gt_ H
 obtain ⟨c5, H⟩ := H
 have k5 := a_ c5
 clear c5
 obtain ⟨o0, T1⟩ : ∃ y_ : List (List Int), y_ = (c2 ++ v0) := ⟨_, rfl⟩
 first | replace H := by_ H T1 | rw [← T1] at H
 have Q4 := a_ T1
 clear T1
 obtain ⟨z3, A6, H⟩ := ob_ H
 (try dsimp only at H)
 have D4 := a_ H
 clear H
 go_enter Try.func14, Try.ntmps14
 go_upto_if 28 with (first | ((with_reducible refine gate_dst (N := 2) rfl ?_); refine box_ 2 #[.int .i64 C0, .int .i64 D0, .slice H0 z0.length I0, .slice J0 A0.length K0] 24 ?_; intro h0 hg w8 hbox hb; replace m0 := a_ (Kd.V_below (Kd.V_elderB (kV_ m0) h0 (Nat.le_of_eq hg.symm)) hb); have a0 := a_ (hbox); have R4 := GE_ HB hg; have j4 := GE_ HB hg; replace HB := BS_ HB hb; clear hb hbox hg) | ((with_reducible refine gate_dst (N := 3) rfl ?_); refine box_ 3 #[.slice Y0 q0.length Q0, .slice M0 v0.length N0] 28 ?_; intro i0 hg w9 hbox hb; replace m0 := a_ (Kd.V_below (Kd.V_elderB (kV_ m0) i0 (Nat.le_of_eq hg.symm)) hb); have b0 := a_ (hbox); have S4 := GE_ HB hg; have k4 := GE_ HB hg; replace HB := BS_ HB hb; obtain ⟨Z0, a1⟩ := NN_ a0 hg; replace a0 := FB_ a0 hb; clear hb hbox hg) | ((with_reducible refine gate_dst (N := 4) rfl ?_); refine box_ 4 #[.slice none 0 0] 37 ?_; intro f0 hg N7 hbox hb; replace m0 := a_ (Kd.V_below (Kd.V_elderB (kV_ m0) f0 (Nat.le_of_eq hg.symm)) hb); have c0 := a_ (hbox); have T4 := GE_ HB hg; have l4 := GE_ HB hg; replace HB := BS_ HB hb; obtain ⟨b1, c1⟩ := NN_ a0 hg; replace a0 := FB_ a0 hb; obtain ⟨R0, S0⟩ := NN_ b0 hg; replace b0 := FB_ b0 hb; clear hb hbox hg; have l6 := Z0.out; have m6 := a1.out; have n6 := b1.out; have o6 := c1.out; obtain ⟨n2, p2, q2, s2, t2, v2, w2, y2⟩ := e4_ a0; have p6 := R0.out; have q6 := S0.out; obtain ⟨z2, A2, B2, C2⟩ := e2_ b0) | ((with_reducible refine gate_callee (f := 21) rfl ?_); refine gL_ (some 16) Try.func21 #[.agg #[.int .i64 C0, .int .i64 D0, .slice H0 z0.length I0, .slice J0 A0.length K0], .agg #[.slice Y0 q0.length Q0, .slice M0 v0.length N0]] ?_; (with_reducible refine (vpack_Right.calls k C0 D0 _ _ z0 _ _ A0 _ _ q0 _ _ v0 true _ ?side1 ?side2 ?side3 ?side4 ?side5 ?side6 ?side7 ?side8 A3.out).mono ?_); (case side1 => exact kC_ s3 HB); (case side2 => exact t3.out); (case side3 => exact kC_ v3 HB); (case side4 => exact w3.out); (case side5 => exact kC_ J1 HB); (case side6 => exact y3.out); (case side7 => exact kCt_ (Kd.V_reads' m0.out).2.2); (case side8 => exact (Kd.V_reads' m0.out).2.1); rintro e O7 ⟨rfl, hb⟩; refine ⟨_, rfl, ?_⟩; replace m0 := FV_ m0 hb; replace a0 := FB_ a0 hb; replace b0 := FB_ b0 hb; replace c0 := FB_ c0 hb; replace HB := BS_ HB hb; (try clear hb); (try clear hk); obtain ⟨D2, E2, F2, G2, H2, I2, J2, K2⟩ := e4_ a0) | ((with_reducible refine gate_dst (N := 6) rfl ?_); refine box_ 6 #[.int .i64 0, .int .i64 0, .slice none 0 0, .slice none 0 0] 61 ?_; intro g0 hg P7 hbox hb; replace m0 := a_ (Kd.V_below (Kd.V_elderB (kV_ m0) g0 (Nat.le_of_eq hg.symm)) hb); have e0 := a_ (hbox); have r6 := GE_ HB hg; have U4 := GE_ HB hg; replace HB := BS_ HB hb; obtain ⟨S3, T3⟩ := NN_ a0 hg; replace a0 := FB_ a0 hb; obtain ⟨O1, P1⟩ := NN_ b0 hg; replace b0 := FB_ b0 hb; obtain ⟨Q1, R1⟩ := NN_ c0 hg; replace c0 := FB_ c0 hb; clear hb hbox hg; have s6 := T3.out; have t6 := S3.out; have v6 := P1.out; have w6 := O1.out; have x6 := R1.out; have y6 := Q1.out; obtain ⟨L2, M2, N2, O2, P2, Q2, R2, S2⟩ := e4_ e0) | ((with_reducible refine gate_dst (N := 21) rfl ?_); refine Kd.N_lit (Kd.slice 2 (Kd.int .i64)) _ 53 ?hg (N' := 21) ?hd (xs := ([] : List (List Int))) (inner := []) (ok := (fun k_ => (P1_1_ k_ ∨ w.heap.size ≤ k_) ∧ k_ ≠ h0 ∧ k_ ≠ i0 ∧ k_ ≠ f0 ∧ k_ ≠ g0)) (okp := (fun k_ => (P1_1_ k_ ∨ w.heap.size ≤ k_) ∧ k_ ≠ h0 ∧ k_ ≠ i0 ∧ k_ ≠ f0 ∧ k_ ≠ g0)) ?hr ?hp (fun _ hk => hk) (fr_ (P := (fun k_ => (P1_1_ k_ ∨ w.heap.size ≤ k_) ∧ k_ ≠ h0 ∧ k_ ≠ i0 ∧ k_ ≠ f0 ∧ k_ ≠ g0)) (fun k_ hk => ⟨(.inr (Nat.le_trans (bs_ HB) hk)), Kd.freshB (g := h0) (o := .cells #[.int .i64 C0, .int .i64 D0, .slice H0 z0.length I0, .slice J0 A0.length K0] 24 (0, 0)) (bk_ a0) k_ hk, Kd.freshB (g := i0) (o := .cells #[.slice Y0 q0.length Q0, .slice M0 v0.length N0] 28 (0, 0)) (bk_ b0) k_ hk, Kd.freshB (g := f0) (o := .cells #[.slice none 0 0] 37 (0, 0)) (bk_ c0) k_ hk, Kd.freshB (g := g0) (o := .cells #[.int .i64 C0, .int .i64 D0, .slice H0 z0.length I0, .slice J0 A0.length K0] 61 (0, 0)) (bp_ e0) k_ hk⟩)) (Below.refl _ _) (Nat.le_refl _) (by simp) ?_; (case hd => rfl); (case hg => rfl); (case hr => first | (go_simp; done) | (go_simp; rfl)); (case hp => exact (Reps.none _ _)); intro b4 Q7 K1 hb hg_ hnew_; clear hg_ hnew_; (first | rw [← i4.out] at K1 | (simp only [Int.reduceToNat] at K1; rw [← i4.out] at K1)); replace m0 := a_ (Kd.V_elder' (by (with_reducible repeat (first | apply Kd.V_alloc | apply Kd.V_drewN | apply Kd.V_drew)); exact (Kd.V_mono (Kd.V_far (p := ⟨g0, 3, none⟩) (Kd.V_far (p := ⟨g0, 2, none⟩) (Kd.V_far (p := ⟨g0, 1, none⟩) (Kd.V_far (p := ⟨g0, 0, none⟩) (Kd.V_mono m0.out (fun k_ hk => (⟨hk, hk.2⟩ : _ ∧ k_ ≠ g0))) (fun _ hk => hk.2) (.int .i64 C0)) (fun _ hk => hk.2) (.int .i64 D0)) (fun _ hk => hk.2) (.slice H0 z0.length I0)) (fun _ hk => hk.2) (.slice J0 A0.length K0)) (fun _ h_ => h_.1))) (Kd.N_base K1) hb); have E1 := a_ (Kd.N_lower K1 (bs_ HB)); replace a0 := FB_ a0 hb; replace b0 := FB_ b0 hb; replace c0 := FB_ c0 hb; replace e0 := a_ (blk_below (g := g0) (o := .cells #[.int .i64 C0, .int .i64 D0, .slice H0 z0.length I0, .slice J0 A0.length K0] 61 (0, 0)) (bp_ e0) hb); replace HB := BS_ HB hb; clear hb K1; obtain ⟨T2, U2, V2, W2⟩ := e2_ b0) | ((with_reducible refine gate_builtin (b := .append) (xs := #[.tmp 21, .tmp 23]) rfl ?_); at_builtin; refine Kd.N_append_rows (Kd.slice 2 (Kd.int .i64)) (w0 := w) w.heap.size rfl (.tmp 21) (.tmp 23) 26 53 (.slice none 0 0) 24 rfl Try.underlying26 info53 rfl (by decide) (by omega) b4 c2 v0 _ _ _ (fun k_ => (P1_1_ k_ ∨ w.heap.size ≤ k_) ∧ k_ ≠ h0 ∧ k_ ≠ i0 ∧ k_ ≠ f0 ∧ k_ ≠ g0) (fun k_ => ((fun k_ => (P1_1_ k_ ∨ w.heap.size ≤ k_) ∧ k_ ≠ h0 ∧ k_ ≠ i0 ∧ k_ ≠ f0 ∧ k_ ≠ g0)) k_ ∧ no_ k_ b4) rfl rfl ?aO ?aR (fun _ hk => hk) ?aF ?aB ?aS ?aL ?_; (case aR => exact (by skip; exact Kd.V_F (Kd.V_mono (ok' := (fun k_ => ((fun k_ => (P1_1_ k_ ∨ w.heap.size ≤ k_) ∧ k_ ≠ h0 ∧ k_ ≠ i0 ∧ k_ ≠ f0 ∧ k_ ≠ g0)) k_ ∧ no_ k_ b4)) (m0.out) cj_))); (case aB => exact (bl_ HB)); (case aF => exact (fun k_ hk => ⟨(.inr (Nat.le_trans (bs_ HB) hk)), Kd.freshB (g := h0) (o := .cells #[.int .i64 C0, .int .i64 D0, .slice H0 z0.length I0, .slice J0 A0.length K0] 24 (0, 0)) (bk_ a0) k_ hk, Kd.freshB (g := i0) (o := .cells #[.slice Y0 q0.length Q0, .slice M0 v0.length N0] 28 (0, 0)) (bk_ b0) k_ hk, Kd.freshB (g := f0) (o := .cells #[.slice none 0 0] 37 (0, 0)) (bk_ c0) k_ hk, Kd.freshB (g := g0) (o := .cells #[.int .i64 C0, .int .i64 D0, .slice H0 z0.length I0, .slice J0 A0.length K0] 61 (0, 0)) (bk_ e0) k_ hk⟩)); (case aO => exact (kN_ E1)); (case aS => exact (bs_ HB)); (case aL => have := k5.out; omega); intro f1 R7 ho hb hg hat; rw [← Q4.out] at ho; replace m0 := a_ (Kd.V_afterv (ok := (fun k_ => (P1_1_ k_ ∨ w.heap.size ≤ k_) ∧ k_ ≠ h0 ∧ k_ ≠ i0 ∧ k_ ≠ f0 ∧ k_ ≠ g0)) (by (with_reducible repeat (first | apply Kd.V_alloc | apply Kd.V_drewN | apply Kd.V_drew)); exact Kd.V_mono m0.out cj_) hg hat); replace a0 := (FG_ a0 hg (Kd.N_ne E1.out a0.out (by decide))); replace b0 := (FG_ b0 hg (Kd.N_ne E1.out b0.out (by decide))); replace c0 := (FG_ c0 hg (Kd.N_ne E1.out c0.out (by decide))); replace e0 := (FG_ e0 hg (Kd.N_ne E1.out e0.out (by decide))); replace HB := a_ (hb); have r0 := a_ (ho); clear E1; clear ho hb hg hat; obtain ⟨X2, Y2, Z2, a3, b3, c3, d3, e3⟩ := e4_ e0; obtain ⟨f3, g3, h3, i3⟩ := e2_ b0) | ((with_reducible refine gate_callee (f := 32) rfl ?_); refine gL_ (some 28) Try.func32 #[.agg #[.int .i64 C0, .int .i64 D0, .slice H0 z0.length I0, .slice J0 A0.length K0], .slice Y0 q0.length Q0] ?_; (with_reducible refine (vcodec_codec_both.calls C0 D0 _ _ z0 _ _ A0 _ _ q0 z3 _ ?side1 ?side2 ?side3 ?side4 ?side5 ?side6 A6.out).mono ?_); (case side1 => exact kC_ s3 HB); (case side2 => exact t3.out); (case side3 => exact kC_ v3 HB); (case side4 => exact w3.out); (case side5 => exact kC_ J1 HB); (case side6 => exact y3.out); rintro e b6 ⟨rfl, hb⟩; refine ⟨_, rfl, ?_⟩; replace m0 := FV_ m0 hb; replace r0 := FN_ r0 hb; replace a0 := FB_ a0 hb; replace b0 := FB_ b0 hb; replace c0 := FB_ c0 hb; replace e0 := FB_ e0 hb; replace HB := BS_ HB hb; (try clear hb); (try clear hk)))
 (try simp only [Act.put, List.setIfInBounds_toArray, List.set_cons_zero, List.set_cons_succ])
 go_cut [] (fun wc => ∃ (kq : Nat) (O0 : List (List Int)), Aside0 (vcodec_Decode.j0 kq O0 q0 v0 = some (r1, r2)) ∧ Aside0 (kq ≤ k) ∧ Aside0 (Kd.N (Kd.slice 2 (Kd.int .i64)) 53 wc w.heap.size (fun k_ => (P1_1_ k_ ∨ w.heap.size ≤ k_) ∧ k_ ≠ h0 ∧ k_ ≠ i0 ∧ k_ ≠ f0 ∧ k_ ≠ g0) f1 O0) ∧ Aside0 (Kd.V (Kd.slice 2 (Kd.int .i64)) 53 wc w.heap.size (fun k_ => (P1_1_ k_ ∨ w.heap.size ≤ k_) ∧ no_ k_ f1 ∧ k_ ≠ h0 ∧ k_ ≠ i0 ∧ k_ ≠ f0 ∧ k_ ≠ g0) (.slice M0 v0.length N0) v0) ∧ Aside0 (wc.heap[h0]? = some (.cells #[.int .i64 C0, .int .i64 D0, (.slice H0 z0.length I0), (.slice J0 A0.length K0)] 24 (0, 0))) ∧ Aside0 (wc.heap[i0]? = some (.cells #[(.slice Y0 q0.length Q0), (.slice M0 v0.length N0)] 28 (0, 0))) ∧ Aside0 (wc.heap[f0]? = some (.cells #[(.slice none 0 0)] 37 (0, 0))) ∧ Aside0 (wc.heap[g0]? = some (.cells #[.int .i64 C0, .int .i64 D0, (.slice H0 z0.length I0), (.slice J0 A0.length K0)] 61 (0, 0))) ∧ Aside0 (Below w.heap.size w wc))
 case first => (
 have H := D4.out
 clear D4
 by_cases m4 : z3 = true
 {
 subst m4
 rw [if_pos rfl] at H
 replace H := gt_ H
 obtain ⟨g5, H⟩ := H
 have n4 : decide (0 < (o0.length : Int)) = true := decide_eq_true g5
 have z6 : decide (0 < o0.length) = true := decide_eq_true (by omega)
 clear g5
 (first | rw [n4] | (simp only [i64_w, i32_w]; rw [n4]) | skip)
 replace H := gt_ H
 obtain ⟨h5, H⟩ := H
 have B6 : decide (1 < (o0.length : Int)) = true := decide_eq_true h5
 have C6 : decide (1 < o0.length) = true := decide_eq_true (by omega)
 clear h5
 obtain ⟨⟨L1, M1, l5⟩, c6, H⟩ := ob_ H
 (try dsimp only at H)
 obtain ⟨d4, U1⟩ : ∃ y_ : List (List Int), y_ = (o0.set (0 : Int).toNat L1) := ⟨_, rfl⟩
 first | replace H := by_ H U1 | rw [← U1] at H
 have V4 := a_ U1
 clear U1
 obtain ⟨m5, V1⟩ : ∃ y_ : List (List Int), y_ = (d4.set (1 : Int).toNat M1) := ⟨_, rfl⟩
 first | replace H := by_ H V1 | rw [← V1] at H
 have W4 := a_ V1
 clear V1
 have H' := a_ H
 clear H
 try go_wp2
 replace m0 := a_ (Kd.V_drew m0.out)
 replace r0 := a_ (Kd.N_drew r0.out)
 replace a0 := a_ (blk_drew a0.out)
 replace b0 := a_ (blk_drew b0.out)
 replace c0 := a_ (blk_drew c0.out)
 replace e0 := a_ (blk_drew e0.out)
 replace HB := a_ (below_drew1 HB.out)
 obtain ⟨D7, B3, E4⟩ := Kd.N_slice r0.out
 (first | subst E4 | (injection E4 with f1_ f2_ f3_; have f4_ := f1_.symm; have f5_ := f3_.symm; clear f1_ f2_ f3_; subst f4_; subst f5_))
 have C3 : 0 ≤ (0 : Int) := (by omega)
 have D3 : 0 < (o0.length : Int) := dm_
 obtain ⟨W1, U3, V3, n5, U0, j3, k3⟩ := at_L2 (Kd.N_reads' r0.out).2.2 0 C3 D3
 cases n5
 obtain ⟨ce240, hce240, hMe240, hcc240⟩ := Kd.N_get r0.out [] 0 C3 (by first | exact D3 | exact dm_ | (have e_ := (Kd.N_reads' r0.out).1; omega))
 obtain ⟨ua240_0, uc240_0, rfl, ul240_0, ge240_0⟩ := Kd.FK_slice_open hMe240
 have hv240_0 := hcc240 0 _ rfl
 rw [Nat.add_zero, show ((Kd.slice 2 (Kd.int .i64))).sz = 1 from rfl, Nat.mul_one] at hv240_0
 replace hv240_0 := Option.some.inj (hv240_0.symm.trans U0)
 injection hv240_0 with hva_ hvn_ hvc_
 rw [hva_] at ge240_0
 rw [hvc_] at ul240_0
 have HL240_0 := a_ (show Kd.V (Kd.int .i64) 2 _ w.heap.size _ _ (rd_L2 o0 0) from Kd.V_mk ul240_0 ge240_0)
 clear hva_ hvn_ hvc_ ge240_0 ul240_0
 clear hcc240 hce240
 have qi240 : (0 < o0.length) = True := eq_true (by omega)
 (try rw [show ((0 : Int)).toNat = 0 from rfl] at U0)
 (try rw [Addr.add_zero'] at U0)
 have V0 := a_ k3
 have t4 := a_ j3
 clear k3 j3
 replace C3 := eq_true C3
 replace D3 := eq_true D3
 have E3 : 0 ≤ (1 : Int) := (by omega)
 have F3 : 1 < (o0.length : Int) := dm_
 obtain ⟨X4, W3, X3, o5, W0, l3, m3⟩ := at_L2 (Kd.N_reads' r0.out).2.2 1 E3 F3
 obtain rfl : W1 = X4 := (by injection o5)
 obtain ⟨ce241, hce241, hMe241, hcc241⟩ := Kd.N_get r0.out [] 1 E3 (by first | exact F3 | exact dm_ | (have e_ := (Kd.N_reads' r0.out).1; omega))
 obtain ⟨ua241_0, uc241_0, rfl, ul241_0, ge241_0⟩ := Kd.FK_slice_open hMe241
 have hv241_0 := hcc241 0 _ rfl
 rw [Nat.add_zero, show ((Kd.slice 2 (Kd.int .i64))).sz = 1 from rfl, Nat.mul_one] at hv241_0
 replace hv241_0 := Option.some.inj (hv241_0.symm.trans W0)
 injection hv241_0 with hva_ hvn_ hvc_
 rw [hva_] at ge241_0
 rw [hvc_] at ul241_0
 have HL241_0 := a_ (show Kd.V (Kd.int .i64) 2 _ w.heap.size _ _ (rd_L2 o0 1) from Kd.V_mk ul241_0 ge241_0)
 clear hva_ hvn_ hvc_ ge241_0 ul241_0
 clear hcc241 hce241
 (try simp only [show (1 : Int).toNat = 1 from rfl, Nat.reduceMul, Nat.reduceEqDiff, Go.Addr.add, ↓reduceIte] at W0)
 have qi241 : (1 < o0.length) = True := eq_true (by omega)
 (try rw [show ((1 : Int)).toNat = 1 from rfl] at W0)
 have X0 := a_ m3
 have v4 := a_ l3
 clear m3 l3
 replace E3 := eq_true E3
 replace F3 := eq_true F3
 refine start_ (n := 17) (S := fun w' => w'.cell? W1 = some (.slice U3 (rd_L2 o0 0).length V3) ∧ w'.cell? ⟨W1.block, W1.off + 1, none⟩ = some (.slice W3 (rd_L2 o0 1).length X3)) (ds := [14, 16]) (B_ 17 0) kf_ rfl rfl ⟨U0, W0⟩ (fun hHeld => ?_); refine with_tabW vcodec_Decode.tab6 vcodec_Decode.bits6 (fun HT_ HW_ => ?_)
 generalize b6.drew = S7 at m0 r0 a0 b0 c0 e0 HB HL240_0 HL241_0 V0 X0 U0 W0 hHeld ⊢
 refine pu_ 0 (some 30) (B_ 17 1) HT_ ?_
 refine pu_ 1 (some 31) (B_ 17 3) HT_ ?_
 refine pu_ 2 (some 32) (B_ 17 7) HT_ ?_
 refine pu_ 3 (some 33) (B_ 17 15) HT_ ?_
 refine pu_ 5 (some 35) (B_ 17 47) HT_ ?_
 refine pu_ 6 (some 36) (B_ 17 111) HT_ ?_
 refine take_ (i := 4) (N := some 34) (v := ?_) (a' := ?_) (B_ 17 127) rfl rfl (take_ofW HT_.out HW_.out kf_) (fun _ _ _ h => h) (Or.inl ⟨by rfl, ?_⟩) hHeld ?_ ?_
 rotate_left
 {
 rintro w' ⟨s0, s1⟩
 go_simp
 with_reducible rfl}
 rotate_left
 {
 exact sp_}
 refine take_ (i := 7) (N := some 37) (v := ?_) (a' := ?_) (B_ 17 255) rfl rfl (take_ofW HT_.out HW_.out kf_) (fun _ _ _ h => h) (Or.inl ⟨by rfl, ?_⟩) hHeld ?_ ?_
 rotate_left
 {
 rintro w' ⟨s0, s1⟩
 go_simp
 with_reducible rfl}
 rotate_left
 {
 exact sp_}
 refine one_ (i := 8) (N := some 38) (B_ 17 511) rfl rfl (one_of HT_.out kf_) (by decide) (fun K hK => ?_)
 refine goes_ Try.func33 kf_ rfl #[.slice U3 (rd_L2 o0 0).length V3, .slice W3 (rd_L2 o0 1).length X3] (by rfl) rfl rfl ar_ ?_
 with_reducible refine (couple_PartAll.calls k _ _ (rd_L2 o0 0) _ _ (rd_L2 o0 1) L1 M1 l5 _ ?side1 ?side2 ?side3 ?side4 c6.out).mono ?_
 (case side1 => repeat (first | exact (by repeat (first | (with_reducible exact V0.out) | (with_reducible refine Kd.C_alloc ?_ _) | (with_reducible refine Kd.C_drewN ?_ _) | (with_reducible refine Kd.C_drew ?_) | exact V0.out)) | (with_reducible refine Kd.C_alloc ?_ _) | (with_reducible refine Kd.C_drewN ?_ _) | (with_reducible refine Kd.C_drew ?_)))
 (case side2 => exact t4.out)
 (case side3 => repeat (first | exact (by repeat (first | (with_reducible exact X0.out) | (with_reducible refine Kd.C_alloc ?_ _) | (with_reducible refine Kd.C_drewN ?_ _) | (with_reducible refine Kd.C_drew ?_) | exact X0.out)) | (with_reducible refine Kd.C_alloc ?_ _) | (with_reducible refine Kd.C_drewN ?_ _) | (with_reducible refine Kd.C_drew ?_)))
 (case side4 => exact v4.out)
 rintro e T7 ⟨E7, G3, rfl, E0, n3, hb⟩
 have HS0_ := (hb.cell (World.block_lt_of_cell? _ _ (hHeld.1))).trans (hHeld.1)
 have HS1_ := (hb.cell (World.block_lt_of_cell? _ _ (hHeld.2))).trans (hHeld.2)
 refine ⟨_, rfl, ?_⟩
 replace m0 := a_ (Kd.V_mono (Kd.V_told (Kd.V_told (Kd.V_old (kV_ m0) hb) (Kd.R_base E0)) (Kd.R_base n3)) (fun _ h_ => h_.1))
 replace r0 := a_ (Kd.N_mono (Kd.N_told (Kd.N_told (Kd.N_old (kN_ r0) hb) (Kd.R_base E0)) (Kd.R_base n3)) (fun _ h_ => h_.1))
 replace HL240_0 := a_ (Kd.V_mono (Kd.V_told (Kd.V_told (Kd.V_old (kV_ HL240_0) hb) (Kd.R_base E0)) (Kd.R_base n3)) (fun _ h_ => h_.1))
 replace HL241_0 := a_ (Kd.V_mono (Kd.V_told (Kd.V_told (Kd.V_old (kV_ HL241_0) hb) (Kd.R_base E0)) (Kd.R_base n3)) (fun _ h_ => h_.1))
 have H3 := a_ (Kd.R_lower (Kd.R_newM (M := fun k_ => (w.heap.size ≤ k_)) E0 (bs_ HB) (fun k_ h_ => h_)) (bs_ HB))
 have I3 := a_ (Kd.R_lower (Kd.R_newM (M := fun k_ => (w.heap.size ≤ k_)) n3 (bs_ HB) (fun k_ h_ => h_)) (bs_ HB))
 replace a0 := FB_ a0 hb
 replace b0 := FB_ b0 hb
 replace c0 := FB_ c0 hb
 replace e0 := FB_ e0 hb
 replace V0 := a_ (Kd.C_below (by repeat (first | (with_reducible exact V0.out) | (with_reducible refine Kd.C_alloc ?_ _) | (with_reducible refine Kd.C_drewN ?_ _) | (with_reducible refine Kd.C_drew ?_) | exact V0.out)) hb)
 replace X0 := a_ (Kd.C_below (by repeat (first | (with_reducible exact X0.out) | (with_reducible refine Kd.C_alloc ?_ _) | (with_reducible refine Kd.C_drewN ?_ _) | (with_reducible refine Kd.C_drew ?_) | exact X0.out)) hb)
 replace HB := BS_ HB hb
 (try clear hb)
 (try clear hk)
 (try clear E0)
 (try clear n3)
 have F4 : 0 ≤ (0 : Int) := (by omega)
 have G4 : (0 : Int) < ((o0.length : Int) : Int) := dm_
 have qi34 : (0 < o0.length) = True := eq_true (by omega)
 obtain ⟨go34, F7, H4, I4, gl34, cl34, HG34⟩ := Kd.N_form r0.out (by omega)
 (first | cases H4 | (injection H4 with ea_ en_ ec_; (first | subst ea_ | (injection ea_ with ea_; subst ea_)); subst ec_; clear en_))
 have GB34 := a_ I4
 have GG34 := a_ HG34
 clear I4 gl34 HG34
 (first | simp only [add_plain] at U0 | skip)
 (first | simp only [add_plain] at W0 | skip)
 obtain ⟨ce34, hcl34, hM34, hcc34, hfr34⟩ := Kd.N_elem r0.out [] (0 : Int) F4 G4
 obtain ⟨ua34_0, uc34_0, rfl, ul34_0, ge34_0⟩ := Kd.FK_slice_open hM34
 have d2 := hcc34 0 _ rfl
 have hf34_0 := hfr34 0
 (try simp only [show ((Kd.slice 2 (Kd.int .i64))).sz = 1 from rfl, Nat.mul_one, Nat.add_zero] at d2)
 (try simp only [show ((Kd.slice 2 (Kd.int .i64))).sz = 1 from rfl, Nat.mul_one, Nat.add_zero] at hf34_0)
 clear hcl34 hcc34 hfr34 hM34
 (try rw [show ((0 : Int)).toNat = 0 from rfl] at d2)
 (try simp only [Nat.reduceMul, Nat.zero_mul, Nat.zero_add, Nat.reduceAdd] at d2)
 (try rw [show ((0 : Int)).toNat = 0 from rfl] at hf34_0)
 (try simp only [Nat.reduceMul, Nat.zero_mul, Nat.zero_add, Nat.reduceAdd] at hf34_0)
 replace F4 := eq_true F4
 replace G4 := eq_true G4
 obtain ⟨e2, f2, J4⟩ := Kd.R_slice H3.out
 subst J4
 have HX39 := a_ (show Kd.N (Kd.slice 2 (Kd.int .i64)) 53 _ w.heap.size (fun k_ => (P1_1_ k_ ∨ w.heap.size ≤ k_) ∧ no_ k_ ((.slice e2 L1.length f2)) ∧ no_ k_ G3 ∧ k_ ≠ h0 ∧ k_ ≠ i0 ∧ k_ ≠ f0 ∧ k_ ≠ g0) (.slice (some ⟨go34, 0, none⟩) o0.length B3) o0 from (Kd.N_mono (r0.out) cj_))
 replace HX39 := a_ (show Kd.N (Kd.slice 2 (Kd.int .i64)) 53 _ w.heap.size (fun k_ => (P1_1_ k_ ∨ w.heap.size ≤ k_) ∧ no_ k_ G3 ∧ k_ ≠ h0 ∧ k_ ≠ i0 ∧ k_ ≠ f0 ∧ k_ ≠ g0) (.slice (some ⟨go34, 0, none⟩) o0.length B3) o0 from Kd.N_mono HX39.out cj_)
 obtain ⟨ce39, hcl39, hM39, hcc39, hfr39⟩ := Kd.N_elem HX39.out [] (0 : Int) (by omega) (by have h_ : (0 : Int) < ((o0.length : Int) : Int) := dm_; first | exact h_ | (have e_ := (Kd.N_reads' r0.out).1; omega) | simpa using h_)
 obtain ⟨ua39_0, uc39_0, rfl, ul39_0, ge39_0⟩ := Kd.FK_slice_open hM39
 have HZ39 := (Kd.N_seg HX39.out (0 : Int) (by omega) (by have h_ : (0 : Int) < ((o0.length : Int) : Int) := dm_; first | exact h_ | (have e_ := (Kd.N_reads' r0.out).1; omega) | simpa using h_) (seg := [(.slice e2 L1.length f2)]) (j := 0) hcl39 hcc39 (show 1 ≤ 1 from by decide) (x' := L1) (Kd.FK_slice_mk (Kd.R_reads' (Kd.R_mono (ok' := (fun k_ => ((fun k_ => (P1_1_ k_ ∨ w.heap.size ≤ k_) ∧ no_ k_ G3 ∧ k_ ≠ h0 ∧ k_ ≠ i0 ∧ k_ ≠ f0 ∧ k_ ≠ g0)) k_ ∧ k_ ≠ go34)) (Kd.R_types (Kd.R_types (Kd.R_types (Kd.R_types (Kd.R_apart' (H3.out) (Kd.N_typed r0.out) (by decide)) a0.out (by decide)) b0.out (by decide)) c0.out (by decide)) e0.out (by decide)) (fun k_ hk => ⟨⟨(.inr (hk.1.1.1.1.1.1)), ⟨hk.1.1.1.1.1.2, ⟨hk.1.1.1.2, ⟨hk.1.1.2, ⟨hk.1.2, hk.2⟩⟩⟩⟩⟩, fun e_ => (hk.1.1.1.1.2) (by rw [e_]; rfl)⟩))).2.1 (Kd.R_F (Kd.R_mono (ok' := (fun k_ => ((fun k_ => (P1_1_ k_ ∨ w.heap.size ≤ k_) ∧ no_ k_ G3 ∧ k_ ≠ h0 ∧ k_ ≠ i0 ∧ k_ ≠ f0 ∧ k_ ≠ g0)) k_ ∧ k_ ≠ go34)) (Kd.R_types (Kd.R_types (Kd.R_types (Kd.R_types (Kd.R_apart' (H3.out) (Kd.N_typed r0.out) (by decide)) a0.out (by decide)) b0.out (by decide)) c0.out (by decide)) e0.out (by decide)) (fun k_ hk => ⟨⟨(.inr (hk.1.1.1.1.1.1)), ⟨hk.1.1.1.1.1.2, ⟨hk.1.1.1.2, ⟨hk.1.1.2, ⟨hk.1.2, hk.2⟩⟩⟩⟩⟩, fun e_ => (hk.1.1.1.1.2) (by rw [e_]; rfl)⟩)))) (fun _ hk => hk))
 have HG39 := HZ39.2
 replace HZ39 := HZ39.1
 have HP39 := HZ39
 clear HZ39
 (try simp only [show ((Kd.slice 2 (Kd.int .i64))).sz = 1 from rfl, Nat.mul_one, Nat.add_zero] at HP39 HG39)
 rw [← V4.out] at HP39
 have HQ39 := a_ HP39
 clear hcl39 hcc39 hfr39 hM39 HP39
 have o4 : 0 ≤ (1 : Int) := (by omega)
 have p4 : (1 : Int) < ((o0.length : Int) : Int) := dm_
 have qi35 : (1 < o0.length) = True := eq_true (by omega)
 obtain ⟨ce35, hcl35, hM35, hcc35, hfr35⟩ := Kd.N_elem HQ39.out [] (1 : Int) o4 p4
 obtain ⟨ua35_0, uc35_0, rfl, ul35_0, ge35_0⟩ := Kd.FK_slice_open hM35
 have g2 := hcc35 0 _ rfl
 have hf35_0 := hfr35 0
 (try simp only [show ((Kd.slice 2 (Kd.int .i64))).sz = 1 from rfl, Nat.mul_one, Nat.add_zero] at g2)
 (try simp only [show ((Kd.slice 2 (Kd.int .i64))).sz = 1 from rfl, Nat.mul_one, Nat.add_zero] at hf35_0)
 clear hcl35 hcc35 hfr35 hM35
 (try rw [show ((1 : Int)).toNat = 1 from rfl] at g2)
 (try simp only [Nat.reduceMul, Nat.zero_mul, Nat.zero_add, Nat.reduceAdd] at g2)
 (try rw [show ((1 : Int)).toNat = 1 from rfl] at hf35_0)
 (try simp only [Nat.reduceMul, Nat.zero_mul, Nat.zero_add, Nat.reduceAdd] at hf35_0)
 obtain ⟨ce35b, hcl35b, hM35b, hcc35b, hfr35b⟩ := Kd.N_elem HX39.out [] (1 : Int) o4 p4
 obtain ⟨ua35b_0, uc35b_0, rfl, ul35b_0, ge35b_0⟩ := Kd.FK_slice_open hM35b
 have hx35b_0 := hcc35b 0 _ rfl
 have hf35b_0 := hfr35b 0
 (try simp only [show ((Kd.slice 2 (Kd.int .i64))).sz = 1 from rfl, Nat.mul_one, Nat.add_zero] at hx35b_0)
 (try simp only [show ((Kd.slice 2 (Kd.int .i64))).sz = 1 from rfl, Nat.mul_one, Nat.add_zero] at hf35b_0)
 (try rw [show ((1 : Int)).toNat = 1 from rfl] at hx35b_0)
 (try simp only [Nat.reduceMul, Nat.zero_mul, Nat.zero_add, Nat.reduceAdd] at hx35b_0)
 (try rw [show ((1 : Int)).toNat = 1 from rfl] at hf35b_0)
 (try simp only [Nat.reduceMul, Nat.zero_mul, Nat.zero_add, Nat.reduceAdd] at hf35b_0)
 clear hcl35b hM35b hcc35b hfr35b
 replace o4 := eq_true o4
 replace p4 := eq_true p4
 obtain ⟨h2, i2, K4⟩ := Kd.R_slice I3.out
 subst K4
 have HX40 := a_ (show Kd.N (Kd.slice 2 (Kd.int .i64)) 53 _ w.heap.size (fun k_ => (P1_1_ k_ ∨ w.heap.size ≤ k_) ∧ no_ k_ ((.slice h2 M1.length i2)) ∧ k_ ≠ h0 ∧ k_ ≠ i0 ∧ k_ ≠ f0 ∧ k_ ≠ g0) (.slice (some ⟨go34, 0, none⟩) o0.length B3) d4 from (Kd.N_mono (HQ39.out) cj_))
 replace HX40 := a_ (show Kd.N (Kd.slice 2 (Kd.int .i64)) 53 _ w.heap.size (fun k_ => (P1_1_ k_ ∨ w.heap.size ≤ k_) ∧ k_ ≠ h0 ∧ k_ ≠ i0 ∧ k_ ≠ f0 ∧ k_ ≠ g0) (.slice (some ⟨go34, 0, none⟩) o0.length B3) d4 from Kd.N_mono HX40.out cj_)
 obtain ⟨ce40, hcl40, hM40, hcc40, hfr40⟩ := Kd.N_elem HX40.out [] (1 : Int) (by omega) (by have h_ : (1 : Int) < ((o0.length : Int) : Int) := dm_; first | exact h_ | (have e_ := (Kd.N_reads' r0.out).1; omega) | simpa using h_)
 obtain ⟨ua40_0, uc40_0, rfl, ul40_0, ge40_0⟩ := Kd.FK_slice_open hM40
 have HP40 := (Kd.N_seg HX40.out (1 : Int) (by omega) (by have h_ : (1 : Int) < ((o0.length : Int) : Int) := dm_; first | exact h_ | (have e_ := (Kd.N_reads' r0.out).1; omega) | simpa using h_) (seg := [(.slice h2 M1.length i2)]) (j := 0) hcl40 hcc40 (show 1 ≤ 1 from by decide) (x' := M1) (Kd.FK_slice_mk (Kd.R_reads' (Kd.R_mono (ok' := (fun k_ => ((fun k_ => (P1_1_ k_ ∨ w.heap.size ≤ k_) ∧ k_ ≠ h0 ∧ k_ ≠ i0 ∧ k_ ≠ f0 ∧ k_ ≠ g0)) k_ ∧ k_ ≠ go34)) (Kd.R_grown (Kd.R_types (Kd.R_types (Kd.R_types (Kd.R_types (Kd.R_apart' (I3.out) (Kd.N_typed r0.out) (by decide)) a0.out (by decide)) b0.out (by decide)) c0.out (by decide)) e0.out (by decide)) HG39 (fun k_ hk e_ => hk.1.1.1.1.2 (e_.trans rfl))) (fun k_ hk => ⟨⟨(.inr (hk.1.1.1.1.1.1)), ⟨hk.1.1.1.2, ⟨hk.1.1.2, ⟨hk.1.2, hk.2⟩⟩⟩⟩, fun e_ => (hk.1.1.1.1.2) (by rw [e_]; rfl)⟩))).2.1 (Kd.R_F (Kd.R_mono (ok' := (fun k_ => ((fun k_ => (P1_1_ k_ ∨ w.heap.size ≤ k_) ∧ k_ ≠ h0 ∧ k_ ≠ i0 ∧ k_ ≠ f0 ∧ k_ ≠ g0)) k_ ∧ k_ ≠ go34)) (Kd.R_grown (Kd.R_types (Kd.R_types (Kd.R_types (Kd.R_types (Kd.R_apart' (I3.out) (Kd.N_typed r0.out) (by decide)) a0.out (by decide)) b0.out (by decide)) c0.out (by decide)) e0.out (by decide)) HG39 (fun k_ hk e_ => hk.1.1.1.1.2 (e_.trans rfl))) (fun k_ hk => ⟨⟨(.inr (hk.1.1.1.1.1.1)), ⟨hk.1.1.1.2, ⟨hk.1.1.2, ⟨hk.1.2, hk.2⟩⟩⟩⟩, fun e_ => (hk.1.1.1.1.2) (by rw [e_]; rfl)⟩)))) (fun _ hk => hk)).1
 (try simp only [show ((Kd.slice 2 (Kd.int .i64))).sz = 1 from rfl, Nat.mul_one, Nat.add_zero] at HP40)
 rw [← W4.out] at HP40
 have HQ40 := a_ HP40
 clear hcl40 hcc40 hfr40 hM40 HP40
 refine hK.out _ _ ⟨HS0_, HS1_⟩ (fun hHeld => ?_)
 clear hK K
 refine norm_ (a' := ?_) ?_ ?_
 rotate_left
 {
 show Act.put _ (some 38) _ = _
 exact sp_}
 refine pu_ 9 (some 29) (B_ 17 1023) HT_ ?_
 refine pu_ 10 (some 39) (B_ 17 2047) HT_ ?_
 refine pu_ 11 (some 40) (B_ 17 4095) HT_ ?_
 refine pu_ 12 (some 41) (B_ 17 8191) HT_ ?_
 refine pu_ 13 (some 42) (B_ 17 16383) HT_ ?_
 refine last_ (i := 14) (N := none) (B_ 17 32767) rfl rfl (one_of HT_.out kf_) (by decide) (fun K hK => ?_)
 refine skip_ (w1 := ?_) (by rfl) rfl ?_ ?_
 rotate_left
 {
 go_simp
 rfl}
 refine hK.out _ _ ?_
 clear hK K
 refine pu_ 15 (some 43) (B_ 17 65535) HT_ ?_
 refine last_ (i := 16) (N := none) (B_ 17 131071) rfl rfl (one_of HT_.out kf_) (by decide) (fun K hK => ?_)
 refine skip_ (w1 := ?_) (by rfl) rfl ?_ ?_
 rotate_left
 {
 go_simp
 rfl}
 refine hK.out _ _ ?_
 clear hK K
 refine done_ (done_of HT_.out kf_) ?_
 try go_wp2
 go_meet
 case rel => exact ⟨_, (m5), H', ⟨ol_⟩, ⟨kN_ HQ40⟩, ⟨by (with_reducible repeat (first | apply Kd.V_alloc | apply Kd.V_drewN | apply Kd.V_drew)); exact Kd.V_mono (Kd.V_far (p := ⟨go34, 1, none⟩) (Kd.V_far (p := ⟨go34, 0, none⟩) (Kd.V_mono m0.out (fun k_ hk => (⟨hk, fun e_ => hk.1.1.2 (by rw [e_]; rfl)⟩ : _ ∧ k_ ≠ go34))) (fun _ hk => hk.2) ((.slice e2 L1.length f2))) (fun _ hk => hk.2) ((.slice h2 M1.length i2))) cj_⟩, ⟨by (with_reducible repeat (first | refine blk_drewN ?_ _ | refine blk_drew ?_ | refine blk_alloc ?_ _)); refine blk_far ?_ (by have h_ := Kd.N_away HX40.out (fun _ hk => hk.2.1); intro e_; exact h_ (by rw [e_]; rfl)) _; (with_reducible repeat (first | refine blk_drewN ?_ _ | refine blk_drew ?_ | refine blk_alloc ?_ _)); refine blk_far ?_ (by have h_ := Kd.N_away HX40.out (fun _ hk => hk.2.1); intro e_; exact h_ (by rw [e_]; rfl)) _; (with_reducible repeat (first | refine blk_drewN ?_ _ | refine blk_drew ?_ | refine blk_alloc ?_ _)); exact a0.out⟩, ⟨by (with_reducible repeat (first | refine blk_drewN ?_ _ | refine blk_drew ?_ | refine blk_alloc ?_ _)); refine blk_far ?_ (by have h_ := Kd.N_away HX40.out (fun _ hk => hk.2.2.1); intro e_; exact h_ (by rw [e_]; rfl)) _; (with_reducible repeat (first | refine blk_drewN ?_ _ | refine blk_drew ?_ | refine blk_alloc ?_ _)); refine blk_far ?_ (by have h_ := Kd.N_away HX40.out (fun _ hk => hk.2.2.1); intro e_; exact h_ (by rw [e_]; rfl)) _; (with_reducible repeat (first | refine blk_drewN ?_ _ | refine blk_drew ?_ | refine blk_alloc ?_ _)); exact b0.out⟩, ⟨by (with_reducible repeat (first | refine blk_drewN ?_ _ | refine blk_drew ?_ | refine blk_alloc ?_ _)); refine blk_far ?_ (by have h_ := Kd.N_away HX40.out (fun _ hk => hk.2.2.2.1); intro e_; exact h_ (by rw [e_]; rfl)) _; (with_reducible repeat (first | refine blk_drewN ?_ _ | refine blk_drew ?_ | refine blk_alloc ?_ _)); refine blk_far ?_ (by have h_ := Kd.N_away HX40.out (fun _ hk => hk.2.2.2.1); intro e_; exact h_ (by rw [e_]; rfl)) _; (with_reducible repeat (first | refine blk_drewN ?_ _ | refine blk_drew ?_ | refine blk_alloc ?_ _)); exact c0.out⟩, ⟨by (with_reducible repeat (first | refine blk_drewN ?_ _ | refine blk_drew ?_ | refine blk_alloc ?_ _)); refine blk_far ?_ (by have h_ := Kd.N_away HX40.out (fun _ hk => hk.2.2.2.2); intro e_; exact h_ (by rw [e_]; rfl)) _; (with_reducible repeat (first | refine blk_drewN ?_ _ | refine blk_drew ?_ | refine blk_alloc ?_ _)); refine blk_far ?_ (by have h_ := Kd.N_away HX40.out (fun _ hk => hk.2.2.2.2); intro e_; exact h_ (by rw [e_]; rfl)) _; (with_reducible repeat (first | refine blk_drewN ?_ _ | refine blk_drew ?_ | refine blk_alloc ?_ _)); exact e0.out⟩, ⟨by repeat (first | (with_reducible first | exact HB.out | apply below_alloc | apply pw_below_drewN | apply below_drew1 | refine below_set ?_ GB34.out | refine below_set ?_ GB34.out | refine below_set ?_ j4.out | refine below_set ?_ k4.out | refine below_set ?_ l4.out | refine below_set ?_ U4.out) | exact HB.out)⟩⟩}
 {
 replace m4 := Bool.eq_false_iff.mpr m4
 subst m4
 rw [if_neg (show ¬ (false = true) by decide)] at H
 have H' := a_ H
 clear H
 go_wp2
 go_meet
 case rel => exact ⟨_, (o0), H', ⟨ol_⟩, ⟨kN_ r0⟩, ⟨by (with_reducible repeat (first | apply Kd.V_alloc | apply Kd.V_drewN | apply Kd.V_drew)); exact Kd.V_mono m0.out cj_⟩, ⟨bk_ a0⟩, ⟨bk_ b0⟩, ⟨bk_ c0⟩, ⟨bk_ e0⟩, ⟨bl_ HB⟩⟩})
 case rest => (
 clear D4
 try clear c4
 try clear c5
 try clear n2 p2 q2 s2 t2 v2 w2 y2
 try clear z2 A2 B2 C2
 try clear D2 E2 F2 G2 H2 I2 J2 K2
 try clear L2 M2 N2 O2 P2 Q2 R2 S2
 try clear T2 U2 V2 W2
 try clear X2 Y2 Z2 a3 b3 c3 d3 e3
 try clear f3 g3 h3 i3
 obtain ⟨kq, O0, HA, HJ6, y0, k0, a0, b0, c0, e0, HB⟩ := hcut
 cases kq with
 | zero => exact absurd HA.out (by simp [vcodec_Decode.j0])
 | succ kj6 => (
 have H := HA.out
 clear HA
 simp only [vcodec_Decode.j0] at H
 have H' := a_ H
 clear H
 go_wp2_with (first | ((with_reducible refine gate_dst (N := 8) rfl ?_); refine box_ 8 #[.slice none 0 0] 37 ?_; intro n0 hg U7 hbox hb; replace y0 := a_ (Kd.N_below (Kd.N_elderB (kN_ y0) n0 (Nat.le_of_eq hg.symm)) hb); replace k0 := a_ (Kd.V_below (Kd.V_elderB (kV_ k0) n0 (Nat.le_of_eq hg.symm)) hb); have p0 := a_ (hbox); have D6 := GE_ HB hg; have E6 := GE_ HB hg; replace HB := BS_ HB hb; obtain ⟨m1, n1⟩ := NN_ a0 hg; replace a0 := FB_ a0 hb; obtain ⟨d1, e1⟩ := NN_ b0 hg; replace b0 := FB_ b0 hb; obtain ⟨o1, p1⟩ := NN_ c0 hg; replace c0 := FB_ c0 hb; obtain ⟨q1, t1⟩ := NN_ e0 hg; replace e0 := FB_ e0 hb; clear hb hbox hg; have F6 := a1.out; have G6 := Z0.out; have H6 := R0.out; have I6 := S0.out; have J6 := O1.out; have K6 := P1.out; have L6 := d1.out; have M6 := e1.out; obtain ⟨w4, x4, y4, z4⟩ := e2_ b0))
 go_loopg [47] kj6 (fun kq d6 w' => ∃ (t0 : Int) (F0 : List (List Int)) (B0 : Value), d6 = .int .i64 t0 ∧ Aside0 (vcodec_Decode.l0 kq O0 q0 (q0.length : Int) t0 F0 = some (r1, r2)) ∧ Aside0 (kq ≤ kj6) ∧ Aside0 (Kd.N (Kd.slice 2 (Kd.int .i64)) 53 w' w.heap.size (fun k_ => (P1_1_ k_ ∨ w.heap.size ≤ k_) ∧ no_ k_ B0 ∧ k_ ≠ h0 ∧ k_ ≠ i0 ∧ k_ ≠ f0 ∧ k_ ≠ g0 ∧ k_ ≠ n0) f1 O0) ∧ Aside0 (Kd.V (Kd.slice 2 (Kd.int .i64)) 53 w' w.heap.size (fun k_ => (P1_1_ k_ ∨ w.heap.size ≤ k_) ∧ no_ k_ f1 ∧ no_ k_ B0 ∧ k_ ≠ h0 ∧ k_ ≠ i0 ∧ k_ ≠ f0 ∧ k_ ≠ g0 ∧ k_ ≠ n0) (.slice M0 v0.length N0) v0) ∧ Aside0 (Kd.N (Kd.slice 2 (Kd.int .i64)) 53 w' w.heap.size (fun k_ => (P1_1_ k_ ∨ w.heap.size ≤ k_) ∧ no_ k_ f1 ∧ k_ ≠ h0 ∧ k_ ≠ i0 ∧ k_ ≠ f0 ∧ k_ ≠ g0 ∧ k_ ≠ n0) B0 F0) ∧ Aside0 (w'.heap[h0]? = some (.cells #[.int .i64 C0, .int .i64 D0, (.slice H0 z0.length I0), (.slice J0 A0.length K0)] 24 (0, 0))) ∧ Aside0 (w'.heap[i0]? = some (.cells #[(.slice Y0 q0.length Q0), (.slice M0 v0.length N0)] 28 (0, 0))) ∧ Aside0 (w'.heap[f0]? = some (.cells #[(.slice none 0 0)] 37 (0, 0))) ∧ Aside0 (w'.heap[g0]? = some (.cells #[.int .i64 C0, .int .i64 D0, (.slice H0 z0.length I0), (.slice J0 A0.length K0)] 61 (0, 0))) ∧ Aside0 (w'.heap[n0]? = some (.cells #[B0] 37 (0, 0))) ∧ Aside0 (Below w.heap.size w w'))
 case atStart => exact ⟨(0), (([] : List (List Int))), (.slice none 0 0), rs_, H', ⟨Nat.le_refl _⟩, ⟨by (with_reducible repeat (first | apply Kd.N_alloc | apply Kd.N_drewN | apply Kd.N_drew)); exact Kd.N_mono y0.out (fun _ hk => ⟨hk.1.1, ⟨(by simp [Value.ownBlock]), ⟨hk.1.2.1, ⟨hk.1.2.2.1, ⟨hk.1.2.2.2.1, ⟨hk.1.2.2.2.2, hk.2⟩⟩⟩⟩⟩⟩)⟩, ⟨by (with_reducible repeat (first | apply Kd.V_alloc | apply Kd.V_drewN | apply Kd.V_drew)); exact Kd.V_mono k0.out (fun _ hk => ⟨hk.1.1, ⟨hk.1.2.1, ⟨(by simp [Value.ownBlock]), ⟨hk.1.2.2.1, ⟨hk.1.2.2.2.1, ⟨hk.1.2.2.2.2.1, ⟨hk.1.2.2.2.2.2, hk.2⟩⟩⟩⟩⟩⟩⟩)⟩, ⟨kn_⟩, ⟨bk_ a0⟩, ⟨bk_ b0⟩, ⟨bk_ c0⟩, ⟨bk_ e0⟩, ⟨bk_ p0⟩, ⟨bl_ HB⟩⟩
 case round => (
 clear H'
 try clear c4
 try clear c5
 try clear n2 p2 q2 s2 t2 v2 w2 y2
 try clear z2 A2 B2 C2
 try clear D2 E2 F2 G2 H2 I2 J2 K2
 try clear L2 M2 N2 O2 P2 Q2 R2 S2
 try clear T2 U2 V2 W2
 try clear X2 Y2 Z2 a3 b3 c3 d3 e3
 try clear f3 g3 h3 i3
 try clear w4 x4 y4 z4
 obtain ⟨t0, F0, B0, rfl, HA, q4, y0, k0, d0, a0, b0, c0, e0, p0, HB⟩ := hrel
 cases gk with
 | zero => exact absurd HA.out (by simp [vcodec_Decode.l0])
 | succ k2 => (
 have H := HA.out
 clear HA
 simp only [vcodec_Decode.l0] at H
 replace H := id_ H
 rcases H with ⟨Y4, H⟩ | ⟨Y4, H⟩
 {
 replace H := gd_ H
 obtain ⟨N6, H⟩ := H
 replace H := gd_ H
 obtain ⟨O6, H⟩ := H
 replace H := gt_ H
 obtain ⟨L4, H⟩ := H
 have P6 := eq_true L4
 have Q6 : decide (16 ≤ 35184372088832) = true := decide_eq_true L4
 clear L4
 obtain ⟨j2, X1⟩ : ∃ y_ : List Int, y_ = (List.replicate 16 0) := ⟨_, rfl⟩
 first | replace H := by_ H X1 | rw [← X1] at H
 have Y1 := a_ X1
 clear X1
 replace H := ii_ H
 rcases H with ⟨Y3, H⟩ | ⟨Y3, H⟩
 {
 have Z4 : decide (0 < ((rd_L1 q0 t0).length : Int)) = true := decide_eq_true Y3
 have a5 : decide (0 < (rd_L1 q0 t0).length) = true := decide_eq_true (by omega)
 clear Y3
 obtain ⟨⟨h1, p5⟩, e6, H⟩ := ob_ H
 (try dsimp only at H)
 replace H := gd_ H
 obtain ⟨R6, H⟩ := H
 obtain ⟨i1, f6, H⟩ := ob_ H
 (try dsimp only at H)
 obtain ⟨⟨G1, q5⟩, g6, H⟩ := ob_ H
 (try dsimp only at H)
 replace H := gt_ H
 obtain ⟨i5, H⟩ := H
 have b5 := a_ i5
 clear i5
 obtain ⟨l2, Z1⟩ : ∃ y_ : List (List Int), y_ = (F0 ++ [G1]) := ⟨_, rfl⟩
 first | replace H := by_ H Z1 | rw [← Z1] at H
 have d5 := a_ Z1
 clear Z1
 have H' := a_ H
 clear H
 have H1 : 0 ≤ (t0 : Int) := dm_
 have I1 : t0 < (q0.length : Int) := dm_
 obtain ⟨J3, Z3, a4, e4, j1, k1, l1⟩ := at_L1 J1.out t0 H1 I1
 cases e4
 replace j1 := hc_ HB j1
 have o3 := a_ l1
 have p3 := a_ k1
 clear l1 k1
 replace H1 := eq_true H1
 replace I1 := eq_true I1
 go_wp2_with (first | ((with_reducible refine gate_dst (N := 52) rfl ?_); refine Kd.R_make (Kd.int .i64) _ 2 rfl (N := 52) rfl 53 _ _ rfl 16 rfl rfl Try.underlying53 (.int .i64 0) 8 info2 rfl (by decide) (by omega) 0 (ok := fun _ => True) (okp := fun _ => True) rfl (fun _ hk => hk) trivial (by omega) (by omega) (Below.refl _ _) (Nat.le_refl _) ?_; intro v1 V7 y1 hb hg_ hnew_; clear hg_ hnew_; (first | rw [← Y1.out] at y1 | (simp only [Int.reduceToNat] at y1; rw [← Y1.out] at y1)); replace y0 := a_ (Kd.N_elder' (kN_ y0) (Kd.R_base y1) hb); replace k0 := a_ (Kd.V_elder' (kV_ k0) (Kd.R_base y1) hb); replace d0 := a_ (Kd.N_elder' (kN_ d0) (Kd.R_base y1) hb); have G0 := a_ (Kd.R_lower (Kd.R_newM (M := fun k_ => (w.heap.size ≤ k_)) y1 (bs_ HB) (fun k_ h_ => h_)) (bs_ HB)); replace a0 := FB_ a0 hb; replace b0 := FB_ b0 hb; replace c0 := FB_ c0 hb; replace e0 := FB_ e0 hb; replace p0 := FB_ p0 hb; replace HB := BS_ HB hb; clear hb y1) | ((with_reducible refine gate_callee (f := 34) rfl ?_); refine gL_ (some 58) Try.func34 #[.slice Z3 (rd_L1 q0 t0).length a4] ?_; (with_reducible refine (floor_Floor.calls k2 _ _ (rd_L1 q0 t0) h1 p5 _ ?side1 ?side2 e6.out).mono ?_); (case side1 => exact kC_ o3 HB); (case side2 => exact p3.out); rintro e W7 ⟨G7, rfl, E0, hb⟩; refine ⟨_, rfl, ?_⟩; replace y0 := a_ (Kd.N_elder' (kN_ y0) (Kd.R_base E0) hb); replace k0 := a_ (Kd.V_elder' (kV_ k0) (Kd.R_base E0) hb); replace d0 := a_ (Kd.N_elder' (kN_ d0) (Kd.R_base E0) hb); have L0 := a_ (Kd.R_lower (Kd.R_new' (Kd.R_newM (M := fun k_ => (w.heap.size ≤ k_)) E0 (bs_ HB) (fun k_ h_ => h_)) (Kd.R_lt (kR_ G0))) (bs_ HB)); replace G0 := a_ (Kd.R_elder' (kR_ G0) (Kd.R_base E0) hb); replace a0 := FB_ a0 hb; replace b0 := FB_ b0 hb; replace c0 := FB_ c0 hb; replace e0 := FB_ e0 hb; replace p0 := FB_ p0 hb; replace HB := BS_ HB hb; (try clear hb); (try clear hk); (try clear E0); obtain ⟨H7, N1, r5⟩ := Kd.N_slice y0.out; subst r5; have K3 : 0 ≤ (t0 : Int) := dm_; have L3 : t0 < (O0.length : Int) := dm_; obtain ⟨F1, M4, N4, s5, A4, q3, r3⟩ := at_L2 (Kd.N_reads' y0.out).2.2 t0 K3 L3; cases s5; obtain ⟨ce260, hce260, hMe260, hcc260⟩ := Kd.N_get y0.out [] t0 K3 (by first | exact L3 | exact dm_ | (have e_ := (Kd.N_reads' y0.out).1; omega)); obtain ⟨ua260_0, uc260_0, rfl, ul260_0, ge260_0⟩ := Kd.FK_slice_open hMe260; have hv260_0 := hcc260 0 _ rfl; rw [Nat.add_zero, show ((Kd.slice 2 (Kd.int .i64))).sz = 1 from rfl, Nat.mul_one] at hv260_0; replace hv260_0 := Option.some.inj (hv260_0.symm.trans A4); injection hv260_0 with hva_ hvn_ hvc_; rw [hva_] at ge260_0; rw [hvc_] at ul260_0; have HL260_0 := a_ (show Kd.V (Kd.int .i64) 2 _ w.heap.size _ _ (rd_L2 O0 t0) from Kd.V_mk ul260_0 ge260_0); clear hva_ hvn_ hvc_ ge260_0 ul260_0; clear hcc260 hce260; have P0 := a_ r3; have B4 := a_ q3; clear r3 q3; replace K3 := eq_true K3; replace L3 := eq_true L3) | ((with_reducible refine gate_callee (f := 36) rfl ?_); refine gL_ (some 66) Try.func36 #[.slice M4 (rd_L2 O0 t0).length N4] ?_; (with_reducible refine (vcodec_near.calls k2 _ _ (rd_L2 O0 t0) i1 _ ?side1 ?side2 f6.out).mono ?_); (case side1 => repeat (first | exact (by repeat (first | (with_reducible exact P0.out) | (with_reducible refine Kd.C_alloc ?_ _) | (with_reducible refine Kd.C_drewN ?_ _) | (with_reducible refine Kd.C_drew ?_) | exact P0.out)) | (with_reducible refine Kd.C_alloc ?_ _) | (with_reducible refine Kd.C_drewN ?_ _) | (with_reducible refine Kd.C_drew ?_))); (case side2 => exact B4.out); rintro e X7 ⟨I7, rfl, E0, hb⟩; refine ⟨_, rfl, ?_⟩; replace y0 := a_ (Kd.N_elder' (kN_ y0) (Kd.R_base E0) hb); replace k0 := a_ (Kd.V_elder' (kV_ k0) (Kd.R_base E0) hb); replace d0 := a_ (Kd.N_elder' (kN_ d0) (Kd.R_base E0) hb); replace HL260_0 := a_ (Kd.V_elder' (kV_ HL260_0) (Kd.R_base E0) hb); have T0 := a_ (Kd.R_lower (Kd.R_new' (Kd.R_new' (Kd.R_newM (M := fun k_ => (w.heap.size ≤ k_)) E0 (bs_ HB) (fun k_ h_ => h_)) (Kd.R_lt (kR_ G0))) (Kd.R_lt (kR_ L0))) (bs_ HB)); replace G0 := a_ (Kd.R_elder' (kR_ G0) (Kd.R_base E0) hb); replace L0 := a_ (Kd.R_elder' (kR_ L0) (Kd.R_base E0) hb); replace a0 := FB_ a0 hb; replace b0 := FB_ b0 hb; replace c0 := FB_ c0 hb; replace e0 := FB_ e0 hb; replace p0 := FB_ p0 hb; replace P0 := a_ (Kd.C_below (by repeat (first | (with_reducible exact P0.out) | (with_reducible refine Kd.C_alloc ?_ _) | (with_reducible refine Kd.C_drewN ?_ _) | (with_reducible refine Kd.C_drew ?_) | exact P0.out)) hb); replace HB := BS_ HB hb; (try clear hb); (try clear hk); (try clear E0); obtain ⟨z1, A1, t5⟩ := Kd.R_slice T0.out; subst t5; obtain ⟨B1, C1, v5⟩ := Kd.R_slice L0.out; subst v5) | ((with_reducible refine gate_callee (f := 35) rfl ?_); refine gL_ (some 68) Try.func35 #[.slice z1 i1.length A1, .slice B1 h1.length C1] ?_; (with_reducible refine (remap_Restore.calls k2 _ _ i1 _ _ h1 G1 q5 _ ?side1 ?side2 ?side3 ?side4 g6.out).mono ?_); (case side1 => exact kCt_ (Kd.R_reads' T0.out).2.2); (case side2 => exact (Kd.R_reads' T0.out).2.1); (case side3 => exact kCt_ (Kd.R_reads' L0.out).2.2); (case side4 => exact (Kd.R_reads' L0.out).2.1); rintro e Y7 ⟨J7, rfl, E0, hb⟩; refine ⟨_, rfl, ?_⟩; replace y0 := a_ (Kd.N_elder' (kN_ y0) (Kd.R_base E0) hb); replace k0 := a_ (Kd.V_elder' (kV_ k0) (Kd.R_base E0) hb); replace d0 := a_ (Kd.N_elder' (kN_ d0) (Kd.R_base E0) hb); replace HL260_0 := a_ (Kd.V_elder' (kV_ HL260_0) (Kd.R_base E0) hb); have a2 := a_ (Kd.R_lower (Kd.R_new' (Kd.R_new' (Kd.R_new' (Kd.R_newM (M := fun k_ => (w.heap.size ≤ k_)) E0 (bs_ HB) (fun k_ h_ => h_)) (Kd.R_lt (kR_ G0))) (Kd.R_lt (kR_ L0))) (Kd.R_lt (kR_ T0))) (bs_ HB)); replace G0 := a_ (Kd.R_elder' (kR_ G0) (Kd.R_base E0) hb); replace L0 := a_ (Kd.R_elder' (kR_ L0) (Kd.R_base E0) hb); replace T0 := a_ (Kd.R_elder' (kR_ T0) (Kd.R_base E0) hb); replace a0 := FB_ a0 hb; replace b0 := FB_ b0 hb; replace c0 := FB_ c0 hb; replace e0 := FB_ e0 hb; replace p0 := FB_ p0 hb; replace P0 := a_ (Kd.C_below (by repeat (first | (with_reducible exact P0.out) | (with_reducible refine Kd.C_alloc ?_ _) | (with_reducible refine Kd.C_drewN ?_ _) | (with_reducible refine Kd.C_drew ?_) | exact P0.out)) hb); replace HB := BS_ HB hb; (try clear hb); (try clear hk); (try clear E0); have S6 := n1.out; have T6 := m1.out; have U6 := e1.out; have V6 := d1.out; have W6 := p1.out; have X6 := o1.out; have Y6 := t1.out; have Z6 := q1.out; obtain ⟨P5, Q5⟩ := e1_ p0; obtain ⟨M3, N3, w5⟩ := Kd.R_slice a2.out; subst w5) | ((with_reducible refine gate_builtin (b := .append) (xs := #[.tmp 72, .tmp 74]) rfl ?_); at_builtin; refine Kd.N_append (Kd.slice 2 (Kd.int .i64)) (w0 := w) w.heap.size rfl (.tmp 72) (.tmp 74) 26 53 (.slice none 0 0) 24 rfl Try.underlying26 info53 rfl (by decide) (by omega) B0 F0 G1 [.slice M3 G1.length N3] (fun k_ => (P1_1_ k_ ∨ w.heap.size ≤ k_) ∧ no_ k_ (.slice (some F1) O0.length N1) ∧ no_ k_ v1 ∧ no_ k_ (.slice B1 h1.length C1) ∧ no_ k_ (.slice z1 i1.length A1) ∧ k_ ≠ h0 ∧ k_ ≠ i0 ∧ k_ ≠ f0 ∧ k_ ≠ g0 ∧ k_ ≠ n0) (fun k_ => ((fun k_ => (P1_1_ k_ ∨ w.heap.size ≤ k_) ∧ no_ k_ (.slice (some F1) O0.length N1) ∧ no_ k_ v1 ∧ no_ k_ (.slice B1 h1.length C1) ∧ no_ k_ (.slice z1 i1.length A1) ∧ k_ ≠ h0 ∧ k_ ≠ i0 ∧ k_ ≠ f0 ∧ k_ ≠ g0 ∧ k_ ≠ n0)) k_ ∧ no_ k_ B0) rfl rfl ?aP (fun _ hk => hk) ?aF ?aO ?aB ?aS ?aL ?_; (case aP => exact (Kd.FK_slice_mk (Kd.R_reads' (Kd.R_mono (ok' := (fun k_ => ((fun k_ => (P1_1_ k_ ∨ w.heap.size ≤ k_) ∧ no_ k_ (.slice (some F1) O0.length N1) ∧ no_ k_ v1 ∧ no_ k_ (.slice B1 h1.length C1) ∧ no_ k_ (.slice z1 i1.length A1) ∧ k_ ≠ h0 ∧ k_ ≠ i0 ∧ k_ ≠ f0 ∧ k_ ≠ g0 ∧ k_ ≠ n0)) k_ ∧ no_ k_ B0)) (Kd.R_types (Kd.R_types (Kd.R_types (Kd.R_types (Kd.R_types (Kd.R_apart' (Kd.R_apart' (a2.out) (Kd.N_typed y0.out) (by decide)) (Kd.N_typed d0.out) (by decide)) a0.out (by decide)) b0.out (by decide)) c0.out (by decide)) e0.out (by decide)) p0.out (by decide)) (fun k_ hk => ⟨⟨(.inr (hk.1.1.1.1.1.1.1.1.1.1.1)), ⟨hk.1.1.1.1.1.1.2, ⟨hk.1.1.1.1.1.1.1.1.1.2, ⟨hk.1.1.1.1.1.1.1.1.2, ⟨hk.1.1.1.1.1.1.1.2, ⟨hk.1.1.1.1.2, ⟨hk.1.1.1.2, ⟨hk.1.1.2, ⟨hk.1.2, hk.2⟩⟩⟩⟩⟩⟩⟩⟩⟩, hk.1.1.1.1.1.2⟩))).2.1 (Kd.R_F (Kd.R_mono (ok' := (fun k_ => ((fun k_ => (P1_1_ k_ ∨ w.heap.size ≤ k_) ∧ no_ k_ (.slice (some F1) O0.length N1) ∧ no_ k_ v1 ∧ no_ k_ (.slice B1 h1.length C1) ∧ no_ k_ (.slice z1 i1.length A1) ∧ k_ ≠ h0 ∧ k_ ≠ i0 ∧ k_ ≠ f0 ∧ k_ ≠ g0 ∧ k_ ≠ n0)) k_ ∧ no_ k_ B0)) (Kd.R_types (Kd.R_types (Kd.R_types (Kd.R_types (Kd.R_types (Kd.R_apart' (Kd.R_apart' (a2.out) (Kd.N_typed y0.out) (by decide)) (Kd.N_typed d0.out) (by decide)) a0.out (by decide)) b0.out (by decide)) c0.out (by decide)) e0.out (by decide)) p0.out (by decide)) (fun k_ hk => ⟨⟨(.inr (hk.1.1.1.1.1.1.1.1.1.1.1)), ⟨hk.1.1.1.1.1.1.2, ⟨hk.1.1.1.1.1.1.1.1.1.2, ⟨hk.1.1.1.1.1.1.1.1.2, ⟨hk.1.1.1.1.1.1.1.2, ⟨hk.1.1.1.1.2, ⟨hk.1.1.1.2, ⟨hk.1.1.2, ⟨hk.1.2, hk.2⟩⟩⟩⟩⟩⟩⟩⟩⟩, hk.1.1.1.1.1.2⟩))))); (case aB => exact (bl_ HB)); (case aF => exact (fun k_ hk => ⟨(.inr (Nat.le_trans (bs_ HB) hk)), Kd.fresh' (Kd.N_lt (kN_ y0)) k_ hk, Kd.fresh' (Kd.R_lt (kR_ G0)) k_ hk, Kd.fresh' (Kd.R_lt (kR_ L0)) k_ hk, Kd.fresh' (Kd.R_lt (kR_ T0)) k_ hk, Kd.freshB (g := h0) (o := .cells #[.int .i64 C0, .int .i64 D0, .slice H0 z0.length I0, .slice J0 A0.length K0] 24 (0, 0)) (bk_ a0) k_ hk, Kd.freshB (g := i0) (o := .cells #[.slice (some J3) q0.length Q0, .slice M0 v0.length N0] 28 (0, 0)) (bk_ b0) k_ hk, Kd.freshB (g := f0) (o := .cells #[.slice none 0 0] 37 (0, 0)) (bk_ c0) k_ hk, Kd.freshB (g := g0) (o := .cells #[.int .i64 C0, .int .i64 D0, .slice H0 z0.length I0, .slice J0 A0.length K0] 61 (0, 0)) (bk_ e0) k_ hk, Kd.freshB (g := n0) (o := .cells #[B0] 37 (0, 0)) (bk_ p0) k_ hk⟩)); (case aO => exact (by (with_reducible repeat (first | apply Kd.N_alloc | apply Kd.N_drewN | apply Kd.N_drew)); exact Kd.N_mono d0.out cj_)); (case aS => exact (bs_ HB)); (case aL => have := b5.out; omega); intro K7 Z7 ho hb hg hat; rw [← d5.out] at ho; replace y0 := a_ (Kd.N_afterv (ok := (fun k_ => (P1_1_ k_ ∨ w.heap.size ≤ k_) ∧ no_ k_ v1 ∧ no_ k_ (.slice B1 h1.length C1) ∧ no_ k_ (.slice z1 i1.length A1) ∧ no_ k_ (.slice M3 G1.length N3) ∧ k_ ≠ h0 ∧ k_ ≠ i0 ∧ k_ ≠ f0 ∧ k_ ≠ g0 ∧ k_ ≠ n0)) (by (with_reducible repeat (first | apply Kd.N_alloc | apply Kd.N_drewN | apply Kd.N_drew)); exact Kd.N_mono y0.out cj_) hg hat); replace k0 := a_ (Kd.V_afterv (ok := (fun k_ => (P1_1_ k_ ∨ w.heap.size ≤ k_) ∧ no_ k_ (.slice (some F1) O0.length N1) ∧ no_ k_ v1 ∧ no_ k_ (.slice B1 h1.length C1) ∧ no_ k_ (.slice z1 i1.length A1) ∧ no_ k_ (.slice M3 G1.length N3) ∧ k_ ≠ h0 ∧ k_ ≠ i0 ∧ k_ ≠ f0 ∧ k_ ≠ g0 ∧ k_ ≠ n0)) (by (with_reducible repeat (first | apply Kd.V_alloc | apply Kd.V_drewN | apply Kd.V_drew)); exact Kd.V_mono k0.out cj_) hg hat); replace a0 := (FG_ a0 hg (Kd.N_ne d0.out a0.out (by decide))); replace b0 := (FG_ b0 hg (Kd.N_ne d0.out b0.out (by decide))); replace c0 := (FG_ c0 hg (Kd.N_ne d0.out c0.out (by decide))); replace e0 := (FG_ e0 hg (Kd.N_ne d0.out e0.out (by decide))); replace p0 := (FG_ p0 hg (Kd.N_ne d0.out p0.out (by decide))); replace G0 := a_ (Kd.R_over' (kR_ G0) (Kd.N_typed (kN_ d0)) (by decide) hg); replace L0 := a_ (Kd.R_over' (kR_ L0) (Kd.N_typed (kN_ d0)) (by decide) hg); replace HL260_0 := a_ (Kd.V_afterv (ok := (fun k_ => (P1_1_ k_ ∨ w.heap.size ≤ k_) ∧ no_ k_ (.slice (some F1) O0.length N1) ∧ no_ k_ v1 ∧ no_ k_ (.slice B1 h1.length C1) ∧ no_ k_ (.slice z1 i1.length A1) ∧ no_ k_ (.slice M3 G1.length N3) ∧ k_ ≠ h0 ∧ k_ ≠ i0 ∧ k_ ≠ f0 ∧ k_ ≠ g0 ∧ k_ ≠ n0)) (by (with_reducible repeat (first | apply Kd.V_alloc | apply Kd.V_drewN | apply Kd.V_drew)); exact Kd.V_mono HL260_0.out cj_) hg hat); replace T0 := a_ (Kd.R_over' (kR_ T0) (Kd.N_typed (kN_ d0)) (by decide) hg); replace HB := a_ (hb); have r4 := a_ (ho); clear d0 a2; clear ho hb hg hat; obtain ⟨O3, P3, x5⟩ := Kd.N_slice r4.out; subst x5; obtain ⟨R5, S5⟩ := e1_ p0))
 go_roundg k2
 case measure => have := HJ6.out; have := q4.out; omega
 case rel => exact ⟨(wrap64 (t0 + 1)), (l2), (.slice O3 l2.length P3), rs_, H', ⟨by have := HJ6.out; have := q4.out; omega⟩, ⟨by (with_reducible repeat (first | apply Kd.N_alloc | apply Kd.N_drewN | apply Kd.N_drew)); exact Kd.N_mono (Kd.N_far (p := ⟨n0, 0, none⟩) (Kd.N_mono y0.out (fun k_ hk => (⟨hk, hk.1.2.2.2.2.2.2.2.2.2⟩ : _ ∧ k_ ≠ n0))) (fun _ hk => hk.2) (.slice O3 l2.length P3)) cj_⟩, ⟨by (with_reducible repeat (first | apply Kd.V_alloc | apply Kd.V_drewN | apply Kd.V_drew)); exact Kd.V_mono (Kd.V_far (p := ⟨n0, 0, none⟩) (Kd.V_mono k0.out (fun k_ hk => (⟨hk, hk.1.2.2.2.2.2.2.2.2.2.2⟩ : _ ∧ k_ ≠ n0))) (fun _ hk => hk.2) (.slice O3 l2.length P3)) cj_⟩, ⟨by (with_reducible repeat (first | apply Kd.N_alloc | apply Kd.N_drewN | apply Kd.N_drew)); exact Kd.N_mono (Kd.N_far (p := ⟨n0, 0, none⟩) (Kd.N_mono r4.out (fun k_ hk => (⟨hk, hk.2.2.2.2.2.2.2.2.2⟩ : _ ∧ k_ ≠ n0))) (fun _ hk => hk.2) (.slice O3 l2.length P3)) cj_⟩, ⟨bk_ a0⟩, ⟨bk_ b0⟩, ⟨bk_ c0⟩, ⟨bk_ e0⟩, ⟨bp_ p0⟩, ⟨bl_ HB⟩⟩}
 {
 have Z4 : decide (0 < ((rd_L1 q0 t0).length : Int)) = false := decide_eq_false Y3
 have a5 : decide (0 < (rd_L1 q0 t0).length) = false := decide_eq_false (by omega)
 clear Y3
 replace H := gt_ H
 obtain ⟨j5, H⟩ := H
 have e5 := a_ j5
 clear j5
 obtain ⟨m2, b2⟩ : ∃ y_ : List (List Int), y_ = (F0 ++ [j2]) := ⟨_, rfl⟩
 first | replace H := by_ H b2 | rw [← b2] at H
 have f5 := a_ b2
 clear b2
 have H' := a_ H
 clear H
 have H1 : 0 ≤ (t0 : Int) := dm_
 have I1 : t0 < (q0.length : Int) := dm_
 obtain ⟨J3, Z3, a4, e4, j1, k1, l1⟩ := at_L1 J1.out t0 H1 I1
 cases e4
 replace j1 := hc_ HB j1
 have o3 := a_ l1
 have p3 := a_ k1
 clear l1 k1
 replace H1 := eq_true H1
 replace I1 := eq_true I1
 go_wp2_with (first | ((with_reducible refine gate_dst (N := 52) rfl ?_); refine Kd.R_make (Kd.int .i64) _ 2 rfl (N := 52) rfl 53 _ _ rfl 16 rfl rfl Try.underlying53 (.int .i64 0) 8 info2 rfl (by decide) (by omega) 0 (ok := fun _ => True) (okp := fun _ => True) rfl (fun _ hk => hk) trivial (by omega) (by omega) (Below.refl _ _) (Nat.le_refl _) ?_; intro v1 a8 D1 hb hg_ hnew_; clear hg_ hnew_; (first | rw [← Y1.out] at D1 | (simp only [Int.reduceToNat] at D1; rw [← Y1.out] at D1)); replace y0 := a_ (Kd.N_elder' (kN_ y0) (Kd.R_base D1) hb); replace k0 := a_ (Kd.V_elder' (kV_ k0) (Kd.R_base D1) hb); replace d0 := a_ (Kd.N_elder' (kN_ d0) (Kd.R_base D1) hb); have G0 := a_ (Kd.R_lower (Kd.R_newM (M := fun k_ => (w.heap.size ≤ k_)) D1 (bs_ HB) (fun k_ h_ => h_)) (bs_ HB)); replace a0 := FB_ a0 hb; replace b0 := FB_ b0 hb; replace c0 := FB_ c0 hb; replace e0 := FB_ e0 hb; replace p0 := FB_ p0 hb; replace HB := BS_ HB hb; clear hb D1; have a7 := n1.out; have b7 := m1.out; have c7 := e1.out; have d7 := d1.out; have e7 := p1.out; have f7 := o1.out; have g7 := t1.out; have h7 := q1.out; obtain ⟨T5, U5⟩ := e1_ p0; obtain ⟨f4, g4, y5⟩ := Kd.R_slice G0.out; subst y5) | ((with_reducible refine gate_builtin (b := .append) (xs := #[.tmp 72, .tmp 74]) rfl ?_); at_builtin; refine Kd.N_append (Kd.slice 2 (Kd.int .i64)) (w0 := w) w.heap.size rfl (.tmp 72) (.tmp 74) 26 53 (.slice none 0 0) 24 rfl Try.underlying26 info53 rfl (by decide) (by omega) B0 F0 j2 [.slice f4 j2.length g4] (fun k_ => (P1_1_ k_ ∨ w.heap.size ≤ k_) ∧ no_ k_ f1 ∧ k_ ≠ h0 ∧ k_ ≠ i0 ∧ k_ ≠ f0 ∧ k_ ≠ g0 ∧ k_ ≠ n0) (fun k_ => ((fun k_ => (P1_1_ k_ ∨ w.heap.size ≤ k_) ∧ no_ k_ f1 ∧ k_ ≠ h0 ∧ k_ ≠ i0 ∧ k_ ≠ f0 ∧ k_ ≠ g0 ∧ k_ ≠ n0)) k_ ∧ no_ k_ B0) rfl rfl ?aP (fun _ hk => hk) ?aF ?aO ?aB ?aS ?aL ?_; (case aP => exact (Kd.FK_slice_mk (Kd.R_reads' (Kd.R_mono (ok' := (fun k_ => ((fun k_ => (P1_1_ k_ ∨ w.heap.size ≤ k_) ∧ no_ k_ f1 ∧ k_ ≠ h0 ∧ k_ ≠ i0 ∧ k_ ≠ f0 ∧ k_ ≠ g0 ∧ k_ ≠ n0)) k_ ∧ no_ k_ B0)) (Kd.R_types (Kd.R_types (Kd.R_types (Kd.R_types (Kd.R_types (Kd.R_apart' (Kd.R_apart' (G0.out) (Kd.N_typed y0.out) (by decide)) (Kd.N_typed d0.out) (by decide)) a0.out (by decide)) b0.out (by decide)) c0.out (by decide)) e0.out (by decide)) p0.out (by decide)) (fun k_ hk => ⟨⟨(.inr (hk.1.1.1.1.1.1.1.1)), ⟨hk.1.1.1.1.1.1.2, ⟨hk.1.1.1.1.2, ⟨hk.1.1.1.2, ⟨hk.1.1.2, ⟨hk.1.2, hk.2⟩⟩⟩⟩⟩⟩, hk.1.1.1.1.1.2⟩))).2.1 (Kd.R_F (Kd.R_mono (ok' := (fun k_ => ((fun k_ => (P1_1_ k_ ∨ w.heap.size ≤ k_) ∧ no_ k_ f1 ∧ k_ ≠ h0 ∧ k_ ≠ i0 ∧ k_ ≠ f0 ∧ k_ ≠ g0 ∧ k_ ≠ n0)) k_ ∧ no_ k_ B0)) (Kd.R_types (Kd.R_types (Kd.R_types (Kd.R_types (Kd.R_types (Kd.R_apart' (Kd.R_apart' (G0.out) (Kd.N_typed y0.out) (by decide)) (Kd.N_typed d0.out) (by decide)) a0.out (by decide)) b0.out (by decide)) c0.out (by decide)) e0.out (by decide)) p0.out (by decide)) (fun k_ hk => ⟨⟨(.inr (hk.1.1.1.1.1.1.1.1)), ⟨hk.1.1.1.1.1.1.2, ⟨hk.1.1.1.1.2, ⟨hk.1.1.1.2, ⟨hk.1.1.2, ⟨hk.1.2, hk.2⟩⟩⟩⟩⟩⟩, hk.1.1.1.1.1.2⟩))))); (case aB => exact (bl_ HB)); (case aF => exact (fun k_ hk => ⟨(.inr (Nat.le_trans (bs_ HB) hk)), Kd.fresh' (Kd.N_lt (kN_ y0)) k_ hk, Kd.freshB (g := h0) (o := .cells #[.int .i64 C0, .int .i64 D0, .slice H0 z0.length I0, .slice J0 A0.length K0] 24 (0, 0)) (bk_ a0) k_ hk, Kd.freshB (g := i0) (o := .cells #[.slice (some J3) q0.length Q0, .slice M0 v0.length N0] 28 (0, 0)) (bk_ b0) k_ hk, Kd.freshB (g := f0) (o := .cells #[.slice none 0 0] 37 (0, 0)) (bk_ c0) k_ hk, Kd.freshB (g := g0) (o := .cells #[.int .i64 C0, .int .i64 D0, .slice H0 z0.length I0, .slice J0 A0.length K0] 61 (0, 0)) (bk_ e0) k_ hk, Kd.freshB (g := n0) (o := .cells #[B0] 37 (0, 0)) (bk_ p0) k_ hk⟩)); (case aO => exact (by (with_reducible repeat (first | apply Kd.N_alloc | apply Kd.N_drewN | apply Kd.N_drew)); exact Kd.N_mono d0.out cj_)); (case aS => exact (bs_ HB)); (case aL => have := e5.out; omega); intro L7 b8 ho hb hg hat; rw [← f5.out] at ho; replace y0 := a_ (Kd.N_afterv (ok := (fun k_ => (P1_1_ k_ ∨ w.heap.size ≤ k_) ∧ no_ k_ (.slice f4 j2.length g4) ∧ k_ ≠ h0 ∧ k_ ≠ i0 ∧ k_ ≠ f0 ∧ k_ ≠ g0 ∧ k_ ≠ n0)) (by (with_reducible repeat (first | apply Kd.N_alloc | apply Kd.N_drewN | apply Kd.N_drew)); exact Kd.N_mono y0.out cj_) hg hat); replace k0 := a_ (Kd.V_afterv (ok := (fun k_ => (P1_1_ k_ ∨ w.heap.size ≤ k_) ∧ no_ k_ f1 ∧ no_ k_ (.slice f4 j2.length g4) ∧ k_ ≠ h0 ∧ k_ ≠ i0 ∧ k_ ≠ f0 ∧ k_ ≠ g0 ∧ k_ ≠ n0)) (by (with_reducible repeat (first | apply Kd.V_alloc | apply Kd.V_drewN | apply Kd.V_drew)); exact Kd.V_mono k0.out cj_) hg hat); replace a0 := (FG_ a0 hg (Kd.N_ne d0.out a0.out (by decide))); replace b0 := (FG_ b0 hg (Kd.N_ne d0.out b0.out (by decide))); replace c0 := (FG_ c0 hg (Kd.N_ne d0.out c0.out (by decide))); replace e0 := (FG_ e0 hg (Kd.N_ne d0.out e0.out (by decide))); replace p0 := (FG_ p0 hg (Kd.N_ne d0.out p0.out (by decide))); replace HB := a_ (hb); have s4 := a_ (ho); clear d0 G0; clear ho hb hg hat; obtain ⟨Q3, R3, z5⟩ := Kd.N_slice s4.out; subst z5; obtain ⟨V5, W5⟩ := e1_ p0))
 go_roundg k2
 case measure => have := HJ6.out; have := q4.out; omega
 case rel => exact ⟨(wrap64 (t0 + 1)), (m2), (.slice Q3 m2.length R3), rs_, H', ⟨by have := HJ6.out; have := q4.out; omega⟩, ⟨by (with_reducible repeat (first | apply Kd.N_alloc | apply Kd.N_drewN | apply Kd.N_drew)); exact Kd.N_mono (Kd.N_far (p := ⟨n0, 0, none⟩) (Kd.N_mono y0.out (fun k_ hk => (⟨hk, hk.1.2.2.2.2.2.2⟩ : _ ∧ k_ ≠ n0))) (fun _ hk => hk.2) (.slice Q3 m2.length R3)) cj_⟩, ⟨by (with_reducible repeat (first | apply Kd.V_alloc | apply Kd.V_drewN | apply Kd.V_drew)); exact Kd.V_mono (Kd.V_far (p := ⟨n0, 0, none⟩) (Kd.V_mono k0.out (fun k_ hk => (⟨hk, hk.1.2.2.2.2.2.2.2⟩ : _ ∧ k_ ≠ n0))) (fun _ hk => hk.2) (.slice Q3 m2.length R3)) cj_⟩, ⟨by (with_reducible repeat (first | apply Kd.N_alloc | apply Kd.N_drewN | apply Kd.N_drew)); exact Kd.N_mono (Kd.N_far (p := ⟨n0, 0, none⟩) (Kd.N_mono s4.out (fun k_ hk => (⟨hk, hk.2.2.2.2.2.2⟩ : _ ∧ k_ ≠ n0))) (fun _ hk => hk.2) (.slice Q3 m2.length R3)) cj_⟩, ⟨bk_ a0⟩, ⟨bk_ b0⟩, ⟨bk_ c0⟩, ⟨bk_ e0⟩, ⟨bp_ p0⟩, ⟨bl_ HB⟩⟩}}
 {
 simp only [Option.some.injEq, Prod.mk.injEq] at H
 obtain ⟨rfl, rfl⟩ := H
 have i7 := n1.out
 have j7 := m1.out
 have k7 := e1.out
 have l7 := d1.out
 have m7 := p1.out
 have n7 := o1.out
 have o7 := t1.out
 have p7 := q1.out
 obtain ⟨X5, Y5⟩ := e1_ p0
 obtain ⟨O4, P4, A5⟩ := Kd.N_slice d0.out
 subst A5
 have q7 := c1.out
 have r7 := b1.out
 have s7 := S0.out
 have t7 := R0.out
 have v7 := Q1.out
 have w7 := R1.out
 obtain ⟨Z5, a6⟩ := e1_ c0
 go_wp2
 refine bodyPost_ret (results_ct rfl _ _ f0 37 #[.slice O4 F0.length P4] (0, 0) _ rfl (bp_ c0) Try.underlying37 rfl kf_) rfl ?_
 exact ⟨_, er_, by (with_reducible repeat (first | apply Kd.N_alloc | apply Kd.N_drewN | apply Kd.N_drew)); exact Kd.N_mono (Kd.N_far (p := ⟨f0, 0, none⟩) (Kd.N_mono d0.out (fun k_ hk => (⟨hk, hk.2.2.2.2.1⟩ : _ ∧ k_ ≠ f0))) (fun _ hk => hk.2) (.slice O4 F0.length P4)) (fun _ hk => hk.1.1), bl_ HB⟩}))))}
 {
 simp only [Option.some.injEq, Prod.mk.injEq] at H
 obtain ⟨rfl, rfl⟩ := H
 go_enter Try.func14, Try.ntmps14
 go_wp2_with (first | ((with_reducible refine gate_dst (N := 2) rfl ?_); refine box_ 2 #[.int .i64 C0, .int .i64 D0, .slice H0 z0.length I0, .slice J0 A0.length K0] 24 ?_; intro h0 hg c8 hbox hb; replace m0 := a_ (Kd.V_below (Kd.V_elderB (kV_ m0) h0 (Nat.le_of_eq hg.symm)) hb); have a0 := a_ (hbox); have R4 := GE_ HB hg; have j4 := GE_ HB hg; replace HB := BS_ HB hb; clear hb hbox hg) | ((with_reducible refine gate_dst (N := 3) rfl ?_); refine box_ 3 #[.slice Y0 q0.length Q0, .slice M0 v0.length N0] 28 ?_; intro i0 hg d8 hbox hb; replace m0 := a_ (Kd.V_below (Kd.V_elderB (kV_ m0) i0 (Nat.le_of_eq hg.symm)) hb); have b0 := a_ (hbox); have S4 := GE_ HB hg; have k4 := GE_ HB hg; replace HB := BS_ HB hb; obtain ⟨Z0, a1⟩ := NN_ a0 hg; replace a0 := FB_ a0 hb; clear hb hbox hg) | ((with_reducible refine gate_dst (N := 4) rfl ?_); refine box_ 4 #[.slice none 0 0] 37 ?_; intro f0 hg e8 hbox hb; replace m0 := a_ (Kd.V_below (Kd.V_elderB (kV_ m0) f0 (Nat.le_of_eq hg.symm)) hb); have c0 := a_ (hbox); have T4 := GE_ HB hg; have l4 := GE_ HB hg; replace HB := BS_ HB hb; obtain ⟨b1, c1⟩ := NN_ a0 hg; replace a0 := FB_ a0 hb; obtain ⟨R0, S0⟩ := NN_ b0 hg; replace b0 := FB_ b0 hb; clear hb hbox hg; have x7 := Z0.out; have y7 := a1.out; have h6 := b1.out; have i6 := c1.out; obtain ⟨B5, C5, D5, E5, F5, G5, H5, I5⟩ := e4_ a0; have j6 := R0.out; have k6 := S0.out; obtain ⟨J5, K5, L5, M5⟩ := e2_ b0) | ((with_reducible refine gate_callee (f := 21) rfl ?_); refine gL_ (some 16) Try.func21 #[.agg #[.int .i64 C0, .int .i64 D0, .slice H0 z0.length I0, .slice J0 A0.length K0], .agg #[.slice Y0 q0.length Q0, .slice M0 v0.length N0]] ?_; (with_reducible refine (vpack_Right.calls k C0 D0 _ _ z0 _ _ A0 _ _ q0 _ _ v0 false _ ?side1 ?side2 ?side3 ?side4 ?side5 ?side6 ?side7 ?side8 A3.out).mono ?_); (case side1 => exact kC_ s3 HB); (case side2 => exact t3.out); (case side3 => exact kC_ v3 HB); (case side4 => exact w3.out); (case side5 => exact kC_ J1 HB); (case side6 => exact y3.out); (case side7 => exact kCt_ (Kd.V_reads' m0.out).2.2); (case side8 => exact (Kd.V_reads' m0.out).2.1); rintro e M7 ⟨rfl, hb⟩; refine ⟨_, rfl, ?_⟩; replace m0 := FV_ m0 hb; replace a0 := FB_ a0 hb; replace b0 := FB_ b0 hb; replace c0 := FB_ c0 hb; replace HB := BS_ HB hb; (try clear hb); obtain ⟨N5, O5⟩ := e1_ c0))
 refine bodyPost_ret (results_ct rfl _ _ f0 37 #[.slice none 0 0] (0, 0) _ rfl (bp_ c0) Try.underlying37 rfl kf_) rfl ?_
 exact ⟨_, er_, by first | exact Kd.S_nil _ _ _ _ _ | exact Kd.N_nil _ _ _ _ _ | exact Kd.V_nil _ _ _ _ _ | exact Kd.Q_nil _ _ _ _ _ | exact Kd.R_nil _ _ _ _ _, bl_ HB⟩}
mutual
def vhead_Plain.l0 : Nat → Int → Int → Int → List Int → Option (Int × Int × List Int × List Int)
  | 0, _, _, _, _ => none
  | k + 1, d0, b0, c0, a0 => if d0 < 45 then (if d0 < 19 then (if a0.length < 17592186044416 then (vhead_Plain.l0 k (wrap64 (d0 + 1)) b0 c0 (a0 ++ [5])) else (none)) else (if a0.length < 17592186044416 then (vhead_Plain.l0 k (wrap64 (d0 + 1)) b0 c0 (a0 ++ [6])) else (none))) else (vhead_Plain.l1 k 0 b0 c0 a0 ([] : List Int))
def vhead_Plain.l1 : Nat → Int → Int → Int → List Int → List Int → Option (Int × Int × List Int × List Int)
  | 0, _, _, _, _, _ => none
  | k + 1, e0, b0, c0, d0, a0 => if e0 < 16 then (if a0.length < 17592186044416 then (vhead_Plain.l1 k (wrap64 (e0 + 1)) b0 c0 d0 (a0 ++ [4])) else (none)) else (some (b0, c0, d0, a0))
end
def vhead_Plain.f (k : Nat) (a0 : Int) (a1 : Int) : Option (Int × Int × List Int × List Int) := vhead_Plain.l0 k 0 a0 a1 ([] : List Int)
theorem vhead_Plain.mono_l : ∀ k, (∀ y0 y1 y2 y3, LeO (vhead_Plain.l0 k y0 y1 y2 y3) (vhead_Plain.l0 (k + 1) y0 y1 y2 y3)) ∧ (∀ y0 y1 y2 y3 y4, LeO (vhead_Plain.l1 k y0 y1 y2 y3 y4) (vhead_Plain.l1 (k + 1) y0 y1 y2 y3 y4))
  | 0 => ⟨fun _ _ _ _ r h => by simp [vhead_Plain.l0] at h, fun _ _ _ _ _ r h => by simp [vhead_Plain.l1] at h⟩
  | k + 1 => by
    obtain ⟨a0, b0⟩ := vhead_Plain.mono_l k
    refine ⟨?_, ?_⟩
    all_goals (intros; first | unfold vhead_Plain.l0 | unfold vhead_Plain.l1)
    all_goals with_reducible repeat' first
     | apply a0
     | exact b0 _ _ _ _ _
     | exact LeO.refl _
     | exact LeO.none _
     | refine LeO.ite ?_ ?_
     | refine LeO.bind ?_ (fun _ => ?_)
theorem vhead_Plain.mono : ∀ a0 a1 k, LeO (vhead_Plain.f k a0 a1) (vhead_Plain.f (k + 1) a0 a1) := by
  intro a0 a1 k
  obtain ⟨b0, c0⟩ := vhead_Plain.mono_l k
  unfold vhead_Plain.f
  with_reducible repeat' first
   | apply b0
   | exact c0 _ _ _ _ _
   | exact LeO.refl _
   | exact LeO.none _
   | refine LeO.ite ?_ ?_
   | refine LeO.bind ?_ (fun _ => ?_)
set_option maxHeartbeats 8000000 in
set_option maxRecDepth 100000 in
theorem vhead_Plain.calls (k : Nat) (a0 : Int) (a1 : Int) (r1 : Int) (r2 : Int) (r3 : List Int) (r4 : List Int) (w : World) (h : vhead_Plain.f k a0 a1 = some (r1, r2, r3, r4)) :
    Calls Try.prog 31 #[.int .i64 a0, .int .i64 a1] w fun e w' => ∃ v2_ v3_ : Value, e = .returned (.agg #[.int .i64 r1, .int .i64 r2, v2_, v3_]) ∧ Kd.R (Kd.int .i64) 3 w' w.heap.size (fun k_ => no_ k_ v3_) v2_ r3 ∧ Kd.R (Kd.int .i64) 3 w' w.heap.size (fun k_ => no_ k_ v2_) v3_ r4 ∧ Below w.heap.size w w' := by
 have Z2 := Try.underlying24
 have HB := a_ (Below.refl w.heap.size w)
 have H : (vhead_Plain.l0 k 0 a0 a1 ([] : List Int)) = some (r1, r2, r3, r4) := h
 clear h
 have H' := a_ H
 clear H
 go_enter Try.func31, Try.ntmps31
 go_wp2_with (first | ((with_reducible refine gate_dst (N := 4) rfl ?_); refine bx_ HB 4 #[.int .i64 0, .int .i64 0, .slice none 0 0, .slice none 0 0] 24 ?_; clear HB; intro i0 hg w3 hb d0 W0 HB; have P2 := W0; clear hb hg) | ((with_reducible refine gate_dst (N := 5) rfl ?_); refine bx_ HB 5 #[.int .i64 0, .int .i64 0, .slice none 0 0, .slice none 0 0] 24 ?_; clear HB; intro n0 hg w4 hb c0 X0 HB; have Q2 := X0; obtain ⟨j0, k0⟩ := NN_ d0 hg; replace d0 := FB_ d0 hb; clear hb hg; have a3 := k0.out; have b3 := j0.out; obtain ⟨v0, y0, z0, A0, B0, C0, D0, E0⟩ := e4_ c0))
 go_loopg [11] k (fun kq N2 w' => ∃ (o0 : Int) (e0 : List Int) (g0 : Value), N2 = .int .i64 o0 ∧ Aside0 (vhead_Plain.l0 kq o0 a0 a1 e0 = some (r1, r2, r3, r4)) ∧ Aside0 (kq ≤ k) ∧ Aside0 (Kd.R (Kd.int .i64) 3 w' w.heap.size (fun _ => True) g0 e0) ∧ Aside0 (w'.heap[i0]? = some (.cells #[.int .i64 0, .int .i64 0, (.slice none 0 0), (.slice none 0 0)] 24 (0, 0))) ∧ Aside0 (w'.heap[n0]? = some (.cells #[.int .i64 a0, .int .i64 a1, g0, (.slice none 0 0)] 24 (0, 0))) ∧ Aside0 (Below w.heap.size w w'))
 case atStart => exact ⟨(0), (([] : List Int)), (.slice none 0 0), rs_, H', ⟨Nat.le_refl _⟩, ⟨kn_⟩, ⟨bk_ d0⟩, ⟨bp_ c0⟩, ⟨bl_ HB⟩⟩
 case round => (
 clear H'
 try clear v0 y0 z0 A0 B0 C0 D0 E0
 obtain ⟨o0, e0, g0, rfl, HA, t0, b0, d0, c0, HB⟩ := hrel
 cases gk with
 | zero => exact absurd HA.out (by simp [vhead_Plain.l0])
 | succ k1 => (
 have H := HA.out
 clear HA
 simp only [vhead_Plain.l0] at H
 replace H := id_ H
 rcases H with ⟨P0, H⟩ | ⟨P0, H⟩
 {
 replace H := id_ H
 rcases H with ⟨j1, H⟩ | ⟨j1, H⟩
 {
 replace H := gt_ H
 obtain ⟨c9, H⟩ := H
 have m1 := a_ c9
 clear c9
 obtain ⟨F0, p0⟩ : ∃ y_ : List Int, y_ = (e0 ++ [5]) := ⟨_, rfl⟩
 first | replace H := by_ H p0 | rw [← p0] at H
 have Y0 := a_ p0
 clear p0
 have H' := a_ H
 clear H
 have R2 := k0.out
 have S2 := j0.out
 obtain ⟨t1, v1, y1, z1, A1, B1, C1, D1⟩ := e4_ c0
 go_wp2_with (first | ((with_reducible refine gate_builtin (b := .append) (xs := #[.tmp 17, .tmp 19]) rfl ?_); at_builtin; refine Kd.R_append (Kd.int .i64) (w0 := w) w.heap.size rfl (.tmp 17) (.tmp 19) 22 3 (.int .i64 0) 8 rfl Try.underlying22 info3 rfl (by decide) (by omega) g0 e0 5 [.int .i64 5] (fun _ => True) (fun _ => False) rfl rfl ?aP (fun _ hk => hk.elim) ?aF ?aO ?aB ?aS ?aL ?_; (case aP => exact rfl); (case aB => exact (bl_ HB)); (case aF => exact (fun _ _ => trivial)); (case aO => exact (kR_ b0)); (case aS => exact (bs_ HB)); (case aL => have := m1.out; omega); intro c3 f3 ho hb hg hat; rw [← Y0.out] at ho; replace d0 := (FG_ d0 hg (Kd.R_ne b0.out d0.out (by decide))); replace c0 := (FG_ c0 hg (Kd.R_ne b0.out c0.out (by decide))); replace HB := a_ (hb); have M0 := a_ (ho); clear b0; clear ho hb hg hat; obtain ⟨Q0, R0, n1⟩ := Kd.R_slice M0.out; subst n1; obtain ⟨E1, F1, G1, H1, I1, J1, K1, L1⟩ := e4_ c0))
 go_roundg k1
 case measure => have := t0.out; omega
 case rel => exact ⟨(wrap64 (o0 + 1)), (F0), (.slice Q0 F0.length R0), rs_, H', ⟨by have := t0.out; omega⟩, ⟨by (with_reducible repeat (first | apply Kd.R_alloc | apply Kd.R_drewN | apply Kd.R_drew)); exact Kd.R_mono (Kd.R_far (p := ⟨n0, 2, none⟩) (Kd.R_types M0.out c0.out (by decide)) (fun _ hk => hk.2) (.slice Q0 F0.length R0)) (fun _ hk => trivial)⟩, ⟨bk_ d0⟩, ⟨bp_ c0⟩, ⟨bl_ HB⟩⟩}
 {
 replace H := gt_ H
 obtain ⟨f1, H⟩ := H
 have Z0 := a_ f1
 clear f1
 obtain ⟨G0, q0⟩ : ∃ y_ : List Int, y_ = (e0 ++ [6]) := ⟨_, rfl⟩
 first | replace H := by_ H q0 | rw [← q0] at H
 have b1 := a_ q0
 clear q0
 have H' := a_ H
 clear H
 have T2 := k0.out
 have U2 := j0.out
 obtain ⟨M1, N1, O1, P1, Q1, R1, S1, T1⟩ := e4_ c0
 go_wp2_with (first | ((with_reducible refine gate_builtin (b := .append) (xs := #[.tmp 17, .tmp 19]) rfl ?_); at_builtin; refine Kd.R_append (Kd.int .i64) (w0 := w) w.heap.size rfl (.tmp 17) (.tmp 19) 22 3 (.int .i64 0) 8 rfl Try.underlying22 info3 rfl (by decide) (by omega) g0 e0 6 [.int .i64 6] (fun _ => True) (fun _ => False) rfl rfl ?aP (fun _ hk => hk.elim) ?aF ?aO ?aB ?aS ?aL ?_; (case aP => exact rfl); (case aB => exact (bl_ HB)); (case aF => exact (fun _ _ => trivial)); (case aO => exact (kR_ b0)); (case aS => exact (bs_ HB)); (case aL => have := Z0.out; omega); intro d3 g3 ho hb hg hat; rw [← b1.out] at ho; replace d0 := (FG_ d0 hg (Kd.R_ne b0.out d0.out (by decide))); replace c0 := (FG_ c0 hg (Kd.R_ne b0.out c0.out (by decide))); replace HB := a_ (hb); have N0 := a_ (ho); clear b0; clear ho hb hg hat; obtain ⟨S0, T0, o1⟩ := Kd.R_slice N0.out; subst o1; obtain ⟨U1, V1, W1, X1, Y1, Z1, a2, b2⟩ := e4_ c0))
 go_roundg k1
 case measure => have := t0.out; omega
 case rel => exact ⟨(wrap64 (o0 + 1)), (G0), (.slice S0 G0.length T0), rs_, H', ⟨by have := t0.out; omega⟩, ⟨by (with_reducible repeat (first | apply Kd.R_alloc | apply Kd.R_drewN | apply Kd.R_drew)); exact Kd.R_mono (Kd.R_far (p := ⟨n0, 2, none⟩) (Kd.R_types N0.out c0.out (by decide)) (fun _ hk => hk.2) (.slice S0 G0.length T0)) (fun _ hk => trivial)⟩, ⟨bk_ d0⟩, ⟨bp_ c0⟩, ⟨bl_ HB⟩⟩}}
 {
 have H' := a_ H
 clear H
 go_wp2
 go_loopg [23] k1 (fun kq O2 w' => ∃ (r0 : Int) (f0 : List Int) (m0 : Value), O2 = .int .i64 r0 ∧ Aside0 (vhead_Plain.l1 kq r0 a0 a1 e0 f0 = some (r1, r2, r3, r4)) ∧ Aside0 (kq ≤ k1) ∧ Aside0 (Kd.R (Kd.int .i64) 3 w' w.heap.size (fun k_ => no_ k_ m0) g0 e0) ∧ Aside0 (Kd.R (Kd.int .i64) 3 w' w.heap.size (fun k_ => no_ k_ g0) m0 f0) ∧ Aside0 (w'.heap[i0]? = some (.cells #[.int .i64 0, .int .i64 0, (.slice none 0 0), (.slice none 0 0)] 24 (0, 0))) ∧ Aside0 (w'.heap[n0]? = some (.cells #[.int .i64 a0, .int .i64 a1, g0, m0] 24 (0, 0))) ∧ Aside0 (Below w.heap.size w w'))
 case atStart => exact ⟨(0), (([] : List Int)), (.slice none 0 0), rs_, H', ⟨Nat.le_refl _⟩, ⟨by (with_reducible repeat (first | apply Kd.R_alloc | apply Kd.R_drewN | apply Kd.R_drew)); exact Kd.R_mono b0.out (fun _ hk => (by simp [Value.ownBlock]))⟩, ⟨kn_⟩, ⟨bk_ d0⟩, ⟨bk_ c0⟩, ⟨bl_ HB⟩⟩
 case round => (
 clear H'
 try clear c7
 try clear P0
 try clear v0 y0 z0 A0 B0 C0 D0 E0
 obtain ⟨r0, f0, m0, rfl, HA, h1, b0, h0, d0, c0, HB⟩ := hrel
 cases gk with
 | zero => exact absurd HA.out (by simp [vhead_Plain.l1])
 | succ k2 => (
 have H := HA.out
 clear HA
 simp only [vhead_Plain.l1] at H
 replace H := id_ H
 rcases H with ⟨c1, H⟩ | ⟨c1, H⟩
 {
 replace H := gt_ H
 obtain ⟨i1, H⟩ := H
 have d1 := a_ i1
 clear i1
 obtain ⟨H0, s0⟩ : ∃ y_ : List Int, y_ = (f0 ++ [4]) := ⟨_, rfl⟩
 first | replace H := by_ H s0 | rw [← s0] at H
 have e1 := a_ s0
 clear s0
 have H' := a_ H
 clear H
 have V2 := k0.out
 have W2 := j0.out
 obtain ⟨c2, d2, e2, f2, g2, h2, i2, j2⟩ := e4_ c0
 go_wp2_with (first | ((with_reducible refine gate_builtin (b := .append) (xs := #[.tmp 26, .tmp 27]) rfl ?_); at_builtin; refine Kd.R_append (Kd.int .i64) (w0 := w) w.heap.size rfl (.tmp 26) (.tmp 27) 22 3 (.int .i64 0) 8 rfl Try.underlying22 info3 rfl (by decide) (by omega) m0 f0 4 [.int .i64 4] (fun k_ => no_ k_ g0) (fun _ => False) rfl rfl ?aP (fun _ hk => hk.elim) ?aF ?aO ?aB ?aS ?aL ?_; (case aP => exact rfl); (case aB => exact (bl_ HB)); (case aF => exact (fun k_ hk => Kd.fresh' (Kd.R_lt (kR_ b0)) k_ hk)); (case aO => exact (kR_ h0)); (case aS => exact (bs_ HB)); (case aL => have := d1.out; omega); intro e3 h3 ho hb hg hat; rw [← e1.out] at ho; replace b0 := a_ (Kd.R_after (ok := (fun _ => True)) (by (with_reducible repeat (first | apply Kd.R_alloc | apply Kd.R_drewN | apply Kd.R_drew)); exact Kd.R_mono b0.out (fun _ hk => ⟨trivial, hk⟩)) hg hat); replace d0 := (FG_ d0 hg (Kd.R_ne h0.out d0.out (by decide))); replace c0 := (FG_ c0 hg (Kd.R_ne h0.out c0.out (by decide))); replace HB := a_ (hb); have O0 := a_ (ho); clear h0; clear ho hb hg hat; obtain ⟨U0, V0, p1⟩ := Kd.R_slice O0.out; subst p1; obtain ⟨l2, m2, n2, p2, q2, s2, t2, v2⟩ := e4_ c0))
 go_roundg k2
 case measure => have := t0.out; have := h1.out; omega
 case rel => exact ⟨(wrap64 (r0 + 1)), (H0), (.slice U0 H0.length V0), rs_, H', ⟨by have := t0.out; have := h1.out; omega⟩, ⟨by (with_reducible repeat (first | apply Kd.R_alloc | apply Kd.R_drewN | apply Kd.R_drew)); exact Kd.R_mono (Kd.R_far (p := ⟨n0, 3, none⟩) (Kd.R_types b0.out c0.out (by decide)) (fun _ hk => hk.2) (.slice U0 H0.length V0)) (fun _ hk => hk.1.2)⟩, ⟨kRk_ O0 c0⟩, ⟨bk_ d0⟩, ⟨bp_ c0⟩, ⟨bl_ HB⟩⟩}
 {
 simp only [Option.some.injEq, Prod.mk.injEq] at H
 obtain ⟨rfl, rfl, rfl, rfl⟩ := H
 have X2 := k0.out
 have Y2 := j0.out
 obtain ⟨w2, y2, z2, A2, B2, C2, D2, E2⟩ := e4_ c0
 obtain ⟨F2, G2, H2, I2, J2, K2, L2, M2⟩ := e4_ d0
 obtain ⟨I0, J0, q1⟩ := Kd.R_slice b0.out
 subst q1
 obtain ⟨K0, L0, s1⟩ := Kd.R_slice h0.out
 subst s1
 go_wp2
 refine bodyPost_ret (results_cell_row rfl _ _ i0 24 #[.int .i64 a0, .int .i64 a1, .slice I0 e0.length J0, .slice K0 f0.length L0] (0, 0) _ rfl (bp_ d0) Try.underlying24 rfl kf_) rfl ?_
 exact ⟨_, _, er_, by (with_reducible repeat (first | apply Kd.R_alloc | apply Kd.R_drewN | apply Kd.R_drew)); exact Kd.R_mono (Kd.R_far (p := ⟨i0, 3, none⟩) (Kd.R_far (p := ⟨i0, 2, none⟩) (Kd.R_far (p := ⟨i0, 1, none⟩) (Kd.R_far (p := ⟨i0, 0, none⟩) (Kd.R_types b0.out d0.out (by decide)) (fun _ hk => hk.2) (.int .i64 a0)) (fun _ hk => hk.2) (.int .i64 a1)) (fun _ hk => hk.2) (.slice I0 e0.length J0)) (fun _ hk => hk.2) (.slice K0 f0.length L0)) (fun _ hk => hk.1), by (with_reducible repeat (first | apply Kd.R_alloc | apply Kd.R_drewN | apply Kd.R_drew)); exact Kd.R_mono (Kd.R_far (p := ⟨i0, 3, none⟩) (Kd.R_far (p := ⟨i0, 2, none⟩) (Kd.R_far (p := ⟨i0, 1, none⟩) (Kd.R_far (p := ⟨i0, 0, none⟩) (Kd.R_types h0.out d0.out (by decide)) (fun _ hk => hk.2) (.int .i64 a0)) (fun _ hk => hk.2) (.int .i64 a1)) (fun _ hk => hk.2) (.slice I0 e0.length J0)) (fun _ hk => hk.2) (.slice K0 f0.length L0)) (fun _ hk => hk.1), bl_ HB⟩}))}))
def psalterylaw22_knows.f (k : Nat)  : Option (Bool) := (vhead_Plain.f k 1 0).bind fun a0 => (if 16 ≤ 35184372088832 then ((some (List.replicate 16 0 : List Int)).bind fun e0 => ((vcodec_Encode.f k a0.1 a0.2.1 a0.2.2.1 a0.2.2.2 (([e0] : List (List Int)))).bind fun d0 => (if 0 < (e0.length : Int) then ((vcodec_Encode.f k a0.1 a0.2.1 a0.2.2.1 a0.2.2.2 (([(e0.set (0 : Int).toNat 5)] : List (List Int)))).bind fun b0 => ((vcodec_Decode.f k a0.1 a0.2.1 a0.2.2.1 a0.2.2.2 b0.1 b0.2.1).bind fun c0 => (if d0.2.2 = 0 then (if (d0.1.length : Int) = 1 then (if 0 < (d0.1.length : Int) then (if ((rd_L1 d0.1 0).length : Int) = 0 then (if b0.2.2 = 0 then (if (b0.2.1.length : Int) = 1 then (if 0 < (b0.2.1.length : Int) then (if ((rd_L2 b0.2.1 0).length : Int) = 16 then (if 0 < ((rd_L2 b0.2.1 0).length : Int) then (if (rd (rd_L2 b0.2.1 0) 0) = 5 then (if 0 < (b0.1.length : Int) then (if ((rd_L1 b0.1 0).length : Int) = 6 then (if 0 < ((rd_L1 b0.1 0).length : Int) then (if (rd (rd_L1 b0.1 0) 0) = 0 then (if c0.2 = 0 then (if (c0.1.length : Int) = 1 then (if 0 < (c0.1.length : Int) then (if ((rd_L2 c0.1 0).length : Int) = 16 then (if 0 < ((rd_L2 c0.1 0).length : Int) then (some ((rd (rd_L2 c0.1 0) 0) == 5)) else (none)) else (some false)) else (none)) else (some false)) else (some false)) else (some false)) else (none)) else (some false)) else (none)) else (some false)) else (none)) else (some false)) else (none)) else (some false)) else (some false)) else (some false)) else (none)) else (some false)) else (some false)))) else (none)))) else (none))
theorem psalterylaw22_knows.mono : ∀ k, LeO (psalterylaw22_knows.f k ) (psalterylaw22_knows.f (k + 1) ) := by
  intro  k
  unfold psalterylaw22_knows.f
  with_reducible repeat' first
   | apply vcodec_Decode.mono
   | apply vcodec_Encode.mono
   | apply vhead_Plain.mono
   | exact LeO.refl _
   | exact LeO.none _
   | refine LeO.ite ?_ ?_
   | refine LeO.bind ?_ (fun _ => ?_)
set_option maxHeartbeats 8000000 in
set_option maxRecDepth 100000 in
theorem psalterylaw22_knows.callsT (k : Nat)  (r : Bool) (w : World) (h : psalterylaw22_knows.f k  = some r) (hT : r = true) :
    Calls Try.prog 13 #[] w fun e w' => e = .returned (.bool r) ∧ Below w.heap.size w w' := by
 have G6 := Try.underlying24
 have H6 := Try.underlying37
 have I6 := Try.underlying28
 have HB := a_ (Below.refl w.heap.size w)
 have H : ((vhead_Plain.f k 1 0).bind fun S0 => (if 16 ≤ 35184372088832 then ((some (List.replicate 16 0 : List Int)).bind fun D0 => ((vcodec_Encode.f k S0.1 S0.2.1 S0.2.2.1 S0.2.2.2 (([D0] : List (List Int)))).bind fun s1 => (if 0 < (D0.length : Int) then ((vcodec_Encode.f k S0.1 S0.2.1 S0.2.2.1 S0.2.2.2 (([(D0.set (0 : Int).toNat 5)] : List (List Int)))).bind fun T0 => ((vcodec_Decode.f k S0.1 S0.2.1 S0.2.2.1 S0.2.2.2 T0.1 T0.2.1).bind fun e1 => (if s1.2.2 = 0 then (if (s1.1.length : Int) = 1 then (if 0 < (s1.1.length : Int) then (if ((rd_L1 s1.1 0).length : Int) = 0 then (if T0.2.2 = 0 then (if (T0.2.1.length : Int) = 1 then (if 0 < (T0.2.1.length : Int) then (if ((rd_L2 T0.2.1 0).length : Int) = 16 then (if 0 < ((rd_L2 T0.2.1 0).length : Int) then (if (rd (rd_L2 T0.2.1 0) 0) = 5 then (if 0 < (T0.1.length : Int) then (if ((rd_L1 T0.1 0).length : Int) = 6 then (if 0 < ((rd_L1 T0.1 0).length : Int) then (if (rd (rd_L1 T0.1 0) 0) = 0 then (if e1.2 = 0 then (if (e1.1.length : Int) = 1 then (if 0 < (e1.1.length : Int) then (if ((rd_L2 e1.1 0).length : Int) = 16 then (if 0 < ((rd_L2 e1.1 0).length : Int) then (some ((rd (rd_L2 e1.1 0) 0) == 5)) else (none)) else (some false)) else (none)) else (some false)) else (some false)) else (some false)) else (none)) else (some false)) else (none)) else (some false)) else (none)) else (some false)) else (none)) else (some false)) else (some false)) else (some false)) else (none)) else (some false)) else (some false)))) else (none)))) else (none))) = some r := h
 clear h
 have HT := a_ hT
 clear hT
 obtain ⟨⟨M0, N0, e0, f0⟩, A1, H⟩ := ob_ H
 (try dsimp only at H)
 replace H := gt_ H
 obtain ⟨c2, H⟩ := H
 have J6 := eq_true c2
 have K6 : decide (16 ≤ 35184372088832) = true := decide_eq_true c2
 clear c2
 obtain ⟨D0, t1⟩ : ∃ y_ : List Int, y_ = (List.replicate 16 0) := ⟨_, rfl⟩
 first | replace H := by_ H t1 | rw [← t1] at H
 have J2 := a_ t1
 clear t1
 obtain ⟨b1, y1⟩ : ∃ y_ : List (List Int), y_ = (([D0] : List (List Int))) := ⟨_, rfl⟩
 first | replace H := by_ H y1 | rw [← y1] at H
 have K2 := a_ y1
 clear y1
 obtain ⟨⟨l0, p0, C3⟩, A3, H⟩ := ob_ H
 (try dsimp only at H)
 replace H := gt_ H
 obtain ⟨c4, H⟩ := H
 have L6 : decide (0 < (D0.length : Int)) = true := decide_eq_true c4
 have M6 : decide (0 < D0.length) = true := decide_eq_true (by omega)
 clear c4
 obtain ⟨o1, z1⟩ : ∃ y_ : List Int, y_ = (D0.set (0 : Int).toNat 5) := ⟨_, rfl⟩
 first | replace H := by_ H z1 | rw [← z1] at H
 have O2 := a_ z1
 clear z1
 obtain ⟨L0, B1⟩ : ∃ y_ : List (List Int), y_ = (([o1] : List (List Int))) := ⟨_, rfl⟩
 first | replace H := by_ H B1 | rw [← B1] at H
 have L2 := a_ B1
 clear B1
 obtain ⟨⟨q0, s0, D3⟩, A6, H⟩ := ob_ H
 (try dsimp only at H)
 obtain ⟨⟨B0, E3⟩, A7, H⟩ := ob_ H
 (try dsimp only at H)
 replace H := ie_ H
 rcases H with ⟨F3, G3, H⟩ | ⟨c8, F3, G3, H⟩
 {
 replace H := ie_ H
 rcases H with ⟨H3, I3, H⟩ | ⟨c9, H3, I3, H⟩
 {
 replace H := gt_ H
 obtain ⟨q3, H⟩ := H
 have S5 : decide (0 < (l0.length : Int)) = true := decide_eq_true q3
 have T5 : decide (0 < l0.length) = true := decide_eq_true (by omega)
 clear q3
 replace H := ii_ H
 rcases H with ⟨C1, H⟩ | ⟨C1, H⟩
 {
 have P2 : (((rd_L1 l0 0).length : Int) == 0) = true := beq_iff_eq.mpr C1
 have Q2 : (((rd_L1 l0 0).length : Int) != 0) = false := bne_eq_false_iff_eq.mpr C1
 clear C1
 replace H := ie_ H
 rcases H with ⟨R2, S2, H⟩ | ⟨T6, R2, S2, H⟩
 {
 replace H := ie_ H
 rcases H with ⟨T2, U2, H⟩ | ⟨U6, T2, U2, H⟩
 {
 replace H := gt_ H
 obtain ⟨r3, H⟩ := H
 have U5 : decide (0 < (s0.length : Int)) = true := decide_eq_true r3
 have V5 : decide (0 < s0.length) = true := decide_eq_true (by omega)
 clear r3
 replace H := ie_ H
 rcases H with ⟨V2, W2, H⟩ | ⟨V6, V2, W2, H⟩
 {
 replace H := gt_ H
 obtain ⟨s3, H⟩ := H
 have W5 : decide (0 < ((rd_L2 s0 0).length : Int)) = true := decide_eq_true s3
 have X5 : decide (0 < (rd_L2 s0 0).length) = true := decide_eq_true (by omega)
 clear s3
 replace H := ie_ H
 rcases H with ⟨X2, Y2, H⟩ | ⟨W6, X2, Y2, H⟩
 {
 replace H := gt_ H
 obtain ⟨t3, H⟩ := H
 have Y5 : decide (0 < (q0.length : Int)) = true := decide_eq_true t3
 have Z5 : decide (0 < q0.length) = true := decide_eq_true (by omega)
 clear t3
 replace H := ie_ H
 rcases H with ⟨Z2, a3, H⟩ | ⟨X6, Z2, a3, H⟩
 {
 replace H := gt_ H
 obtain ⟨v3, H⟩ := H
 have a6 : decide (0 < ((rd_L1 q0 0).length : Int)) = true := decide_eq_true v3
 have b6 : decide (0 < (rd_L1 q0 0).length) = true := decide_eq_true (by omega)
 clear v3
 replace H := ie_ H
 rcases H with ⟨b3, c3, H⟩ | ⟨Y6, b3, c3, H⟩
 {
 replace H := ie_ H
 rcases H with ⟨d3, e3, H⟩ | ⟨Z6, d3, e3, H⟩
 {
 replace H := ie_ H
 rcases H with ⟨f3, g3, H⟩ | ⟨a7, f3, g3, H⟩
 {
 replace H := gt_ H
 obtain ⟨w3, H⟩ := H
 have c6 : decide (0 < (B0.length : Int)) = true := decide_eq_true w3
 have d6 : decide (0 < B0.length) = true := decide_eq_true (by omega)
 clear w3
 replace H := ie_ H
 rcases H with ⟨h3, i3, H⟩ | ⟨b7, h3, i3, H⟩
 {
 replace H := gt_ H
 obtain ⟨y3, H⟩ := H
 have e6 : decide (0 < ((rd_L2 B0 0).length : Int)) = true := decide_eq_true y3
 have f6 : decide (0 < (rd_L2 B0 0).length) = true := decide_eq_true (by omega)
 clear y3
 obtain rfl := Option.some.inj H
 go_enter Try.func13, Try.ntmps13
 go_wp2_with (first | ((with_reducible refine gate_callee (f := 31) rfl ?_); refine gL_ (some 9) Try.func31 #[.int .i64 1, .int .i64 0] ?_; (with_reducible refine (vhead_Plain.calls k 1 0 M0 N0 e0 f0 _ A1.out).mono ?_); rintro e c7 ⟨N6, O6, rfl, V0, a1, hb⟩; refine ⟨_, rfl, ?_⟩; have b0 := a_ (Kd.R_lower V0 (bs_ HB)); have c0 := a_ (Kd.R_lower a1 (bs_ HB)); replace HB := BS_ HB hb; (try clear hb); (try clear hk); (try clear V0); (try clear a1)) | ((with_reducible refine gate_dst (N := 1) rfl ?_); (try (refine gate_guard (by rfl) ?_; dsimp only)); refine bx_ HB 1 #[.int .i64 0, .int .i64 0, .slice none 0 0, .slice none 0 0] 24 ?_; clear HB; intro g0 hg d7 hb a0 j3 HB; have g6 := j3; replace b0 := FR_ b0 hb; replace c0 := FR_ c0 hb; clear hb hg; obtain ⟨i4, j4, k4, l4, m4, n4, o4, p4⟩ := e4_ a0; obtain ⟨h0, i0, J3⟩ := Kd.R_slice b0.out; subst J3; obtain ⟨j0, k0, K3⟩ := Kd.R_slice c0.out; subst K3) | ((with_reducible refine gate_dst (N := 10) rfl ?_); (try (refine gate_guard (by rfl) ?_; dsimp only)); refine Kd.R_make (Kd.int .i64) _ 2 rfl (N := 10) rfl 53 _ _ rfl 16 rfl rfl Try.underlying53 (.int .i64 0) 8 info2 rfl (by decide) (by omega) 0 (ok := fun _ => True) (okp := fun _ => True) rfl (fun _ hk => hk) trivial (by omega) (by omega) (Below.refl _ _) (Nat.le_refl _) ?_; intro P6 e7 D1 hb hg_ hnew_; clear hg_ hnew_; (first | rw [← J2.out] at D1 | (simp only [Int.reduceToNat] at D1; rw [← J2.out] at D1)); replace b0 := a_ (Kd.R_below (kRk_ b0 a0) hb); replace c0 := a_ (Kd.R_below (kRk_ c0 a0) hb); have z0 := a_ (Kd.R_lower D1 (bs_ HB)); replace a0 := a_ (blk_below (g := g0) (o := .cells #[.int .i64 M0, .int .i64 N0, .slice h0 e0.length i0, .slice j0 f0.length k0] 24 (0, 0)) (bp_ a0) hb); replace HB := BS_ HB hb; clear hb D1; obtain ⟨q4, r4, s4, t4, v4, w4, x4, y4⟩ := e4_ a0; obtain ⟨m1, P0, L3⟩ := Kd.R_slice z0.out; subst L3) | ((with_reducible refine gate_dst (N := 14) rfl ?_); (try (refine gate_guard (by rfl) ?_; dsimp only)); refine Kd.N_lit (Kd.slice 2 (Kd.int .i64)) _ 53 ?hg (N' := 14) ?hd (xs := ([D0] : List (List Int))) (inner := [.slice m1 D0.length P0]) (ok := (fun k_ => no_ k_ (.slice h0 e0.length i0) ∧ no_ k_ (.slice j0 f0.length k0) ∧ k_ ≠ g0)) (okp := (fun k_ => no_ k_ (.slice h0 e0.length i0) ∧ no_ k_ (.slice j0 f0.length k0) ∧ k_ ≠ g0)) ?hr ?hp (fun _ hk => hk) (fr_ (P := (fun k_ => no_ k_ (.slice h0 e0.length i0) ∧ no_ k_ (.slice j0 f0.length k0) ∧ k_ ≠ g0)) (fun k_ hk => ⟨Kd.fresh' (Kd.R_lt (kR_ b0)) k_ hk, Kd.fresh' (Kd.R_lt (kR_ c0)) k_ hk, Kd.freshB (g := g0) (o := .cells #[.int .i64 M0, .int .i64 N0, .slice h0 e0.length i0, .slice j0 f0.length k0] 24 (0, 0)) (bk_ a0) k_ hk⟩)) (Below.refl _ _) (Nat.le_refl _) (by simp) ?_; (case hd => rfl); (case hg => rfl); (case hr => first | (go_simp; done) | (go_simp; rfl)); (case hp => exact (Reps.one (show Kd.FK (Kd.slice 2 (Kd.int .i64)) _ _ D0 [.slice m1 D0.length P0] from (Kd.FK_slice_mk (Kd.R_reads' (Kd.R_mono (ok' := (fun k_ => no_ k_ (.slice h0 e0.length i0) ∧ no_ k_ (.slice j0 f0.length k0) ∧ k_ ≠ g0)) (Kd.R_types (Kd.R_apart' (Kd.R_apart' (z0.out) (Kd.R_typed b0.out) (by decide)) (Kd.R_typed c0.out) (by decide)) a0.out (by decide)) cj_)).2.1 (Kd.R_F (Kd.R_mono (ok' := (fun k_ => no_ k_ (.slice h0 e0.length i0) ∧ no_ k_ (.slice j0 f0.length k0) ∧ k_ ≠ g0)) (Kd.R_types (Kd.R_apart' (Kd.R_apart' (z0.out) (Kd.R_typed b0.out) (by decide)) (Kd.R_typed c0.out) (by decide)) a0.out (by decide)) cj_)))) (Reps.none _ _))); intro Q6 f7 E1 hb hg_ hnew_; clear hg_ hnew_; (first | rw [← K2.out] at E1 | (simp only [Int.reduceToNat] at E1; rw [← K2.out] at E1)); replace b0 := FR_ b0 hb; replace c0 := FR_ c0 hb; replace z0 := FR_ z0 hb; have O0 := a_ (Kd.N_lower E1 (bs_ HB)); replace a0 := FB_ a0 hb; replace HB := BS_ HB hb; clear hb E1; obtain ⟨p1, q1, M3⟩ := Kd.N_slice O0.out; subst M3) | ((with_reducible refine gate_callee (f := 15) rfl ?_); refine gL_ (some 16) Try.func15 #[.agg #[.int .i64 M0, .int .i64 N0, .slice h0 e0.length i0, .slice j0 f0.length k0], .agg #[.slice p1 b1.length q1]] ?_; (with_reducible refine (vcodec_Encode.calls k M0 N0 _ _ e0 _ _ f0 _ _ b1 l0 p0 C3 _ ?side1 ?side2 ?side3 ?side4 ?side5 ?side6 A3.out).mono ?_); (case side1 => exact kCt_ (Kd.R_reads' b0.out).2.2); (case side2 => exact (Kd.R_reads' b0.out).2.1); (case side3 => exact kCt_ (Kd.R_reads' c0.out).2.2); (case side4 => exact (Kd.R_reads' c0.out).2.1); (case side5 => repeat (first | exact (Kd.N_reads' O0.out).2.2 | (with_reducible refine Kd.C_alloc ?_ _) | (with_reducible refine Kd.C_drewN ?_ _) | (with_reducible refine Kd.C_drew ?_))); (case side6 => exact (Kd.N_reads' O0.out).2.1); rintro e g7 ⟨N3, O3, rfl, V0, a1, hb⟩; refine ⟨_, rfl, ?_⟩; have o0 := a_ (Kd.N_lower (Kd.N_mono (ok' := fun k_ => no_ k_ O3 ∧ no_ k_ (.slice h0 e0.length i0) ∧ no_ k_ (.slice j0 f0.length k0) ∧ no_ k_ (.slice m1 D0.length P0) ∧ no_ k_ (.slice p1 b1.length q1) ∧ k_ ≠ g0) V0 (fun k_ hk_ => ⟨hk_.2, (Kd.fresh' (Kd.R_lt (kR_ b0)) k_ hk_.1), (Kd.fresh' (Kd.R_lt (kR_ c0)) k_ hk_.1), (Kd.fresh' (Kd.R_lt (kR_ z0)) k_ hk_.1), (Kd.fresh' (Kd.N_lt (kN_ O0)) k_ hk_.1), (Kd.freshB (g := g0) (o := .cells #[.int .i64 M0, .int .i64 N0, .slice h0 e0.length i0, .slice j0 f0.length k0] 24 (0, 0)) (bk_ a0) k_ hk_.1)⟩)) (bs_ HB)); have r0 := a_ (Kd.N_lower (Kd.N_mono (ok' := fun k_ => no_ k_ N3 ∧ no_ k_ (.slice h0 e0.length i0) ∧ no_ k_ (.slice j0 f0.length k0) ∧ no_ k_ (.slice m1 D0.length P0) ∧ no_ k_ (.slice p1 b1.length q1) ∧ k_ ≠ g0) a1 (fun k_ hk_ => ⟨hk_.2, (Kd.fresh' (Kd.R_lt (kR_ b0)) k_ hk_.1), (Kd.fresh' (Kd.R_lt (kR_ c0)) k_ hk_.1), (Kd.fresh' (Kd.R_lt (kR_ z0)) k_ hk_.1), (Kd.fresh' (Kd.N_lt (kN_ O0)) k_ hk_.1), (Kd.freshB (g := g0) (o := .cells #[.int .i64 M0, .int .i64 N0, .slice h0 e0.length i0, .slice j0 f0.length k0] 24 (0, 0)) (bk_ a0) k_ hk_.1)⟩)) (bs_ HB)); replace b0 := FR_ b0 hb; replace c0 := FR_ c0 hb; replace z0 := FR_ z0 hb; replace O0 := a_ (Kd.N_mono (Kd.N_told (Kd.N_told (Kd.N_old (kN_ O0) hb) (Kd.N_base V0)) (Kd.N_base a1)) (fun _ h_ => h_.1)); replace a0 := FB_ a0 hb; replace HB := BS_ HB hb; (try clear hb); (try clear hk); (try clear V0); (try clear a1)) | ((with_reducible refine gate_dst (N := 3) rfl ?_); (try (refine gate_guard (by rfl) ?_; dsimp only)); refine box_ 3 #[.slice none 0 0, .slice none 0 0] 28 ?_; intro d0 hg B5 hbox hb; replace b0 := FR_ b0 hb; replace c0 := FR_ c0 hb; replace z0 := FR_ z0 hb; replace O0 := a_ (Kd.N_below (Kd.N_elderB (kN_ O0) d0 (Nat.le_of_eq hg.symm)) hb); replace o0 := a_ (Kd.N_below (Kd.N_elderB (kN_ o0) d0 (Nat.le_of_eq hg.symm)) hb); replace r0 := a_ (Kd.N_below (Kd.N_elderB (kN_ r0) d0 (Nat.le_of_eq hg.symm)) hb); have n0 := a_ (hbox); have h6 := GE_ HB hg; have i6 := GE_ HB hg; replace HB := BS_ HB hb; obtain ⟨p2, q2⟩ := NN_ a0 hg; replace a0 := FB_ a0 hb; clear hb hbox hg; obtain ⟨t0, v0, P3⟩ := Kd.N_slice o0.out; subst P3; have j6 := q2.out; have k6 := p2.out; obtain ⟨z4, A4, B4, C4⟩ := e2_ n0; obtain ⟨w0, y0, Q3⟩ := Kd.N_slice r0.out; subst Q3) | ((with_reducible refine gate_store (t := 28) (p := 3) rfl ?_); refine store_event (t := 28) (p := 3) (v := ?vo_w45) (w1 := ((B5.setCell ⟨d0, 0, none⟩ (.slice t0 l0.length v0)).setCell ⟨d0, 1, none⟩ (.slice w0 p0.length y0))) ?hg ?ho ?hn ?hr ?_; (case ho => rfl); (case hg => rfl); (case hn => rfl); (case hr => first | (go_simp; done) | (go_simp; rfl)); intro c1 hw; have n0_ : Aside0 (Kd.R (Kd.int .i64) 3 c1 w.heap.size (fun k_ => no_ k_ (.slice j0 f0.length k0)) (.slice h0 e0.length i0) e0) := ⟨(by rw [hw]; exact (kRk_ b0 n0))⟩; have n1_ : Aside0 (Kd.R (Kd.int .i64) 3 c1 w.heap.size (fun k_ => no_ k_ (.slice h0 e0.length i0)) (.slice j0 f0.length k0) f0) := ⟨(by rw [hw]; exact (kRk_ c0 n0))⟩; have n2_ : Aside0 (Kd.R (Kd.int .i64) 2 c1 w.heap.size (fun _ => True) (.slice m1 D0.length P0) D0) := ⟨(by rw [hw]; exact (by (with_reducible repeat (first | apply Kd.R_alloc | apply Kd.R_drewN | apply Kd.R_drew)); exact Kd.R_mono (Kd.R_far (p := ⟨d0, 1, none⟩) (Kd.R_far (p := ⟨d0, 0, none⟩) (Kd.R_types z0.out n0.out (by decide)) (fun _ hk => hk.2) (.slice t0 l0.length v0)) (fun _ hk => hk.2) (.slice w0 p0.length y0)) (fun _ hk => trivial)))⟩; have n3_ : Aside0 (Kd.N (Kd.slice 2 (Kd.int .i64)) 53 c1 w.heap.size (fun k_ => no_ k_ (.slice h0 e0.length i0) ∧ no_ k_ (.slice j0 f0.length k0) ∧ no_ k_ (.slice t0 l0.length v0) ∧ no_ k_ (.slice w0 p0.length y0) ∧ k_ ≠ g0 ∧ k_ ≠ d0) (.slice p1 b1.length q1) b1) := ⟨(by rw [hw]; exact (by (with_reducible repeat (first | apply Kd.N_alloc | apply Kd.N_drewN | apply Kd.N_drew)); exact Kd.N_mono (Kd.N_far (p := ⟨d0, 1, none⟩) (Kd.N_far (p := ⟨d0, 0, none⟩) (Kd.N_mono O0.out (fun k_ hk => (⟨hk, hk.2⟩ : _ ∧ k_ ≠ d0))) (fun _ hk => hk.2) (.slice t0 l0.length v0)) (fun _ hk => hk.2) (.slice w0 p0.length y0)) cj_))⟩; have n4_ : Aside0 (Kd.N (Kd.slice 3 (Kd.int .i64)) 22 c1 w.heap.size (fun k_ => no_ k_ (.slice h0 e0.length i0) ∧ no_ k_ (.slice j0 f0.length k0) ∧ no_ k_ (.slice m1 D0.length P0) ∧ no_ k_ (.slice p1 b1.length q1) ∧ no_ k_ (.slice w0 p0.length y0) ∧ k_ ≠ g0 ∧ k_ ≠ d0) (.slice t0 l0.length v0) l0) := ⟨(by rw [hw]; exact (by (with_reducible repeat (first | apply Kd.N_alloc | apply Kd.N_drewN | apply Kd.N_drew)); exact Kd.N_mono (Kd.N_far (p := ⟨d0, 1, none⟩) (Kd.N_far (p := ⟨d0, 0, none⟩) (Kd.N_mono o0.out (fun k_ hk => (⟨hk, hk.2⟩ : _ ∧ k_ ≠ d0))) (fun _ hk => hk.2) (.slice t0 l0.length v0)) (fun _ hk => hk.2) (.slice w0 p0.length y0)) cj_))⟩; have n5_ : Aside0 (Kd.N (Kd.slice 2 (Kd.int .i64)) 53 c1 w.heap.size (fun k_ => no_ k_ (.slice h0 e0.length i0) ∧ no_ k_ (.slice j0 f0.length k0) ∧ no_ k_ (.slice m1 D0.length P0) ∧ no_ k_ (.slice p1 b1.length q1) ∧ no_ k_ (.slice t0 l0.length v0) ∧ k_ ≠ g0 ∧ k_ ≠ d0) (.slice w0 p0.length y0) p0) := ⟨(by rw [hw]; exact (by (with_reducible repeat (first | apply Kd.N_alloc | apply Kd.N_drewN | apply Kd.N_drew)); exact Kd.N_mono (Kd.N_far (p := ⟨d0, 1, none⟩) (Kd.N_far (p := ⟨d0, 0, none⟩) (Kd.N_mono r0.out (fun k_ hk => (⟨hk, hk.2⟩ : _ ∧ k_ ≠ d0))) (fun _ hk => hk.2) (.slice t0 l0.length v0)) (fun _ hk => hk.2) (.slice w0 p0.length y0)) cj_))⟩; have n6_ : Aside0 (c1.heap[g0]? = some (.cells #[.int .i64 M0, .int .i64 N0, .slice h0 e0.length i0, .slice j0 f0.length k0] 24 (0, 0))) := ⟨(by rw [hw]; exact (bk_ a0))⟩; have n7_ : Aside0 (c1.heap[d0]? = some (.cells #[.slice t0 l0.length v0, .slice w0 p0.length y0] 28 (0, 0))) := ⟨(by rw [hw]; exact (bp_ n0))⟩; have n8_ : Aside0 (Below w.heap.size w c1) := ⟨(by rw [hw]; exact (bl_ HB))⟩; clear hw; clear b0; clear c0; clear z0; clear O0; clear o0; clear r0; clear a0; clear n0; clear HB; have b0 := n0_; have c0 := n1_; have z0 := n2_; have O0 := n3_; have o0 := n4_; have r0 := n5_; have a0 := n6_; have n0 := n7_; have HB := n8_; clear n0_ n1_ n2_ n3_ n4_ n5_ n6_ n7_ n8_; have p5 : 0 ≤ (0 : Int) := (by omega); have q5 : (0 : Int) < ((D0.length : Int) : Int) := dm_; have qi5 : (0 < D0.length) = True := eq_true (by omega); obtain ⟨go5, h7, z3, B3, gl5, cl5, HG5⟩ := Kd.R_form z0.out (by omega); (first | cases z3 | (injection z3 with ea_ en_ ec_; (first | subst ea_ | (injection ea_ with ea_; subst ea_)); subst ec_; clear en_)); have GB5 := a_ B3; have GG5 := a_ HG5; clear B3 gl5 HG5; obtain ⟨M2, hf5_0⟩ := Kd.R_celln 0 z0.out (0 : Int) p5 q5; (try rw [show ((0 : Int)).toNat = 0 from rfl] at M2); (try simp only [Nat.reduceMul, Nat.zero_mul, Nat.zero_add, Nat.reduceAdd] at M2); (try rw [show ((0 : Int)).toNat = 0 from rfl] at hf5_0); (try simp only [Nat.reduceMul, Nat.zero_mul, Nat.zero_add, Nat.reduceAdd] at hf5_0); replace p5 := eq_true p5; replace q5 := eq_true q5; clear O0; obtain ⟨hy46_, hz46_⟩ := Kd.R_celln 0 z0.out (0 : Int) (by omega) (dm_); (try simp only [Int.reduceToNat, Int.toNat_zero, Int.toNat_ofNat, Nat.reduceMul, Nat.zero_mul, Nat.zero_add] at hy46_ hz46_); (try rw [show ((0 : Int)).toNat = 0 from rfl] at hy46_); (try rw [show ((0 : Int)).toNat = 0 from rfl] at hz46_); have HP46 := Kd.R_putg z0.out (0 : Int) 5) | ((with_reducible refine gate_store (t := 2) (p := 20) rfl ?_); refine store_event (t := 2) (p := 20) (v := ?vo_w47) (w1 := (c1.setCell ⟨go5, (0 : Int).toNat, none⟩ (.int .i64 5))) ?hg ?ho ?hn ?hr ?_; (case ho => rfl); (case hg => rfl); (case hn => rfl); (case hr => first | (go_simp; done) | (go_simp; rfl)); intro N2 hw; have hg : c1.grownBy N2 (some go5) := (by rw [hw]; exact HP46.2); have hp_ : Kd.R (Kd.int .i64) 2 N2 w.heap.size (fun _ => True) (.slice (some ⟨go5, 0, none⟩) D0.length P0) o1 := (by rw [hw, O2.out]; exact HP46.1); clear HP46; replace b0 := a_ (Kd.R_over' (v := (.slice (some ⟨go5, 0, none⟩) D0.length P0)) (kR_ b0) (Kd.R_typed z0.out) (by decide) hg); replace c0 := a_ (Kd.R_over' (v := (.slice (some ⟨go5, 0, none⟩) D0.length P0)) (kR_ c0) (Kd.R_typed z0.out) (by decide) hg); replace a0 := (FG_ a0 hg (Kd.R_ne z0.out a0.out (by decide))); replace o0 := a_ (Kd.N_afterv (v := (.slice (some ⟨go5, 0, none⟩) D0.length P0)) (v1 := (.slice (some ⟨go5, 0, none⟩) D0.length P0)) (ok := (fun k_ => no_ k_ (.slice h0 e0.length i0) ∧ no_ k_ (.slice j0 f0.length k0) ∧ no_ k_ (.slice w0 p0.length y0) ∧ k_ ≠ g0 ∧ k_ ≠ d0)) (by (with_reducible repeat (first | apply Kd.N_alloc | apply Kd.N_drewN | apply Kd.N_drew)); exact Kd.N_mono o0.out cj_) hg (.inl rfl)); replace r0 := a_ (Kd.N_afterv (v := (.slice (some ⟨go5, 0, none⟩) D0.length P0)) (v1 := (.slice (some ⟨go5, 0, none⟩) D0.length P0)) (ok := (fun k_ => no_ k_ (.slice h0 e0.length i0) ∧ no_ k_ (.slice j0 f0.length k0) ∧ no_ k_ (.slice t0 l0.length v0) ∧ k_ ≠ g0 ∧ k_ ≠ d0)) (by (with_reducible repeat (first | apply Kd.N_alloc | apply Kd.N_drewN | apply Kd.N_drew)); exact Kd.N_mono r0.out cj_) hg (.inl rfl)); replace n0 := (FG_ n0 hg (Kd.R_ne z0.out n0.out (by decide))); replace z0 := a_ (hp_); replace HB := a_ ((by rw [hw]; exact below_set (HB.out) GB5.out : Below w.heap.size w N2)); clear hg hw hp_; have hl_ := (Kd.R_reads' z0.out).1; rw [hl_] at z0; (try simp only [hl_]); clear hl_; obtain ⟨D4, E4, F4, G4, H4, I4, J4, K4⟩ := e4_ a0) | ((with_reducible refine gate_dst (N := 24) rfl ?_); (try (refine gate_guard (by rfl) ?_; dsimp only)); refine Kd.N_lit (Kd.slice 2 (Kd.int .i64)) _ 53 ?hg (N' := 24) ?hd (xs := ([o1] : List (List Int))) (inner := [.slice (some ⟨go5, 0, none⟩) o1.length P0]) (ok := (fun k_ => no_ k_ (.slice h0 e0.length i0) ∧ no_ k_ (.slice j0 f0.length k0) ∧ no_ k_ (.slice t0 l0.length v0) ∧ no_ k_ (.slice w0 p0.length y0) ∧ k_ ≠ g0 ∧ k_ ≠ d0)) (okp := (fun k_ => no_ k_ (.slice h0 e0.length i0) ∧ no_ k_ (.slice j0 f0.length k0) ∧ no_ k_ (.slice t0 l0.length v0) ∧ no_ k_ (.slice w0 p0.length y0) ∧ k_ ≠ g0 ∧ k_ ≠ d0)) ?hr ?hp (fun _ hk => hk) (fr_ (P := (fun k_ => no_ k_ (.slice h0 e0.length i0) ∧ no_ k_ (.slice j0 f0.length k0) ∧ no_ k_ (.slice t0 l0.length v0) ∧ no_ k_ (.slice w0 p0.length y0) ∧ k_ ≠ g0 ∧ k_ ≠ d0)) (fun k_ hk => ⟨Kd.fresh' (Kd.R_lt (kR_ b0)) k_ hk, Kd.fresh' (Kd.R_lt (kR_ c0)) k_ hk, Kd.fresh' (Kd.N_lt (kN_ o0)) k_ hk, Kd.fresh' (Kd.N_lt (kN_ r0)) k_ hk, Kd.freshB (g := g0) (o := .cells #[.int .i64 M0, .int .i64 N0, .slice h0 e0.length i0, .slice j0 f0.length k0] 24 (0, 0)) (bk_ a0) k_ hk, Kd.freshB (g := d0) (o := .cells #[.slice t0 l0.length v0, .slice w0 p0.length y0] 28 (0, 0)) (bk_ n0) k_ hk⟩)) (Below.refl _ _) (Nat.le_refl _) (by simp) ?_; (case hd => rfl); (case hg => rfl); (case hr => first | (go_simp; done) | (go_simp; rfl)); (case hp => exact (Reps.one (show Kd.FK (Kd.slice 2 (Kd.int .i64)) _ _ o1 [.slice (some ⟨go5, 0, none⟩) o1.length P0] from (Kd.FK_slice_mk (Kd.R_reads' (Kd.R_mono (ok' := (fun k_ => no_ k_ (.slice h0 e0.length i0) ∧ no_ k_ (.slice j0 f0.length k0) ∧ no_ k_ (.slice t0 l0.length v0) ∧ no_ k_ (.slice w0 p0.length y0) ∧ k_ ≠ g0 ∧ k_ ≠ d0)) (Kd.R_types (Kd.R_types (Kd.R_apart' (Kd.R_apart' (Kd.R_apart' (Kd.R_apart' (z0.out) (Kd.R_typed b0.out) (by decide)) (Kd.R_typed c0.out) (by decide)) (Kd.N_typed o0.out) (by decide)) (Kd.N_typed r0.out) (by decide)) a0.out (by decide)) n0.out (by decide)) cj_)).2.1 (Kd.R_F (Kd.R_mono (ok' := (fun k_ => no_ k_ (.slice h0 e0.length i0) ∧ no_ k_ (.slice j0 f0.length k0) ∧ no_ k_ (.slice t0 l0.length v0) ∧ no_ k_ (.slice w0 p0.length y0) ∧ k_ ≠ g0 ∧ k_ ≠ d0)) (Kd.R_types (Kd.R_types (Kd.R_apart' (Kd.R_apart' (Kd.R_apart' (Kd.R_apart' (z0.out) (Kd.R_typed b0.out) (by decide)) (Kd.R_typed c0.out) (by decide)) (Kd.N_typed o0.out) (by decide)) (Kd.N_typed r0.out) (by decide)) a0.out (by decide)) n0.out (by decide)) cj_)))) (Reps.none _ _))); intro R6 i7 n1 hb hg_ hnew_; clear hg_ hnew_; (first | rw [← L2.out] at n1 | (simp only [Int.reduceToNat] at n1; rw [← L2.out] at n1)); replace b0 := FR_ b0 hb; replace c0 := FR_ c0 hb; replace o0 := a_ (Kd.N_elder' (kN_ o0) (Kd.N_base n1) hb); replace r0 := a_ (Kd.N_elder' (kN_ r0) (Kd.N_base n1) hb); have E0 := a_ (Kd.N_lower n1 (bs_ HB)); replace a0 := FB_ a0 hb; replace n0 := FB_ n0 hb; replace HB := BS_ HB hb; clear z0; clear hb n1; obtain ⟨Q0, R0, R3⟩ := Kd.N_slice E0.out; subst R3) | ((with_reducible refine gate_callee (f := 15) rfl ?_); refine gL_ (some 26) Try.func15 #[.agg #[.int .i64 M0, .int .i64 N0, .slice h0 e0.length i0, .slice j0 f0.length k0], .agg #[.slice Q0 L0.length R0]] ?_; (with_reducible refine (vcodec_Encode.calls k M0 N0 _ _ e0 _ _ f0 _ _ L0 q0 s0 D3 _ ?side1 ?side2 ?side3 ?side4 ?side5 ?side6 A6.out).mono ?_); (case side1 => exact kCt_ (Kd.R_reads' b0.out).2.2); (case side2 => exact (Kd.R_reads' b0.out).2.1); (case side3 => exact kCt_ (Kd.R_reads' c0.out).2.2); (case side4 => exact (Kd.R_reads' c0.out).2.1); (case side5 => repeat (first | exact (Kd.N_reads' E0.out).2.2 | (with_reducible refine Kd.C_alloc ?_ _) | (with_reducible refine Kd.C_drewN ?_ _) | (with_reducible refine Kd.C_drew ?_))); (case side6 => exact (Kd.N_reads' E0.out).2.1); rintro e j7 ⟨S3, T3, rfl, V0, a1, hb⟩; refine ⟨_, rfl, ?_⟩; have C0 := a_ (Kd.N_lower (Kd.N_mono (ok' := fun k_ => no_ k_ T3 ∧ no_ k_ (.slice h0 e0.length i0) ∧ no_ k_ (.slice j0 f0.length k0) ∧ no_ k_ (.slice t0 l0.length v0) ∧ no_ k_ (.slice w0 p0.length y0) ∧ no_ k_ (.slice Q0 L0.length R0) ∧ k_ ≠ g0 ∧ k_ ≠ d0) V0 (fun k_ hk_ => ⟨hk_.2, (Kd.fresh' (Kd.R_lt (kR_ b0)) k_ hk_.1), (Kd.fresh' (Kd.R_lt (kR_ c0)) k_ hk_.1), (Kd.fresh' (Kd.N_lt (kN_ o0)) k_ hk_.1), (Kd.fresh' (Kd.N_lt (kN_ r0)) k_ hk_.1), (Kd.fresh' (Kd.N_lt (kN_ E0)) k_ hk_.1), (Kd.freshB (g := g0) (o := .cells #[.int .i64 M0, .int .i64 N0, .slice h0 e0.length i0, .slice j0 f0.length k0] 24 (0, 0)) (bk_ a0) k_ hk_.1), (Kd.freshB (g := d0) (o := .cells #[.slice t0 l0.length v0, .slice w0 p0.length y0] 28 (0, 0)) (bk_ n0) k_ hk_.1)⟩)) (bs_ HB)); have F0 := a_ (Kd.N_lower (Kd.N_mono (ok' := fun k_ => no_ k_ S3 ∧ no_ k_ (.slice h0 e0.length i0) ∧ no_ k_ (.slice j0 f0.length k0) ∧ no_ k_ (.slice t0 l0.length v0) ∧ no_ k_ (.slice w0 p0.length y0) ∧ no_ k_ (.slice Q0 L0.length R0) ∧ k_ ≠ g0 ∧ k_ ≠ d0) a1 (fun k_ hk_ => ⟨hk_.2, (Kd.fresh' (Kd.R_lt (kR_ b0)) k_ hk_.1), (Kd.fresh' (Kd.R_lt (kR_ c0)) k_ hk_.1), (Kd.fresh' (Kd.N_lt (kN_ o0)) k_ hk_.1), (Kd.fresh' (Kd.N_lt (kN_ r0)) k_ hk_.1), (Kd.fresh' (Kd.N_lt (kN_ E0)) k_ hk_.1), (Kd.freshB (g := g0) (o := .cells #[.int .i64 M0, .int .i64 N0, .slice h0 e0.length i0, .slice j0 f0.length k0] 24 (0, 0)) (bk_ a0) k_ hk_.1), (Kd.freshB (g := d0) (o := .cells #[.slice t0 l0.length v0, .slice w0 p0.length y0] 28 (0, 0)) (bk_ n0) k_ hk_.1)⟩)) (bs_ HB)); replace b0 := FR_ b0 hb; replace c0 := FR_ c0 hb; replace o0 := a_ (Kd.N_mono (Kd.N_told (Kd.N_told (Kd.N_old (kN_ o0) hb) (Kd.N_base V0)) (Kd.N_base a1)) (fun _ h_ => h_.1)); replace r0 := a_ (Kd.N_mono (Kd.N_told (Kd.N_told (Kd.N_old (kN_ r0) hb) (Kd.N_base V0)) (Kd.N_base a1)) (fun _ h_ => h_.1)); replace E0 := a_ (Kd.N_mono (Kd.N_told (Kd.N_told (Kd.N_old (kN_ E0) hb) (Kd.N_base V0)) (Kd.N_base a1)) (fun _ h_ => h_.1)); replace a0 := FB_ a0 hb; replace n0 := FB_ n0 hb; replace HB := BS_ HB hb; (try clear hb); (try clear hk); (try clear V0); (try clear a1)) | ((with_reducible refine gate_dst (N := 5) rfl ?_); (try (refine gate_guard (by rfl) ?_; dsimp only)); refine box_ 5 #[.slice none 0 0, .slice none 0 0] 28 ?_; intro m0 hg C5 hbox hb; replace b0 := FR_ b0 hb; replace c0 := FR_ c0 hb; replace o0 := a_ (Kd.N_below (Kd.N_elderB (kN_ o0) m0 (Nat.le_of_eq hg.symm)) hb); replace r0 := a_ (Kd.N_below (Kd.N_elderB (kN_ r0) m0 (Nat.le_of_eq hg.symm)) hb); replace E0 := a_ (Kd.N_below (Kd.N_elderB (kN_ E0) m0 (Nat.le_of_eq hg.symm)) hb); replace C0 := a_ (Kd.N_below (Kd.N_elderB (kN_ C0) m0 (Nat.le_of_eq hg.symm)) hb); replace F0 := a_ (Kd.N_below (Kd.N_elderB (kN_ F0) m0 (Nat.le_of_eq hg.symm)) hb); have I0 := a_ (hbox); have l6 := GE_ HB hg; have m6 := GE_ HB hg; replace HB := BS_ HB hb; obtain ⟨r2, s2⟩ := NN_ a0 hg; replace a0 := FB_ a0 hb; obtain ⟨t2, v2⟩ := NN_ n0 hg; replace n0 := FB_ n0 hb; clear hb hbox hg; obtain ⟨G0, H0, U3⟩ := Kd.N_slice C0.out; subst U3; have n6 := s2.out; have o6 := r2.out; have p6 := v2.out; have q6 := t2.out; obtain ⟨L4, M4, N4, O4⟩ := e2_ I0; obtain ⟨J0, K0, V3⟩ := Kd.N_slice F0.out; subst V3) | ((with_reducible refine gate_store (t := 28) (p := 5) rfl ?_); refine store_event (t := 28) (p := 5) (v := ?vo_w59) (w1 := ((C5.setCell ⟨m0, 0, none⟩ (.slice G0 q0.length H0)).setCell ⟨m0, 1, none⟩ (.slice J0 s0.length K0))) ?hg ?ho ?hn ?hr ?_; (case ho => rfl); (case hg => rfl); (case hn => rfl); (case hr => first | (go_simp; done) | (go_simp; rfl)); intro d1 hw; have n0_ : Aside0 (Kd.R (Kd.int .i64) 3 d1 w.heap.size (fun k_ => no_ k_ (.slice j0 f0.length k0)) (.slice h0 e0.length i0) e0) := ⟨(by rw [hw]; exact (kRk_ b0 I0))⟩; have n1_ : Aside0 (Kd.R (Kd.int .i64) 3 d1 w.heap.size (fun k_ => no_ k_ (.slice h0 e0.length i0)) (.slice j0 f0.length k0) f0) := ⟨(by rw [hw]; exact (kRk_ c0 I0))⟩; have n2_ : Aside0 (Kd.N (Kd.slice 3 (Kd.int .i64)) 22 d1 w.heap.size (fun k_ => no_ k_ (.slice h0 e0.length i0) ∧ no_ k_ (.slice j0 f0.length k0) ∧ no_ k_ (.slice w0 p0.length y0) ∧ no_ k_ (.slice Q0 L0.length R0) ∧ no_ k_ (.slice G0 q0.length H0) ∧ no_ k_ (.slice J0 s0.length K0) ∧ k_ ≠ g0 ∧ k_ ≠ d0 ∧ k_ ≠ m0) (.slice t0 l0.length v0) l0) := ⟨(by rw [hw]; exact (by (with_reducible repeat (first | apply Kd.N_alloc | apply Kd.N_drewN | apply Kd.N_drew)); exact Kd.N_mono (Kd.N_far (p := ⟨m0, 1, none⟩) (Kd.N_far (p := ⟨m0, 0, none⟩) (Kd.N_mono o0.out (fun k_ hk => (⟨hk, hk.2⟩ : _ ∧ k_ ≠ m0))) (fun _ hk => hk.2) (.slice G0 q0.length H0)) (fun _ hk => hk.2) (.slice J0 s0.length K0)) cj_))⟩; have n3_ : Aside0 (Kd.N (Kd.slice 2 (Kd.int .i64)) 53 d1 w.heap.size (fun k_ => no_ k_ (.slice h0 e0.length i0) ∧ no_ k_ (.slice j0 f0.length k0) ∧ no_ k_ (.slice t0 l0.length v0) ∧ no_ k_ (.slice Q0 L0.length R0) ∧ no_ k_ (.slice G0 q0.length H0) ∧ no_ k_ (.slice J0 s0.length K0) ∧ k_ ≠ g0 ∧ k_ ≠ d0 ∧ k_ ≠ m0) (.slice w0 p0.length y0) p0) := ⟨(by rw [hw]; exact (by (with_reducible repeat (first | apply Kd.N_alloc | apply Kd.N_drewN | apply Kd.N_drew)); exact Kd.N_mono (Kd.N_far (p := ⟨m0, 1, none⟩) (Kd.N_far (p := ⟨m0, 0, none⟩) (Kd.N_mono r0.out (fun k_ hk => (⟨hk, hk.2⟩ : _ ∧ k_ ≠ m0))) (fun _ hk => hk.2) (.slice G0 q0.length H0)) (fun _ hk => hk.2) (.slice J0 s0.length K0)) cj_))⟩; have n4_ : Aside0 (Kd.N (Kd.slice 2 (Kd.int .i64)) 53 d1 w.heap.size (fun k_ => no_ k_ (.slice h0 e0.length i0) ∧ no_ k_ (.slice j0 f0.length k0) ∧ no_ k_ (.slice t0 l0.length v0) ∧ no_ k_ (.slice w0 p0.length y0) ∧ no_ k_ (.slice G0 q0.length H0) ∧ no_ k_ (.slice J0 s0.length K0) ∧ k_ ≠ g0 ∧ k_ ≠ d0 ∧ k_ ≠ m0) (.slice Q0 L0.length R0) L0) := ⟨(by rw [hw]; exact (by (with_reducible repeat (first | apply Kd.N_alloc | apply Kd.N_drewN | apply Kd.N_drew)); exact Kd.N_mono (Kd.N_far (p := ⟨m0, 1, none⟩) (Kd.N_far (p := ⟨m0, 0, none⟩) (Kd.N_mono E0.out (fun k_ hk => (⟨hk, hk.2⟩ : _ ∧ k_ ≠ m0))) (fun _ hk => hk.2) (.slice G0 q0.length H0)) (fun _ hk => hk.2) (.slice J0 s0.length K0)) cj_))⟩; have n5_ : Aside0 (Kd.N (Kd.slice 3 (Kd.int .i64)) 22 d1 w.heap.size (fun k_ => no_ k_ (.slice h0 e0.length i0) ∧ no_ k_ (.slice j0 f0.length k0) ∧ no_ k_ (.slice t0 l0.length v0) ∧ no_ k_ (.slice w0 p0.length y0) ∧ no_ k_ (.slice Q0 L0.length R0) ∧ no_ k_ (.slice J0 s0.length K0) ∧ k_ ≠ g0 ∧ k_ ≠ d0 ∧ k_ ≠ m0) (.slice G0 q0.length H0) q0) := ⟨(by rw [hw]; exact (by (with_reducible repeat (first | apply Kd.N_alloc | apply Kd.N_drewN | apply Kd.N_drew)); exact Kd.N_mono (Kd.N_far (p := ⟨m0, 1, none⟩) (Kd.N_far (p := ⟨m0, 0, none⟩) (Kd.N_mono C0.out (fun k_ hk => (⟨hk, hk.2⟩ : _ ∧ k_ ≠ m0))) (fun _ hk => hk.2) (.slice G0 q0.length H0)) (fun _ hk => hk.2) (.slice J0 s0.length K0)) cj_))⟩; have n6_ : Aside0 (Kd.N (Kd.slice 2 (Kd.int .i64)) 53 d1 w.heap.size (fun k_ => no_ k_ (.slice h0 e0.length i0) ∧ no_ k_ (.slice j0 f0.length k0) ∧ no_ k_ (.slice t0 l0.length v0) ∧ no_ k_ (.slice w0 p0.length y0) ∧ no_ k_ (.slice Q0 L0.length R0) ∧ no_ k_ (.slice G0 q0.length H0) ∧ k_ ≠ g0 ∧ k_ ≠ d0 ∧ k_ ≠ m0) (.slice J0 s0.length K0) s0) := ⟨(by rw [hw]; exact (by (with_reducible repeat (first | apply Kd.N_alloc | apply Kd.N_drewN | apply Kd.N_drew)); exact Kd.N_mono (Kd.N_far (p := ⟨m0, 1, none⟩) (Kd.N_far (p := ⟨m0, 0, none⟩) (Kd.N_mono F0.out (fun k_ hk => (⟨hk, hk.2⟩ : _ ∧ k_ ≠ m0))) (fun _ hk => hk.2) (.slice G0 q0.length H0)) (fun _ hk => hk.2) (.slice J0 s0.length K0)) cj_))⟩; have n7_ : Aside0 (d1.heap[g0]? = some (.cells #[.int .i64 M0, .int .i64 N0, .slice h0 e0.length i0, .slice j0 f0.length k0] 24 (0, 0))) := ⟨(by rw [hw]; exact (bk_ a0))⟩; have n8_ : Aside0 (d1.heap[d0]? = some (.cells #[.slice t0 l0.length v0, .slice w0 p0.length y0] 28 (0, 0))) := ⟨(by rw [hw]; exact (bk_ n0))⟩; have n9_ : Aside0 (d1.heap[m0]? = some (.cells #[.slice G0 q0.length H0, .slice J0 s0.length K0] 28 (0, 0))) := ⟨(by rw [hw]; exact (bp_ I0))⟩; have n10_ : Aside0 (Below w.heap.size w d1) := ⟨(by rw [hw]; exact (bl_ HB))⟩; clear hw; clear b0; clear c0; clear o0; clear r0; clear E0; clear C0; clear F0; clear a0; clear n0; clear I0; clear HB; have b0 := n0_; have c0 := n1_; have o0 := n2_; have r0 := n3_; have E0 := n4_; have C0 := n5_; have F0 := n6_; have a0 := n7_; have n0 := n8_; have I0 := n9_; have HB := n10_; clear n0_ n1_ n2_ n3_ n4_ n5_ n6_ n7_ n8_ n9_ n10_; obtain ⟨P4, Q4, R4, S4, T4, U4, V4, W4⟩ := e4_ a0; obtain ⟨X4, Y4, Z4, a5⟩ := e2_ I0) | ((with_reducible refine gate_callee (f := 14) rfl ?_); refine gL_ (some 32) Try.func14 #[.agg #[.int .i64 M0, .int .i64 N0, .slice h0 e0.length i0, .slice j0 f0.length k0], .agg #[.slice G0 q0.length H0, .slice J0 s0.length K0]] ?_; (with_reducible refine (vcodec_Decode.calls k M0 N0 _ _ e0 _ _ f0 _ _ q0 (fun k_ => (no_ k_ (.slice h0 e0.length i0) ∧ (no_ k_ (.slice j0 f0.length k0) ∧ (no_ k_ (.slice t0 l0.length v0) ∧ (no_ k_ (.slice w0 p0.length y0) ∧ (no_ k_ (.slice Q0 L0.length R0) ∧ (no_ k_ (.slice G0 q0.length H0) ∧ (k_ ≠ g0 ∧ (k_ ≠ d0 ∧ k_ ≠ m0))))))))) _ _ s0 B0 E3 _ ?side1 ?side2 ?side3 ?side4 ?side5 ?side6 ?side7 A7.out).mono ?_); (case side1 => exact kCt_ (Kd.R_reads' b0.out).2.2); (case side2 => exact (Kd.R_reads' b0.out).2.1); (case side3 => exact kCt_ (Kd.R_reads' c0.out).2.2); (case side4 => exact (Kd.R_reads' c0.out).2.1); (case side5 => repeat (first | exact (Kd.N_reads' C0.out).2.2 | (with_reducible refine Kd.C_alloc ?_ _) | (with_reducible refine Kd.C_drewN ?_ _) | (with_reducible refine Kd.C_drew ?_))); (case side6 => exact (Kd.N_reads' C0.out).2.1); (case side7 => exact Kd.N_V (F0.out)); rintro e k7 ⟨S6, rfl, V0, hb⟩; refine ⟨_, rfl, ?_⟩; replace F0 := a_ (Kd.N_elder' (kN_ F0) (Kd.N_base V0) hb); have U0 := a_ (Kd.N_lower (Kd.N_mono (ok' := fun k_ => no_ k_ (.slice h0 e0.length i0) ∧ no_ k_ (.slice j0 f0.length k0) ∧ no_ k_ (.slice t0 l0.length v0) ∧ no_ k_ (.slice w0 p0.length y0) ∧ no_ k_ (.slice Q0 L0.length R0) ∧ no_ k_ (.slice G0 q0.length H0) ∧ k_ ≠ g0 ∧ k_ ≠ d0 ∧ k_ ≠ m0) V0 (fun k_ hk_ => ⟨Or.elim hk_ (fun hs_ => hs_.1) (fun hn_ => (Kd.fresh' (Kd.R_lt (kR_ b0)) k_ hn_)), Or.elim hk_ (fun hs_ => hs_.2.1) (fun hn_ => (Kd.fresh' (Kd.R_lt (kR_ c0)) k_ hn_)), Or.elim hk_ (fun hs_ => hs_.2.2.1) (fun hn_ => (Kd.fresh' (Kd.N_lt (kN_ o0)) k_ hn_)), Or.elim hk_ (fun hs_ => hs_.2.2.2.1) (fun hn_ => (Kd.fresh' (Kd.N_lt (kN_ r0)) k_ hn_)), Or.elim hk_ (fun hs_ => hs_.2.2.2.2.1) (fun hn_ => (Kd.fresh' (Kd.N_lt (kN_ E0)) k_ hn_)), Or.elim hk_ (fun hs_ => hs_.2.2.2.2.2.1) (fun hn_ => (Kd.fresh' (Kd.N_lt (kN_ C0)) k_ hn_)), Or.elim hk_ (fun hs_ => hs_.2.2.2.2.2.2.1) (fun hn_ => (Kd.freshB (g := g0) (o := .cells #[.int .i64 M0, .int .i64 N0, .slice h0 e0.length i0, .slice j0 f0.length k0] 24 (0, 0)) (bk_ a0) k_ hn_)), Or.elim hk_ (fun hs_ => hs_.2.2.2.2.2.2.2.1) (fun hn_ => (Kd.freshB (g := d0) (o := .cells #[.slice t0 l0.length v0, .slice w0 p0.length y0] 28 (0, 0)) (bk_ n0) k_ hn_)), Or.elim hk_ (fun hs_ => hs_.2.2.2.2.2.2.2.2) (fun hn_ => (Kd.freshB (g := m0) (o := .cells #[.slice G0 q0.length H0, .slice J0 s0.length K0] 28 (0, 0)) (bk_ I0) k_ hn_))⟩)) (bs_ HB)); replace b0 := FR_ b0 hb; replace c0 := FR_ c0 hb; replace o0 := a_ (Kd.N_elder' (kN_ o0) (Kd.N_base V0) hb); replace r0 := a_ (Kd.N_elder' (kN_ r0) (Kd.N_base V0) hb); replace E0 := a_ (Kd.N_elder' (kN_ E0) (Kd.N_base V0) hb); replace C0 := a_ (Kd.N_elder' (kN_ C0) (Kd.N_base V0) hb); replace a0 := FB_ a0 hb; replace n0 := FB_ n0 hb; replace I0 := FB_ I0 hb; replace HB := BS_ HB hb; (try clear hb); (try clear hk); (try clear V0)) | ((with_reducible refine gate_dst (N := 7) rfl ?_); (try (refine gate_guard (by rfl) ?_; dsimp only)); refine box_ 7 #[.slice none 0 0] 37 ?_; intro A0 hg D5 hbox hb; replace b0 := FR_ b0 hb; replace c0 := FR_ c0 hb; replace o0 := a_ (Kd.N_below (Kd.N_elderB (kN_ o0) A0 (Nat.le_of_eq hg.symm)) hb); replace r0 := a_ (Kd.N_below (Kd.N_elderB (kN_ r0) A0 (Nat.le_of_eq hg.symm)) hb); replace E0 := a_ (Kd.N_below (Kd.N_elderB (kN_ E0) A0 (Nat.le_of_eq hg.symm)) hb); replace C0 := a_ (Kd.N_below (Kd.N_elderB (kN_ C0) A0 (Nat.le_of_eq hg.symm)) hb); replace F0 := a_ (Kd.N_below (Kd.N_elderB (kN_ F0) A0 (Nat.le_of_eq hg.symm)) hb); replace U0 := a_ (Kd.N_below (Kd.N_elderB (kN_ U0) A0 (Nat.le_of_eq hg.symm)) hb); have Z0 := a_ (hbox); have r6 := GE_ HB hg; have s6 := GE_ HB hg; replace HB := BS_ HB hb; obtain ⟨w2, y2⟩ := NN_ a0 hg; replace a0 := FB_ a0 hb; obtain ⟨z2, A2⟩ := NN_ n0 hg; replace n0 := FB_ n0 hb; obtain ⟨B2, C2⟩ := NN_ I0 hg; replace I0 := FB_ I0 hb; clear hb hbox hg; obtain ⟨W0, X0, W3⟩ := Kd.N_slice U0.out; subst W3; have t6 := y2.out; have v6 := w2.out; have w6 := A2.out; have x6 := z2.out; have y6 := C2.out; have z6 := B2.out; obtain ⟨b5, c5⟩ := e1_ Z0) | ((with_reducible refine gate_store (t := 37) (p := 7) rfl ?_); refine store_event (t := 37) (p := 7) (v := ?vo_w69) (w1 := (D5.setCell ⟨A0, 0, none⟩ (.slice W0 B0.length X0))) ?hg ?ho ?hn ?hr ?_; (case ho => rfl); (case hg => rfl); (case hn => rfl); (case hr => first | (go_simp; done) | (go_simp; rfl)); intro Y0 hw; have n0_ : Aside0 (Kd.R (Kd.int .i64) 3 Y0 w.heap.size (fun k_ => no_ k_ (.slice j0 f0.length k0)) (.slice h0 e0.length i0) e0) := ⟨(by rw [hw]; exact (kRk_ b0 Z0))⟩; have n1_ : Aside0 (Kd.R (Kd.int .i64) 3 Y0 w.heap.size (fun k_ => no_ k_ (.slice h0 e0.length i0)) (.slice j0 f0.length k0) f0) := ⟨(by rw [hw]; exact (kRk_ c0 Z0))⟩; have n2_ : Aside0 (Kd.N (Kd.slice 3 (Kd.int .i64)) 22 Y0 w.heap.size (fun k_ => no_ k_ (.slice h0 e0.length i0) ∧ no_ k_ (.slice j0 f0.length k0) ∧ no_ k_ (.slice w0 p0.length y0) ∧ no_ k_ (.slice Q0 L0.length R0) ∧ no_ k_ (.slice G0 q0.length H0) ∧ no_ k_ (.slice J0 s0.length K0) ∧ no_ k_ (.slice W0 B0.length X0) ∧ k_ ≠ g0 ∧ k_ ≠ d0 ∧ k_ ≠ m0 ∧ k_ ≠ A0) (.slice t0 l0.length v0) l0) := ⟨(by rw [hw]; exact (by (with_reducible repeat (first | apply Kd.N_alloc | apply Kd.N_drewN | apply Kd.N_drew)); exact Kd.N_mono (Kd.N_far (p := ⟨A0, 0, none⟩) (Kd.N_mono o0.out (fun k_ hk => (⟨hk, hk.2⟩ : _ ∧ k_ ≠ A0))) (fun _ hk => hk.2) (.slice W0 B0.length X0)) cj_))⟩; have n3_ : Aside0 (Kd.N (Kd.slice 2 (Kd.int .i64)) 53 Y0 w.heap.size (fun k_ => no_ k_ (.slice h0 e0.length i0) ∧ no_ k_ (.slice j0 f0.length k0) ∧ no_ k_ (.slice t0 l0.length v0) ∧ no_ k_ (.slice Q0 L0.length R0) ∧ no_ k_ (.slice G0 q0.length H0) ∧ no_ k_ (.slice J0 s0.length K0) ∧ no_ k_ (.slice W0 B0.length X0) ∧ k_ ≠ g0 ∧ k_ ≠ d0 ∧ k_ ≠ m0 ∧ k_ ≠ A0) (.slice w0 p0.length y0) p0) := ⟨(by rw [hw]; exact (by (with_reducible repeat (first | apply Kd.N_alloc | apply Kd.N_drewN | apply Kd.N_drew)); exact Kd.N_mono (Kd.N_far (p := ⟨A0, 0, none⟩) (Kd.N_mono r0.out (fun k_ hk => (⟨hk, hk.2⟩ : _ ∧ k_ ≠ A0))) (fun _ hk => hk.2) (.slice W0 B0.length X0)) cj_))⟩; have n4_ : Aside0 (Kd.N (Kd.slice 2 (Kd.int .i64)) 53 Y0 w.heap.size (fun k_ => no_ k_ (.slice h0 e0.length i0) ∧ no_ k_ (.slice j0 f0.length k0) ∧ no_ k_ (.slice t0 l0.length v0) ∧ no_ k_ (.slice w0 p0.length y0) ∧ no_ k_ (.slice G0 q0.length H0) ∧ no_ k_ (.slice J0 s0.length K0) ∧ no_ k_ (.slice W0 B0.length X0) ∧ k_ ≠ g0 ∧ k_ ≠ d0 ∧ k_ ≠ m0 ∧ k_ ≠ A0) (.slice Q0 L0.length R0) L0) := ⟨(by rw [hw]; exact (by (with_reducible repeat (first | apply Kd.N_alloc | apply Kd.N_drewN | apply Kd.N_drew)); exact Kd.N_mono (Kd.N_far (p := ⟨A0, 0, none⟩) (Kd.N_mono E0.out (fun k_ hk => (⟨hk, hk.2⟩ : _ ∧ k_ ≠ A0))) (fun _ hk => hk.2) (.slice W0 B0.length X0)) cj_))⟩; have n5_ : Aside0 (Kd.N (Kd.slice 3 (Kd.int .i64)) 22 Y0 w.heap.size (fun k_ => no_ k_ (.slice h0 e0.length i0) ∧ no_ k_ (.slice j0 f0.length k0) ∧ no_ k_ (.slice t0 l0.length v0) ∧ no_ k_ (.slice w0 p0.length y0) ∧ no_ k_ (.slice Q0 L0.length R0) ∧ no_ k_ (.slice J0 s0.length K0) ∧ no_ k_ (.slice W0 B0.length X0) ∧ k_ ≠ g0 ∧ k_ ≠ d0 ∧ k_ ≠ m0 ∧ k_ ≠ A0) (.slice G0 q0.length H0) q0) := ⟨(by rw [hw]; exact (by (with_reducible repeat (first | apply Kd.N_alloc | apply Kd.N_drewN | apply Kd.N_drew)); exact Kd.N_mono (Kd.N_far (p := ⟨A0, 0, none⟩) (Kd.N_mono C0.out (fun k_ hk => (⟨hk, hk.2⟩ : _ ∧ k_ ≠ A0))) (fun _ hk => hk.2) (.slice W0 B0.length X0)) cj_))⟩; have n6_ : Aside0 (Kd.N (Kd.slice 2 (Kd.int .i64)) 53 Y0 w.heap.size (fun k_ => no_ k_ (.slice h0 e0.length i0) ∧ no_ k_ (.slice j0 f0.length k0) ∧ no_ k_ (.slice t0 l0.length v0) ∧ no_ k_ (.slice w0 p0.length y0) ∧ no_ k_ (.slice Q0 L0.length R0) ∧ no_ k_ (.slice G0 q0.length H0) ∧ no_ k_ (.slice W0 B0.length X0) ∧ k_ ≠ g0 ∧ k_ ≠ d0 ∧ k_ ≠ m0 ∧ k_ ≠ A0) (.slice J0 s0.length K0) s0) := ⟨(by rw [hw]; exact (by (with_reducible repeat (first | apply Kd.N_alloc | apply Kd.N_drewN | apply Kd.N_drew)); exact Kd.N_mono (Kd.N_far (p := ⟨A0, 0, none⟩) (Kd.N_mono F0.out (fun k_ hk => (⟨hk, hk.2⟩ : _ ∧ k_ ≠ A0))) (fun _ hk => hk.2) (.slice W0 B0.length X0)) cj_))⟩; have n7_ : Aside0 (Kd.N (Kd.slice 2 (Kd.int .i64)) 53 Y0 w.heap.size (fun k_ => no_ k_ (.slice h0 e0.length i0) ∧ no_ k_ (.slice j0 f0.length k0) ∧ no_ k_ (.slice t0 l0.length v0) ∧ no_ k_ (.slice w0 p0.length y0) ∧ no_ k_ (.slice Q0 L0.length R0) ∧ no_ k_ (.slice G0 q0.length H0) ∧ k_ ≠ g0 ∧ k_ ≠ d0 ∧ k_ ≠ m0 ∧ k_ ≠ A0) (.slice W0 B0.length X0) B0) := ⟨(by rw [hw]; exact (by (with_reducible repeat (first | apply Kd.N_alloc | apply Kd.N_drewN | apply Kd.N_drew)); exact Kd.N_mono (Kd.N_far (p := ⟨A0, 0, none⟩) (Kd.N_mono U0.out (fun k_ hk => (⟨hk, hk.2⟩ : _ ∧ k_ ≠ A0))) (fun _ hk => hk.2) (.slice W0 B0.length X0)) cj_))⟩; have n8_ : Aside0 (Y0.heap[g0]? = some (.cells #[.int .i64 M0, .int .i64 N0, .slice h0 e0.length i0, .slice j0 f0.length k0] 24 (0, 0))) := ⟨(by rw [hw]; exact (bk_ a0))⟩; have n9_ : Aside0 (Y0.heap[d0]? = some (.cells #[.slice t0 l0.length v0, .slice w0 p0.length y0] 28 (0, 0))) := ⟨(by rw [hw]; exact (bk_ n0))⟩; have n10_ : Aside0 (Y0.heap[m0]? = some (.cells #[.slice G0 q0.length H0, .slice J0 s0.length K0] 28 (0, 0))) := ⟨(by rw [hw]; exact (bk_ I0))⟩; have n11_ : Aside0 (Y0.heap[A0]? = some (.cells #[.slice W0 B0.length X0] 37 (0, 0))) := ⟨(by rw [hw]; exact (bp_ Z0))⟩; have n12_ : Aside0 (Below w.heap.size w Y0) := ⟨(by rw [hw]; exact (bl_ HB))⟩; clear hw; clear b0; clear c0; clear o0; clear r0; clear E0; clear C0; clear F0; clear U0; clear a0; clear n0; clear I0; clear Z0; clear HB; have b0 := n0_; have c0 := n1_; have o0 := n2_; have r0 := n3_; have E0 := n4_; have C0 := n5_; have F0 := n6_; have U0 := n7_; have a0 := n8_; have n0 := n9_; have I0 := n10_; have Z0 := n11_; have HB := n12_; clear n0_ n1_ n2_ n3_ n4_ n5_ n6_ n7_ n8_ n9_ n10_ n11_ n12_; obtain ⟨d5, e5, f5, g5⟩ := e2_ n0; have Z1 : 0 ≤ (0 : Int) := (by omega); have a2 : 0 < (l0.length : Int) := dm_; obtain ⟨B6, E5, F5, X3, r1, F1, G1⟩ := at_L1 (Kd.N_reads' o0.out).2.2 0 Z1 a2; cases X3; obtain ⟨ce490, hce490, hMe490, hcc490⟩ := Kd.N_get o0.out [] 0 Z1 (by first | exact a2 | exact dm_ | (have e_ := (Kd.N_reads' o0.out).1; omega)); obtain ⟨ua490_0, uc490_0, rfl, ul490_0, ge490_0⟩ := Kd.FK_slice_open hMe490; have hv490_0 := hcc490 0 _ rfl; rw [Nat.add_zero, show ((Kd.slice 3 (Kd.int .i64))).sz = 1 from rfl, Nat.mul_one] at hv490_0; replace hv490_0 := Option.some.inj (hv490_0.symm.trans r1); injection hv490_0 with hva_ hvn_ hvc_; rw [hva_] at ge490_0; rw [hvc_] at ul490_0; have HL490_0 := a_ (show Kd.V (Kd.int .i64) 3 _ w.heap.size _ _ (rd_L1 l0 0) from Kd.V_mk ul490_0 ge490_0); clear hva_ hvn_ hvc_ ge490_0 ul490_0; clear hcc490 hce490; have qi490 : (0 < l0.length) = True := eq_true (by omega); (try rw [show ((0 : Int)).toNat = 0 from rfl] at r1); (try rw [Addr.add_zero'] at r1); have h5 := a_ G1; have i5 := a_ F1; clear G1 F1; replace Z1 := eq_true Z1; replace a2 := eq_true a2; obtain ⟨j5, k5, l5, m5⟩ := e2_ I0; have b2 : 0 ≤ (0 : Int) := (by omega); have d2 : 0 < (s0.length : Int) := dm_; obtain ⟨k3, G5, H5, Y3, f1, H1, I1⟩ := at_L2 (Kd.N_reads' F0.out).2.2 0 b2 d2; cases Y3; obtain ⟨ce491, hce491, hMe491, hcc491⟩ := Kd.N_get F0.out [] 0 b2 (by first | exact d2 | exact dm_ | (have e_ := (Kd.N_reads' F0.out).1; omega)); obtain ⟨ua491_0, uc491_0, rfl, ul491_0, ge491_0⟩ := Kd.FK_slice_open hMe491; have hv491_0 := hcc491 0 _ rfl; rw [Nat.add_zero, show ((Kd.slice 2 (Kd.int .i64))).sz = 1 from rfl, Nat.mul_one] at hv491_0; replace hv491_0 := Option.some.inj (hv491_0.symm.trans f1); injection hv491_0 with hva_ hvn_ hvc_; rw [hva_] at ge491_0; rw [hvc_] at ul491_0; have HL491_0 := a_ (show Kd.V (Kd.int .i64) 2 _ w.heap.size _ _ (rd_L2 s0 0) from Kd.V_mk ul491_0 ge491_0); clear hva_ hvn_ hvc_ ge491_0 ul491_0; clear hcc491 hce491; have qi491 : (0 < s0.length) = True := eq_true (by omega); (try rw [show ((0 : Int)).toNat = 0 from rfl] at f1); (try rw [Addr.add_zero'] at f1); have n5 := a_ I1; have o5 := a_ H1; clear I1 H1; replace b2 := eq_true b2; replace d2 := eq_true d2; have e2 : 0 ≤ (0 : Int) := (by omega); have f2 : 0 < (s0.length : Int) := dm_; obtain ⟨l3, I5, J5, Z3, h1, J1, K1⟩ := at_L2 (Kd.N_reads' F0.out).2.2 0 e2 f2; obtain rfl : k3 = l3 := (by injection Z3); obtain ⟨ce492, hce492, hMe492, hcc492⟩ := Kd.N_get F0.out [] 0 e2 (by first | exact f2 | exact dm_ | (have e_ := (Kd.N_reads' F0.out).1; omega)); obtain ⟨ua492_0, uc492_0, rfl, ul492_0, ge492_0⟩ := Kd.FK_slice_open hMe492; have hv492_0 := hcc492 0 _ rfl; rw [Nat.add_zero, show ((Kd.slice 2 (Kd.int .i64))).sz = 1 from rfl, Nat.mul_one] at hv492_0; replace hv492_0 := Option.some.inj (hv492_0.symm.trans h1); injection hv492_0 with hva_ hvn_ hvc_; rw [hva_] at ge492_0; rw [hvc_] at ul492_0; have HL492_0 := a_ (show Kd.V (Kd.int .i64) 2 _ w.heap.size _ _ (rd_L2 s0 0) from Kd.V_mk ul492_0 ge492_0); clear hva_ hvn_ hvc_ ge492_0 ul492_0; clear hcc492 hce492; have qi492 : (0 < s0.length) = True := eq_true (by omega); (try rw [show ((0 : Int)).toNat = 0 from rfl] at h1); (try rw [Addr.add_zero'] at h1); have L1 := a_ K1; have r5 := a_ J1; clear K1 J1; replace e2 := eq_true e2; replace f2 := eq_true f2; have ea_ := Option.some.inj (f1.symm.trans h1); injection ea_ with ea_ en_ ec_; subst ea_; subst ec_; clear en_; have D2 : 0 ≤ (0 : Int) := (by omega); have E2 : 0 < ((rd_L2 s0 0).length : Int) := dm_; obtain ⟨C6, a4, M1⟩ := Kd.at_int (by repeat (first | (with_reducible exact L1.out) | (with_reducible refine Kd.C_alloc ?_ _) | (with_reducible refine Kd.C_drewN ?_ _) | (with_reducible refine Kd.C_drew ?_) | exact L1.out)) 0 D2 E2; cases a4; have qi493 : (0 < (rd_L2 s0 0).length) = True := eq_true (by omega); (try rw [show ((0 : Int)).toNat = 0 from rfl] at M1); (try rw [Addr.add_zero'] at M1); replace D2 := eq_true D2; replace E2 := eq_true E2; have g2 : 0 ≤ (0 : Int) := (by omega); have h2 : 0 < (q0.length : Int) := dm_; obtain ⟨m3, K5, L5, b4, i1, N1, O1⟩ := at_L1 (Kd.N_reads' C0.out).2.2 0 g2 h2; cases b4; obtain ⟨ce494, hce494, hMe494, hcc494⟩ := Kd.N_get C0.out [] 0 g2 (by first | exact h2 | exact dm_ | (have e_ := (Kd.N_reads' C0.out).1; omega)); obtain ⟨ua494_0, uc494_0, rfl, ul494_0, ge494_0⟩ := Kd.FK_slice_open hMe494; have hv494_0 := hcc494 0 _ rfl; rw [Nat.add_zero, show ((Kd.slice 3 (Kd.int .i64))).sz = 1 from rfl, Nat.mul_one] at hv494_0; replace hv494_0 := Option.some.inj (hv494_0.symm.trans i1); injection hv494_0 with hva_ hvn_ hvc_; rw [hva_] at ge494_0; rw [hvc_] at ul494_0; have HL494_0 := a_ (show Kd.V (Kd.int .i64) 3 _ w.heap.size _ _ (rd_L1 q0 0) from Kd.V_mk ul494_0 ge494_0); clear hva_ hvn_ hvc_ ge494_0 ul494_0; clear hcc494 hce494; have qi494 : (0 < q0.length) = True := eq_true (by omega); (try rw [show ((0 : Int)).toNat = 0 from rfl] at i1); (try rw [Addr.add_zero'] at i1); have s5 := a_ O1; have t5 := a_ N1; clear O1 N1; replace g2 := eq_true g2; replace h2 := eq_true h2; have i2 : 0 ≤ (0 : Int) := (by omega); have j2 : 0 < (q0.length : Int) := dm_; obtain ⟨n3, M5, N5, d4, j1, P1, Q1⟩ := at_L1 (Kd.N_reads' C0.out).2.2 0 i2 j2; obtain rfl : m3 = n3 := (by injection d4); obtain ⟨ce495, hce495, hMe495, hcc495⟩ := Kd.N_get C0.out [] 0 i2 (by first | exact j2 | exact dm_ | (have e_ := (Kd.N_reads' C0.out).1; omega)); obtain ⟨ua495_0, uc495_0, rfl, ul495_0, ge495_0⟩ := Kd.FK_slice_open hMe495; have hv495_0 := hcc495 0 _ rfl; rw [Nat.add_zero, show ((Kd.slice 3 (Kd.int .i64))).sz = 1 from rfl, Nat.mul_one] at hv495_0; replace hv495_0 := Option.some.inj (hv495_0.symm.trans j1); injection hv495_0 with hva_ hvn_ hvc_; rw [hva_] at ge495_0; rw [hvc_] at ul495_0; have HL495_0 := a_ (show Kd.V (Kd.int .i64) 3 _ w.heap.size _ _ (rd_L1 q0 0) from Kd.V_mk ul495_0 ge495_0); clear hva_ hvn_ hvc_ ge495_0 ul495_0; clear hcc495 hce495; have qi495 : (0 < q0.length) = True := eq_true (by omega); (try rw [show ((0 : Int)).toNat = 0 from rfl] at j1); (try rw [Addr.add_zero'] at j1); have R1 := a_ Q1; have v5 := a_ P1; clear Q1 P1; replace i2 := eq_true i2; replace j2 := eq_true j2; have ea_ := Option.some.inj (i1.symm.trans j1); injection ea_ with ea_ en_ ec_; subst ea_; subst ec_; clear en_; have F2 : 0 ≤ (0 : Int) := (by omega); have G2 : 0 < ((rd_L1 q0 0).length : Int) := dm_; obtain ⟨D6, e4, S1⟩ := Kd.at_int (by repeat (first | (with_reducible exact R1.out) | (with_reducible refine Kd.C_alloc ?_ _) | (with_reducible refine Kd.C_drewN ?_ _) | (with_reducible refine Kd.C_drew ?_) | exact R1.out)) 0 F2 G2; cases e4; have qi496 : (0 < (rd_L1 q0 0).length) = True := eq_true (by omega); (try rw [show ((0 : Int)).toNat = 0 from rfl] at S1); (try rw [Addr.add_zero'] at S1); replace F2 := eq_true F2; replace G2 := eq_true G2; obtain ⟨w5, x5⟩ := e1_ Z0; have k2 : 0 ≤ (0 : Int) := (by omega); have l2 : 0 < (B0.length : Int) := dm_; obtain ⟨o3, O5, P5, f4, k1, T1, U1⟩ := at_L2 (Kd.N_reads' U0.out).2.2 0 k2 l2; cases f4; obtain ⟨ce497, hce497, hMe497, hcc497⟩ := Kd.N_get U0.out [] 0 k2 (by first | exact l2 | exact dm_ | (have e_ := (Kd.N_reads' U0.out).1; omega)); obtain ⟨ua497_0, uc497_0, rfl, ul497_0, ge497_0⟩ := Kd.FK_slice_open hMe497; have hv497_0 := hcc497 0 _ rfl; rw [Nat.add_zero, show ((Kd.slice 2 (Kd.int .i64))).sz = 1 from rfl, Nat.mul_one] at hv497_0; replace hv497_0 := Option.some.inj (hv497_0.symm.trans k1); injection hv497_0 with hva_ hvn_ hvc_; rw [hva_] at ge497_0; rw [hvc_] at ul497_0; have HL497_0 := a_ (show Kd.V (Kd.int .i64) 2 _ w.heap.size _ _ (rd_L2 B0 0) from Kd.V_mk ul497_0 ge497_0); clear hva_ hvn_ hvc_ ge497_0 ul497_0; clear hcc497 hce497; have qi497 : (0 < B0.length) = True := eq_true (by omega); (try rw [show ((0 : Int)).toNat = 0 from rfl] at k1); (try rw [Addr.add_zero'] at k1); have y5 := a_ U1; have z5 := a_ T1; clear U1 T1; replace k2 := eq_true k2; replace l2 := eq_true l2; have m2 : 0 ≤ (0 : Int) := (by omega); have n2 : 0 < (B0.length : Int) := dm_; obtain ⟨p3, Q5, R5, g4, l1, V1, W1⟩ := at_L2 (Kd.N_reads' U0.out).2.2 0 m2 n2; obtain rfl : o3 = p3 := (by injection g4); obtain ⟨ce498, hce498, hMe498, hcc498⟩ := Kd.N_get U0.out [] 0 m2 (by first | exact n2 | exact dm_ | (have e_ := (Kd.N_reads' U0.out).1; omega)); obtain ⟨ua498_0, uc498_0, rfl, ul498_0, ge498_0⟩ := Kd.FK_slice_open hMe498; have hv498_0 := hcc498 0 _ rfl; rw [Nat.add_zero, show ((Kd.slice 2 (Kd.int .i64))).sz = 1 from rfl, Nat.mul_one] at hv498_0; replace hv498_0 := Option.some.inj (hv498_0.symm.trans l1); injection hv498_0 with hva_ hvn_ hvc_; rw [hva_] at ge498_0; rw [hvc_] at ul498_0; have HL498_0 := a_ (show Kd.V (Kd.int .i64) 2 _ w.heap.size _ _ (rd_L2 B0 0) from Kd.V_mk ul498_0 ge498_0); clear hva_ hvn_ hvc_ ge498_0 ul498_0; clear hcc498 hce498; have qi498 : (0 < B0.length) = True := eq_true (by omega); (try rw [show ((0 : Int)).toNat = 0 from rfl] at l1); (try rw [Addr.add_zero'] at l1); have X1 := a_ W1; have A5 := a_ V1; clear W1 V1; replace m2 := eq_true m2; replace n2 := eq_true n2; have ea_ := Option.some.inj (k1.symm.trans l1); injection ea_ with ea_ en_ ec_; subst ea_; subst ec_; clear en_; have H2 : 0 ≤ (0 : Int) := (by omega); have I2 : 0 < ((rd_L2 B0 0).length : Int) := dm_; obtain ⟨E6, h4, Y1⟩ := Kd.at_int (by repeat (first | (with_reducible exact X1.out) | (with_reducible refine Kd.C_alloc ?_ _) | (with_reducible refine Kd.C_drewN ?_ _) | (with_reducible refine Kd.C_drew ?_) | exact X1.out)) 0 H2 I2; cases h4; have qi499 : (0 < (rd_L2 B0 0).length) = True := eq_true (by omega); (try rw [show ((0 : Int)).toNat = 0 from rfl] at Y1); (try rw [Addr.add_zero'] at Y1); replace H2 := eq_true H2; replace I2 := eq_true I2))
 go_ret
 exact ⟨er_, bl_ HB⟩}
 {
 exact absurd ((Option.some.inj H).trans HT.out) (by decide)}}
 {
 exact absurd ((Option.some.inj H).trans HT.out) (by decide)}}
 {
 exact absurd ((Option.some.inj H).trans HT.out) (by decide)}}
 {
 exact absurd ((Option.some.inj H).trans HT.out) (by decide)}}
 {
 exact absurd ((Option.some.inj H).trans HT.out) (by decide)}}
 {
 exact absurd ((Option.some.inj H).trans HT.out) (by decide)}}
 {
 exact absurd ((Option.some.inj H).trans HT.out) (by decide)}}
 {
 exact absurd ((Option.some.inj H).trans HT.out) (by decide)}}
 {
 exact absurd ((Option.some.inj H).trans HT.out) (by decide)}}
 {
 have P2 : (((rd_L1 l0 0).length : Int) == 0) = false := beq_eq_false_iff_ne.mpr C1
 have Q2 : (((rd_L1 l0 0).length : Int) != 0) = true := bne_iff_ne.mpr C1
 have F6 : ¬ ((rd_L1 l0 0) = []) := fun h_ => C1 (by rw [h_]; rfl)
 exact absurd ((Option.some.inj H).trans HT.out) (by decide)}}
 {
 exact absurd ((Option.some.inj H).trans HT.out) (by decide)}}
 {
 exact absurd ((Option.some.inj H).trans HT.out) (by decide)}
theorem psalterylaw22_knows.sure : psalterylaw22_knows.f 2000 = some true := by decide +kernel
theorem psalterylaw22_knows.calls (k : Nat)  (r : Bool) (w : World) (h : psalterylaw22_knows.f k  = some r) :
    Calls Try.prog 13 #[] w fun e w' => e = .returned (.bool r) ∧ Below w.heap.size w w' :=
  psalterylaw22_knows.callsT k r w h (by
    have h1 := at_rounds (g := fun k => psalterylaw22_knows.f k) (fun k => psalterylaw22_knows.mono k) (Nat.le_add_right k 2000) h
    have h2 := at_rounds (g := fun k => psalterylaw22_knows.f k) (fun k => psalterylaw22_knows.mono k) (Nat.le_add_left 2000 k) psalterylaw22_knows.sure
    exact Option.some.inj (h1.symm.trans h2))
mutual
def psalteryref04_Right.j0 : Nat → List Int → Bool → Option (Bool)
  | 0, _, _ => none
  | k + 1, x0, a0 => if a0 = true then (some false) else (psalteryref04_Right.l0 k x0 0 0 0)
def psalteryref04_Right.l0 : Nat → List Int → Int → Int → Int → Option (Bool)
  | 0, _, _, _, _ => none
  | k + 1, x0, x3, x4, x5 => if x5 < (x0.length : Int) then (if 0 ≤ x5 then (if (rd x0 x5) < 0 then (psalteryref04_Right.j2 k x0 x3 x4 x5 true) else (psalteryref04_Right.j2 k x0 x3 x4 x5 (decide ((rd x0 x5) > 16)))) else (none)) else (if x4 = 1 then (some (x3 == 32768)) else (if x4 > 1 then (some (x3 == 65536)) else (some false)))
def psalteryref04_Right.j2 : Nat → List Int → Int → Int → Int → Bool → Option (Bool)
  | 0, _, _, _, _, _ => none
  | k + 1, x0, x3, x4, x5, a0 => if a0 = true then (some false) else (if 0 ≤ x5 then (if x5 < (x0.length : Int) then (if (rd x0 x5) > 0 then (psalteryref04_Right.l1 k x0 x3 (wrap64 (x4 + 1)) x5 65536 0) else (psalteryref04_Right.l0 k x0 x3 x4 (wrap64 (x5 + 1)))) else (none)) else (none))
def psalteryref04_Right.l1 : Nat → List Int → Int → Int → Int → Int → Int → Option (Bool)
  | 0, _, _, _, _, _, _ => none
  | k + 1, x0, x3, x4, x5, x6, x7 => if 0 ≤ x5 then (if x5 < (x0.length : Int) then (if x7 < (rd x0 x5) then (psalteryref04_Right.l1 k x0 x3 x4 x5 (wrap64 (Int.tdiv x6 2)) (wrap64 (x7 + 1))) else (psalteryref04_Right.l0 k x0 (wrap64 (x3 + x6)) x4 (wrap64 (x5 + 1)))) else (none)) else (none)
end
def psalteryref04_Right.f (k : Nat) (l0 : List Int) : Option (Bool) := if (l0.length : Int) < 2 then (psalteryref04_Right.j0 k l0 true) else (psalteryref04_Right.j0 k l0 (decide ((l0.length : Int) > 64)))
theorem psalteryref04_Right.mono_l : ∀ k, (∀ y0 y1, LeO (psalteryref04_Right.j0 k y0 y1) (psalteryref04_Right.j0 (k + 1) y0 y1)) ∧ (∀ y0 y1 y2 y3, LeO (psalteryref04_Right.l0 k y0 y1 y2 y3) (psalteryref04_Right.l0 (k + 1) y0 y1 y2 y3)) ∧ (∀ y0 y1 y2 y3 y4, LeO (psalteryref04_Right.j2 k y0 y1 y2 y3 y4) (psalteryref04_Right.j2 (k + 1) y0 y1 y2 y3 y4)) ∧ (∀ y0 y1 y2 y3 y4 y5, LeO (psalteryref04_Right.l1 k y0 y1 y2 y3 y4 y5) (psalteryref04_Right.l1 (k + 1) y0 y1 y2 y3 y4 y5))
  | 0 => ⟨fun _ _ r h => by simp [psalteryref04_Right.j0] at h, fun _ _ _ _ r h => by simp [psalteryref04_Right.l0] at h, fun _ _ _ _ _ r h => by simp [psalteryref04_Right.j2] at h, fun _ _ _ _ _ _ r h => by simp [psalteryref04_Right.l1] at h⟩
  | k + 1 => by
    obtain ⟨a0, b0, c0, d0⟩ := psalteryref04_Right.mono_l k
    refine ⟨?_, ?_, ?_, ?_⟩
    all_goals (intros; first | unfold psalteryref04_Right.j0 | unfold psalteryref04_Right.l0 | unfold psalteryref04_Right.j2 | unfold psalteryref04_Right.l1)
    all_goals with_reducible repeat' first
     | apply a0
     | exact b0 _ _ _ _
     | exact c0 _ _ _ _ _
     | exact d0 _ _ _ _ _ _
     | exact LeO.refl _
     | exact LeO.none _
     | refine LeO.ite ?_ ?_
     | refine LeO.bind ?_ (fun _ => ?_)
theorem psalteryref04_Right.mono : ∀ a0 k, LeO (psalteryref04_Right.f k a0) (psalteryref04_Right.f (k + 1) a0) := by
  intro a0 k
  obtain ⟨b0, c0, d0, e0⟩ := psalteryref04_Right.mono_l k
  unfold psalteryref04_Right.f
  with_reducible repeat' first
   | apply b0
   | exact c0 _ _ _ _
   | exact d0 _ _ _ _ _
   | exact e0 _ _ _ _ _ _
   | exact LeO.refl _
   | exact LeO.none _
   | refine LeO.ite ?_ ?_
   | refine LeO.bind ?_ (fun _ => ?_)
set_option maxHeartbeats 8000000 in
set_option maxRecDepth 100000 in
theorem psalteryref04_Right.calls (k : Nat) (A0 : Option Addr) (c0 : Nat) (l0 : List Int) (r : Bool) (w : World) (hr0 : Kd.C (Kd.int .i64) w A0 l0.length l0) (hc0 : l0.length ≤ c0) (h : psalteryref04_Right.f k l0 = some r) :
    Calls Try.prog 64 #[.slice A0 l0.length c0] w fun e w' => e = .returned (.bool r) ∧ Drawn0 w w' := by
 have p0 := a_ hr0
 have e1 := a_ hc0
 clear hr0 hc0
 have H : (if (l0.length : Int) < 2 then (psalteryref04_Right.j0 k l0 true) else (psalteryref04_Right.j0 k l0 (decide ((l0.length : Int) > 64)))) = some r := h
 clear h
 have M0 := a_ H
 clear H
 go_enter Try.func64, Try.ntmps64
 go_upto_region 1 with (fail)
 go_cut [15] (fun a1 wc => ∃ (kq : Nat) (n0 : Bool), a1 = .bool n0 ∧ Aside0 (psalteryref04_Right.j0 kq l0 n0 = some r) ∧ Aside0 (kq ≤ k) ∧ Drawn0 w wc)
 case first => (
 have H := M0.out
 clear M0
 replace H := ii_ H
 rcases H with ⟨c3, H⟩ | ⟨c3, H⟩
 {
 have q0 : decide ((l0.length : Int) < 2) = true := decide_eq_true c3
 have W0 : decide (l0.length < 2) = true := decide_eq_true (by omega)
 clear c3
 (first | rw [q0] | (simp only [i64_w, i32_w]; rw [q0]) | skip)
 have H' := a_ H
 clear H
 go_wp2
 go_meet
 case rel => exact ⟨_, (true), rs_, H', ⟨ol_⟩, dr_⟩}
 {
 have q0 : decide ((l0.length : Int) < 2) = false := decide_eq_false c3
 have W0 : decide (l0.length < 2) = false := decide_eq_false (by omega)
 clear c3
 (first | rw [q0] | (simp only [i64_w, i32_w]; rw [q0]) | skip)
 have H' := a_ H
 clear H
 go_wp2
 go_meet
 case rel => exact ⟨_, (decide ((l0.length : Int) > 64)), rs_, H', ⟨ol_⟩, dr_⟩})
 case rest => (
 clear M0
 obtain ⟨kq, n0, rfl, HA, HJ1, ⟨mc1, rfl⟩⟩ := hcut
 cases kq with
 | zero => exact absurd HA.out (by simp [psalteryref04_Right.j0])
 | succ kj1 => (
 have H := HA.out
 clear HA
 simp only [psalteryref04_Right.j0] at H
 by_cases c4 : n0 = true
 {
 subst c4
 rw [if_pos rfl] at H
 obtain rfl := Option.some.inj H
 go_wp2
 go_ret
 exact ⟨es_, dr_⟩}
 {
 replace c4 := Bool.eq_false_iff.mpr c4
 subst c4
 rw [if_neg (show ¬ (false = true) by decide)] at H
 have H' := a_ H
 clear H
 go_wp2
 go_loopg [3, 4, 5] kj1 (fun kq v3 v4 v5 w' => ∃ (f0 : Int) (b0 : Int) (a0 : Int), v3 = .int .i64 f0 ∧ v4 = .int .i64 b0 ∧ v5 = .int .i64 a0 ∧ Aside0 (psalteryref04_Right.l0 kq l0 f0 b0 a0 = some r) ∧ Aside0 (kq ≤ kj1) ∧ Drawn0 w w')
 case atStart => exact ⟨(0), (0), (0), rs_, rs_, rs_, H', ⟨Nat.le_refl _⟩, dr_⟩
 case round => (
 clear H'
 try clear c4
 obtain ⟨f0, b0, a0, rfl, rfl, rfl, HA, m0, ⟨m2, rfl⟩⟩ := hrel
 cases gk with
 | zero => exact absurd HA.out (by simp [psalteryref04_Right.l0])
 | succ k2 => (
 have H := HA.out
 clear HA
 simp only [psalteryref04_Right.l0] at H
 replace H := id_ H
 rcases H with ⟨B0, H⟩ | ⟨B0, H⟩
 {
 have N0 := a_ H
 clear H
 go_upto_region 8 with (fail)
 go_cut [33] (fun b1 wc => ∃ (kq : Nat) (o0 : Bool), b1 = .bool o0 ∧ Aside0 (psalteryref04_Right.j2 kq l0 f0 b0 a0 o0 = some r) ∧ Aside0 (kq ≤ k2) ∧ Drawn0 w wc)
 case first => (
 have H := N0.out
 clear N0
 replace H := gd_ H
 obtain ⟨O0, H⟩ := H
 (first | rw [O0] | (simp only [i64_w, i32_w]; rw [O0]) | skip)
 replace H := id_ H
 rcases H with ⟨X0, H⟩ | ⟨X0, H⟩
 {
 have H' := a_ H
 clear H
 have g0 : 0 ≤ (a0 : Int) := dm_
 have h0 : a0 < (l0.length : Int) := dm_
 obtain ⟨H0, C0, K0⟩ := Kd.at_int p0.out a0 g0 h0
 cases C0
 replace g0 := eq_true g0
 replace h0 := eq_true h0
 go_wp2
 go_meet
 case rel => exact ⟨_, (true), rs_, H', ⟨by have := HJ1.out; have := m0.out; first | omega | exact Nat.le_refl _⟩, dr_⟩}
 {
 have H' := a_ H
 clear H
 have g0 : 0 ≤ (a0 : Int) := dm_
 have h0 : a0 < (l0.length : Int) := dm_
 obtain ⟨H0, C0, K0⟩ := Kd.at_int p0.out a0 g0 h0
 cases C0
 replace g0 := eq_true g0
 replace h0 := eq_true h0
 have D0 : 0 ≤ (a0 : Int) := dm_
 have E0 : a0 < (l0.length : Int) := dm_
 obtain ⟨P0, Y0, Z0⟩ := Kd.at_int p0.out a0 D0 E0
 obtain rfl : H0 = P0 := (by injection Y0)
 replace D0 := eq_true D0
 replace E0 := eq_true E0
 go_wp2
 go_meet
 case rel => exact ⟨_, (decide ((rd l0 a0) > 16)), rs_, H', ⟨by have := HJ1.out; have := m0.out; first | omega | exact Nat.le_refl _⟩, dr_⟩})
 case rest => (
 clear N0
 try clear c4
 try clear c5
 try clear B0
 obtain ⟨kq, o0, rfl, HA, HJ5, ⟨mc5, rfl⟩⟩ := hcut
 cases kq with
 | zero => exact absurd HA.out (by simp [psalteryref04_Right.j2])
 | succ kj5 => (
 have H := HA.out
 clear HA
 simp only [psalteryref04_Right.j2] at H
 by_cases c9 : o0 = true
 {
 subst c9
 rw [if_pos rfl] at H
 obtain rfl := Option.some.inj H
 go_wp2
 go_ret
 exact ⟨es_, dr_⟩}
 {
 replace c9 := Bool.eq_false_iff.mpr c9
 subst c9
 rw [if_neg (show ¬ (false = true) by decide)] at H
 replace H := gd_ H
 obtain ⟨Q0, H⟩ := H
 replace H := gd_ H
 obtain ⟨R0, H⟩ := H
 replace H := ii_ H
 rcases H with ⟨s0, H⟩ | ⟨s0, H⟩
 {
 have I0 : decide (0 < (rd l0 a0)) = true := decide_eq_true s0
 clear s0
 have H' := a_ H
 clear H
 have d0 : 0 ≤ (a0 : Int) := dm_
 have e0 : a0 < (l0.length : Int) := dm_
 obtain ⟨v0, F0, t0⟩ := Kd.at_int p0.out a0 d0 e0
 cases F0
 replace d0 := eq_true d0
 replace e0 := eq_true e0
 go_wp2
 go_loopg [6, 7] kj5 (fun kq v6 v7 w' => ∃ (r0 : Int) (w0 : Int), v6 = .int .i64 r0 ∧ v7 = .int .i64 w0 ∧ Aside0 (psalteryref04_Right.l1 kq l0 f0 (wrap64 (b0 + 1)) a0 r0 w0 = some r) ∧ Aside0 (kq ≤ kj5) ∧ Drawn0 w w')
 case atStart => exact ⟨(65536), (0), rs_, rs_, H', ⟨Nat.le_refl _⟩, dr_⟩
 case round => (
 clear H'
 try clear c4
 try clear c5
 try clear B0
 try clear c9
 try clear f1
 try clear Q0
 try clear h1
 try clear R0
 try clear s0
 try clear I0
 try clear t0
 try clear d0
 try clear e0
 obtain ⟨r0, w0, rfl, rfl, HA, J0, ⟨m4, rfl⟩⟩ := hrel
 cases gk with
 | zero => exact absurd HA.out (by simp [psalteryref04_Right.l1])
 | succ k4 => (
 have H := HA.out
 clear HA
 simp only [psalteryref04_Right.l1] at H
 replace H := gd_ H
 obtain ⟨c1, H⟩ := H
 replace H := gd_ H
 obtain ⟨d1, H⟩ := H
 replace H := id_ H
 rcases H with ⟨S0, H⟩ | ⟨S0, H⟩
 {
 have H' := a_ H
 clear H
 have i0 : 0 ≤ (a0 : Int) := dm_
 have k0 : a0 < (l0.length : Int) := dm_
 obtain ⟨y0, G0, L0⟩ := Kd.at_int p0.out a0 i0 k0
 obtain rfl : v0 = y0 := (by injection G0)
 replace i0 := eq_true i0
 replace k0 := eq_true k0
 go_wp2
 go_roundg k4
 case measure => have := HJ1.out; have := m0.out; have := HJ5.out; have := J0.out; omega
 case rel => exact ⟨(wrap64 (Int.tdiv r0 2)), (wrap64 (w0 + 1)), rs_, rs_, H', ⟨by have := HJ1.out; have := m0.out; have := HJ5.out; have := J0.out; omega⟩, dr_⟩}
 {
 have H' := a_ H
 clear H
 have i0 : 0 ≤ (a0 : Int) := dm_
 have k0 : a0 < (l0.length : Int) := dm_
 obtain ⟨y0, G0, L0⟩ := Kd.at_int p0.out a0 i0 k0
 obtain rfl : v0 = y0 := (by injection G0)
 replace i0 := eq_true i0
 replace k0 := eq_true k0
 go_wp2
 go_roundg k4
 case measure => have := HJ1.out; have := m0.out; have := HJ5.out; have := J0.out; omega
 case rel => exact ⟨(wrap64 (f0 + r0)), ((wrap64 (b0 + 1))), (wrap64 (a0 + 1)), rs_, rs_, rs_, H', ⟨by have := HJ1.out; have := m0.out; have := HJ5.out; have := J0.out; omega⟩, dr_⟩}))}
 {
 have I0 : decide (0 < (rd l0 a0)) = false := decide_eq_false s0
 clear s0
 have H' := a_ H
 clear H
 have d0 : 0 ≤ (a0 : Int) := dm_
 have e0 : a0 < (l0.length : Int) := dm_
 obtain ⟨v0, F0, t0⟩ := Kd.at_int p0.out a0 d0 e0
 cases F0
 replace d0 := eq_true d0
 replace e0 := eq_true e0
 go_wp2
 go_roundg kj5
 case measure => have := HJ1.out; have := m0.out; have := HJ5.out; omega
 case rel => exact ⟨(f0), (b0), (wrap64 (a0 + 1)), rs_, rs_, rs_, H', ⟨by have := HJ1.out; have := m0.out; have := HJ5.out; omega⟩, dr_⟩}}))}
 {
 replace H := ie_ H
 rcases H with ⟨T0, U0, H⟩ | ⟨i1, T0, U0, H⟩
 {
 obtain rfl := Option.some.inj H
 go_wp2
 go_ret
 exact ⟨es_, dr_⟩}
 {
 replace H := ii_ H
 rcases H with ⟨z0, H⟩ | ⟨z0, H⟩
 {
 have V0 : decide (1 < b0) = true := decide_eq_true z0
 clear z0
 obtain rfl := Option.some.inj H
 go_wp2
 go_ret
 exact ⟨es_, dr_⟩}
 {
 have V0 : decide (1 < b0) = false := decide_eq_false z0
 clear z0
 obtain rfl := Option.some.inj H
 go_wp2
 go_ret
 exact ⟨es_, dr_⟩}}}))}))
mutual
def psalteryref16_Right.j0 : Nat → Bool → Int → Int → List Int → List Int → Option (Bool)
  | 0, _, _, _, _, _ => none
  | k + 1, e0, c0, d0, a0, b0 => if e0 = true then (some false) else (if (a0.length : Int) = 45 then (psalteryref16_Right.j1 k ((b0.length : Int) != 16) c0 d0 a0 b0) else (psalteryref16_Right.j1 k true c0 d0 a0 b0))
def psalteryref16_Right.j1 : Nat → Bool → Int → Int → List Int → List Int → Option (Bool)
  | 0, _, _, _, _, _ => none
  | k + 1, g0, e0, f0, b0, a0 => if g0 = true then (some false) else ((psalteryref04_Right.f k b0).bind fun c0 => (if c0 = true then ((psalteryref04_Right.f k a0).bind fun d0 => (if d0 = true then (if 15 < (a0.length : Int) then (some ((rd a0 15) != 0)) else (none)) else (some false))) else (some false)))
end
def psalteryref16_Right.f (k : Nat) (b0 : Int) (a0 : Int) (c0 : List Int) (d0 : List Int) : Option (Bool) := if b0 = 1 then (if a0 < 0 then (psalteryref16_Right.j0 k true b0 a0 c0 d0) else (psalteryref16_Right.j0 k (decide (a0 > 12)) b0 a0 c0 d0)) else (if b0 = 2 then (if a0 < 0 then (psalteryref16_Right.j0 k true b0 a0 c0 d0) else (psalteryref16_Right.j0 k (decide (a0 > 12)) b0 a0 c0 d0)) else (psalteryref16_Right.j0 k true b0 a0 c0 d0))
theorem psalteryref16_Right.mono_l : ∀ k, (∀ y0 y1 y2 y3 y4, LeO (psalteryref16_Right.j0 k y0 y1 y2 y3 y4) (psalteryref16_Right.j0 (k + 1) y0 y1 y2 y3 y4)) ∧ (∀ y0 y1 y2 y3 y4, LeO (psalteryref16_Right.j1 k y0 y1 y2 y3 y4) (psalteryref16_Right.j1 (k + 1) y0 y1 y2 y3 y4))
  | 0 => ⟨fun _ _ _ _ _ r h => by simp [psalteryref16_Right.j0] at h, fun _ _ _ _ _ r h => by simp [psalteryref16_Right.j1] at h⟩
  | k + 1 => by
    obtain ⟨a0, b0⟩ := psalteryref16_Right.mono_l k
    refine ⟨?_, ?_⟩
    all_goals (intros; first | unfold psalteryref16_Right.j0 | unfold psalteryref16_Right.j1)
    all_goals with_reducible repeat' first
     | apply a0
     | exact b0 _ _ _ _ _
     | apply psalteryref04_Right.mono
     | exact LeO.refl _
     | exact LeO.none _
     | refine LeO.ite ?_ ?_
     | refine LeO.bind ?_ (fun _ => ?_)
theorem psalteryref16_Right.mono : ∀ a0 a1 a2 a3 k, LeO (psalteryref16_Right.f k a0 a1 a2 a3) (psalteryref16_Right.f (k + 1) a0 a1 a2 a3) := by
  intro a0 a1 a2 a3 k
  obtain ⟨b0, c0⟩ := psalteryref16_Right.mono_l k
  unfold psalteryref16_Right.f
  with_reducible repeat' first
   | apply b0
   | exact c0 _ _ _ _ _
   | apply psalteryref04_Right.mono
   | exact LeO.refl _
   | exact LeO.none _
   | refine LeO.ite ?_ ?_
   | refine LeO.bind ?_ (fun _ => ?_)
set_option maxHeartbeats 8000000 in
set_option maxRecDepth 100000 in
theorem psalteryref16_Right.calls (k : Nat) (e0 : Int) (d0 : Int) (f0 : Option Addr) (g0 : Nat) (c0 : List Int) (m0 : Option Addr) (n0 : Nat) (b0 : List Int) (r : Bool) (w : World) (hr0_2 : Kd.C (Kd.int .i64) w f0 c0.length c0) (hc0_2 : c0.length ≤ g0) (hr0_3 : Kd.C (Kd.int .i64) w m0 b0.length b0) (hc0_3 : b0.length ≤ n0) (h : psalteryref16_Right.f k e0 d0 c0 b0 = some r) :
    Calls Try.prog 28 #[.agg #[.int .i64 e0, .int .i64 d0, .slice f0 c0.length g0, .slice m0 b0.length n0]] w fun e w' => e = .returned (.bool r) ∧ Below w.heap.size w w' := by
 have D2 := Try.underlying31
 have p0 := a_ hr0_2
 have q0 := a_ hc0_2
 clear hr0_2 hc0_2
 have r0 := a_ hr0_3
 have y0 := a_ hc0_3
 clear hr0_3 hc0_3
 have HB := a_ (Below.refl w.heap.size w)
 have H : (if e0 = 1 then (if d0 < 0 then (psalteryref16_Right.j0 k true e0 d0 c0 b0) else (psalteryref16_Right.j0 k (decide (d0 > 12)) e0 d0 c0 b0)) else (if e0 = 2 then (if d0 < 0 then (psalteryref16_Right.j0 k true e0 d0 c0 b0) else (psalteryref16_Right.j0 k (decide (d0 > 12)) e0 d0 c0 b0)) else (psalteryref16_Right.j0 k true e0 d0 c0 b0))) = some r := h
 clear h
 have B0 := a_ H
 clear H
 go_enter Try.func28, Try.ntmps28
 go_upto_region 1 with (first | ((with_reducible refine gate_dst (N := 1) rfl ?_); (try (refine gate_guard (by rfl) ?_; dsimp only)); refine bx_ HB 1 #[.int .i64 e0, .int .i64 d0, .slice f0 c0.length g0, .slice m0 b0.length n0] 31 ?_; clear HB; intro z0 hg w3 hb a0 D0 HB; have z2 := D0; clear hb hg))
 (try simp only [Act.put, List.setIfInBounds_toArray, List.set_cons_zero, List.set_cons_succ])
 go_cut [20] (fun e2 wc => ∃ (kq : Nat) (l0 : Bool), e2 = .bool l0 ∧ Aside0 (psalteryref16_Right.j0 kq l0 e0 d0 c0 b0 = some r) ∧ Aside0 (kq ≤ k) ∧ Aside0 (wc.heap[z0]? = some (.cells #[.int .i64 e0, .int .i64 d0, (.slice f0 c0.length g0), (.slice m0 b0.length n0)] 31 (0, 0))) ∧ Aside0 (Below w.heap.size w wc))
 case first => (
 have H := B0.out
 clear B0
 replace H := ie_ H
 rcases H with ⟨o0, H0, H⟩ | ⟨c4, o0, H0, H⟩
 {
 (first | rw [o0] | (simp only [i64_w, i32_w]; rw [o0]) | skip)
 replace H := id_ H
 rcases H with ⟨I0, H⟩ | ⟨I0, H⟩
 {
 have H' := a_ H
 clear H
 obtain ⟨f2, g2, h2, i2, j2, k2, l2, m2⟩ := e4_ a0
 go_wp2
 go_meet
 case rel => exact ⟨_, (true), rs_, H', ⟨ol_⟩, ⟨bk_ a0⟩, ⟨bl_ HB⟩⟩}
 {
 have H' := a_ H
 clear H
 obtain ⟨n2, p2, q2, r2, s2, t2, v2, w2⟩ := e4_ a0
 go_wp2
 go_meet
 case rel => exact ⟨_, (decide (d0 > 12)), rs_, H', ⟨ol_⟩, ⟨bk_ a0⟩, ⟨bl_ HB⟩⟩}}
 {
 (first | rw [o0] | (simp only [i64_w, i32_w]; rw [o0]) | skip)
 replace H := ie_ H
 rcases H with ⟨J0, K0, H⟩ | ⟨c8, J0, K0, H⟩
 {
 replace H := id_ H
 rcases H with ⟨L0, H⟩ | ⟨L0, H⟩
 {
 have H' := a_ H
 clear H
 obtain ⟨N0, O0, P0, Q0, R0, S0, T0, U0⟩ := e4_ a0
 go_wp2
 go_meet
 case rel => exact ⟨_, (true), rs_, H', ⟨ol_⟩, ⟨bk_ a0⟩, ⟨bl_ HB⟩⟩}
 {
 have H' := a_ H
 clear H
 obtain ⟨V0, W0, X0, Y0, Z0, a1, b1, c1⟩ := e4_ a0
 go_wp2
 go_meet
 case rel => exact ⟨_, (decide (d0 > 12)), rs_, H', ⟨ol_⟩, ⟨bk_ a0⟩, ⟨bl_ HB⟩⟩}}
 {
 have H' := a_ H
 clear H
 obtain ⟨d1, e1, f1, h1, i1, k1, l1, m1⟩ := e4_ a0
 go_wp2
 go_meet
 case rel => exact ⟨_, (true), rs_, H', ⟨ol_⟩, ⟨bk_ a0⟩, ⟨bl_ HB⟩⟩}})
 case rest => (
 clear B0
 obtain ⟨kq, l0, rfl, HA, HJ1, a0, HB⟩ := hcut
 cases kq with
 | zero => exact absurd HA.out (by simp [psalteryref16_Right.j0])
 | succ kj1 => (
 have H := HA.out
 clear HA
 simp only [psalteryref16_Right.j0] at H
 by_cases s0 : l0 = true
 {
 subst s0
 rw [if_pos rfl] at H
 obtain rfl := Option.some.inj H
 go_wp2
 go_ret
 exact ⟨er_, bl_ HB⟩}
 {
 replace s0 := Bool.eq_false_iff.mpr s0
 subst s0
 rw [if_neg (show ¬ (false = true) by decide)] at H
 have t0 := a_ H
 clear H
 go_upto_region 3 with (fail)
 go_cut [30] (fun y2 wc => ∃ (kq : Nat) (i0 : Bool), y2 = .bool i0 ∧ Aside0 (psalteryref16_Right.j1 kq i0 e0 d0 c0 b0 = some r) ∧ Aside0 (kq ≤ kj1) ∧ Aside0 (wc.heap[z0]? = some (.cells #[.int .i64 e0, .int .i64 d0, (.slice f0 c0.length g0), (.slice m0 b0.length n0)] 31 (0, 0))) ∧ Aside0 (Below w.heap.size w wc))
 case first => (
 have H := t0.out
 clear t0
 replace H := ie_ H
 rcases H with ⟨k0, E0, H⟩ | ⟨G2, k0, E0, H⟩
 {
 (first | rw [k0] | (simp only [i64_w, i32_w]; rw [k0]) | skip)
 have H' := a_ H
 clear H
 obtain ⟨n1, o1, p1, q1, r1, s1, t1, v1⟩ := e4_ a0
 go_wp2
 go_meet
 case rel => exact ⟨_, (((b0.length : Int) != 16)), rs_, H', ⟨by have := HJ1.out; first | omega | exact Nat.le_refl _⟩, ⟨bk_ a0⟩, ⟨bl_ HB⟩⟩}
 {
 (first | rw [k0] | (simp only [i64_w, i32_w]; rw [k0]) | skip)
 have H' := a_ H
 clear H
 obtain ⟨y1, z1, A1, B1, C1, D1, E1, F1⟩ := e4_ a0
 go_wp2
 go_meet
 case rel => exact ⟨_, (true), rs_, H', ⟨by have := HJ1.out; first | omega | exact Nat.le_refl _⟩, ⟨bk_ a0⟩, ⟨bl_ HB⟩⟩})
 case rest => (
 clear t0
 try clear s0
 obtain ⟨kq, i0, rfl, HA, HJ13, a0, HB⟩ := hcut
 cases kq with
 | zero => exact absurd HA.out (by simp [psalteryref16_Right.j1])
 | succ kj13 => (
 have H := HA.out
 clear HA
 simp only [psalteryref16_Right.j1] at H
 by_cases A0 : i0 = true
 {
 subst A0
 rw [if_pos rfl] at H
 obtain rfl := Option.some.inj H
 go_wp2
 go_ret
 exact ⟨er_, bl_ HB⟩}
 {
 replace A0 := Bool.eq_false_iff.mpr A0
 subst A0
 rw [if_neg (show ¬ (false = true) by decide)] at H
 obtain ⟨E2, C0, H⟩ := ob_ H
 (try dsimp only at H)
 replace H := ib_ H
 rcases H with ⟨rfl, H⟩ | ⟨rfl, H⟩
 {
 obtain ⟨F2, F0, H⟩ := ob_ H
 (try dsimp only at H)
 replace H := ib_ H
 rcases H with ⟨rfl, H⟩ | ⟨rfl, H⟩
 {
 replace H := gt_ H
 obtain ⟨G0, H⟩ := H
 have A2 : decide (15 < (b0.length : Int)) = true := decide_eq_true G0
 have B2 : decide (15 < b0.length) = true := decide_eq_true (by omega)
 clear G0
 obtain rfl := Option.some.inj H
 obtain ⟨G1, H1, I1, J1, K1, L1, M1, N1⟩ := e4_ a0
 go_wp2_with (first | ((with_reducible refine gate_callee (f := 64) rfl ?_); refine gL_ (some 33) Try.func64 #[.slice f0 c0.length g0] ?_; (with_reducible refine (psalteryref04_Right.calls kj13 _ _ c0 true _ ?side1 ?side2 C0.out).mono ?_); (case side1 => exact kC_ p0 HB); (case side2 => exact q0.out); rintro e w' ⟨rfl, ⟨nd, rfl⟩⟩; refine ⟨_, rfl, ?_⟩) | (go_at_call 64; (with_reducible refine (psalteryref04_Right.calls kj13 _ _ b0 true _ ?side1 ?side2 F0.out).mono ?_); (case side1 => repeat (first | exact (Kd.C_below r0.out (bl_ HB)) | (with_reducible refine Kd.C_alloc ?_ _) | (with_reducible refine Kd.C_drewN ?_ _) | (with_reducible refine Kd.C_drew ?_))); (case side2 => exact y0.out); rintro e w' ⟨rfl, ⟨nd, rfl⟩⟩; have v0 : 0 ≤ (15 : Int) := (by omega); have w0 : 15 < (b0.length : Int) := dm_; obtain ⟨C2, M0, h0⟩ := Kd.at_int r0.out 15 v0 w0; cases M0; (try simp only [show (15 : Int).toNat = 15 from rfl, Nat.reduceMul, Nat.reduceEqDiff, Go.Addr.add, ↓reduceIte] at h0); have qi114 : (15 < b0.length) = True := eq_true (by omega); (try rw [show ((15 : Int)).toNat = 15 from rfl] at h0); replace h0 := hc_ HB h0; replace v0 := eq_true v0; replace w0 := eq_true w0))
 go_ret
 exact ⟨er_, bl_ HB⟩}
 {
 obtain rfl := Option.some.inj H
 obtain ⟨O1, P1, Q1, R1, S1, T1, U1, V1⟩ := e4_ a0
 go_wp2_with (first | ((with_reducible refine gate_callee (f := 64) rfl ?_); refine gL_ (some 33) Try.func64 #[.slice f0 c0.length g0] ?_; (with_reducible refine (psalteryref04_Right.calls kj13 _ _ c0 true _ ?side1 ?side2 C0.out).mono ?_); (case side1 => exact kC_ p0 HB); (case side2 => exact q0.out); rintro e w' ⟨rfl, ⟨nd, rfl⟩⟩; refine ⟨_, rfl, ?_⟩) | (go_at_call 64; (with_reducible refine (psalteryref04_Right.calls kj13 _ _ b0 false _ ?side1 ?side2 F0.out).mono ?_); (case side1 => repeat (first | exact (Kd.C_below r0.out (bl_ HB)) | (with_reducible refine Kd.C_alloc ?_ _) | (with_reducible refine Kd.C_drewN ?_ _) | (with_reducible refine Kd.C_drew ?_))); (case side2 => exact y0.out); rintro e w' ⟨rfl, ⟨nd, rfl⟩⟩))
 go_ret
 exact ⟨er_, bl_ HB⟩}}
 {
 obtain rfl := Option.some.inj H
 obtain ⟨W1, X1, Y1, Z1, a2, b2, c2, d2⟩ := e4_ a0
 go_wp2_with (first | ((with_reducible refine gate_callee (f := 64) rfl ?_); refine gL_ (some 33) Try.func64 #[.slice f0 c0.length g0] ?_; (with_reducible refine (psalteryref04_Right.calls kj13 _ _ c0 false _ ?side1 ?side2 C0.out).mono ?_); (case side1 => exact kC_ p0 HB); (case side2 => exact q0.out); rintro e w' ⟨rfl, ⟨nd, rfl⟩⟩; refine ⟨_, rfl, ?_⟩))
 go_ret
 exact ⟨er_, bl_ HB⟩}}))}))
mutual
def psalteryref07_Fair.j0 : Nat → List Int → Bool → Option (Bool)
  | 0, _, _ => none
  | k + 1, x0, x3 => psalteryref07_Fair.l0 k x0 x3 0
def psalteryref07_Fair.l0 : Nat → List Int → Bool → Int → Option (Bool)
  | 0, _, _, _ => none
  | k + 1, x0, x3, x4 => if x4 < (x0.length : Int) then (if x3 = true then (if 0 ≤ x4 then (if (rd x0 x4) ≥ (-1048576) then (psalteryref07_Fair.l0 k x0 (decide ((rd x0 x4) ≤ 1048576)) (wrap64 (x4 + 1))) else (psalteryref07_Fair.l0 k x0 false (wrap64 (x4 + 1)))) else (none)) else (psalteryref07_Fair.l0 k x0 false (wrap64 (x4 + 1)))) else (some x3)
end
def psalteryref07_Fair.f (k : Nat) (l0 : List Int) : Option (Bool) := if (l0.length : Int) > 0 then (psalteryref07_Fair.j0 k l0 (decide ((l0.length : Int) ≤ 16))) else (psalteryref07_Fair.j0 k l0 false)
theorem psalteryref07_Fair.mono_l : ∀ k, (∀ y0 y1, LeO (psalteryref07_Fair.j0 k y0 y1) (psalteryref07_Fair.j0 (k + 1) y0 y1)) ∧ (∀ y0 y1 y2, LeO (psalteryref07_Fair.l0 k y0 y1 y2) (psalteryref07_Fair.l0 (k + 1) y0 y1 y2))
  | 0 => ⟨fun _ _ r h => by simp [psalteryref07_Fair.j0] at h, fun _ _ _ r h => by simp [psalteryref07_Fair.l0] at h⟩
  | k + 1 => by
    obtain ⟨a0, b0⟩ := psalteryref07_Fair.mono_l k
    refine ⟨?_, ?_⟩
    all_goals (intros; first | unfold psalteryref07_Fair.j0 | unfold psalteryref07_Fair.l0)
    all_goals with_reducible repeat' first
     | apply a0
     | exact b0 _ _ _
     | exact LeO.refl _
     | exact LeO.none _
     | refine LeO.ite ?_ ?_
     | refine LeO.bind ?_ (fun _ => ?_)
theorem psalteryref07_Fair.mono : ∀ a0 k, LeO (psalteryref07_Fair.f k a0) (psalteryref07_Fair.f (k + 1) a0) := by
  intro a0 k
  obtain ⟨b0, c0⟩ := psalteryref07_Fair.mono_l k
  unfold psalteryref07_Fair.f
  with_reducible repeat' first
   | apply b0
   | exact c0 _ _ _
   | exact LeO.refl _
   | exact LeO.none _
   | refine LeO.ite ?_ ?_
   | refine LeO.bind ?_ (fun _ => ?_)
set_option maxHeartbeats 8000000 in
set_option maxRecDepth 100000 in
theorem psalteryref07_Fair.calls (k : Nat) (A0 : Option Addr) (c0 : Nat) (l0 : List Int) (r : Bool) (w : World) (hr0 : Kd.C (Kd.int .i64) w A0 l0.length l0) (hc0 : l0.length ≤ c0) (h : psalteryref07_Fair.f k l0 = some r) :
    Calls Try.prog 83 #[.slice A0 l0.length c0] w fun e w' => e = .returned (.bool r) ∧ Drawn0 w w' := by
 have p0 := a_ hr0
 have B0 := a_ hc0
 clear hr0 hc0
 have H : (if (l0.length : Int) > 0 then (psalteryref07_Fair.j0 k l0 (decide ((l0.length : Int) ≤ 16))) else (psalteryref07_Fair.j0 k l0 false)) = some r := h
 clear h
 have q0 := a_ H
 clear H
 go_enter Try.func83, Try.ntmps83
 go_upto_region 1 with (fail)
 go_cut [3] (fun v3 wc => ∃ (kq : Nat) (g0 : Bool), v3 = .bool g0 ∧ Aside0 (psalteryref07_Fair.j0 kq l0 g0 = some r) ∧ Aside0 (kq ≤ k) ∧ Drawn0 w wc)
 case first => (
 have H := q0.out
 clear q0
 replace H := ii_ H
 rcases H with ⟨c3, H⟩ | ⟨c3, H⟩
 {
 have e0 : decide (0 < (l0.length : Int)) = true := decide_eq_true c3
 have s0 : decide (0 < l0.length) = true := decide_eq_true (by omega)
 clear c3
 (first | rw [e0] | (simp only [i64_w, i32_w]; rw [e0]) | skip)
 have H' := a_ H
 clear H
 go_wp2
 go_meet
 case rel => exact ⟨_, (decide ((l0.length : Int) ≤ 16)), rs_, H', ⟨ol_⟩, dr_⟩}
 {
 have e0 : decide (0 < (l0.length : Int)) = false := decide_eq_false c3
 have s0 : decide (0 < l0.length) = false := decide_eq_false (by omega)
 clear c3
 (first | rw [e0] | (simp only [i64_w, i32_w]; rw [e0]) | skip)
 have H' := a_ H
 clear H
 go_wp2
 go_meet
 case rel => exact ⟨_, (false), rs_, H', ⟨ol_⟩, dr_⟩})
 case rest => (
 clear q0
 obtain ⟨kq, g0, rfl, HA, HJ1, ⟨mc1, rfl⟩⟩ := hcut
 cases kq with
 | zero => exact absurd HA.out (by simp [psalteryref07_Fair.j0])
 | succ kj1 => (
 have H := HA.out
 clear HA
 simp only [psalteryref07_Fair.j0] at H
 have H' := a_ H
 clear H
 go_wp2
 go_loopg [3, 4] kj1 (fun kq v3 v4 w' => ∃ (h0 : Bool) (a0 : Int), v3 = .bool h0 ∧ v4 = .int .i64 a0 ∧ Aside0 (psalteryref07_Fair.l0 kq l0 h0 a0 = some r) ∧ Aside0 (kq ≤ kj1) ∧ Drawn0 w w')
 case atStart => exact ⟨(g0), (0), rs_, rs_, H', ⟨Nat.le_refl _⟩, dr_⟩
 case round => (
 clear H'
 obtain ⟨h0, a0, rfl, rfl, HA, f0, ⟨m2, rfl⟩⟩ := hrel
 cases gk with
 | zero => exact absurd HA.out (by simp [psalteryref07_Fair.l0])
 | succ k2 => (
 have H := HA.out
 clear HA
 simp only [psalteryref07_Fair.l0] at H
 replace H := id_ H
 rcases H with ⟨t0, H⟩ | ⟨t0, H⟩
 {
 by_cases c5 : h0 = true
 {
 subst c5
 rw [if_pos rfl] at H
 replace H := gd_ H
 obtain ⟨z0, H⟩ := H
 replace H := ii_ H
 rcases H with ⟨c7, H⟩ | ⟨c7, H⟩
 {
 have v0 : decide ((-1048576) ≤ (rd l0 a0)) = true := decide_eq_true c7
 clear c7
 have H' := a_ H
 clear H
 have b0 : 0 ≤ (a0 : Int) := dm_
 have d0 : a0 < (l0.length : Int) := dm_
 obtain ⟨n0, i0, o0⟩ := Kd.at_int p0.out a0 b0 d0
 cases i0
 replace b0 := eq_true b0
 replace d0 := eq_true d0
 have k0 : 0 ≤ (a0 : Int) := dm_
 have m0 : a0 < (l0.length : Int) := dm_
 obtain ⟨r0, w0, y0⟩ := Kd.at_int p0.out a0 k0 m0
 obtain rfl : n0 = r0 := (by injection w0)
 replace k0 := eq_true k0
 replace m0 := eq_true m0
 go_wp2
 go_roundg k2
 case measure => have := HJ1.out; have := f0.out; omega
 case rel => exact ⟨(decide ((rd l0 a0) ≤ 1048576)), (wrap64 (a0 + 1)), rs_, rs_, H', ⟨by have := HJ1.out; have := f0.out; omega⟩, dr_⟩}
 {
 have v0 : decide ((-1048576) ≤ (rd l0 a0)) = false := decide_eq_false c7
 clear c7
 have H' := a_ H
 clear H
 have b0 : 0 ≤ (a0 : Int) := dm_
 have d0 : a0 < (l0.length : Int) := dm_
 obtain ⟨n0, i0, o0⟩ := Kd.at_int p0.out a0 b0 d0
 cases i0
 replace b0 := eq_true b0
 replace d0 := eq_true d0
 go_wp2
 go_roundg k2
 case measure => have := HJ1.out; have := f0.out; omega
 case rel => exact ⟨(false), (wrap64 (a0 + 1)), rs_, rs_, H', ⟨by have := HJ1.out; have := f0.out; omega⟩, dr_⟩}}
 {
 replace c5 := Bool.eq_false_iff.mpr c5
 subst c5
 rw [if_neg (show ¬ (false = true) by decide)] at H
 have H' := a_ H
 clear H
 go_wp2
 go_roundg k2
 case measure => have := HJ1.out; have := f0.out; omega
 case rel => exact ⟨(false), (wrap64 (a0 + 1)), rs_, rs_, H', ⟨by have := HJ1.out; have := f0.out; omega⟩, dr_⟩}}
 {
 obtain rfl := Option.some.inj H
 go_wp2
 go_ret
 exact ⟨es_, dr_⟩}))))
def psalteryref10_Fair.f (k : Nat) (l0 : List Int) : Option (Bool) := if (l0.length : Int) = 16 then ((psalteryref07_Fair.f k l0).bind fun a0 => (some a0)) else (some false)
theorem psalteryref10_Fair.mono : ∀ a0 k, LeO (psalteryref10_Fair.f k a0) (psalteryref10_Fair.f (k + 1) a0) := by
  intro a0 k
  unfold psalteryref10_Fair.f
  with_reducible repeat' first
   | apply psalteryref07_Fair.mono
   | exact LeO.refl _
   | exact LeO.none _
   | refine LeO.ite ?_ ?_
   | refine LeO.bind ?_ (fun _ => ?_)
set_option maxHeartbeats 8000000 in
set_option maxRecDepth 100000 in
theorem psalteryref10_Fair.calls (k : Nat) (A0 : Option Addr) (c0 : Nat) (l0 : List Int) (r : Bool) (w : World) (hr0 : Kd.C (Kd.int .i64) w A0 l0.length l0) (hc0 : l0.length ≤ c0) (h : psalteryref10_Fair.f k l0 = some r) :
    Calls Try.prog 43 #[.slice A0 l0.length c0] w fun e w' => e = .returned (.bool r) ∧ Drawn0 w w' := by
 have f0 := a_ hr0
 have g0 := a_ hc0
 clear hr0 hc0
 have H : (if (l0.length : Int) = 16 then ((psalteryref07_Fair.f k l0).bind fun a0 => (some a0)) else (some false)) = some r := h
 clear h
 replace H := ie_ H
 rcases H with ⟨d0, e0, H⟩ | ⟨c2, d0, e0, H⟩
 {
 replace H := Option.bind_eq_some_iff.mp H
 obtain ⟨a0, b0, H⟩ := H
 replace H : (some a0) = some r := H
 have A3 := a_ b0
 clear b0
 obtain rfl := Option.some.inj H
 go_enter Try.func43, Try.ntmps43
 go_wp2_with (first | (go_at_call 83; (with_reducible refine (psalteryref07_Fair.calls k _ _ l0 a0 _ ?side1 ?side2 A3.out).mono ?_); (case side1 => repeat (first | exact f0.out | (with_reducible refine Kd.C_alloc ?_ _) | (with_reducible refine Kd.C_drewN ?_ _) | (with_reducible refine Kd.C_drew ?_))); (case side2 => exact g0.out); rintro e w' ⟨rfl, ⟨nd, rfl⟩⟩))
 go_ret
 exact ⟨es_, dr_⟩}
 {
 obtain rfl := Option.some.inj H
 go_enter Try.func43, Try.ntmps43
 go_wp2
 go_ret
 exact ⟨es_, dr_⟩}
mutual
def psalteryref22_Right.j0 : Nat → Bool → List (List Int) → Option (Bool)
  | 0, _, _ => none
  | k + 1, b0, a0 => if b0 = true then (some false) else (psalteryref22_Right.l0 k 0 a0)
def psalteryref22_Right.l0 : Nat → Int → List (List Int) → Option (Bool)
  | 0, _, _ => none
  | k + 1, x5, a0 => if x5 < (a0.length : Int) then (if 0 ≤ x5 then ((psalteryref10_Fair.f k (rd_L2 a0 x5)).bind fun b0 => (if b0 = true then (psalteryref22_Right.l0 k (wrap64 (x5 + 1)) a0) else (some false))) else (none)) else (some true)
end
def psalteryref22_Right.f (k : Nat) (b0 : Int) (c0 : Int) (d0 : List Int) (e0 : List Int) (a0 : List (List Int)) : Option (Bool) := (psalteryref16_Right.f k b0 c0 d0 e0).bind fun f0 => (if f0 = true then (psalteryref22_Right.j0 k ((a0.length : Int) != b0) a0) else (psalteryref22_Right.j0 k true a0))
theorem psalteryref22_Right.mono_l : ∀ k, (∀ y0 y1, LeO (psalteryref22_Right.j0 k y0 y1) (psalteryref22_Right.j0 (k + 1) y0 y1)) ∧ (∀ y0 y1, LeO (psalteryref22_Right.l0 k y0 y1) (psalteryref22_Right.l0 (k + 1) y0 y1))
  | 0 => ⟨fun _ _ r h => by simp [psalteryref22_Right.j0] at h, fun _ _ r h => by simp [psalteryref22_Right.l0] at h⟩
  | k + 1 => by
    obtain ⟨a0, b0⟩ := psalteryref22_Right.mono_l k
    refine ⟨?_, ?_⟩
    all_goals (intros; first | unfold psalteryref22_Right.j0 | unfold psalteryref22_Right.l0)
    all_goals with_reducible repeat' first
     | apply a0
     | exact b0 _ _
     | apply psalteryref10_Fair.mono
     | apply psalteryref16_Right.mono
     | exact LeO.refl _
     | exact LeO.none _
     | refine LeO.ite ?_ ?_
     | refine LeO.bind ?_ (fun _ => ?_)
theorem psalteryref22_Right.mono : ∀ a0 a1 a2 a3 a4 k, LeO (psalteryref22_Right.f k a0 a1 a2 a3 a4) (psalteryref22_Right.f (k + 1) a0 a1 a2 a3 a4) := by
  intro a0 a1 a2 a3 a4 k
  obtain ⟨b0, c0⟩ := psalteryref22_Right.mono_l k
  unfold psalteryref22_Right.f
  with_reducible repeat' first
   | apply b0
   | exact c0 _ _
   | apply psalteryref10_Fair.mono
   | apply psalteryref16_Right.mono
   | exact LeO.refl _
   | exact LeO.none _
   | refine LeO.ite ?_ ?_
   | refine LeO.bind ?_ (fun _ => ?_)
set_option maxHeartbeats 8000000 in
set_option maxRecDepth 100000 in
theorem psalteryref22_Right.calls (k : Nat) (i0 : Int) (k0 : Int) (p0 : Option Addr) (q0 : Nat) (e0 : List Int) (r0 : Option Addr) (s0 : Nat) (f0 : List Int) (A0 : Option Addr) (B0 : Nat) (b0 : List (List Int)) (r : Bool) (w : World) (hr0_2 : Kd.C (Kd.int .i64) w p0 e0.length e0) (hc0_2 : e0.length ≤ q0) (hr0_3 : Kd.C (Kd.int .i64) w r0 f0.length f0) (hc0_3 : f0.length ≤ s0) (hr1_0 : Kd.C (Kd.slice 2 (Kd.int .i64)) w A0 b0.length b0) (hc1_0 : b0.length ≤ B0) (h : psalteryref22_Right.f k i0 k0 e0 f0 b0 = some r) :
    Calls Try.prog 17 #[.agg #[.int .i64 i0, .int .i64 k0, .slice p0 e0.length q0, .slice r0 f0.length s0], .agg #[.slice A0 b0.length B0]] w fun e w' => e = .returned (.bool r) ∧ Below w.heap.size w w' := by
 have S1 := Try.underlying31
 have T1 := Try.underlying37
 have G0 := a_ hr0_2
 have H0 := a_ hc0_2
 clear hr0_2 hc0_2
 have I0 := a_ hr0_3
 have J0 := a_ hc0_3
 clear hr0_3 hc0_3
 have K0 := a_ hr1_0
 have G1 := a_ hc1_0
 clear hr1_0 hc1_0
 have HB := a_ (Below.refl w.heap.size w)
 have H : ((psalteryref16_Right.f k i0 k0 e0 f0).bind fun N0 => (if N0 = true then (psalteryref22_Right.j0 k ((b0.length : Int) != i0) b0) else (psalteryref22_Right.j0 k true b0))) = some r := h
 clear h
 have O0 := a_ H
 clear H
 go_enter Try.func17, Try.ntmps17
 go_upto_region 1 with (first | ((with_reducible refine gate_dst (N := 2) rfl ?_); (try (refine gate_guard (by rfl) ?_; dsimp only)); refine bx_ HB 2 #[.int .i64 i0, .int .i64 k0, .slice p0 e0.length q0, .slice r0 f0.length s0] 31 ?_; clear HB; intro L0 hg w4 hb a0 P0 HB; have H1 := P0; clear hb hg) | ((with_reducible refine gate_dst (N := 3) rfl ?_); (try (refine gate_guard (by rfl) ?_; dsimp only)); refine bx_ HB 3 #[.slice A0 b0.length B0] 37 ?_; clear HB; intro M0 hg w5 hb c0 Q0 HB; have I1 := Q0; obtain ⟨g0, h0⟩ := NN_ a0 hg; replace a0 := FB_ a0 hb; clear hb hg))
 (try simp only [Act.put, List.setIfInBounds_toArray, List.set_cons_zero, List.set_cons_succ])
 go_cut [16] (fun v1 wc => ∃ (kq : Nat) (z0 : Bool), v1 = .bool z0 ∧ Aside0 (psalteryref22_Right.j0 kq z0 b0 = some r) ∧ Aside0 (kq ≤ k) ∧ Aside0 (wc.heap[L0]? = some (.cells #[.int .i64 i0, .int .i64 k0, (.slice p0 e0.length q0), (.slice r0 f0.length s0)] 31 (0, 0))) ∧ Aside0 (wc.heap[M0]? = some (.cells #[(.slice A0 b0.length B0)] 37 (0, 0))) ∧ Aside0 (Below w.heap.size w wc))
 case first => (
 have H := O0.out
 clear O0
 obtain ⟨N0, A6, H⟩ := ob_ H
 (try dsimp only at H)
 replace H := ib_ H
 rcases H with ⟨rfl, H⟩ | ⟨rfl, H⟩
 {
 have H' := a_ H
 clear H
 have U1 := g0.out
 have V1 := h0.out
 obtain ⟨y1, z1, A1, B1, C1, D1, E1, F1⟩ := e4_ a0
 go_wp2_with (first | ((with_reducible refine gate_callee (f := 28) rfl ?_); refine gL_ (some 7) Try.func28 #[.agg #[.int .i64 i0, .int .i64 k0, .slice p0 e0.length q0, .slice r0 f0.length s0]] ?_; (with_reducible refine (psalteryref16_Right.calls k i0 k0 _ _ e0 _ _ f0 true _ ?side1 ?side2 ?side3 ?side4 A6.out).mono ?_); (case side1 => exact kC_ G0 HB); (case side2 => exact H0.out); (case side3 => exact kC_ I0 HB); (case side4 => exact J0.out); rintro e X1 ⟨rfl, hb⟩; refine ⟨_, rfl, ?_⟩; replace a0 := FB_ a0 hb; replace c0 := FB_ c0 hb; replace HB := BS_ HB hb; (try clear hb); obtain ⟨V0, W0⟩ := e1_ c0; obtain ⟨X0, Y0, Z0, a1, b1, c1, d1, e1⟩ := e4_ a0))
 go_meet
 case rel => exact ⟨_, (((b0.length : Int) != i0)), rs_, H', ⟨ol_⟩, ⟨bk_ a0⟩, ⟨bk_ c0⟩, ⟨bl_ HB⟩⟩}
 {
 have H' := a_ H
 clear H
 have J1 := g0.out
 have K1 := h0.out
 obtain ⟨f1, h1, i1, j1, k1, l1, m1, n1⟩ := e4_ a0
 go_wp2_with (first | ((with_reducible refine gate_callee (f := 28) rfl ?_); refine gL_ (some 7) Try.func28 #[.agg #[.int .i64 i0, .int .i64 k0, .slice p0 e0.length q0, .slice r0 f0.length s0]] ?_; (with_reducible refine (psalteryref16_Right.calls k i0 k0 _ _ e0 _ _ f0 false _ ?side1 ?side2 ?side3 ?side4 A6.out).mono ?_); (case side1 => exact kC_ G0 HB); (case side2 => exact H0.out); (case side3 => exact kC_ I0 HB); (case side4 => exact J0.out); rintro e Y1 ⟨rfl, hb⟩; refine ⟨_, rfl, ?_⟩; replace a0 := FB_ a0 hb; replace c0 := FB_ c0 hb; replace HB := BS_ HB hb; (try clear hb)))
 go_meet
 case rel => exact ⟨_, (true), rs_, H', ⟨ol_⟩, ⟨bk_ a0⟩, ⟨bk_ c0⟩, ⟨bl_ HB⟩⟩})
 case rest => (
 clear O0
 obtain ⟨kq, z0, rfl, HA, HJ2, a0, c0, HB⟩ := hcut
 cases kq with
 | zero => exact absurd HA.out (by simp [psalteryref22_Right.j0])
 | succ kj2 => (
 have H := HA.out
 clear HA
 simp only [psalteryref22_Right.j0] at H
 by_cases E0 : z0 = true
 {
 subst E0
 rw [if_pos rfl] at H
 obtain rfl := Option.some.inj H
 go_wp2
 go_ret
 exact ⟨er_, bl_ HB⟩}
 {
 replace E0 := Bool.eq_false_iff.mpr E0
 subst E0
 rw [if_neg (show ¬ (false = true) by decide)] at H
 have H' := a_ H
 clear H
 go_wp2
 go_loopg [5] kj2 (fun kq v5 w' => ∃ (d0 : Int), v5 = .int .i64 d0 ∧ Aside0 (psalteryref22_Right.l0 kq d0 b0 = some r) ∧ Aside0 (kq ≤ kj2) ∧ Aside0 (w'.heap[L0]? = some (.cells #[.int .i64 i0, .int .i64 k0, (.slice p0 e0.length q0), (.slice r0 f0.length s0)] 31 (0, 0))) ∧ Aside0 (w'.heap[M0]? = some (.cells #[(.slice A0 b0.length B0)] 37 (0, 0))) ∧ Aside0 (Below w.heap.size w w'))
 case atStart => exact ⟨(0), rs_, H', ⟨Nat.le_refl _⟩, ⟨bk_ a0⟩, ⟨bk_ c0⟩, ⟨bl_ HB⟩⟩
 case round => (
 clear H'
 try clear E0
 obtain ⟨d0, rfl, HA, T0, a0, c0, HB⟩ := hrel
 cases gk with
 | zero => exact absurd HA.out (by simp [psalteryref22_Right.l0])
 | succ k2 => (
 have H := HA.out
 clear HA
 simp only [psalteryref22_Right.l0] at H
 replace H := id_ H
 rcases H with ⟨R0, H⟩ | ⟨R0, H⟩
 {
 replace H := gd_ H
 obtain ⟨L1, H⟩ := H
 obtain ⟨W1, U0, H⟩ := ob_ H
 (try dsimp only at H)
 replace H := ib_ H
 rcases H with ⟨rfl, H⟩ | ⟨rfl, H⟩
 {
 have H' := a_ H
 clear H
 have M1 := h0.out
 have N1 := g0.out
 obtain ⟨o1, p1⟩ := e1_ c0
 have t0 : 0 ≤ (d0 : Int) := dm_
 have v0 : d0 < (b0.length : Int) := dm_
 obtain ⟨S0, C0, D0, F0, m0, n0, o0⟩ := at_L2 K0.out d0 t0 v0
 cases F0
 replace m0 := hc_ HB m0
 have w0 := a_ o0
 have y0 := a_ n0
 clear o0 n0
 replace t0 := eq_true t0
 replace v0 := eq_true v0
 go_wp2_with (first | ((with_reducible refine gate_callee (f := 43) rfl ?_); refine gL_ (some 29) Try.func43 #[.slice C0 (rd_L2 b0 d0).length D0] ?_; (with_reducible refine (psalteryref10_Fair.calls k2 _ _ (rd_L2 b0 d0) true _ ?side1 ?side2 U0.out).mono ?_); (case side1 => exact kC_ w0 HB); (case side2 => exact y0.out); rintro e w' ⟨rfl, ⟨nd, rfl⟩⟩; refine ⟨_, rfl, ?_⟩))
 go_roundg k2
 case measure => have := HJ2.out; have := T0.out; omega
 case rel => exact ⟨(wrap64 (d0 + 1)), rs_, H', ⟨by have := HJ2.out; have := T0.out; omega⟩, ⟨bk_ a0⟩, ⟨bk_ c0⟩, ⟨bl_ HB⟩⟩}
 {
 obtain rfl := Option.some.inj H
 have O1 := h0.out
 have P1 := g0.out
 obtain ⟨q1, r1⟩ := e1_ c0
 have t0 : 0 ≤ (d0 : Int) := dm_
 have v0 : d0 < (b0.length : Int) := dm_
 obtain ⟨S0, C0, D0, F0, m0, n0, o0⟩ := at_L2 K0.out d0 t0 v0
 cases F0
 replace m0 := hc_ HB m0
 have w0 := a_ o0
 have y0 := a_ n0
 clear o0 n0
 replace t0 := eq_true t0
 replace v0 := eq_true v0
 go_wp2_with (first | ((with_reducible refine gate_callee (f := 43) rfl ?_); refine gL_ (some 29) Try.func43 #[.slice C0 (rd_L2 b0 d0).length D0] ?_; (with_reducible refine (psalteryref10_Fair.calls k2 _ _ (rd_L2 b0 d0) false _ ?side1 ?side2 U0.out).mono ?_); (case side1 => exact kC_ w0 HB); (case side2 => exact y0.out); rintro e w' ⟨rfl, ⟨nd, rfl⟩⟩; refine ⟨_, rfl, ?_⟩))
 go_ret
 exact ⟨er_, bl_ HB⟩}}
 {
 obtain rfl := Option.some.inj H
 have Q1 := h0.out
 have R1 := g0.out
 obtain ⟨s1, t1⟩ := e1_ c0
 go_wp2
 go_ret
 exact ⟨er_, bl_ HB⟩}))}))
def psalterylaw16_Great.f (c0 : Int) (d0 : Int) (a0 : List Int) (b0 : List Int) : Option (Bool) := if (a0.length : Int) > 200 then (some true) else (some (decide ((b0.length : Int) > 200)))
set_option maxHeartbeats 8000000 in
set_option maxRecDepth 100000 in
theorem psalterylaw16_Great.calls (c0 : Int) (d0 : Int) (e0 : Option Addr) (f0 : Nat) (a0 : List Int) (g0 : Option Addr) (h0 : Nat) (b0 : List Int) (r : Bool) (w : World) (hr0_2 : Kd.C (Kd.int .i64) w e0 a0.length a0) (hc0_2 : a0.length ≤ f0) (hr0_3 : Kd.C (Kd.int .i64) w g0 b0.length b0) (hc0_3 : b0.length ≤ h0) (h : psalterylaw16_Great.f c0 d0 a0 b0 = some r) :
    Calls Try.prog 29 #[.agg #[.int .i64 c0, .int .i64 d0, .slice e0 a0.length f0, .slice g0 b0.length h0]] w fun e w' => e = .returned (.bool r) ∧ Below w.heap.size w w' := by
 have K0 := Try.underlying24
 have G0 := a_ hr0_2
 have H0 := a_ hc0_2
 clear hr0_2 hc0_2
 have I0 := a_ hr0_3
 have J0 := a_ hc0_3
 clear hr0_3 hc0_3
 have HB := a_ (Below.refl w.heap.size w)
 have H : (if (a0.length : Int) > 200 then (some true) else (some (decide ((b0.length : Int) > 200)))) = some r := h
 clear h
 replace H := ii_ H
 rcases H with ⟨c2, H⟩ | ⟨c2, H⟩
 {
 have m0 : decide (200 < (a0.length : Int)) = true := decide_eq_true c2
 have n0 : decide (200 < a0.length) = true := decide_eq_true (by omega)
 clear c2
 obtain rfl := Option.some.inj H
 go_enter Try.func29, Try.ntmps29
 go_wp2_with (first | ((with_reducible refine gate_dst (N := 1) rfl ?_); (try (refine gate_guard (by rfl) ?_; dsimp only)); refine bx_ HB 1 #[.int .i64 c0, .int .i64 d0, .slice e0 a0.length f0, .slice g0 b0.length h0] 24 ?_; clear HB; intro k0 hg w3 hb i0 j0 HB; have l0 := j0; clear hb hg; obtain ⟨o0, p0, q0, r0, s0, t0, v0, w0⟩ := e4_ i0))
 go_ret
 exact ⟨er_, bl_ HB⟩}
 {
 have m0 : decide (200 < (a0.length : Int)) = false := decide_eq_false c2
 have n0 : decide (200 < a0.length) = false := decide_eq_false (by omega)
 clear c2
 obtain rfl := Option.some.inj H
 go_enter Try.func29, Try.ntmps29
 go_wp2_with (first | ((with_reducible refine gate_dst (N := 1) rfl ?_); (try (refine gate_guard (by rfl) ?_; dsimp only)); refine bx_ HB 1 #[.int .i64 c0, .int .i64 d0, .slice e0 a0.length f0, .slice g0 b0.length h0] 24 ?_; clear HB; intro k0 hg w5 hb i0 j0 HB; have l0 := j0; clear hb hg; obtain ⟨y0, z0, A0, B0, C0, D0, E0, F0⟩ := e4_ i0))
 go_ret
 exact ⟨er_, bl_ HB⟩}
end Go.Proofs.Ytdajlfijkbafiaa.P
