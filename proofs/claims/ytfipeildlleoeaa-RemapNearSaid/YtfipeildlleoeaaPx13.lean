-- PRINTED by print.py (a twelfth state) out of the translation. Not trusted: Lean checks it.
import Derived.Test.YtfipeildlleoeaaPx0
import Derived.Test.YtfipeildlleoeaaPx8
import Derived.Test.YtfipeildlleoeaaPx11
import Derived.Test.YtfipeildlleoeaaPx12
namespace Go.Proofs.Ytfipeildlleoeaa.P
open Go.RowKit Go.Proofs.YtfipeildlleoeaaW.PrintWords Go.Proofs.YtfipeildlleoeaaW.PrintLast Go.Proofs.YtfipeildlleoeaaW.PrintMore
attribute [local go_sem] max2_int min2_int max_two min_two max_three min_three max_four min_four   -- for this text's walks alone
set_option linter.unusedVariables false
set_option linter.unusedSimpArgs false

/-! ### psalterylaw21_knows: function 16 -/
def psalterylaw21_knows.f (k : Nat)  : Option (Bool) := if 16 ≤ 35184372088832 then ((some (List.replicate 16 0 : List Int)).bind fun y132 => (if 0 < (y132.length : Int) then (if 15 < (y132.length : Int) then ((psalterylaw21_all.f k 2).bind fun t137 => ((remap_Quantize.f k ((y132.set (0 : Int).toNat 5).set (15 : Int).toNat (-5)) t137).bind fun bt140 => ((psalterylaw21_all.f k 2).bind fun t144 => ((remap_Restore.f k bt140.1 t144).bind fun bt147 => (if bt140.2 = 0 then (if bt147.2 = 0 then (if (bt140.1.length : Int) = 16 then (if 0 < (bt140.1.length : Int) then (if (rd bt140.1 0) = 3 then (if 1 < (bt140.1.length : Int) then (if (rd bt140.1 1) = 0 then (if 15 < (bt140.1.length : Int) then (if (rd bt140.1 15) = (-3) then (if (bt147.1.length : Int) = 16 then (if 0 < (bt147.1.length : Int) then (if (rd bt147.1 0) = 6 then (if 15 < (bt147.1.length : Int) then (some ((rd bt147.1 15) == (-6))) else (none)) else (some false)) else (none)) else (some false)) else (some false)) else (none)) else (some false)) else (none)) else (some false)) else (none)) else (some false)) else (some false)) else (some false)))))) else (none)) else (none))) else (none)
theorem psalterylaw21_knows.mono : ∀ k, LeO (psalterylaw21_knows.f k ) (psalterylaw21_knows.f (k + 1) ) := by
  intro  k
  unfold psalterylaw21_knows.f
  repeat' first
      | (with_reducible exact psalterylaw21_all.mono _ _)
      | (with_reducible exact remap_Quantize.mono _ _ _)
      | (with_reducible exact remap_Restore.mono _ _ _)
      | (with_reducible exact LeO.refl _)
      | (with_reducible exact LeO.none _)
      | (with_reducible refine LeO.ite ?_ ?_)
      | (with_reducible refine LeO.bind ?_ (fun _ => ?_))
      | exact psalterylaw21_all.mono _ _
      | exact remap_Quantize.mono _ _ _
      | exact remap_Restore.mono _ _ _
      | exact LeO.none _
      | refine LeO.ite ?_ ?_
      | refine LeO.bind ?_ (fun _ => ?_)
set_option maxHeartbeats 8000000 in
set_option maxRecDepth 100000 in
theorem psalterylaw21_knows.callsT (k : Nat)  (r : Bool) (w : World) (h : psalterylaw21_knows.f k  = some r) (hT : r = true) :
    Calls Try.prog 16 #[] w fun e w' => e = .returned (.bool r) ∧ Below w.heap.size w w' := by
  have HB := Aside0.mk (Below.refl w.heap.size w)
  have H : (if 16 ≤ 35184372088832 then ((some (List.replicate 16 0 : List Int)).bind fun y132 => (if 0 < (y132.length : Int) then (if 15 < (y132.length : Int) then ((psalterylaw21_all.f k 2).bind fun t137 => ((remap_Quantize.f k ((y132.set (0 : Int).toNat 5).set (15 : Int).toNat (-5)) t137).bind fun bt140 => ((psalterylaw21_all.f k 2).bind fun t144 => ((remap_Restore.f k bt140.1 t144).bind fun bt147 => (if bt140.2 = 0 then (if bt147.2 = 0 then (if (bt140.1.length : Int) = 16 then (if 0 < (bt140.1.length : Int) then (if (rd bt140.1 0) = 3 then (if 1 < (bt140.1.length : Int) then (if (rd bt140.1 1) = 0 then (if 15 < (bt140.1.length : Int) then (if (rd bt140.1 15) = (-3) then (if (bt147.1.length : Int) = 16 then (if 0 < (bt147.1.length : Int) then (if (rd bt147.1 0) = 6 then (if 15 < (bt147.1.length : Int) then (some ((rd bt147.1 15) == (-6))) else (none)) else (some false)) else (none)) else (some false)) else (some false)) else (none)) else (some false)) else (none)) else (some false)) else (none)) else (some false)) else (some false)) else (some false)))))) else (none)) else (none))) else (none)) = some r := h
  clear h
  have HT := Aside0.mk hT
  clear hT
  by_cases c1 : 16 ≤ 35184372088832
  · rw [if_pos c1] at H
    have c1b0 := eq_true c1
    have c1b1 : decide (16 ≤ 35184372088832) = true := decide_eq_true c1
    clear c1
    obtain ⟨y132, hy132⟩ : ∃ y_ : List Int, y_ = (List.replicate 16 0) := ⟨_, rfl⟩
    replace H : (if 0 < (y132.length : Int) then (if 15 < (y132.length : Int) then ((psalterylaw21_all.f k 2).bind fun t137 => ((remap_Quantize.f k ((y132.set (0 : Int).toNat 5).set (15 : Int).toNat (-5)) t137).bind fun bt140 => ((psalterylaw21_all.f k 2).bind fun t144 => ((remap_Restore.f k bt140.1 t144).bind fun bt147 => (if bt140.2 = 0 then (if bt147.2 = 0 then (if (bt140.1.length : Int) = 16 then (if 0 < (bt140.1.length : Int) then (if (rd bt140.1 0) = 3 then (if 1 < (bt140.1.length : Int) then (if (rd bt140.1 1) = 0 then (if 15 < (bt140.1.length : Int) then (if (rd bt140.1 15) = (-3) then (if (bt147.1.length : Int) = 16 then (if 0 < (bt147.1.length : Int) then (if (rd bt147.1 0) = 6 then (if 15 < (bt147.1.length : Int) then (some ((rd bt147.1 15) == (-6))) else (none)) else (some false)) else (none)) else (some false)) else (some false)) else (none)) else (some false)) else (none)) else (some false)) else (none)) else (some false)) else (some false)) else (some false)))))) else (none)) else (none)) = some r := by first | (rw [hy132]; with_reducible exact H) | (have H2_ := (Option.bind_some _ _).symm.trans H; rw [hy132]; with_reducible exact H2_) | (have H2_ := (Option.bind_some _ _).symm.trans H; with_reducible exact H2_) | with_reducible exact H | (rw [hy132]; exact H) | exact H
    have Ny132 := Aside0.mk hy132
    clear hy132
    by_cases c2 : 0 < (y132.length : Int)
    · rw [if_pos c2] at H
      have c2b0 : decide (0 < (y132.length : Int)) = true := decide_eq_true c2
      have c2b1 : decide (0 < y132.length) = true := decide_eq_true (by omega)
      clear c2
      obtain ⟨y135, hy135⟩ : ∃ y_ : List Int, y_ = (y132.set (0 : Int).toNat 5) := ⟨_, rfl⟩
      replace H : (if 15 < (y132.length : Int) then ((psalterylaw21_all.f k 2).bind fun t137 => ((remap_Quantize.f k (y135.set (15 : Int).toNat (-5)) t137).bind fun bt140 => ((psalterylaw21_all.f k 2).bind fun t144 => ((remap_Restore.f k bt140.1 t144).bind fun bt147 => (if bt140.2 = 0 then (if bt147.2 = 0 then (if (bt140.1.length : Int) = 16 then (if 0 < (bt140.1.length : Int) then (if (rd bt140.1 0) = 3 then (if 1 < (bt140.1.length : Int) then (if (rd bt140.1 1) = 0 then (if 15 < (bt140.1.length : Int) then (if (rd bt140.1 15) = (-3) then (if (bt147.1.length : Int) = 16 then (if 0 < (bt147.1.length : Int) then (if (rd bt147.1 0) = 6 then (if 15 < (bt147.1.length : Int) then (some ((rd bt147.1 15) == (-6))) else (none)) else (some false)) else (none)) else (some false)) else (some false)) else (none)) else (some false)) else (none)) else (some false)) else (none)) else (some false)) else (some false)) else (some false)))))) else (none)) = some r := by first | (rw [hy135]; with_reducible exact H) | (have H2_ := (Option.bind_some _ _).symm.trans H; rw [hy135]; with_reducible exact H2_) | (have H2_ := (Option.bind_some _ _).symm.trans H; with_reducible exact H2_) | with_reducible exact H | (rw [hy135]; exact H) | exact H
      have Ny135 := Aside0.mk hy135
      clear hy135
      by_cases c4 : 15 < (y132.length : Int)
      · rw [if_pos c4] at H
        have c4b0 : decide (15 < (y132.length : Int)) = true := decide_eq_true c4
        have c4b1 : decide (15 < y132.length) = true := decide_eq_true (by omega)
        clear c4
        obtain ⟨y136, hy136⟩ : ∃ y_ : List Int, y_ = (y135.set (15 : Int).toNat (-5)) := ⟨_, rfl⟩
        replace H : ((psalterylaw21_all.f k 2).bind fun t137 => ((remap_Quantize.f k y136 t137).bind fun bt140 => ((psalterylaw21_all.f k 2).bind fun t144 => ((remap_Restore.f k bt140.1 t144).bind fun bt147 => (if bt140.2 = 0 then (if bt147.2 = 0 then (if (bt140.1.length : Int) = 16 then (if 0 < (bt140.1.length : Int) then (if (rd bt140.1 0) = 3 then (if 1 < (bt140.1.length : Int) then (if (rd bt140.1 1) = 0 then (if 15 < (bt140.1.length : Int) then (if (rd bt140.1 15) = (-3) then (if (bt147.1.length : Int) = 16 then (if 0 < (bt147.1.length : Int) then (if (rd bt147.1 0) = 6 then (if 15 < (bt147.1.length : Int) then (some ((rd bt147.1 15) == (-6))) else (none)) else (some false)) else (none)) else (some false)) else (some false)) else (none)) else (some false)) else (none)) else (some false)) else (none)) else (some false)) else (some false)) else (some false)))))) = some r := by first | (rw [hy136]; with_reducible exact H) | (have H2_ := (Option.bind_some _ _).symm.trans H; rw [hy136]; with_reducible exact H2_) | (have H2_ := (Option.bind_some _ _).symm.trans H; with_reducible exact H2_) | with_reducible exact H | (rw [hy136]; exact H) | exact H
        have Ny136 := Aside0.mk hy136
        clear hy136
        replace H := Option.bind_eq_some_iff.mp H
        obtain ⟨t137, A60, H⟩ := H
        replace H : ((remap_Quantize.f k y136 t137).bind fun bt140 => ((psalterylaw21_all.f k 2).bind fun t144 => ((remap_Restore.f k bt140.1 t144).bind fun bt147 => (if bt140.2 = 0 then (if bt147.2 = 0 then (if (bt140.1.length : Int) = 16 then (if 0 < (bt140.1.length : Int) then (if (rd bt140.1 0) = 3 then (if 1 < (bt140.1.length : Int) then (if (rd bt140.1 1) = 0 then (if 15 < (bt140.1.length : Int) then (if (rd bt140.1 15) = (-3) then (if (bt147.1.length : Int) = 16 then (if 0 < (bt147.1.length : Int) then (if (rd bt147.1 0) = 6 then (if 15 < (bt147.1.length : Int) then (some ((rd bt147.1 15) == (-6))) else (none)) else (some false)) else (none)) else (some false)) else (some false)) else (none)) else (some false)) else (none)) else (some false)) else (none)) else (some false)) else (some false)) else (some false))))) = some r := H
        have A6 := Aside0.mk A60
        clear A60
        replace H := Option.bind_eq_some_iff.mp H
        obtain ⟨⟨t140, t141⟩, A70, H⟩ := H
        replace H : ((psalterylaw21_all.f k 2).bind fun t144 => ((remap_Restore.f k t140 t144).bind fun bt147 => (if t141 = 0 then (if bt147.2 = 0 then (if (t140.length : Int) = 16 then (if 0 < (t140.length : Int) then (if (rd t140 0) = 3 then (if 1 < (t140.length : Int) then (if (rd t140 1) = 0 then (if 15 < (t140.length : Int) then (if (rd t140 15) = (-3) then (if (bt147.1.length : Int) = 16 then (if 0 < (bt147.1.length : Int) then (if (rd bt147.1 0) = 6 then (if 15 < (bt147.1.length : Int) then (some ((rd bt147.1 15) == (-6))) else (none)) else (some false)) else (none)) else (some false)) else (some false)) else (none)) else (some false)) else (none)) else (some false)) else (none)) else (some false)) else (some false)) else (some false)))) = some r := H
        have A7 := Aside0.mk A70
        clear A70
        replace H := Option.bind_eq_some_iff.mp H
        obtain ⟨t144, A80, H⟩ := H
        replace H : ((remap_Restore.f k t140 t144).bind fun bt147 => (if t141 = 0 then (if bt147.2 = 0 then (if (t140.length : Int) = 16 then (if 0 < (t140.length : Int) then (if (rd t140 0) = 3 then (if 1 < (t140.length : Int) then (if (rd t140 1) = 0 then (if 15 < (t140.length : Int) then (if (rd t140 15) = (-3) then (if (bt147.1.length : Int) = 16 then (if 0 < (bt147.1.length : Int) then (if (rd bt147.1 0) = 6 then (if 15 < (bt147.1.length : Int) then (some ((rd bt147.1 15) == (-6))) else (none)) else (some false)) else (none)) else (some false)) else (some false)) else (none)) else (some false)) else (none)) else (some false)) else (none)) else (some false)) else (some false)) else (some false))) = some r := H
        have A8 := Aside0.mk A80
        clear A80
        replace H := Option.bind_eq_some_iff.mp H
        obtain ⟨⟨t147, t148⟩, A90, H⟩ := H
        replace H : (if t141 = 0 then (if t148 = 0 then (if (t140.length : Int) = 16 then (if 0 < (t140.length : Int) then (if (rd t140 0) = 3 then (if 1 < (t140.length : Int) then (if (rd t140 1) = 0 then (if 15 < (t140.length : Int) then (if (rd t140 15) = (-3) then (if (t147.length : Int) = 16 then (if 0 < (t147.length : Int) then (if (rd t147 0) = 6 then (if 15 < (t147.length : Int) then (some ((rd t147 15) == (-6))) else (none)) else (some false)) else (none)) else (some false)) else (some false)) else (none)) else (some false)) else (none)) else (some false)) else (none)) else (some false)) else (some false)) else (some false)) = some r := H
        have A9 := Aside0.mk A90
        clear A90
        by_cases c10 : t141 = 0
        · rw [if_pos c10] at H
          have c10b0 : (t141 == 0) = true := beq_iff_eq.mpr c10
          have c10b1 : (t141 != 0) = false := bne_eq_false_iff_eq.mpr c10
          clear c10
          by_cases c11 : t148 = 0
          · rw [if_pos c11] at H
            have c11b0 : (t148 == 0) = true := beq_iff_eq.mpr c11
            have c11b1 : (t148 != 0) = false := bne_eq_false_iff_eq.mpr c11
            clear c11
            by_cases c12 : (t140.length : Int) = 16
            · rw [if_pos c12] at H
              have c12b0 : ((t140.length : Int) == 16) = true := beq_iff_eq.mpr c12
              have c12b1 : ((t140.length : Int) != 16) = false := bne_eq_false_iff_eq.mpr c12
              clear c12
              by_cases c13 : 0 < (t140.length : Int)
              · rw [if_pos c13] at H
                have c13b0 : decide (0 < (t140.length : Int)) = true := decide_eq_true c13
                have c13b1 : decide (0 < t140.length) = true := decide_eq_true (by omega)
                clear c13
                by_cases c14 : (rd t140 0) = 3
                · rw [if_pos c14] at H
                  have c14b0 : ((rd t140 0) == 3) = true := beq_iff_eq.mpr c14
                  have c14b1 : ((rd t140 0) != 3) = false := bne_eq_false_iff_eq.mpr c14
                  clear c14
                  by_cases c15 : 1 < (t140.length : Int)
                  · rw [if_pos c15] at H
                    have c15b0 : decide (1 < (t140.length : Int)) = true := decide_eq_true c15
                    have c15b1 : decide (1 < t140.length) = true := decide_eq_true (by omega)
                    clear c15
                    by_cases c16 : (rd t140 1) = 0
                    · rw [if_pos c16] at H
                      have c16b0 : ((rd t140 1) == 0) = true := beq_iff_eq.mpr c16
                      have c16b1 : ((rd t140 1) != 0) = false := bne_eq_false_iff_eq.mpr c16
                      clear c16
                      by_cases c17 : 15 < (t140.length : Int)
                      · rw [if_pos c17] at H
                        have c17b0 : decide (15 < (t140.length : Int)) = true := decide_eq_true c17
                        have c17b1 : decide (15 < t140.length) = true := decide_eq_true (by omega)
                        clear c17
                        by_cases c18 : (rd t140 15) = (-3)
                        · rw [if_pos c18] at H
                          have c18b0 : ((rd t140 15) == (-3)) = true := beq_iff_eq.mpr c18
                          have c18b1 : ((rd t140 15) != (-3)) = false := bne_eq_false_iff_eq.mpr c18
                          clear c18
                          by_cases c19 : (t147.length : Int) = 16
                          · rw [if_pos c19] at H
                            have c19b0 : ((t147.length : Int) == 16) = true := beq_iff_eq.mpr c19
                            have c19b1 : ((t147.length : Int) != 16) = false := bne_eq_false_iff_eq.mpr c19
                            clear c19
                            by_cases c20 : 0 < (t147.length : Int)
                            · rw [if_pos c20] at H
                              have c20b0 : decide (0 < (t147.length : Int)) = true := decide_eq_true c20
                              have c20b1 : decide (0 < t147.length) = true := decide_eq_true (by omega)
                              clear c20
                              by_cases c21 : (rd t147 0) = 6
                              · rw [if_pos c21] at H
                                have c21b0 : ((rd t147 0) == 6) = true := beq_iff_eq.mpr c21
                                have c21b1 : ((rd t147 0) != 6) = false := bne_eq_false_iff_eq.mpr c21
                                clear c21
                                by_cases c22 : 15 < (t147.length : Int)
                                · rw [if_pos c22] at H
                                  have c22b0 : decide (15 < (t147.length : Int)) = true := decide_eq_true c22
                                  have c22b1 : decide (15 < t147.length) = true := decide_eq_true (by omega)
                                  clear c22
                                  obtain rfl := Option.some.inj H
                                  go_enter Try.func16, Try.ntmps16
                                  go_wp2_with (first | ((with_reducible refine gate_dst (N := 6) rfl ?_); (try (refine gate_guard (by rfl) ?_; dsimp only)); refine Kd.R_make (Kd.int .i64) _ 2 rfl (N := 6) rfl 22 _ _ rfl 16 rfl rfl Try.underlying22 (.int .i64 0) 8 info2 rfl (by decide) (by omega) 0 (ok := fun _ => True) (okp := fun _ => True) rfl (fun _ hk => hk) trivial (by omega) (by omega) (Below.refl _ _) (Nat.le_refl _) ?_; intro v133 w23 ho24 hb hg_ hnew_; clear hg_ hnew_; (first | rw [← Ny132.out] at ho24 | (simp only [Int.reduceToNat] at ho24; rw [← Ny132.out] at ho24)); have n0_ := Aside0.mk (Kd.R_lower ho24 (below_size (by repeat (first | (with_reducible first | exact HB.out | apply below_alloc | apply pw_below_drewN | apply below_drew1) | exact HB.out)))); have n1_ := Aside0.mk (below_step (by repeat (first | (with_reducible first | exact HB.out | apply below_alloc | apply pw_below_drewN | apply below_drew1) | exact HB.out)) hb); clear HB; have HO134 := n0_; have HB := n1_; clear n0_ n1_; clear hb ho24; have p3 : 0 ≤ (0 : Int) := (by omega); have q3 : (0 : Int) < ((y132.length : Int) : Int) := of_decide_eq_true (by first | (with_reducible assumption) | assumption); have qi3 : (0 < y132.length) = True := eq_true (by omega); obtain ⟨go3, co3, eo3, gb3, gl3, cl3, HG3⟩ := Kd.R_form HO134.out (by omega); (first | cases eo3 | (injection eo3 with ea_ en_ ec_; (first | subst ea_ | (injection ea_ with ea_; subst ea_)); subst ec_; clear en_)); have GB3 := Aside0.mk gb3; have GG3 := Aside0.mk HG3; clear gb3 gl3 HG3; obtain ⟨hx3_0, hf3_0⟩ := Kd.R_celln 0 HO134.out (0 : Int) p3 q3; (try rw [show ((0 : Int)).toNat = 0 from rfl] at hx3_0); (try simp only [Nat.reduceMul, Nat.zero_mul, Nat.zero_add, Nat.reduceAdd] at hx3_0); (try rw [show ((0 : Int)).toNat = 0 from rfl] at hf3_0); (try simp only [Nat.reduceMul, Nat.zero_mul, Nat.zero_add, Nat.reduceAdd] at hf3_0); replace p3 := eq_true p3; replace q3 := eq_true q3; obtain ⟨hy25_, hz25_⟩ := Kd.R_celln 0 HO134.out (0 : Int) (by omega) (of_decide_eq_true (by first | (with_reducible assumption) | assumption)); (try simp only [Int.reduceToNat, Int.toNat_zero, Int.toNat_ofNat, Nat.reduceMul, Nat.zero_mul, Nat.zero_add] at hy25_ hz25_); (try rw [show ((0 : Int)).toNat = 0 from rfl] at hy25_); (try rw [show ((0 : Int)).toNat = 0 from rfl] at hz25_); have HP25 := Kd.R_putg HO134.out (0 : Int) 5) | ((with_reducible refine gate_store (t := 2) (p := 9) rfl ?_); refine store_event (t := 2) (p := 9) (v := ?vo_w26) (w1 := (w23.setCell ⟨go3, (0 : Int).toNat, none⟩ (.int .i64 5))) ?hg ?ho ?hn ?hr ?_; (case ho => rfl); (case hg => rfl); (case hn => rfl); (case hr => first | (go_simp; done) | (go_simp; rfl)); intro w26 hw; have hg : w23.grownBy w26 (some go3) := (by rw [hw]; exact HP25.2); have hp_ : Kd.R (Kd.int .i64) 2 w26 w.heap.size (fun _ => True) (.slice (some ⟨go3, 0, none⟩) y132.length co3) y135 := (by rw [hw, Ny135.out]; exact HP25.1); clear HP25; have n0_ := Aside0.mk (hp_); have n1_ := Aside0.mk ((by rw [hw]; exact below_set (HB.out) GB3.out : Below w.heap.size w w26)); clear HO134; clear HB; have HO134 := n0_; have HB := n1_; clear n0_ n1_; clear hg hw hp_; have p5 : 0 ≤ (15 : Int) := (by omega); have q5 : (15 : Int) < ((y132.length : Int) : Int) := of_decide_eq_true (by first | (with_reducible assumption) | assumption); have qi5 : (15 < y132.length) = True := eq_true (by omega); obtain ⟨hx5_0, hf5_0⟩ := Kd.R_celln 0 HO134.out (15 : Int) p5 q5; (try rw [show ((15 : Int)).toNat = 15 from rfl] at hx5_0); (try simp only [Nat.reduceMul, Nat.zero_mul, Nat.zero_add, Nat.reduceAdd] at hx5_0); (try rw [show ((15 : Int)).toNat = 15 from rfl] at hf5_0); (try simp only [Nat.reduceMul, Nat.zero_mul, Nat.zero_add, Nat.reduceAdd] at hf5_0); replace p5 := eq_true p5; replace q5 := eq_true q5; obtain ⟨hy27_, hz27_⟩ := Kd.R_celln 0 HO134.out (15 : Int) (by omega) (of_decide_eq_true (by first | (with_reducible assumption) | assumption)); (try simp only [Int.reduceToNat, Int.toNat_zero, Int.toNat_ofNat, Nat.reduceMul, Nat.zero_mul, Nat.zero_add] at hy27_ hz27_); (try rw [show ((15 : Int)).toNat = 15 from rfl] at hy27_); (try rw [show ((15 : Int)).toNat = 15 from rfl] at hz27_); have HP27 := Kd.R_putg HO134.out (15 : Int) (-5)) | ((with_reducible refine gate_store (t := 2) (p := 10) rfl ?_); refine store_event (t := 2) (p := 10) (v := ?vo_w28) (w1 := (w26.setCell ⟨go3, (15 : Int).toNat, none⟩ (.int .i64 (-5)))) ?hg ?ho ?hn ?hr ?_; (case ho => rfl); (case hg => rfl); (case hn => rfl); (case hr => first | (go_simp; done) | (go_simp; rfl)); intro w28 hw; have hg : w26.grownBy w28 (some go3) := (by rw [hw]; exact HP27.2); have hp_ : Kd.R (Kd.int .i64) 2 w28 w.heap.size (fun _ => True) (.slice (some ⟨go3, 0, none⟩) y132.length co3) y136 := (by rw [hw, Ny136.out]; exact HP27.1); clear HP27; have n0_ := Aside0.mk (hp_); have n1_ := Aside0.mk ((by rw [hw]; exact below_set (HB.out) GB3.out : Below w.heap.size w w28)); clear HO134; clear HB; have HO134 := n0_; have HB := n1_; clear n0_ n1_; clear hg hw hp_) | ((with_reducible refine gate_callee (f := 23) rfl ?_); refine goesL_ (some 13) rfl rfl Try.func23 (by kernel_rfl) rfl #[.int .i64 2] rfl (by (try simp only [List.map_toArray, List.map_cons, List.map_nil]); first | done | rfl | (simp only [List.length_drop, List.length_take]; rfl)) ?_; (with_reducible refine (psalterylaw21_all.calls k 2 t137 _ A6.out).mono ?_); rintro e w29 ⟨v138, rfl, ho0, hb⟩; refine ⟨_, rfl, ?_⟩; have n0_ := Aside0.mk (Kd.R_elder' (by (with_reducible repeat (first | apply Kd.R_alloc | apply Kd.R_drewN | apply Kd.R_drew)); exact HO134.out) (Kd.R_base ho0) hb); have n1_ := Aside0.mk (Kd.R_lower (Kd.R_new' ho0 (Kd.R_lt (by (with_reducible repeat (first | apply Kd.R_alloc | apply Kd.R_drewN | apply Kd.R_drew)); exact HO134.out))) (below_size (by repeat (first | (with_reducible first | exact HB.out | apply below_alloc | apply pw_below_drewN | apply below_drew1) | exact HB.out)))); have n2_ := Aside0.mk (below_step (by repeat (first | (with_reducible first | exact HB.out | apply below_alloc | apply pw_below_drewN | apply below_drew1) | exact HB.out)) hb); clear HO134; clear HB; have HO134 := n0_; have HO139 := n1_; have HB := n2_; clear n0_ n1_ n2_; (try clear hb); (try clear hb2); (try clear hk); (try clear hi); (try clear ho0); obtain ⟨Ao30, co30, eo30⟩ := Kd.R_slice HO139.out; subst eo30) | ((with_reducible refine gate_callee (f := 17) rfl ?_); refine goesL_ (some 14) rfl rfl Try.func17 (by kernel_rfl) rfl #[.slice (some ⟨go3, 0, none⟩) y136.length co3, .slice Ao30 t137.length co30] rfl (by (try simp only [List.map_toArray, List.map_cons, List.map_nil]); first | done | (rw [show y136.length = y132.length from (Kd.R_reads' HO134.out).1.symm] <;> rfl) | rfl | (simp only [List.length_drop, List.length_take]; rfl)) ?_; (with_reducible refine (remap_Quantize.calls k _ _ y136 _ _ t137 t140 t141 _ ?side1 ?side2 ?side3 ?side4 A7.out).mono ?_); (case side1 => repeat (first | exact (Kd.R_reads' HO134.out).2.2 | (with_reducible refine Kd.C_alloc ?_ _) | (with_reducible refine Kd.C_drewN ?_ _) | (with_reducible refine Kd.C_drew ?_))); (case side2 => rw [show y136.length = y132.length from (Kd.R_reads' HO134.out).1.symm]; exact (Kd.R_reads' HO134.out).2.1); (case side3 => repeat (first | exact (Kd.R_reads' HO139.out).2.2 | (with_reducible refine Kd.C_alloc ?_ _) | (with_reducible refine Kd.C_drewN ?_ _) | (with_reducible refine Kd.C_drew ?_))); (case side4 => exact (Kd.R_reads' HO139.out).2.1); rintro e w31 ⟨v142, rfl, ho0, hb⟩; refine ⟨_, rfl, ?_⟩; have n0_ := Aside0.mk (Kd.R_elder' (by (with_reducible repeat (first | apply Kd.R_alloc | apply Kd.R_drewN | apply Kd.R_drew)); exact HO134.out) (Kd.R_base ho0) hb); have n1_ := Aside0.mk (Kd.R_elder' (by (with_reducible repeat (first | apply Kd.R_alloc | apply Kd.R_drewN | apply Kd.R_drew)); exact HO139.out) (Kd.R_base ho0) hb); have n2_ := Aside0.mk (Kd.R_lower (Kd.R_new' (Kd.R_new' ho0 (Kd.R_lt (by (with_reducible repeat (first | apply Kd.R_alloc | apply Kd.R_drewN | apply Kd.R_drew)); exact HO134.out))) (Kd.R_lt (by (with_reducible repeat (first | apply Kd.R_alloc | apply Kd.R_drewN | apply Kd.R_drew)); exact HO139.out))) (below_size (by repeat (first | (with_reducible first | exact HB.out | apply below_alloc | apply pw_below_drewN | apply below_drew1) | exact HB.out)))); have n3_ := Aside0.mk (below_step (by repeat (first | (with_reducible first | exact HB.out | apply below_alloc | apply pw_below_drewN | apply below_drew1) | exact HB.out)) hb); clear HO134; clear HO139; clear HB; have HO134 := n0_; have HO139 := n1_; have HO143 := n2_; have HB := n3_; clear n0_ n1_ n2_ n3_; (try clear hb); (try clear hb2); (try clear hk); (try clear hi); (try clear ho0)) | ((with_reducible refine gate_callee (f := 23) rfl ?_); refine goesL_ (some 19) rfl rfl Try.func23 (by kernel_rfl) rfl #[.int .i64 2] rfl (by (try simp only [List.map_toArray, List.map_cons, List.map_nil]); first | done | rfl | (simp only [List.length_drop, List.length_take]; rfl)) ?_; (with_reducible refine (psalterylaw21_all.calls k 2 t144 _ A8.out).mono ?_); rintro e w32 ⟨v145, rfl, ho0, hb⟩; refine ⟨_, rfl, ?_⟩; have n0_ := Aside0.mk (Kd.R_elder' (by (with_reducible repeat (first | apply Kd.R_alloc | apply Kd.R_drewN | apply Kd.R_drew)); exact HO134.out) (Kd.R_base ho0) hb); have n1_ := Aside0.mk (Kd.R_elder' (by (with_reducible repeat (first | apply Kd.R_alloc | apply Kd.R_drewN | apply Kd.R_drew)); exact HO139.out) (Kd.R_base ho0) hb); have n2_ := Aside0.mk (Kd.R_elder' (by (with_reducible repeat (first | apply Kd.R_alloc | apply Kd.R_drewN | apply Kd.R_drew)); exact HO143.out) (Kd.R_base ho0) hb); have n3_ := Aside0.mk (Kd.R_lower (Kd.R_new' (Kd.R_new' (Kd.R_new' ho0 (Kd.R_lt (by (with_reducible repeat (first | apply Kd.R_alloc | apply Kd.R_drewN | apply Kd.R_drew)); exact HO134.out))) (Kd.R_lt (by (with_reducible repeat (first | apply Kd.R_alloc | apply Kd.R_drewN | apply Kd.R_drew)); exact HO139.out))) (Kd.R_lt (by (with_reducible repeat (first | apply Kd.R_alloc | apply Kd.R_drewN | apply Kd.R_drew)); exact HO143.out))) (below_size (by repeat (first | (with_reducible first | exact HB.out | apply below_alloc | apply pw_below_drewN | apply below_drew1) | exact HB.out)))); have n4_ := Aside0.mk (below_step (by repeat (first | (with_reducible first | exact HB.out | apply below_alloc | apply pw_below_drewN | apply below_drew1) | exact HB.out)) hb); clear HO134; clear HO139; clear HO143; clear HB; have HO134 := n0_; have HO139 := n1_; have HO143 := n2_; have HO146 := n3_; have HB := n4_; clear n0_ n1_ n2_ n3_ n4_; (try clear hb); (try clear hb2); (try clear hk); (try clear hi); (try clear ho0); obtain ⟨Ao33, co33, eo33⟩ := Kd.R_slice HO143.out; subst eo33; obtain ⟨Ao34, co34, eo34⟩ := Kd.R_slice HO146.out; subst eo34) | ((with_reducible refine gate_callee (f := 21) rfl ?_); refine goesL_ (some 20) rfl rfl Try.func21 (by kernel_rfl) rfl #[.slice Ao33 t140.length co33, .slice Ao34 t144.length co34] rfl (by (try simp only [List.map_toArray, List.map_cons, List.map_nil]); first | done | rfl | (simp only [List.length_drop, List.length_take]; rfl)) ?_; (with_reducible refine (remap_Restore.calls k _ _ t140 _ _ t144 t147 t148 _ ?side1 ?side2 ?side3 ?side4 A9.out).mono ?_); (case side1 => repeat (first | exact (Kd.R_reads' HO143.out).2.2 | (with_reducible refine Kd.C_alloc ?_ _) | (with_reducible refine Kd.C_drewN ?_ _) | (with_reducible refine Kd.C_drew ?_))); (case side2 => exact (Kd.R_reads' HO143.out).2.1); (case side3 => repeat (first | exact (Kd.R_reads' HO146.out).2.2 | (with_reducible refine Kd.C_alloc ?_ _) | (with_reducible refine Kd.C_drewN ?_ _) | (with_reducible refine Kd.C_drew ?_))); (case side4 => exact (Kd.R_reads' HO146.out).2.1); rintro e w35 ⟨v149, rfl, ho0, hb⟩; refine ⟨_, rfl, ?_⟩; have n0_ := Aside0.mk (Kd.R_elder' (by (with_reducible repeat (first | apply Kd.R_alloc | apply Kd.R_drewN | apply Kd.R_drew)); exact HO134.out) (Kd.R_base ho0) hb); have n1_ := Aside0.mk (Kd.R_elder' (by (with_reducible repeat (first | apply Kd.R_alloc | apply Kd.R_drewN | apply Kd.R_drew)); exact HO139.out) (Kd.R_base ho0) hb); have n2_ := Aside0.mk (Kd.R_elder' (by (with_reducible repeat (first | apply Kd.R_alloc | apply Kd.R_drewN | apply Kd.R_drew)); exact HO143.out) (Kd.R_base ho0) hb); have n3_ := Aside0.mk (Kd.R_elder' (by (with_reducible repeat (first | apply Kd.R_alloc | apply Kd.R_drewN | apply Kd.R_drew)); exact HO146.out) (Kd.R_base ho0) hb); have n4_ := Aside0.mk (Kd.R_lower (Kd.R_new' (Kd.R_new' (Kd.R_new' (Kd.R_new' ho0 (Kd.R_lt (by (with_reducible repeat (first | apply Kd.R_alloc | apply Kd.R_drewN | apply Kd.R_drew)); exact HO134.out))) (Kd.R_lt (by (with_reducible repeat (first | apply Kd.R_alloc | apply Kd.R_drewN | apply Kd.R_drew)); exact HO139.out))) (Kd.R_lt (by (with_reducible repeat (first | apply Kd.R_alloc | apply Kd.R_drewN | apply Kd.R_drew)); exact HO143.out))) (Kd.R_lt (by (with_reducible repeat (first | apply Kd.R_alloc | apply Kd.R_drewN | apply Kd.R_drew)); exact HO146.out))) (below_size (by repeat (first | (with_reducible first | exact HB.out | apply below_alloc | apply pw_below_drewN | apply below_drew1) | exact HB.out)))); have n5_ := Aside0.mk (below_step (by repeat (first | (with_reducible first | exact HB.out | apply below_alloc | apply pw_below_drewN | apply below_drew1) | exact HB.out)) hb); clear HO134; clear HO139; clear HO143; clear HO146; clear HB; have HO134 := n0_; have HO139 := n1_; have HO143 := n2_; have HO146 := n3_; have HO150 := n4_; have HB := n5_; clear n0_ n1_ n2_ n3_ n4_ n5_; (try clear hb); (try clear hb2); (try clear hk); (try clear hi); (try clear ho0); have p151 : 0 ≤ (0 : Int) := (by omega); have q151 : 0 < (t140.length : Int) := of_decide_eq_true (by first | (with_reducible assumption) | assumption); obtain ⟨ad151, e151, hx151_0⟩ := Kd.at_int (Kd.R_reads' HO143.out).2.2 0 p151 q151; cases e151; have qi151 : (0 < t140.length) = True := eq_true (by omega); (try rw [show ((0 : Int)).toNat = 0 from rfl] at hx151_0); (try rw [Addr.add_zero'] at hx151_0); replace p151 := eq_true p151; replace q151 := eq_true q151; have p152 : 0 ≤ (1 : Int) := (by omega); have q152 : 1 < (t140.length : Int) := of_decide_eq_true (by first | (with_reducible assumption) | assumption); obtain ⟨ad152, e152, hx152_0⟩ := Kd.at_int (Kd.R_reads' HO143.out).2.2 1 p152 q152; obtain rfl : ad151 = ad152 := (by injection e152); (try simp only [show (1 : Int).toNat = 1 from rfl, Nat.reduceMul, Nat.reduceEqDiff, Go.Addr.add, ↓reduceIte] at hx152_0); have qi152 : (1 < t140.length) = True := eq_true (by omega); (try rw [show ((1 : Int)).toNat = 1 from rfl] at hx152_0); replace p152 := eq_true p152; replace q152 := eq_true q152; have p153 : 0 ≤ (15 : Int) := (by omega); have q153 : 15 < (t140.length : Int) := of_decide_eq_true (by first | (with_reducible assumption) | assumption); obtain ⟨ad153, e153, hx153_0⟩ := Kd.at_int (Kd.R_reads' HO143.out).2.2 15 p153 q153; obtain rfl : ad151 = ad153 := (by injection e153); (try simp only [show (15 : Int).toNat = 15 from rfl, Nat.reduceMul, Nat.reduceEqDiff, Go.Addr.add, ↓reduceIte] at hx153_0); have qi153 : (15 < t140.length) = True := eq_true (by omega); (try rw [show ((15 : Int)).toNat = 15 from rfl] at hx153_0); replace p153 := eq_true p153; replace q153 := eq_true q153; obtain ⟨Ao36, co36, eo36⟩ := Kd.R_slice HO150.out; subst eo36; have p154 : 0 ≤ (0 : Int) := (by omega); have q154 : 0 < (t147.length : Int) := of_decide_eq_true (by first | (with_reducible assumption) | assumption); obtain ⟨ad154, e154, hx154_0⟩ := Kd.at_int (Kd.R_reads' HO150.out).2.2 0 p154 q154; cases e154; have qi154 : (0 < t147.length) = True := eq_true (by omega); (try rw [show ((0 : Int)).toNat = 0 from rfl] at hx154_0); (try rw [Addr.add_zero'] at hx154_0); replace p154 := eq_true p154; replace q154 := eq_true q154; have p155 : 0 ≤ (15 : Int) := (by omega); have q155 : 15 < (t147.length : Int) := of_decide_eq_true (by first | (with_reducible assumption) | assumption); obtain ⟨ad155, e155, hx155_0⟩ := Kd.at_int (Kd.R_reads' HO150.out).2.2 15 p155 q155; obtain rfl : ad154 = ad155 := (by injection e155); (try simp only [show (15 : Int).toNat = 15 from rfl, Nat.reduceMul, Nat.reduceEqDiff, Go.Addr.add, ↓reduceIte] at hx155_0); have qi155 : (15 < t147.length) = True := eq_true (by omega); (try rw [show ((15 : Int)).toNat = 15 from rfl] at hx155_0); replace p155 := eq_true p155; replace q155 := eq_true q155))
                                  go_ret
                                  exact ⟨by first | rfl | (simp [errW_none, errW_some] <;> rfl) | (simp [*, errW_none, errW_some] <;> rfl), by repeat (first | (with_reducible first | exact HB.out | apply below_alloc | apply pw_below_drewN | apply below_drew1) | exact HB.out)⟩
                                · rw [if_neg c22] at H
                                  exact absurd H (by simp)
                              · rw [if_neg c21] at H
                                have c21b0 : ((rd t147 0) == 6) = false := beq_eq_false_iff_ne.mpr c21
                                have c21b1 : ((rd t147 0) != 6) = true := bne_iff_ne.mpr c21
                                exact absurd ((Option.some.inj H).trans HT.out) (by decide)
                            · rw [if_neg c20] at H
                              exact absurd H (by simp)
                          · rw [if_neg c19] at H
                            have c19b0 : ((t147.length : Int) == 16) = false := beq_eq_false_iff_ne.mpr c19
                            have c19b1 : ((t147.length : Int) != 16) = true := bne_iff_ne.mpr c19
                            exact absurd ((Option.some.inj H).trans HT.out) (by decide)
                        · rw [if_neg c18] at H
                          have c18b0 : ((rd t140 15) == (-3)) = false := beq_eq_false_iff_ne.mpr c18
                          have c18b1 : ((rd t140 15) != (-3)) = true := bne_iff_ne.mpr c18
                          exact absurd ((Option.some.inj H).trans HT.out) (by decide)
                      · rw [if_neg c17] at H
                        exact absurd H (by simp)
                    · rw [if_neg c16] at H
                      have c16b0 : ((rd t140 1) == 0) = false := beq_eq_false_iff_ne.mpr c16
                      have c16b1 : ((rd t140 1) != 0) = true := bne_iff_ne.mpr c16
                      exact absurd ((Option.some.inj H).trans HT.out) (by decide)
                  · rw [if_neg c15] at H
                    exact absurd H (by simp)
                · rw [if_neg c14] at H
                  have c14b0 : ((rd t140 0) == 3) = false := beq_eq_false_iff_ne.mpr c14
                  have c14b1 : ((rd t140 0) != 3) = true := bne_iff_ne.mpr c14
                  exact absurd ((Option.some.inj H).trans HT.out) (by decide)
              · rw [if_neg c13] at H
                exact absurd H (by simp)
            · rw [if_neg c12] at H
              have c12b0 : ((t140.length : Int) == 16) = false := beq_eq_false_iff_ne.mpr c12
              have c12b1 : ((t140.length : Int) != 16) = true := bne_iff_ne.mpr c12
              exact absurd ((Option.some.inj H).trans HT.out) (by decide)
          · rw [if_neg c11] at H
            have c11b0 : (t148 == 0) = false := beq_eq_false_iff_ne.mpr c11
            have c11b1 : (t148 != 0) = true := bne_iff_ne.mpr c11
            exact absurd ((Option.some.inj H).trans HT.out) (by decide)
        · rw [if_neg c10] at H
          have c10b0 : (t141 == 0) = false := beq_eq_false_iff_ne.mpr c10
          have c10b1 : (t141 != 0) = true := bne_iff_ne.mpr c10
          exact absurd ((Option.some.inj H).trans HT.out) (by decide)
      · rw [if_neg c4] at H
        exact absurd H (by simp)
    · rw [if_neg c2] at H
      exact absurd H (by simp)
  · rw [if_neg c1] at H
    exact absurd H (by simp)
/-- The examples hold: by the kernel's own reckoning. -/
theorem psalterylaw21_knows.sure : psalterylaw21_knows.f 200 = some true := by decide +kernel
theorem psalterylaw21_knows.calls (k : Nat)  (r : Bool) (w : World) (h : psalterylaw21_knows.f k  = some r) :
    Calls Try.prog 16 #[] w fun e w' => e = .returned (.bool r) ∧ Below w.heap.size w w' :=
  psalterylaw21_knows.callsT k r w h (by
    have h1 := at_rounds (g := fun k => psalterylaw21_knows.f k) (fun k => psalterylaw21_knows.mono k) (Nat.le_add_right k 200) h
    have h2 := at_rounds (g := fun k => psalterylaw21_knows.f k) (fun k => psalterylaw21_knows.mono k) (Nat.le_add_left 200 k) psalterylaw21_knows.sure
    exact Option.some.inj (h1.symm.trans h2))

end Go.Proofs.Ytfipeildlleoeaa.P
