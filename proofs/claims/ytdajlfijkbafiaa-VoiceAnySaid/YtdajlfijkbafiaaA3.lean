/- Words, walks and what they compute, as the law's proof needs them. -/
import Derived.Test.YtdajlfijkbafiaaProg
import Derived.Below
import Derived.Deep.Draws
import Derived.Deep.AppendLies
import Derived.Maps.AppendAt
import Derived.OwnWalk
import Derived.Laws.BytesArg
import Derived.Laws.MakeOwn
import Derived.Laws.OwnMore
import Derived.Deep.OwnRows
import Derived.Tactics
import Derived.Lib.ConvBytes
import Derived.Laws.Slices
import Derived.WalkKit
import Derived.KernelRfl
import Derived.RowKit3
import Derived.Deep.LoopGhost
import Derived.Deep.QuietTactic
import Derived.BigQuiet
import Derived.WideLaws
import Derived.Deep.DeepCutAuto
import Derived.Deep.CutBlock
import Derived.Deep.RegionHeld3
import Derived.Laws.Rows
import Derived.Lib.AppendStr
import Derived.ArgAppend
import Derived.Laws.IdiomCopy
import Derived.OrdersHeld
import Derived.Laws.BitsLemmas
import Derived.RowKit
import Derived.Laws.EntriesVeiled
import Derived.Test.YtdajlfijkbafiaaA1
import Derived.Test.YtdajlfijkbafiaaA2
set_option linter.unusedVariables false
set_option linter.unusedSimpArgs false
namespace Go.Proofs.Ytdajlfijkbafiaa.P
open Go.RowKit Go.Proofs.YtdajlfijkbafiaaW.PrintWords Go.Proofs.YtdajlfijkbafiaaW.PrintLast Go.Proofs.YtdajlfijkbafiaaW.PrintMore
attribute [local go_sem] max2_int min2_int max_two min_two max_three min_three max_four min_four
def errW : Option Int → Value
  | none => .nilIface
  | some c => .iface 0 (.int .i64 c)
theorem errW_none : errW none = .nilIface := rfl
theorem errW_some (c : Int) : errW (some c) = .iface 0 (.int .i64 c) := rfl
theorem info2 : (Try.prog.info? 2).map (fun i => (i.zero, i.size, i.bytes)) = some (some (.int .i64 0), 1, 8) := by kernel_rfl
theorem info3 : (Try.prog.info? 3).map (fun i => (i.zero, i.size, i.bytes)) = some (some (.int .i64 0), 1, 8) := by kernel_rfl
theorem info22 : (Try.prog.info? 22).map (fun i => (i.zero, i.size, i.bytes)) = some (some (.slice none 0 0), 1, 24) := by kernel_rfl
theorem info53 : (Try.prog.info? 53).map (fun i => (i.zero, i.size, i.bytes)) = some (some (.slice none 0 0), 1, 24) := by kernel_rfl
def rd_L1 (xs : List (List Int)) (i : Int) : (List Int) := xs.getD i.toNat ([] : List Int)
theorem at_L1 {w : World} {A : Option Addr} {n : Nat} {xs : List (List Int)} (h : Kd.C (Kd.slice 3 (Kd.int .i64)) w A n xs) (i : Int) (h0 : 0 ≤ i) (h1 : i < n) : ∃ ad A0 c0, A = some ad ∧ w.cell? (ad.add i.toNat) = some (.slice A0 (rd_L1 xs i).length c0) ∧ (rd_L1 xs i).length ≤ c0 ∧ (Kd.int .i64).C w A0 (rd_L1 xs i).length (rd_L1 xs i) := by
  obtain ⟨ad, c, e, _, hK, hc0⟩ := Kd.C_get h ([] : List Int) i h0 h1
  have hc : ∀ j u, c[j]? = some u → w.cell? (ad.add (i.toNat * 1 + j)) = some u := hc0
  obtain ⟨A0, c0, rfl, l0, g0⟩ := hK
  exact ⟨ad, A0, c0, e, by have hq := hc 0 _ rfl; rwa [Nat.mul_one, Nat.add_zero] at hq, l0, g0⟩
def rd_L2 (xs : List (List Int)) (i : Int) : (List Int) := xs.getD i.toNat ([] : List Int)
theorem at_L2 {w : World} {A : Option Addr} {n : Nat} {xs : List (List Int)} (h : Kd.C (Kd.slice 2 (Kd.int .i64)) w A n xs) (i : Int) (h0 : 0 ≤ i) (h1 : i < n) : ∃ ad A0 c0, A = some ad ∧ w.cell? (ad.add i.toNat) = some (.slice A0 (rd_L2 xs i).length c0) ∧ (rd_L2 xs i).length ≤ c0 ∧ (Kd.int .i64).C w A0 (rd_L2 xs i).length (rd_L2 xs i) := by
  obtain ⟨ad, c, e, _, hK, hc0⟩ := Kd.C_get h ([] : List Int) i h0 h1
  have hc : ∀ j u, c[j]? = some u → w.cell? (ad.add (i.toNat * 1 + j)) = some u := hc0
  obtain ⟨A0, c0, rfl, l0, g0⟩ := hK
  exact ⟨ad, A0, c0, e, by have hq := hc 0 _ rfl; rwa [Nat.mul_one, Nat.add_zero] at hq, l0, g0⟩
end Go.Proofs.Ytdajlfijkbafiaa.P
namespace Go.Proofs.Ytdajlfijkbafiaa.P
open Go.RowKit Go.Proofs.YtdajlfijkbafiaaW.PrintWords Go.Proofs.YtdajlfijkbafiaaW.PrintLast Go.Proofs.YtdajlfijkbafiaaW.PrintMore
theorem bset_ {w W : World} {g j : Nat} {v : Value} (h : Below w.heap.size w W) (hg : Aside0 (w.heap.size ≤ g)) : Below w.heap.size w (W.setCell ⟨g, j, none⟩ v) := below_set h hg.out
theorem bfar_ {w : World} {g q j : Nat} {t : TypeId} {cs : Array Value} {u : Value} (h : w.heap[g]? = some (.cells cs t (0, 0))) (hp : Aside0 (g ≠ q)) : (w.setCell ⟨q, j, none⟩ u).heap[g]? = some (.cells cs t (0, 0)) := blk_far h hp.out u
theorem bl_ {w V W : World} (H : Aside0 (Below w.heap.size w V)) (c : Below w.heap.size w V → Below w.heap.size w W := by intro h_; repeat (first | (with_reducible first | exact h_ | apply below_alloc | apply pw_below_drewN | apply below_drew1 | refine bset_ ?_ (by assumption)) | exact h_)) : Below w.heap.size w W := c H.out
theorem bs_ {w V W : World} (H : Aside0 (Below w.heap.size w V)) (c : Below w.heap.size w V → Below w.heap.size w W := by intro h_; repeat (first | (with_reducible first | exact h_ | apply below_alloc | apply pw_below_drewN | apply below_drew1 | refine bset_ ?_ (by assumption)) | exact h_)) : w.heap.size ≤ W.heap.size := below_size (c H.out)
theorem BS_ {w V W w1 : World} (H : Aside0 (Below w.heap.size w V)) (hb : Below W.heap.size W w1) (c : Below w.heap.size w V → Below w.heap.size w W := by intro h_; repeat (first | (with_reducible first | exact h_ | apply below_alloc | apply pw_below_drewN | apply below_drew1 | refine bset_ ?_ (by assumption)) | exact h_)) : Aside0 (Below w.heap.size w w1) := ⟨below_step (c H.out) hb⟩
theorem GE_ {w V W : World} {g : Nat} (H : Aside0 (Below w.heap.size w V)) (hg : g = W.heap.size) (c : Below w.heap.size w V → Below w.heap.size w W := by intro h_; repeat (first | (with_reducible first | exact h_ | apply below_alloc | apply pw_below_drewN | apply below_drew1 | refine bset_ ?_ (by assumption)) | exact h_)) : Aside0 (w.heap.size ≤ g) := ⟨hg ▸ below_size (c H.out)⟩
theorem bk_ {w W : World} {g : Nat} {o : Obj} (h : Aside0 (w.heap[g]? = some o)) (c : w.heap[g]? = some o → W.heap[g]? = some o := by intro h_; (with_reducible repeat (first | refine blk_drewN ?_ _ | refine blk_drew ?_ | refine blk_alloc ?_ _ | refine bfar_ ?_ (by assumption))); exact h_) : W.heap[g]? = some o := c h.out
theorem FB_ {w W w1 : World} {g : Nat} {o : Obj} (h : Aside0 (w.heap[g]? = some o)) (hb : Below W.heap.size W w1) (c : w.heap[g]? = some o → W.heap[g]? = some o := by intro h_; (with_reducible repeat (first | refine blk_drewN ?_ _ | refine blk_drew ?_ | refine blk_alloc ?_ _ | refine bfar_ ?_ (by assumption))); exact h_) : Aside0 (w1.heap[g]? = some o) := ⟨blk_below (c h.out) hb⟩
theorem FG_ {w W w1 : World} {g : Nat} {o : Obj} {row : Option Nat} (h : Aside0 (w.heap[g]? = some o)) (hg : W.grownBy w1 row) (hne : some g ≠ row) (c : w.heap[g]? = some o → W.heap[g]? = some o := by intro h_; (with_reducible repeat (first | refine blk_drewN ?_ _ | refine blk_drew ?_ | refine blk_alloc ?_ _ | refine bfar_ ?_ (by assumption))); exact h_) : Aside0 (w1.heap[g]? = some o) := ⟨blk_grown (c h.out) hg hne⟩
theorem kR_ {α : Type} {d : Kd α} {e base : Nat} {w W : World} {ok : Nat → Prop} {v : Value} {xs : List α} (h : Aside0 (Kd.R d e w base ok v xs)) (c : Kd.R d e w base ok v xs → Kd.R d e W base ok v xs := by intro h_; (with_reducible repeat (first | apply Kd.R_alloc | apply Kd.R_drewN | apply Kd.R_drew)); exact h_) : Kd.R d e W base ok v xs := c h.out
theorem FR_ {α : Type} {d : Kd α} {e base : Nat} {w W w1 : World} {ok : Nat → Prop} {v : Value} {xs : List α} (h : Aside0 (Kd.R d e w base ok v xs)) (hb : Below W.heap.size W w1) (c : Kd.R d e w base ok v xs → Kd.R d e W base ok v xs := by intro h_; (with_reducible repeat (first | apply Kd.R_alloc | apply Kd.R_drewN | apply Kd.R_drew)); exact h_) : Aside0 (Kd.R d e w1 base ok v xs) := ⟨Kd.R_below (c h.out) hb⟩
theorem kN_ {α : Type} {d : Kd α} {e base : Nat} {w W : World} {ok : Nat → Prop} {v : Value} {xs : List α} (h : Aside0 (Kd.N d e w base ok v xs)) (c : Kd.N d e w base ok v xs → Kd.N d e W base ok v xs := by intro h_; (with_reducible repeat (first | apply Kd.N_alloc | apply Kd.N_drewN | apply Kd.N_drew)); exact h_) : Kd.N d e W base ok v xs := c h.out
theorem FN_ {α : Type} {d : Kd α} {e base : Nat} {w W w1 : World} {ok : Nat → Prop} {v : Value} {xs : List α} (h : Aside0 (Kd.N d e w base ok v xs)) (hb : Below W.heap.size W w1) (c : Kd.N d e w base ok v xs → Kd.N d e W base ok v xs := by intro h_; (with_reducible repeat (first | apply Kd.N_alloc | apply Kd.N_drewN | apply Kd.N_drew)); exact h_) : Aside0 (Kd.N d e w1 base ok v xs) := ⟨Kd.N_below (c h.out) hb⟩
theorem kV_ {α : Type} {d : Kd α} {e base : Nat} {w W : World} {ok : Nat → Prop} {v : Value} {xs : List α} (h : Aside0 (Kd.V d e w base ok v xs)) (c : Kd.V d e w base ok v xs → Kd.V d e W base ok v xs := by intro h_; (with_reducible repeat (first | apply Kd.V_alloc | apply Kd.V_drewN | apply Kd.V_drew)); exact h_) : Kd.V d e W base ok v xs := c h.out
theorem FV_ {α : Type} {d : Kd α} {e base : Nat} {w W w1 : World} {ok : Nat → Prop} {v : Value} {xs : List α} (h : Aside0 (Kd.V d e w base ok v xs)) (hb : Below W.heap.size W w1) (c : Kd.V d e w base ok v xs → Kd.V d e W base ok v xs := by intro h_; (with_reducible repeat (first | apply Kd.V_alloc | apply Kd.V_drewN | apply Kd.V_drew)); exact h_) : Aside0 (Kd.V d e w1 base ok v xs) := ⟨Kd.V_below (c h.out) hb⟩
theorem kC_ {α : Type} {d : Kd α} {n : Nat} {A : Option Addr} {w V W : World} {xs : List α} (h : Aside0 (Kd.C d w A n xs)) (H : Aside0 (Below w.heap.size w V)) (c : Kd.C d V A n xs → Kd.C d W A n xs := by intro h_; repeat (first | exact h_ | (with_reducible refine Kd.C_alloc ?_ _) | (with_reducible refine Kd.C_drewN ?_ _) | (with_reducible refine Kd.C_drew ?_))) : Kd.C d W A n xs := c (Kd.C_below h.out H.out)
theorem kCt_ {α : Type} {d : Kd α} {n : Nat} {A : Option Addr} {V W : World} {xs : List α} (h : Kd.C d V A n xs) (c : Kd.C d V A n xs → Kd.C d W A n xs := by intro h_; repeat (first | exact h_ | (with_reducible refine Kd.C_alloc ?_ _) | (with_reducible refine Kd.C_drewN ?_ _) | (with_reducible refine Kd.C_drew ?_))) : Kd.C d W A n xs := c h
theorem kbs_ {w W : World} {g j : Nat} {u : Value} (h : KeepBut w W g none) : KeepBut w (W.setCell ⟨g, j, none⟩ u) g none := h.set_ j u
theorem kba_ {w W : World} {g : Nat} {o : Obj} (h : KeepBut w W g none) : KeepBut w (W.alloc o) g none := h.trans (KeepBut.of_below (below_alloc (Below.refl _ _) o) g none) (Or.inl rfl)
theorem kbd_ {w W : World} {g : Nat} (h : KeepBut w W g none) : KeepBut w W.drew g none := h.trans (KeepBut.of_below (below_drew1 (Below.refl _ _)) g none) (Or.inl rfl)
theorem kbn_ {w W : World} {g n : Nat} (h : KeepBut w W g none) : KeepBut w (W.drewN n) g none := h.trans (KeepBut.of_below (pw_below_drewN (Below.refl _ _) n) g none) (Or.inl rfl)
theorem kRk_ {α : Type} {d : Kd α} {e base g t : Nat} {w W : World} {ok : Nat → Prop} {v : Value} {xs : List α} {cells : Array Value} (h : Aside0 (Kd.R d e w base ok v xs)) (b : Aside0 (w.heap[g]? = some (.cells cells t (0, 0)))) (ht : ∀ q, q ∈ e :: d.E → q ≠ t := by decide) (c : KeepBut w W g none := by with_reducible repeat (first | exact KeepBut.refl _ _ _ | refine kbs_ ?_ | refine kba_ ?_ | refine kbd_ ?_ | refine kbn_ ?_)) : Kd.R d e W base ok v xs := Kd.R_mono (Kd.R_keep (Kd.R_types h.out b.out ht) c (fun _ hk => hk.2)) (fun _ hk => hk.1)
theorem bp_ {w W : World} {g : Nat} {o o2 : Obj} (h : Aside0 (w.heap[g]? = some o)) (c : w.heap[g]? = some o → W.heap[g]? = some o2 := by intro h_; (with_reducible repeat (first | refine blk_drewN ?_ _ | refine blk_drew ?_ | refine blk_alloc ?_ _ | refine bfar_ ?_ (by assumption) | (refine blk_put (cs := ?_) ?_ _ _ ?_; rotate_left))); exact h_; all_goals first | (simp only [List.setIfInBounds_toArray, List.set_cons_zero, List.set_cons_succ]; rfl) | (simp only [List.setIfInBounds_toArray, List.set_cons_zero, List.set_cons_succ]; done) | rfl) : W.heap[g]? = some o2 := c h.out
theorem ce_ {w : World} {g : Nat} {t : TypeId} {cs : Array Value} {v : Value} (h : Aside0 (w.heap[g]? = some (.cells cs t (0, 0)))) (i : Nat) (e : cs[i]? = some v := by exact rfl) : w.cell? ⟨g, i, none⟩ = some v := (blk_cell h.out i).trans e
def B_ (n m : Nat) : Array Bool := ((List.range n).map fun i => m.testBit i).toArray
theorem fr_ {n : Nat} {P : Nat → Prop} (h : ∀ k, n ≤ k → P k) : P n := h n (Nat.le_refl n)
theorem ol_ {p : Prop} (c : p := by first | omega | exact Nat.le_refl _) : p := c
theorem kn_ {p : Prop} (c : p := by first | exact Kd.S_nil _ _ _ _ _ | exact Kd.N_nil _ _ _ _ _ | exact Kd.V_nil _ _ _ _ _ | exact Kd.Q_nil _ _ _ _ _ | exact Kd.R_nil _ _ _ _ _) : p := c
theorem pa_ {p : Prop} (c : p := by simp only [putAll, Act.put, List.setIfInBounds_toArray, List.set_cons_zero, List.set_cons_succ]) : p := c
theorem ob_ {α β : Type} {x : Option α} {f : α → Option β} {b : β} (h : x.bind f = some b) : ∃ a, Aside0 (x = some a) ∧ f a = some b := by
  obtain ⟨a, e, k⟩ := Option.bind_eq_some_iff.mp h
  exact ⟨a, ⟨e⟩, k⟩
theorem e1_ {w : World} {g : Nat} {t : TypeId} {x0 : Value} (h : Aside0 (w.heap[g]? = some (.cells #[x0] t (0, 0)))) : w.cell? ⟨g, 0, none⟩ = some x0 ∧ w.frozen? ⟨g, 0, none⟩ = false := ⟨(blk_cell h.out 0).trans rfl, blk_frozen h.out 0⟩
theorem e2_ {w : World} {g : Nat} {t : TypeId} {x0 x1 : Value} (h : Aside0 (w.heap[g]? = some (.cells #[x0, x1] t (0, 0)))) : w.cell? ⟨g, 0, none⟩ = some x0 ∧ w.cell? ⟨g, 1, none⟩ = some x1 ∧ w.frozen? ⟨g, 0, none⟩ = false ∧ w.frozen? ⟨g, 1, none⟩ = false := ⟨(blk_cell h.out 0).trans rfl, (blk_cell h.out 1).trans rfl, blk_frozen h.out 0, blk_frozen h.out 1⟩
theorem e4_ {w : World} {g : Nat} {t : TypeId} {x0 x1 x2 x3 : Value} (h : Aside0 (w.heap[g]? = some (.cells #[x0, x1, x2, x3] t (0, 0)))) : w.cell? ⟨g, 0, none⟩ = some x0 ∧ w.cell? ⟨g, 1, none⟩ = some x1 ∧ w.cell? ⟨g, 2, none⟩ = some x2 ∧ w.cell? ⟨g, 3, none⟩ = some x3 ∧ w.frozen? ⟨g, 0, none⟩ = false ∧ w.frozen? ⟨g, 1, none⟩ = false ∧ w.frozen? ⟨g, 2, none⟩ = false ∧ w.frozen? ⟨g, 3, none⟩ = false := ⟨(blk_cell h.out 0).trans rfl, (blk_cell h.out 1).trans rfl, (blk_cell h.out 2).trans rfl, (blk_cell h.out 3).trans rfl, blk_frozen h.out 0, blk_frozen h.out 1, blk_frozen h.out 2, blk_frozen h.out 3⟩
theorem NN_ {w W : World} {g g1 : Nat} {o : Obj} (h : Aside0 (w.heap[g]? = some o)) (hg : g1 = W.heap.size) (c : w.heap[g]? = some o → W.heap[g]? = some o := by intro h_; (with_reducible repeat (first | refine blk_drewN ?_ _ | refine blk_drew ?_ | refine blk_alloc ?_ _ | refine bfar_ ?_ (by assumption))); exact h_) : Aside0 (g ≠ g1) ∧ Aside0 (g1 ≠ g) := ⟨⟨hg ▸ Nat.ne_of_lt (blk_lt (c h.out))⟩, ⟨hg ▸ Nat.ne_of_gt (blk_lt (c h.out))⟩⟩
theorem NP_ {w W : World} {g g1 : Nat} {o : Obj} (o2e : Obj) (h : Aside0 (w.heap[g]? = some o)) (hg : g1 = W.heap.size) (c : w.heap[g]? = some o → W.heap[g]? = some o2e := by intro h_; (with_reducible repeat (first | refine blk_drewN ?_ _ | refine blk_drew ?_ | refine blk_alloc ?_ _ | refine bfar_ ?_ (by assumption) | (refine blk_put (cs := ?_) ?_ _ _ ?_; rotate_left))); exact h_; all_goals first | (simp only [List.setIfInBounds_toArray, List.set_cons_zero, List.set_cons_succ]; rfl) | (simp only [List.setIfInBounds_toArray, List.set_cons_zero, List.set_cons_succ]; done) | rfl) : Aside0 (g ≠ g1) ∧ Aside0 (g1 ≠ g) := ⟨⟨hg ▸ Nat.ne_of_lt (blk_lt (c h.out))⟩, ⟨hg ▸ Nat.ne_of_gt (blk_lt (c h.out))⟩⟩
theorem sp_ {p : Prop} (c : p := by simp only [Act.put, List.setIfInBounds_toArray, List.set_cons_zero, List.set_cons_succ, i64_w, i32_w]; rfl) : p := c
theorem ar_ {p : Prop} (c : p := by (try simp only [List.map_toArray, List.map_cons, List.map_nil]); first | done | rfl | (simp only [List.length_drop, List.length_take]; rfl)) : p := c
theorem kf_ {p : Prop} (c : p := by kernel_rfl) : p := c
theorem rs_ {p : Prop} (c : p := by first | rfl | (simp; done) | (simp [*]; done)) : p := c
theorem am_ {p : Prop} (c : p := by first | (with_reducible assumption) | assumption) : p := c
section
variable {P : Program} {md : Region.Mode} {ops : Array Oper} {Q : Exit → Act → World → Prop} {S : World → Prop} {ds : List Nat}
theorem pu_ {T : Bool × List (List Nat × List Nat)} {oi : Oper} {v : Value} {fuel : Nat} {l : Array Bool} {a a' : Act} {w : World} (i : Nat) (N : Option Tmp) (l' : Array Bool) (hT : Aside0 (rtab md ops = T)) (h : wpAnyLast P md ops Q S ds fuel l' a' w)
    (hi : ops[i]? = some oi := by exact rfl) (hN : oi.dst = N := by exact rfl) (hc : anyT T l.toList l'.toList i = true := by kernel_rfl) (hQ : ∀ c a w, Q (.panic c) (a.put oi.dst v) w → Q (.panic c) a w := by exact fun _ _ _ h => h)
    (hg : Region.wanted oi (yielded ops a.tmps) = true := by rfl) (hy : ∀ w', (execOp a.eval oi).run P w' = .ok (.value v) w' := by intro w'; go_simp; with_reducible rfl) (ha : a.put N v = a' := by simp only [Act.put, List.setIfInBounds_toArray, List.set_cons_zero, List.set_cons_succ, i64_w, i32_w]; rfl) : wpAnyLast P md ops Q S ds (fuel + 1) l a w :=
  pure_ l' hi hN (any_of hT.out hc) hQ (Or.inl ⟨hg, hy⟩) ha h
end
section
variable {P : Program} {ops : Array Oper} {Q : Exit → Act → World → Prop}
theorem gL_ {rest : List Oper} {oi : Oper} {a : Act} {w : World} (N : Option Tmp) {f : FuncId} {fn : Func} {ao : Array Operand} {ts : Array TypeId} (hf : P.funcs[f]? = some fn) (args : Array Value)
    (h : Calls P f args w fun e w' => ∃ v, e = .returned v ∧ wpList P ops Q rest (a.put N v) w')
    (hd : oi.dst = N := by exact rfl) (hg : oi.guard = none := by exact rfl) (hname : (fn.name == "runtime.NumGoroutine") = false := by kernel_rfl) (hb : fn.body.isSome = true := by exact rfl)
    (hop : oi.op = .call { callee := .value (.func f), args := ao, argTypes := ts } := by exact rfl) (hargs : ao.map a.eval = args := by (try simp only [List.map_toArray, List.map_cons, List.map_nil]); first | done | rfl | (simp only [List.length_drop, List.length_take]; rfl)) : wpList P ops Q (oi :: rest) a w :=
  goesL_ N hd hg hf hname hb args hop hargs h
theorem bx_ {rest : List Oper} {o : Oper} {a : Act} {w V W : World} (H : Aside0 (Below w.heap.size w V)) (N : Tmp) (cs : Array Value) (t : TypeId)
    (h : ∀ g, g = W.heap.size → ∀ w1, Below W.heap.size W w1 → Aside0 (w1.heap[g]? = some (.cells cs t (0, 0))) → Aside0 (w.heap.size ≤ g) → Aside0 (Below w.heap.size w w1) → wpList P ops Q rest (a.put o.dst (.pointer (some ⟨g, 0, none⟩))) w1)
    (hd : o.dst = some N := by exact rfl) (hgd : o.guard = none := by exact rfl)
    (hrun : (execOp a.eval o).run P W = .ok (.value (.pointer (some ⟨W.heap.size, 0, none⟩))) (W.alloc (.cells cs t (0, 0))) := by first | (go_simp; done) | (go_simp; rfl))
    (c : Below w.heap.size w V → Below w.heap.size w W := by intro h_; repeat (first | (with_reducible first | exact h_ | apply below_alloc | apply pw_below_drewN | apply below_drew1 | refine bset_ ?_ (by assumption)) | exact h_)) : wpList P ops Q (o :: rest) a W :=
  box_event hgd hd hrun fun g hg w1 hb hB => h g hg w1 hB ⟨hb⟩ ⟨hg ▸ below_size (c H.out)⟩ ⟨below_step (c H.out) hB⟩
theorem box_ {rest : List Oper} {o : Oper} {a : Act} {W : World} (N : Tmp) (cs : Array Value) (t : TypeId)
    (h : ∀ g, g = W.heap.size → ∀ w1, w1.heap[g]? = some (.cells cs t (0, 0)) → Below W.heap.size W w1 → wpList P ops Q rest (a.put o.dst (.pointer (some ⟨g, 0, none⟩))) w1)
    (hd : o.dst = some N := by exact rfl) (hgd : o.guard = none := by exact rfl)
    (hrun : (execOp a.eval o).run P W = .ok (.value (.pointer (some ⟨W.heap.size, 0, none⟩))) (W.alloc (.cells cs t (0, 0))) := by first | (go_simp; done) | (go_simp; rfl)) : wpList P ops Q (o :: rest) a W := box_event hgd hd hrun h
end
end Go.Proofs.Ytdajlfijkbafiaa.P
namespace Go.Proofs.Ytdajlfijkbafiaa.P
open Go.RowKit Go.Proofs.YtdajlfijkbafiaaW.PrintWords Go.Proofs.YtdajlfijkbafiaaW.PrintLast Go.Proofs.YtdajlfijkbafiaaW.PrintMore
attribute [local go_sem] max2_int min2_int max_two min_two max_three min_three max_four min_four
def psalterylaw16_Great.f (a0_0 : Int) (a0_1 : Int) (l0_2 : List Int) (l0_3 : List Int) : Option (Bool) := if (l0_2.length : Int) > 200 then (some true) else (some (decide ((l0_3.length : Int) > 200)))
set_option maxHeartbeats 8000000 in
set_option maxRecDepth 100000 in
theorem psalterylaw16_Great.calls (a0_0 : Int) (a0_1 : Int) (A0_2 : Option Addr) (c0_2 : Nat) (l0_2 : List Int) (A0_3 : Option Addr) (c0_3 : Nat) (l0_3 : List Int) (r : Bool) (w : World) (hr0_2 : Kd.C (Kd.int .i64) w A0_2 l0_2.length l0_2) (hc0_2 : l0_2.length ≤ c0_2) (hr0_3 : Kd.C (Kd.int .i64) w A0_3 l0_3.length l0_3) (hc0_3 : l0_3.length ≤ c0_3) (h : psalterylaw16_Great.f a0_0 a0_1 l0_2 l0_3 = some r) :
    Calls Try.prog 29 #[.agg #[.int .i64 a0_0, .int .i64 a0_1, .slice A0_2 l0_2.length c0_2, .slice A0_3 l0_3.length c0_3]] w fun e w' => e = .returned (.bool r) ∧ Below w.heap.size w w' := by
 have hu24 := Try.underlying24
 have HR0_2 := Aside0.mk hr0_2
 have HC0_2 := Aside0.mk hc0_2
 clear hr0_2 hc0_2
 have HR0_3 := Aside0.mk hr0_3
 have HC0_3 := Aside0.mk hc0_3
 clear hr0_3 hc0_3
 have HB := Aside0.mk (Below.refl w.heap.size w)
 have H : (if (l0_2.length : Int) > 200 then (some true) else (some (decide ((l0_3.length : Int) > 200)))) = some r := h
 clear h
 by_cases c2 : (l0_2.length : Int) > 200
 {
 rw [if_pos c2] at H
 have c2b0 : decide (200 < (l0_2.length : Int)) = true := decide_eq_true c2
 have c2b1 : decide (200 < l0_2.length) = true := decide_eq_true (by omega)
 clear c2
 obtain rfl := Option.some.inj H
 go_enter Try.func29, Try.ntmps29
 go_wp2_with (first | ((with_reducible refine gate_dst (N := 1) rfl ?_); (try (refine gate_guard (by rfl) ?_; dsimp only)); refine bx_ HB 1 #[.int .i64 a0_0, .int .i64 a0_1, .slice A0_2 l0_2.length c0_2, .slice A0_3 l0_3.length c0_3] 24 ?_; clear HB; intro gb101 hg w3 hb BK101 GE101 HB; have GW101 := GE101; clear hb hg; obtain ⟨hcz4_0, hcz4_1, hcz4_2, hcz4_3, hfz4_0, hfz4_1, hfz4_2, hfz4_3⟩ := e4_ BK101))
 go_ret
 exact ⟨by first | rfl | (simp [errW_none, errW_some] <;> rfl) | (simp [*, errW_none, errW_some] <;> rfl), bl_ HB⟩}
 {
 rw [if_neg c2] at H
 have c2b0 : decide (200 < (l0_2.length : Int)) = false := decide_eq_false c2
 have c2b1 : decide (200 < l0_2.length) = false := decide_eq_false (by omega)
 clear c2
 obtain rfl := Option.some.inj H
 go_enter Try.func29, Try.ntmps29
 go_wp2_with (first | ((with_reducible refine gate_dst (N := 1) rfl ?_); (try (refine gate_guard (by rfl) ?_; dsimp only)); refine bx_ HB 1 #[.int .i64 a0_0, .int .i64 a0_1, .slice A0_2 l0_2.length c0_2, .slice A0_3 l0_3.length c0_3] 24 ?_; clear HB; intro gb101 hg w5 hb BK101 GE101 HB; have GW101 := GE101; clear hb hg; obtain ⟨hcz6_0, hcz6_1, hcz6_2, hcz6_3, hfz6_0, hfz6_1, hfz6_2, hfz6_3⟩ := e4_ BK101))
 go_ret
 exact ⟨by first | rfl | (simp [errW_none, errW_some] <;> rfl) | (simp [*, errW_none, errW_some] <;> rfl), bl_ HB⟩}
mutual
def psalterylaw22_wide.l0 : Nat → Int → Int → Int → List Int → List Int → List (List Int) → List (List Int) → Option (Bool)
  | 0, _, _, _, _, _, _, _ => none
  | k + 1, x5, x103000, x103001, x103002, x103003, x104000, x104001 => if x5 < (x104000.length : Int) then (if 0 ≤ x5 then (if ((rd_L1 x104000 x5).length : Int) > 100 then (some true) else (psalterylaw22_wide.l0 k (wrap64 (x5 + 1)) x103000 x103001 x103002 x103003 x104000 x104001)) else (none)) else (psalterylaw22_wide.l1 k 0 x103000 x103001 x103002 x103003 x104000 x104001)
def psalterylaw22_wide.l1 : Nat → Int → Int → Int → List Int → List Int → List (List Int) → List (List Int) → Option (Bool)
  | 0, _, _, _, _, _, _, _ => none
  | k + 1, x6, x103000, x103001, x103002, x103003, x104000, x104001 => if x6 < (x104001.length : Int) then (if 0 ≤ x6 then (if ((rd_L2 x104001 x6).length : Int) > 100 then (some true) else (psalterylaw22_wide.l1 k (wrap64 (x6 + 1)) x103000 x103001 x103002 x103003 x104000 x104001)) else (none)) else ((psalterylaw16_Great.f x103000 x103001 x103002 x103003).bind fun t106 => (if t106 = true then (some true) else (if (x104000.length : Int) > 10 then (some true) else (some (decide ((x104001.length : Int) > 10))))))
end
def psalterylaw22_wide.f (k : Nat) (a0_0 : Int) (a0_1 : Int) (l0_2 : List Int) (l0_3 : List Int) (l1_0 : List (List Int)) (l1_1 : List (List Int)) : Option (Bool) := psalterylaw22_wide.l0 k 0 a0_0 a0_1 l0_2 l0_3 l1_0 l1_1
theorem psalterylaw22_wide.mono_l : ∀ k, (∀ y0 y1 y2 y3 y4 y5 y6, LeO (psalterylaw22_wide.l0 k y0 y1 y2 y3 y4 y5 y6) (psalterylaw22_wide.l0 (k + 1) y0 y1 y2 y3 y4 y5 y6)) ∧ (∀ y0 y1 y2 y3 y4 y5 y6, LeO (psalterylaw22_wide.l1 k y0 y1 y2 y3 y4 y5 y6) (psalterylaw22_wide.l1 (k + 1) y0 y1 y2 y3 y4 y5 y6))
  | 0 => ⟨fun _ _ _ _ _ _ _ r h => by simp [psalterylaw22_wide.l0] at h, fun _ _ _ _ _ _ _ r h => by simp [psalterylaw22_wide.l1] at h⟩
  | k + 1 => by
    obtain ⟨ih0, ih1⟩ := psalterylaw22_wide.mono_l k
    refine ⟨?_, ?_⟩
    all_goals (intros; first | unfold psalterylaw22_wide.l0 | unfold psalterylaw22_wide.l1)
    all_goals with_reducible repeat' first
     | exact ih0 _ _ _ _ _ _ _
     | exact ih1 _ _ _ _ _ _ _
     | exact LeO.refl _
     | exact LeO.none _
     | refine LeO.ite ?_ ?_
     | refine LeO.bind ?_ (fun _ => ?_)
theorem psalterylaw22_wide.mono : ∀ a0 a1 a2 a3 a4 a5 k, LeO (psalterylaw22_wide.f k a0 a1 a2 a3 a4 a5) (psalterylaw22_wide.f (k + 1) a0 a1 a2 a3 a4 a5) := by
  intro a0 a1 a2 a3 a4 a5 k
  obtain ⟨ih0, ih1⟩ := psalterylaw22_wide.mono_l k
  unfold psalterylaw22_wide.f
  with_reducible repeat' first
   | exact ih0 _ _ _ _ _ _ _
   | exact ih1 _ _ _ _ _ _ _
   | exact LeO.refl _
   | exact LeO.none _
   | refine LeO.ite ?_ ?_
   | refine LeO.bind ?_ (fun _ => ?_)
set_option maxHeartbeats 8000000 in
set_option maxRecDepth 100000 in
theorem psalterylaw22_wide.calls (k : Nat) (a0_0 : Int) (a0_1 : Int) (A0_2 : Option Addr) (c0_2 : Nat) (l0_2 : List Int) (A0_3 : Option Addr) (c0_3 : Nat) (l0_3 : List Int) (A1_0 : Option Addr) (c1_0 : Nat) (l1_0 : List (List Int)) (A1_1 : Option Addr) (c1_1 : Nat) (l1_1 : List (List Int)) (r : Bool) (w : World) (hr0_2 : Kd.C (Kd.int .i64) w A0_2 l0_2.length l0_2) (hc0_2 : l0_2.length ≤ c0_2) (hr0_3 : Kd.C (Kd.int .i64) w A0_3 l0_3.length l0_3) (hc0_3 : l0_3.length ≤ c0_3) (hr1_0 : Kd.C (Kd.slice 3 (Kd.int .i64)) w A1_0 l1_0.length l1_0) (hc1_0 : l1_0.length ≤ c1_0) (hr1_1 : Kd.C (Kd.slice 2 (Kd.int .i64)) w A1_1 l1_1.length l1_1) (hc1_1 : l1_1.length ≤ c1_1) (h : psalterylaw22_wide.f k a0_0 a0_1 l0_2 l0_3 l1_0 l1_1 = some r) :
    Calls Try.prog 9 #[.agg #[.int .i64 a0_0, .int .i64 a0_1, .slice A0_2 l0_2.length c0_2, .slice A0_3 l0_3.length c0_3], .agg #[.slice A1_0 l1_0.length c1_0, .slice A1_1 l1_1.length c1_1]] w fun e w' => e = .returned (.bool r) ∧ Below w.heap.size w w' := by
 have hu24 := Try.underlying24
 have hu28 := Try.underlying28
 have HR0_2 := Aside0.mk hr0_2
 have HC0_2 := Aside0.mk hc0_2
 clear hr0_2 hc0_2
 have HR0_3 := Aside0.mk hr0_3
 have HC0_3 := Aside0.mk hc0_3
 clear hr0_3 hc0_3
 have HR1_0 := Aside0.mk hr1_0
 have HC1_0 := Aside0.mk hc1_0
 clear hr1_0 hc1_0
 have HR1_1 := Aside0.mk hr1_1
 have HC1_1 := Aside0.mk hc1_1
 clear hr1_1 hc1_1
 have HB := Aside0.mk (Below.refl w.heap.size w)
 have H : (psalterylaw22_wide.l0 k 0 a0_0 a0_1 l0_2 l0_3 l1_0 l1_1) = some r := h
 clear h
 have H' := Aside0.mk H
 clear H
 go_enter Try.func9, Try.ntmps9
 go_wp2_with (first | ((with_reducible refine gate_dst (N := 2) rfl ?_); (try (refine gate_guard (by rfl) ?_; dsimp only)); refine bx_ HB 2 #[.int .i64 a0_0, .int .i64 a0_1, .slice A0_2 l0_2.length c0_2, .slice A0_3 l0_3.length c0_3] 24 ?_; clear HB; intro gb102 hg w3 hb BK102 GE102 HB; have GW102 := GE102; clear hb hg) | ((with_reducible refine gate_dst (N := 3) rfl ?_); (try (refine gate_guard (by rfl) ?_; dsimp only)); refine bx_ HB 3 #[.slice A1_0 l1_0.length c1_0, .slice A1_1 l1_1.length c1_1] 28 ?_; clear HB; intro gb103 hg w4 hb BK103 GE103 HB; have GW103 := GE103; obtain ⟨NB102_103, NB103_102⟩ := NN_ BK102 hg; replace BK102 := FB_ BK102 hb; clear hb hg))
 go_loopg [5] k (fun kq v5 w' => ∃ (x5_1 : Int), v5 = .int .i64 x5_1 ∧ Aside0 (psalterylaw22_wide.l0 kq x5_1 a0_0 a0_1 l0_2 l0_3 l1_0 l1_1 = some r) ∧ Aside0 (kq ≤ k) ∧ Aside0 (w'.heap[gb102]? = some (.cells #[.int .i64 a0_0, .int .i64 a0_1, (.slice A0_2 l0_2.length c0_2), (.slice A0_3 l0_3.length c0_3)] 24 (0, 0))) ∧ Aside0 (w'.heap[gb103]? = some (.cells #[(.slice A1_0 l1_0.length c1_0), (.slice A1_1 l1_1.length c1_1)] 28 (0, 0))) ∧ Aside0 (Below w.heap.size w w'))
 case atStart => exact ⟨(0), rs_, H', ⟨Nat.le_refl _⟩, ⟨bk_ BK102⟩, ⟨bk_ BK103⟩, ⟨bl_ HB⟩⟩
 case round => (
 clear H'
 obtain ⟨x5_1, rfl, HA, HK1, BK102, BK103, HB⟩ := hrel
 cases gk with
 | zero => exact absurd HA.out (by simp [psalterylaw22_wide.l0])
 | succ k1 => (
 have H := HA.out
 clear HA
 simp only [psalterylaw22_wide.l0] at H
 by_cases c5 : x5_1 < (l1_0.length : Int)
 {
 rw [if_pos c5] at H
 have c5b0 : decide (x5_1 < (l1_0.length : Int)) = true := decide_eq_true c5
 clear c5
 by_cases c6 : 0 ≤ x5_1
 {
 rw [if_pos c6] at H
 have c6b0 : decide (0 ≤ x5_1) = true := decide_eq_true c6
 clear c6
 by_cases c7 : ((rd_L1 l1_0 x5_1).length : Int) > 100
 {
 rw [if_pos c7] at H
 have c7b0 : decide (100 < ((rd_L1 l1_0 x5_1).length : Int)) = true := decide_eq_true c7
 have c7b1 : decide (100 < (rd_L1 l1_0 x5_1).length) = true := decide_eq_true (by omega)
 clear c7
 obtain rfl := Option.some.inj H
 have hnb8 := NB103_102.out
 have hnc8 := NB102_103.out
 obtain ⟨hcz9_0, hcz9_1, hfz9_0, hfz9_1⟩ := e2_ BK103
 have p104 : 0 ≤ (x5_1 : Int) := of_decide_eq_true am_
 have q104 : x5_1 < (l1_0.length : Int) := of_decide_eq_true am_
 obtain ⟨ad104, A104_0, c104_0, e104, hx104_0, hl104_0, hi104_0⟩ := at_L1 HR1_0.out x5_1 p104 q104
 cases e104
 replace hx104_0 := (HB.out.cell (World.block_lt_of_cell? w _ hx104_0)).trans hx104_0
 have HR104_0 := Aside0.mk hi104_0
 have HC104_0 := Aside0.mk hl104_0
 clear hi104_0 hl104_0
 replace p104 := eq_true p104
 replace q104 := eq_true q104
 go_wp2
 go_ret
 exact ⟨by first | rfl | (simp [errW_none, errW_some] <;> rfl) | (simp [*, errW_none, errW_some] <;> rfl), bl_ HB⟩}
 {
 rw [if_neg c7] at H
 have c7b0 : decide (100 < ((rd_L1 l1_0 x5_1).length : Int)) = false := decide_eq_false c7
 have c7b1 : decide (100 < (rd_L1 l1_0 x5_1).length) = false := decide_eq_false (by omega)
 clear c7
 have H' := Aside0.mk H
 clear H
 have hnb10 := NB103_102.out
 have hnc10 := NB102_103.out
 obtain ⟨hcz11_0, hcz11_1, hfz11_0, hfz11_1⟩ := e2_ BK103
 have p104 : 0 ≤ (x5_1 : Int) := of_decide_eq_true am_
 have q104 : x5_1 < (l1_0.length : Int) := of_decide_eq_true am_
 obtain ⟨ad104, A104_0, c104_0, e104, hx104_0, hl104_0, hi104_0⟩ := at_L1 HR1_0.out x5_1 p104 q104
 cases e104
 replace hx104_0 := (HB.out.cell (World.block_lt_of_cell? w _ hx104_0)).trans hx104_0
 have HR104_0 := Aside0.mk hi104_0
 have HC104_0 := Aside0.mk hl104_0
 clear hi104_0 hl104_0
 replace p104 := eq_true p104
 replace q104 := eq_true q104
 go_wp2
 go_roundg k1
 case measure => have := HK1.out; omega
 case rel => exact ⟨(wrap64 (x5_1 + 1)), rs_, H', ⟨by have := HK1.out; omega⟩, ⟨bk_ BK102⟩, ⟨bk_ BK103⟩, ⟨bl_ HB⟩⟩}}
 {
 rw [if_neg c6] at H
 exact absurd H (by simp)}}
 {
 rw [if_neg c5] at H
 have c5b0 : decide (x5_1 < (l1_0.length : Int)) = false := decide_eq_false c5
 clear c5
 have H' := Aside0.mk H
 clear H
 have hnb12 := NB103_102.out
 have hnc12 := NB102_103.out
 obtain ⟨hcz13_0, hcz13_1, hfz13_0, hfz13_1⟩ := e2_ BK103
 go_wp2
 go_loopg [6] k1 (fun kq v6 w' => ∃ (x6_2 : Int), v6 = .int .i64 x6_2 ∧ Aside0 (psalterylaw22_wide.l1 kq x6_2 a0_0 a0_1 l0_2 l0_3 l1_0 l1_1 = some r) ∧ Aside0 (kq ≤ k1) ∧ Aside0 (w'.heap[gb102]? = some (.cells #[.int .i64 a0_0, .int .i64 a0_1, (.slice A0_2 l0_2.length c0_2), (.slice A0_3 l0_3.length c0_3)] 24 (0, 0))) ∧ Aside0 (w'.heap[gb103]? = some (.cells #[(.slice A1_0 l1_0.length c1_0), (.slice A1_1 l1_1.length c1_1)] 28 (0, 0))) ∧ Aside0 (Below w.heap.size w w'))
 case atStart => exact ⟨(0), rs_, H', ⟨Nat.le_refl _⟩, ⟨bk_ BK102⟩, ⟨bk_ BK103⟩, ⟨bl_ HB⟩⟩
 case round => (
 clear H'
 try clear c5
 try clear c5b0
 try clear hcz13_0
 try clear hcz13_1
 try clear hfz13_0
 try clear hfz13_1
 obtain ⟨x6_2, rfl, HA, HK2, BK102, BK103, HB⟩ := hrel
 cases gk with
 | zero => exact absurd HA.out (by simp [psalterylaw22_wide.l1])
 | succ k2 => (
 have H := HA.out
 clear HA
 simp only [psalterylaw22_wide.l1] at H
 by_cases c14 : x6_2 < (l1_1.length : Int)
 {
 rw [if_pos c14] at H
 have c14b0 : decide (x6_2 < (l1_1.length : Int)) = true := decide_eq_true c14
 clear c14
 by_cases c15 : 0 ≤ x6_2
 {
 rw [if_pos c15] at H
 have c15b0 : decide (0 ≤ x6_2) = true := decide_eq_true c15
 clear c15
 by_cases c16 : ((rd_L2 l1_1 x6_2).length : Int) > 100
 {
 rw [if_pos c16] at H
 have c16b0 : decide (100 < ((rd_L2 l1_1 x6_2).length : Int)) = true := decide_eq_true c16
 have c16b1 : decide (100 < (rd_L2 l1_1 x6_2).length) = true := decide_eq_true (by omega)
 clear c16
 obtain rfl := Option.some.inj H
 have hnb17 := NB103_102.out
 have hnc17 := NB102_103.out
 obtain ⟨hcz18_0, hcz18_1, hfz18_0, hfz18_1⟩ := e2_ BK103
 have p105 : 0 ≤ (x6_2 : Int) := of_decide_eq_true am_
 have q105 : x6_2 < (l1_1.length : Int) := of_decide_eq_true am_
 obtain ⟨ad105, A105_0, c105_0, e105, hx105_0, hl105_0, hi105_0⟩ := at_L2 HR1_1.out x6_2 p105 q105
 cases e105
 replace hx105_0 := (HB.out.cell (World.block_lt_of_cell? w _ hx105_0)).trans hx105_0
 have HR105_0 := Aside0.mk hi105_0
 have HC105_0 := Aside0.mk hl105_0
 clear hi105_0 hl105_0
 replace p105 := eq_true p105
 replace q105 := eq_true q105
 go_wp2
 go_ret
 exact ⟨by first | rfl | (simp [errW_none, errW_some] <;> rfl) | (simp [*, errW_none, errW_some] <;> rfl), bl_ HB⟩}
 {
 rw [if_neg c16] at H
 have c16b0 : decide (100 < ((rd_L2 l1_1 x6_2).length : Int)) = false := decide_eq_false c16
 have c16b1 : decide (100 < (rd_L2 l1_1 x6_2).length) = false := decide_eq_false (by omega)
 clear c16
 have H' := Aside0.mk H
 clear H
 have hnb19 := NB103_102.out
 have hnc19 := NB102_103.out
 obtain ⟨hcz20_0, hcz20_1, hfz20_0, hfz20_1⟩ := e2_ BK103
 have p105 : 0 ≤ (x6_2 : Int) := of_decide_eq_true am_
 have q105 : x6_2 < (l1_1.length : Int) := of_decide_eq_true am_
 obtain ⟨ad105, A105_0, c105_0, e105, hx105_0, hl105_0, hi105_0⟩ := at_L2 HR1_1.out x6_2 p105 q105
 cases e105
 replace hx105_0 := (HB.out.cell (World.block_lt_of_cell? w _ hx105_0)).trans hx105_0
 have HR105_0 := Aside0.mk hi105_0
 have HC105_0 := Aside0.mk hl105_0
 clear hi105_0 hl105_0
 replace p105 := eq_true p105
 replace q105 := eq_true q105
 go_wp2
 go_roundg k2
 case measure => have := HK1.out; have := HK2.out; omega
 case rel => exact ⟨(wrap64 (x6_2 + 1)), rs_, H', ⟨by have := HK1.out; have := HK2.out; omega⟩, ⟨bk_ BK102⟩, ⟨bk_ BK103⟩, ⟨bl_ HB⟩⟩}}
 {
 rw [if_neg c15] at H
 exact absurd H (by simp)}}
 {
 rw [if_neg c14] at H
 have c14b0 : decide (x6_2 < (l1_1.length : Int)) = false := decide_eq_false c14
 clear c14
 obtain ⟨t106, A21, H⟩ := ob_ H
 (try dsimp only at H)
 by_cases c22 : t106 = true
 {
 subst c22
 rw [if_pos rfl] at H
 obtain rfl := Option.some.inj H
 have hnb23 := NB103_102.out
 have hnc23 := NB102_103.out
 obtain ⟨hcz24_0, hcz24_1, hfz24_0, hfz24_1⟩ := e2_ BK103
 obtain ⟨hcz25_0, hcz25_1, hcz25_2, hcz25_3, hfz25_0, hfz25_1, hfz25_2, hfz25_3⟩ := e4_ BK102
 go_wp2_with (first | ((with_reducible refine gate_callee (f := 29) rfl ?_); refine gL_ (some 36) Try.func29 #[.agg #[.int .i64 a0_0, .int .i64 a0_1, .slice A0_2 l0_2.length c0_2, .slice A0_3 l0_3.length c0_3]] ?_; (with_reducible refine (psalterylaw16_Great.calls a0_0 a0_1 _ _ l0_2 _ _ l0_3 true _ ?side1 ?side2 ?side3 ?side4 A21.out).mono ?_); (case side1 => exact kC_ HR0_2 HB); (case side2 => exact HC0_2.out); (case side3 => exact kC_ HR0_3 HB); (case side4 => exact HC0_3.out); rintro e w26 ⟨rfl, hb⟩; refine ⟨_, rfl, ?_⟩; replace BK102 := FB_ BK102 hb; replace BK103 := FB_ BK103 hb; replace HB := BS_ HB hb; (try clear hb)))
 go_ret
 exact ⟨by first | rfl | (simp [errW_none, errW_some] <;> rfl) | (simp [*, errW_none, errW_some] <;> rfl), bl_ HB⟩}
 {
 replace c22 := Bool.eq_false_iff.mpr c22
 subst c22
 rw [if_neg (show ¬ (false = true) by decide)] at H
 by_cases c27 : (l1_0.length : Int) > 10
 {
 rw [if_pos c27] at H
 have c27b0 : decide (10 < (l1_0.length : Int)) = true := decide_eq_true c27
 have c27b1 : decide (10 < l1_0.length) = true := decide_eq_true (by omega)
 clear c27
 obtain rfl := Option.some.inj H
 have hnb28 := NB103_102.out
 have hnc28 := NB102_103.out
 obtain ⟨hcz29_0, hcz29_1, hfz29_0, hfz29_1⟩ := e2_ BK103
 obtain ⟨hcz30_0, hcz30_1, hcz30_2, hcz30_3, hfz30_0, hfz30_1, hfz30_2, hfz30_3⟩ := e4_ BK102
 go_wp2_with (first | ((with_reducible refine gate_callee (f := 29) rfl ?_); refine gL_ (some 36) Try.func29 #[.agg #[.int .i64 a0_0, .int .i64 a0_1, .slice A0_2 l0_2.length c0_2, .slice A0_3 l0_3.length c0_3]] ?_; (with_reducible refine (psalterylaw16_Great.calls a0_0 a0_1 _ _ l0_2 _ _ l0_3 false _ ?side1 ?side2 ?side3 ?side4 A21.out).mono ?_); (case side1 => exact kC_ HR0_2 HB); (case side2 => exact HC0_2.out); (case side3 => exact kC_ HR0_3 HB); (case side4 => exact HC0_3.out); rintro e w31 ⟨rfl, hb⟩; refine ⟨_, rfl, ?_⟩; replace BK102 := FB_ BK102 hb; replace BK103 := FB_ BK103 hb; replace HB := BS_ HB hb; (try clear hb); obtain ⟨hcz32_0, hcz32_1, hfz32_0, hfz32_1⟩ := e2_ BK103))
 go_ret
 exact ⟨by first | rfl | (simp [errW_none, errW_some] <;> rfl) | (simp [*, errW_none, errW_some] <;> rfl), bl_ HB⟩}
 {
 rw [if_neg c27] at H
 have c27b0 : decide (10 < (l1_0.length : Int)) = false := decide_eq_false c27
 have c27b1 : decide (10 < l1_0.length) = false := decide_eq_false (by omega)
 clear c27
 obtain rfl := Option.some.inj H
 have hnb33 := NB103_102.out
 have hnc33 := NB102_103.out
 obtain ⟨hcz34_0, hcz34_1, hfz34_0, hfz34_1⟩ := e2_ BK103
 obtain ⟨hcz35_0, hcz35_1, hcz35_2, hcz35_3, hfz35_0, hfz35_1, hfz35_2, hfz35_3⟩ := e4_ BK102
 go_wp2_with (first | ((with_reducible refine gate_callee (f := 29) rfl ?_); refine gL_ (some 36) Try.func29 #[.agg #[.int .i64 a0_0, .int .i64 a0_1, .slice A0_2 l0_2.length c0_2, .slice A0_3 l0_3.length c0_3]] ?_; (with_reducible refine (psalterylaw16_Great.calls a0_0 a0_1 _ _ l0_2 _ _ l0_3 false _ ?side1 ?side2 ?side3 ?side4 A21.out).mono ?_); (case side1 => exact kC_ HR0_2 HB); (case side2 => exact HC0_2.out); (case side3 => exact kC_ HR0_3 HB); (case side4 => exact HC0_3.out); rintro e w36 ⟨rfl, hb⟩; refine ⟨_, rfl, ?_⟩; replace BK102 := FB_ BK102 hb; replace BK103 := FB_ BK103 hb; replace HB := BS_ HB hb; (try clear hb); obtain ⟨hcz37_0, hcz37_1, hfz37_0, hfz37_1⟩ := e2_ BK103))
 go_ret
 exact ⟨by first | rfl | (simp [errW_none, errW_some] <;> rfl) | (simp [*, errW_none, errW_some] <;> rfl), bl_ HB⟩}}}))}))
mutual
def psalteryref04_Right.j0 : Nat → List Int → Bool → Option (Bool)
  | 0, _, _ => none
  | k + 1, x0, x15 => if x15 = true then (some false) else (psalteryref04_Right.l0 k x0 0 0 0)
def psalteryref04_Right.l0 : Nat → List Int → Int → Int → Int → Option (Bool)
  | 0, _, _, _, _ => none
  | k + 1, x0, x3, x4, x5 => if x5 < (x0.length : Int) then (if 0 ≤ x5 then (if (rd x0 x5) < 0 then (psalteryref04_Right.j2 k x0 x3 x4 x5 true) else (psalteryref04_Right.j2 k x0 x3 x4 x5 (decide ((rd x0 x5) > 16)))) else (none)) else (if x4 = 1 then (some (x3 == 32768)) else (if x4 > 1 then (some (x3 == 65536)) else (some false)))
def psalteryref04_Right.j2 : Nat → List Int → Int → Int → Int → Bool → Option (Bool)
  | 0, _, _, _, _, _ => none
  | k + 1, x0, x3, x4, x5, x33 => if x33 = true then (some false) else (if 0 ≤ x5 then (if x5 < (x0.length : Int) then (if (rd x0 x5) > 0 then (psalteryref04_Right.l1 k x0 x3 (wrap64 (x4 + 1)) x5 65536 0) else (psalteryref04_Right.l0 k x0 x3 x4 (wrap64 (x5 + 1)))) else (none)) else (none))
def psalteryref04_Right.l1 : Nat → List Int → Int → Int → Int → Int → Int → Option (Bool)
  | 0, _, _, _, _, _, _ => none
  | k + 1, x0, x3, x4, x5, x6, x7 => if 0 ≤ x5 then (if x5 < (x0.length : Int) then (if x7 < (rd x0 x5) then (psalteryref04_Right.l1 k x0 x3 x4 x5 (wrap64 (Int.tdiv x6 2)) (wrap64 (x7 + 1))) else (psalteryref04_Right.l0 k x0 (wrap64 (x3 + x6)) x4 (wrap64 (x5 + 1)))) else (none)) else (none)
end
def psalteryref04_Right.f (k : Nat) (l0 : List Int) : Option (Bool) := if (l0.length : Int) < 2 then (psalteryref04_Right.j0 k l0 true) else (psalteryref04_Right.j0 k l0 (decide ((l0.length : Int) > 64)))
theorem psalteryref04_Right.mono_l : ∀ k, (∀ y0 y1, LeO (psalteryref04_Right.j0 k y0 y1) (psalteryref04_Right.j0 (k + 1) y0 y1)) ∧ (∀ y0 y1 y2 y3, LeO (psalteryref04_Right.l0 k y0 y1 y2 y3) (psalteryref04_Right.l0 (k + 1) y0 y1 y2 y3)) ∧ (∀ y0 y1 y2 y3 y4, LeO (psalteryref04_Right.j2 k y0 y1 y2 y3 y4) (psalteryref04_Right.j2 (k + 1) y0 y1 y2 y3 y4)) ∧ (∀ y0 y1 y2 y3 y4 y5, LeO (psalteryref04_Right.l1 k y0 y1 y2 y3 y4 y5) (psalteryref04_Right.l1 (k + 1) y0 y1 y2 y3 y4 y5))
  | 0 => ⟨fun _ _ r h => by simp [psalteryref04_Right.j0] at h, fun _ _ _ _ r h => by simp [psalteryref04_Right.l0] at h, fun _ _ _ _ _ r h => by simp [psalteryref04_Right.j2] at h, fun _ _ _ _ _ _ r h => by simp [psalteryref04_Right.l1] at h⟩
  | k + 1 => by
    obtain ⟨ih0, ih1, ih2, ih3⟩ := psalteryref04_Right.mono_l k
    refine ⟨?_, ?_, ?_, ?_⟩
    all_goals (intros; first | unfold psalteryref04_Right.j0 | unfold psalteryref04_Right.l0 | unfold psalteryref04_Right.j2 | unfold psalteryref04_Right.l1)
    all_goals with_reducible repeat' first
     | exact ih0 _ _
     | exact ih1 _ _ _ _
     | exact ih2 _ _ _ _ _
     | exact ih3 _ _ _ _ _ _
     | exact LeO.refl _
     | exact LeO.none _
     | refine LeO.ite ?_ ?_
     | refine LeO.bind ?_ (fun _ => ?_)
theorem psalteryref04_Right.mono : ∀ a0 k, LeO (psalteryref04_Right.f k a0) (psalteryref04_Right.f (k + 1) a0) := by
  intro a0 k
  obtain ⟨ih0, ih1, ih2, ih3⟩ := psalteryref04_Right.mono_l k
  unfold psalteryref04_Right.f
  with_reducible repeat' first
   | exact ih0 _ _
   | exact ih1 _ _ _ _
   | exact ih2 _ _ _ _ _
   | exact ih3 _ _ _ _ _ _
   | exact LeO.refl _
   | exact LeO.none _
   | refine LeO.ite ?_ ?_
   | refine LeO.bind ?_ (fun _ => ?_)
set_option maxHeartbeats 8000000 in
set_option maxRecDepth 100000 in
theorem psalteryref04_Right.calls (k : Nat) (A0 : Option Addr) (c0 : Nat) (l0 : List Int) (r : Bool) (w : World) (hr0 : Kd.C (Kd.int .i64) w A0 l0.length l0) (hc0 : l0.length ≤ c0) (h : psalteryref04_Right.f k l0 = some r) :
    Calls Try.prog 64 #[.slice A0 l0.length c0] w fun e w' => e = .returned (.bool r) ∧ Drawn0 w w' := by
 have HR0 := Aside0.mk hr0
 have HC0 := Aside0.mk hc0
 clear hr0 hc0
 have H : (if (l0.length : Int) < 2 then (psalteryref04_Right.j0 k l0 true) else (psalteryref04_Right.j0 k l0 (decide ((l0.length : Int) > 64)))) = some r := h
 clear h
 have HC2 := Aside0.mk H
 clear H
 go_enter Try.func64, Try.ntmps64
 go_upto_region 1 with (fail)
 go_cut [15] (fun v15 wc => ∃ (kq : Nat) (x15_1 : Bool), v15 = .bool x15_1 ∧ Aside0 (psalteryref04_Right.j0 kq l0 x15_1 = some r) ∧ Aside0 (kq ≤ k) ∧ Drawn0 w wc)
 case first => (
 have H := HC2.out
 clear HC2
 by_cases c3 : (l0.length : Int) < 2
 {
 rw [if_pos c3] at H
 have c3b0 : decide ((l0.length : Int) < 2) = true := decide_eq_true c3
 have c3b1 : decide (l0.length < 2) = true := decide_eq_true (by omega)
 clear c3
 (first | rw [c3b0] | (simp only [i64_w, i32_w]; rw [c3b0]) | skip)
 have H' := Aside0.mk H
 clear H
 go_wp2
 go_meet
 case rel => exact ⟨_, (true), rs_, H', ⟨ol_⟩, by repeat (first | exact Drawn0.refl _ | apply Drawn0.step)⟩}
 {
 rw [if_neg c3] at H
 have c3b0 : decide ((l0.length : Int) < 2) = false := decide_eq_false c3
 have c3b1 : decide (l0.length < 2) = false := decide_eq_false (by omega)
 clear c3
 (first | rw [c3b0] | (simp only [i64_w, i32_w]; rw [c3b0]) | skip)
 have H' := Aside0.mk H
 clear H
 go_wp2
 go_meet
 case rel => exact ⟨_, (decide ((l0.length : Int) > 64)), rs_, H', ⟨ol_⟩, by repeat (first | exact Drawn0.refl _ | apply Drawn0.step)⟩})
 case rest => (
 clear HC2
 obtain ⟨kq, x15_1, rfl, HA, HJ1, ⟨mc1, rfl⟩⟩ := hcut
 cases kq with
 | zero => exact absurd HA.out (by simp [psalteryref04_Right.j0])
 | succ kj1 => (
 have H := HA.out
 clear HA
 simp only [psalteryref04_Right.j0] at H
 by_cases c4 : x15_1 = true
 {
 subst c4
 rw [if_pos rfl] at H
 obtain rfl := Option.some.inj H
 go_wp2
 go_ret
 exact ⟨by first | rfl | (simp; done) | (simp [*]; done), by repeat (first | exact Drawn0.refl _ | apply Drawn0.step)⟩}
 {
 replace c4 := Bool.eq_false_iff.mpr c4
 subst c4
 rw [if_neg (show ¬ (false = true) by decide)] at H
 have H' := Aside0.mk H
 clear H
 go_wp2
 go_loopg [3, 4, 5] kj1 (fun kq v3 v4 v5 w' => ∃ (x3_2 : Int) (x4_2 : Int) (x5_2 : Int), v3 = .int .i64 x3_2 ∧ v4 = .int .i64 x4_2 ∧ v5 = .int .i64 x5_2 ∧ Aside0 (psalteryref04_Right.l0 kq l0 x3_2 x4_2 x5_2 = some r) ∧ Aside0 (kq ≤ kj1) ∧ Drawn0 w w')
 case atStart => exact ⟨(0), (0), (0), rs_, rs_, rs_, H', ⟨Nat.le_refl _⟩, by repeat (first | exact Drawn0.refl _ | apply Drawn0.step)⟩
 case round => (
 clear H'
 try clear c4
 obtain ⟨x3_2, x4_2, x5_2, rfl, rfl, rfl, HA, HK2, ⟨m2, rfl⟩⟩ := hrel
 cases gk with
 | zero => exact absurd HA.out (by simp [psalteryref04_Right.l0])
 | succ k2 => (
 have H := HA.out
 clear HA
 simp only [psalteryref04_Right.l0] at H
 by_cases c5 : x5_2 < (l0.length : Int)
 {
 rw [if_pos c5] at H
 have c5b0 : decide (x5_2 < (l0.length : Int)) = true := decide_eq_true c5
 clear c5
 have HC6 := Aside0.mk H
 clear H
 go_upto_region 8 with (fail)
 go_cut [33] (fun v33 wc => ∃ (kq : Nat) (x33_5 : Bool), v33 = .bool x33_5 ∧ Aside0 (psalteryref04_Right.j2 kq l0 x3_2 x4_2 x5_2 x33_5 = some r) ∧ Aside0 (kq ≤ k2) ∧ Drawn0 w wc)
 case first => (
 have H := HC6.out
 clear HC6
 by_cases c7 : 0 ≤ x5_2
 {
 rw [if_pos c7] at H
 have c7b0 : decide (0 ≤ x5_2) = true := decide_eq_true c7
 clear c7
 (first | rw [c7b0] | (simp only [i64_w, i32_w]; rw [c7b0]) | skip)
 by_cases c8 : (rd l0 x5_2) < 0
 {
 rw [if_pos c8] at H
 have c8b0 : decide ((rd l0 x5_2) < 0) = true := decide_eq_true c8
 clear c8
 have H' := Aside0.mk H
 clear H
 have p107 : 0 ≤ (x5_2 : Int) := of_decide_eq_true am_
 have q107 : x5_2 < (l0.length : Int) := of_decide_eq_true am_
 obtain ⟨ad107, e107, hx107_0⟩ := Kd.at_int HR0.out x5_2 p107 q107
 cases e107
 replace p107 := eq_true p107
 replace q107 := eq_true q107
 go_wp2
 go_meet
 case rel => exact ⟨_, (true), rs_, H', ⟨by have := HJ1.out; have := HK2.out; first | omega | exact Nat.le_refl _⟩, by repeat (first | exact Drawn0.refl _ | apply Drawn0.step)⟩}
 {
 rw [if_neg c8] at H
 have c8b0 : decide ((rd l0 x5_2) < 0) = false := decide_eq_false c8
 clear c8
 have H' := Aside0.mk H
 clear H
 have p107 : 0 ≤ (x5_2 : Int) := of_decide_eq_true am_
 have q107 : x5_2 < (l0.length : Int) := of_decide_eq_true am_
 obtain ⟨ad107, e107, hx107_0⟩ := Kd.at_int HR0.out x5_2 p107 q107
 cases e107
 replace p107 := eq_true p107
 replace q107 := eq_true q107
 have p108 : 0 ≤ (x5_2 : Int) := of_decide_eq_true am_
 have q108 : x5_2 < (l0.length : Int) := of_decide_eq_true am_
 obtain ⟨ad108, e108, hx108_0⟩ := Kd.at_int HR0.out x5_2 p108 q108
 obtain rfl : ad107 = ad108 := (by injection e108)
 replace p108 := eq_true p108
 replace q108 := eq_true q108
 go_wp2
 go_meet
 case rel => exact ⟨_, (decide ((rd l0 x5_2) > 16)), rs_, H', ⟨by have := HJ1.out; have := HK2.out; first | omega | exact Nat.le_refl _⟩, by repeat (first | exact Drawn0.refl _ | apply Drawn0.step)⟩}}
 {
 rw [if_neg c7] at H
 exact absurd H (by simp)})
 case rest => (
 clear HC6
 try clear c4
 try clear c5
 try clear c5b0
 obtain ⟨kq, x33_5, rfl, HA, HJ5, ⟨mc5, rfl⟩⟩ := hcut
 cases kq with
 | zero => exact absurd HA.out (by simp [psalteryref04_Right.j2])
 | succ kj5 => (
 have H := HA.out
 clear HA
 simp only [psalteryref04_Right.j2] at H
 by_cases c9 : x33_5 = true
 {
 subst c9
 rw [if_pos rfl] at H
 obtain rfl := Option.some.inj H
 go_wp2
 go_ret
 exact ⟨by first | rfl | (simp; done) | (simp [*]; done), by repeat (first | exact Drawn0.refl _ | apply Drawn0.step)⟩}
 {
 replace c9 := Bool.eq_false_iff.mpr c9
 subst c9
 rw [if_neg (show ¬ (false = true) by decide)] at H
 by_cases c10 : 0 ≤ x5_2
 {
 rw [if_pos c10] at H
 have c10b0 : decide (0 ≤ x5_2) = true := decide_eq_true c10
 clear c10
 by_cases c11 : x5_2 < (l0.length : Int)
 {
 rw [if_pos c11] at H
 have c11b0 : decide (x5_2 < (l0.length : Int)) = true := decide_eq_true c11
 clear c11
 by_cases c12 : (rd l0 x5_2) > 0
 {
 rw [if_pos c12] at H
 have c12b0 : decide (0 < (rd l0 x5_2)) = true := decide_eq_true c12
 clear c12
 have H' := Aside0.mk H
 clear H
 have p109 : 0 ≤ (x5_2 : Int) := of_decide_eq_true am_
 have q109 : x5_2 < (l0.length : Int) := of_decide_eq_true am_
 obtain ⟨ad109, e109, hx109_0⟩ := Kd.at_int HR0.out x5_2 p109 q109
 cases e109
 replace p109 := eq_true p109
 replace q109 := eq_true q109
 go_wp2
 go_loopg [6, 7] kj5 (fun kq v6 v7 w' => ∃ (x6_4 : Int) (x7_4 : Int), v6 = .int .i64 x6_4 ∧ v7 = .int .i64 x7_4 ∧ Aside0 (psalteryref04_Right.l1 kq l0 x3_2 (wrap64 (x4_2 + 1)) x5_2 x6_4 x7_4 = some r) ∧ Aside0 (kq ≤ kj5) ∧ Drawn0 w w')
 case atStart => exact ⟨(65536), (0), rs_, rs_, H', ⟨Nat.le_refl _⟩, by repeat (first | exact Drawn0.refl _ | apply Drawn0.step)⟩
 case round => (
 clear H'
 try clear c4
 try clear c5
 try clear c5b0
 try clear c9
 try clear c10
 try clear c10b0
 try clear c11
 try clear c11b0
 try clear c12
 try clear c12b0
 try clear hx109_0
 try clear p109
 try clear q109
 obtain ⟨x6_4, x7_4, rfl, rfl, HA, HK4, ⟨m4, rfl⟩⟩ := hrel
 cases gk with
 | zero => exact absurd HA.out (by simp [psalteryref04_Right.l1])
 | succ k4 => (
 have H := HA.out
 clear HA
 simp only [psalteryref04_Right.l1] at H
 by_cases c13 : 0 ≤ x5_2
 {
 rw [if_pos c13] at H
 have c13b0 : decide (0 ≤ x5_2) = true := decide_eq_true c13
 clear c13
 by_cases c14 : x5_2 < (l0.length : Int)
 {
 rw [if_pos c14] at H
 have c14b0 : decide (x5_2 < (l0.length : Int)) = true := decide_eq_true c14
 clear c14
 by_cases c15 : x7_4 < (rd l0 x5_2)
 {
 rw [if_pos c15] at H
 have c15b0 : decide (x7_4 < (rd l0 x5_2)) = true := decide_eq_true c15
 clear c15
 have H' := Aside0.mk H
 clear H
 have p110 : 0 ≤ (x5_2 : Int) := of_decide_eq_true am_
 have q110 : x5_2 < (l0.length : Int) := of_decide_eq_true am_
 obtain ⟨ad110, e110, hx110_0⟩ := Kd.at_int HR0.out x5_2 p110 q110
 obtain rfl : ad109 = ad110 := (by injection e110)
 replace p110 := eq_true p110
 replace q110 := eq_true q110
 go_wp2
 go_roundg k4
 case measure => have := HJ1.out; have := HK2.out; have := HJ5.out; have := HK4.out; omega
 case rel => exact ⟨(wrap64 (Int.tdiv x6_4 2)), (wrap64 (x7_4 + 1)), rs_, rs_, H', ⟨by have := HJ1.out; have := HK2.out; have := HJ5.out; have := HK4.out; omega⟩, by repeat (first | exact Drawn0.refl _ | apply Drawn0.step)⟩}
 {
 rw [if_neg c15] at H
 have c15b0 : decide (x7_4 < (rd l0 x5_2)) = false := decide_eq_false c15
 clear c15
 have H' := Aside0.mk H
 clear H
 have p110 : 0 ≤ (x5_2 : Int) := of_decide_eq_true am_
 have q110 : x5_2 < (l0.length : Int) := of_decide_eq_true am_
 obtain ⟨ad110, e110, hx110_0⟩ := Kd.at_int HR0.out x5_2 p110 q110
 obtain rfl : ad109 = ad110 := (by injection e110)
 replace p110 := eq_true p110
 replace q110 := eq_true q110
 go_wp2
 go_roundg k4
 case measure => have := HJ1.out; have := HK2.out; have := HJ5.out; have := HK4.out; omega
 case rel => exact ⟨(wrap64 (x3_2 + x6_4)), ((wrap64 (x4_2 + 1))), (wrap64 (x5_2 + 1)), rs_, rs_, rs_, H', ⟨by have := HJ1.out; have := HK2.out; have := HJ5.out; have := HK4.out; omega⟩, by repeat (first | exact Drawn0.refl _ | apply Drawn0.step)⟩}}
 {
 rw [if_neg c14] at H
 exact absurd H (by simp)}}
 {
 rw [if_neg c13] at H
 exact absurd H (by simp)}))}
 {
 rw [if_neg c12] at H
 have c12b0 : decide (0 < (rd l0 x5_2)) = false := decide_eq_false c12
 clear c12
 have H' := Aside0.mk H
 clear H
 have p109 : 0 ≤ (x5_2 : Int) := of_decide_eq_true am_
 have q109 : x5_2 < (l0.length : Int) := of_decide_eq_true am_
 obtain ⟨ad109, e109, hx109_0⟩ := Kd.at_int HR0.out x5_2 p109 q109
 cases e109
 replace p109 := eq_true p109
 replace q109 := eq_true q109
 go_wp2
 go_roundg kj5
 case measure => have := HJ1.out; have := HK2.out; have := HJ5.out; omega
 case rel => exact ⟨(x3_2), (x4_2), (wrap64 (x5_2 + 1)), rs_, rs_, rs_, H', ⟨by have := HJ1.out; have := HK2.out; have := HJ5.out; omega⟩, by repeat (first | exact Drawn0.refl _ | apply Drawn0.step)⟩}}
 {
 rw [if_neg c11] at H
 exact absurd H (by simp)}}
 {
 rw [if_neg c10] at H
 exact absurd H (by simp)}}))}
 {
 rw [if_neg c5] at H
 have c5b0 : decide (x5_2 < (l0.length : Int)) = false := decide_eq_false c5
 clear c5
 by_cases c16 : x4_2 = 1
 {
 rw [if_pos c16] at H
 have c16b0 : (x4_2 == 1) = true := beq_iff_eq.mpr c16
 have c16b1 : (x4_2 != 1) = false := bne_eq_false_iff_eq.mpr c16
 clear c16
 obtain rfl := Option.some.inj H
 go_wp2
 go_ret
 exact ⟨by first | rfl | (simp; done) | (simp [*]; done), by repeat (first | exact Drawn0.refl _ | apply Drawn0.step)⟩}
 {
 rw [if_neg c16] at H
 have c16b0 : (x4_2 == 1) = false := beq_eq_false_iff_ne.mpr c16
 have c16b1 : (x4_2 != 1) = true := bne_iff_ne.mpr c16
 by_cases c17 : x4_2 > 1
 {
 rw [if_pos c17] at H
 have c17b0 : decide (1 < x4_2) = true := decide_eq_true c17
 clear c17
 obtain rfl := Option.some.inj H
 go_wp2
 go_ret
 exact ⟨by first | rfl | (simp; done) | (simp [*]; done), by repeat (first | exact Drawn0.refl _ | apply Drawn0.step)⟩}
 {
 rw [if_neg c17] at H
 have c17b0 : decide (1 < x4_2) = false := decide_eq_false c17
 clear c17
 obtain rfl := Option.some.inj H
 go_wp2
 go_ret
 exact ⟨by first | rfl | (simp; done) | (simp [*]; done), by repeat (first | exact Drawn0.refl _ | apply Drawn0.step)⟩}}}))}))
mutual
def psalteryref16_Right.j0 : Nat → Bool → Int → Int → List Int → List Int → Option (Bool)
  | 0, _, _, _, _, _ => none
  | k + 1, x20, x112000, x112001, x112002, x112003 => if x20 = true then (some false) else (if (x112002.length : Int) = 45 then (psalteryref16_Right.j1 k ((x112003.length : Int) != 16) x112000 x112001 x112002 x112003) else (psalteryref16_Right.j1 k true x112000 x112001 x112002 x112003))
def psalteryref16_Right.j1 : Nat → Bool → Int → Int → List Int → List Int → Option (Bool)
  | 0, _, _, _, _, _ => none
  | k + 1, x30, x112000, x112001, x112002, x112003 => if x30 = true then (some false) else ((psalteryref04_Right.f k x112002).bind fun t112 => (if t112 = true then ((psalteryref04_Right.f k x112003).bind fun t113 => (if t113 = true then (if 15 < (x112003.length : Int) then (some ((rd x112003 15) != 0)) else (none)) else (some false))) else (some false)))
end
def psalteryref16_Right.f (k : Nat) (a0_0 : Int) (a0_1 : Int) (l0_2 : List Int) (l0_3 : List Int) : Option (Bool) := if a0_0 = 1 then (if a0_1 < 0 then (psalteryref16_Right.j0 k true a0_0 a0_1 l0_2 l0_3) else (psalteryref16_Right.j0 k (decide (a0_1 > 12)) a0_0 a0_1 l0_2 l0_3)) else (if a0_0 = 2 then (if a0_1 < 0 then (psalteryref16_Right.j0 k true a0_0 a0_1 l0_2 l0_3) else (psalteryref16_Right.j0 k (decide (a0_1 > 12)) a0_0 a0_1 l0_2 l0_3)) else (psalteryref16_Right.j0 k true a0_0 a0_1 l0_2 l0_3))
theorem psalteryref16_Right.mono_l : ∀ k, (∀ y0 y1 y2 y3 y4, LeO (psalteryref16_Right.j0 k y0 y1 y2 y3 y4) (psalteryref16_Right.j0 (k + 1) y0 y1 y2 y3 y4)) ∧ (∀ y0 y1 y2 y3 y4, LeO (psalteryref16_Right.j1 k y0 y1 y2 y3 y4) (psalteryref16_Right.j1 (k + 1) y0 y1 y2 y3 y4))
  | 0 => ⟨fun _ _ _ _ _ r h => by simp [psalteryref16_Right.j0] at h, fun _ _ _ _ _ r h => by simp [psalteryref16_Right.j1] at h⟩
  | k + 1 => by
    obtain ⟨ih0, ih1⟩ := psalteryref16_Right.mono_l k
    refine ⟨?_, ?_⟩
    all_goals (intros; first | unfold psalteryref16_Right.j0 | unfold psalteryref16_Right.j1)
    all_goals with_reducible repeat' first
     | exact ih0 _ _ _ _ _
     | exact ih1 _ _ _ _ _
     | exact psalteryref04_Right.mono _ _
     | exact LeO.refl _
     | exact LeO.none _
     | refine LeO.ite ?_ ?_
     | refine LeO.bind ?_ (fun _ => ?_)
theorem psalteryref16_Right.mono : ∀ a0 a1 a2 a3 k, LeO (psalteryref16_Right.f k a0 a1 a2 a3) (psalteryref16_Right.f (k + 1) a0 a1 a2 a3) := by
  intro a0 a1 a2 a3 k
  obtain ⟨ih0, ih1⟩ := psalteryref16_Right.mono_l k
  unfold psalteryref16_Right.f
  with_reducible repeat' first
   | exact ih0 _ _ _ _ _
   | exact ih1 _ _ _ _ _
   | exact psalteryref04_Right.mono _ _
   | exact LeO.refl _
   | exact LeO.none _
   | refine LeO.ite ?_ ?_
   | refine LeO.bind ?_ (fun _ => ?_)
set_option maxHeartbeats 8000000 in
set_option maxRecDepth 100000 in
theorem psalteryref16_Right.calls (k : Nat) (a0_0 : Int) (a0_1 : Int) (A0_2 : Option Addr) (c0_2 : Nat) (l0_2 : List Int) (A0_3 : Option Addr) (c0_3 : Nat) (l0_3 : List Int) (r : Bool) (w : World) (hr0_2 : Kd.C (Kd.int .i64) w A0_2 l0_2.length l0_2) (hc0_2 : l0_2.length ≤ c0_2) (hr0_3 : Kd.C (Kd.int .i64) w A0_3 l0_3.length l0_3) (hc0_3 : l0_3.length ≤ c0_3) (h : psalteryref16_Right.f k a0_0 a0_1 l0_2 l0_3 = some r) :
    Calls Try.prog 28 #[.agg #[.int .i64 a0_0, .int .i64 a0_1, .slice A0_2 l0_2.length c0_2, .slice A0_3 l0_3.length c0_3]] w fun e w' => e = .returned (.bool r) ∧ Below w.heap.size w w' := by
 have hu31 := Try.underlying31
 have HR0_2 := Aside0.mk hr0_2
 have HC0_2 := Aside0.mk hc0_2
 clear hr0_2 hc0_2
 have HR0_3 := Aside0.mk hr0_3
 have HC0_3 := Aside0.mk hc0_3
 clear hr0_3 hc0_3
 have HB := Aside0.mk (Below.refl w.heap.size w)
 have H : (if a0_0 = 1 then (if a0_1 < 0 then (psalteryref16_Right.j0 k true a0_0 a0_1 l0_2 l0_3) else (psalteryref16_Right.j0 k (decide (a0_1 > 12)) a0_0 a0_1 l0_2 l0_3)) else (if a0_0 = 2 then (if a0_1 < 0 then (psalteryref16_Right.j0 k true a0_0 a0_1 l0_2 l0_3) else (psalteryref16_Right.j0 k (decide (a0_1 > 12)) a0_0 a0_1 l0_2 l0_3)) else (psalteryref16_Right.j0 k true a0_0 a0_1 l0_2 l0_3))) = some r := h
 clear h
 have HC2 := Aside0.mk H
 clear H
 go_enter Try.func28, Try.ntmps28
 go_upto_region 1 with (first | ((with_reducible refine gate_dst (N := 1) rfl ?_); (try (refine gate_guard (by rfl) ?_; dsimp only)); refine bx_ HB 1 #[.int .i64 a0_0, .int .i64 a0_1, .slice A0_2 l0_2.length c0_2, .slice A0_3 l0_3.length c0_3] 31 ?_; clear HB; intro gb111 hg w3 hb BK111 GE111 HB; have GW111 := GE111; clear hb hg))
 (try simp only [Act.put, List.setIfInBounds_toArray, List.set_cons_zero, List.set_cons_succ])
 go_cut [20] (fun v20 wc => ∃ (kq : Nat) (x20_1 : Bool), v20 = .bool x20_1 ∧ Aside0 (psalteryref16_Right.j0 kq x20_1 a0_0 a0_1 l0_2 l0_3 = some r) ∧ Aside0 (kq ≤ k) ∧ Aside0 (wc.heap[gb111]? = some (.cells #[.int .i64 a0_0, .int .i64 a0_1, (.slice A0_2 l0_2.length c0_2), (.slice A0_3 l0_3.length c0_3)] 31 (0, 0))) ∧ Aside0 (Below w.heap.size w wc))
 case first => (
 have H := HC2.out
 clear HC2
 by_cases c4 : a0_0 = 1
 {
 rw [if_pos c4] at H
 have c4b0 : (a0_0 == 1) = true := beq_iff_eq.mpr c4
 have c4b1 : (a0_0 != 1) = false := bne_eq_false_iff_eq.mpr c4
 clear c4
 (first | rw [c4b0] | (simp only [i64_w, i32_w]; rw [c4b0]) | skip)
 by_cases c5 : a0_1 < 0
 {
 rw [if_pos c5] at H
 have c5b0 : decide (a0_1 < 0) = true := decide_eq_true c5
 clear c5
 have H' := Aside0.mk H
 clear H
 obtain ⟨hcz6_0, hcz6_1, hcz6_2, hcz6_3, hfz6_0, hfz6_1, hfz6_2, hfz6_3⟩ := e4_ BK111
 go_wp2
 go_meet
 case rel => exact ⟨_, (true), rs_, H', ⟨ol_⟩, ⟨bk_ BK111⟩, ⟨bl_ HB⟩⟩}
 {
 rw [if_neg c5] at H
 have c5b0 : decide (a0_1 < 0) = false := decide_eq_false c5
 clear c5
 have H' := Aside0.mk H
 clear H
 obtain ⟨hcz7_0, hcz7_1, hcz7_2, hcz7_3, hfz7_0, hfz7_1, hfz7_2, hfz7_3⟩ := e4_ BK111
 go_wp2
 go_meet
 case rel => exact ⟨_, (decide (a0_1 > 12)), rs_, H', ⟨ol_⟩, ⟨bk_ BK111⟩, ⟨bl_ HB⟩⟩}}
 {
 rw [if_neg c4] at H
 have c4b0 : (a0_0 == 1) = false := beq_eq_false_iff_ne.mpr c4
 have c4b1 : (a0_0 != 1) = true := bne_iff_ne.mpr c4
 (first | rw [c4b0] | (simp only [i64_w, i32_w]; rw [c4b0]) | skip)
 by_cases c8 : a0_0 = 2
 {
 rw [if_pos c8] at H
 have c8b0 : (a0_0 == 2) = true := beq_iff_eq.mpr c8
 have c8b1 : (a0_0 != 2) = false := bne_eq_false_iff_eq.mpr c8
 clear c8
 by_cases c9 : a0_1 < 0
 {
 rw [if_pos c9] at H
 have c9b0 : decide (a0_1 < 0) = true := decide_eq_true c9
 clear c9
 have H' := Aside0.mk H
 clear H
 obtain ⟨hcz10_0, hcz10_1, hcz10_2, hcz10_3, hfz10_0, hfz10_1, hfz10_2, hfz10_3⟩ := e4_ BK111
 go_wp2
 go_meet
 case rel => exact ⟨_, (true), rs_, H', ⟨ol_⟩, ⟨bk_ BK111⟩, ⟨bl_ HB⟩⟩}
 {
 rw [if_neg c9] at H
 have c9b0 : decide (a0_1 < 0) = false := decide_eq_false c9
 clear c9
 have H' := Aside0.mk H
 clear H
 obtain ⟨hcz11_0, hcz11_1, hcz11_2, hcz11_3, hfz11_0, hfz11_1, hfz11_2, hfz11_3⟩ := e4_ BK111
 go_wp2
 go_meet
 case rel => exact ⟨_, (decide (a0_1 > 12)), rs_, H', ⟨ol_⟩, ⟨bk_ BK111⟩, ⟨bl_ HB⟩⟩}}
 {
 rw [if_neg c8] at H
 have c8b0 : (a0_0 == 2) = false := beq_eq_false_iff_ne.mpr c8
 have c8b1 : (a0_0 != 2) = true := bne_iff_ne.mpr c8
 have H' := Aside0.mk H
 clear H
 obtain ⟨hcz12_0, hcz12_1, hcz12_2, hcz12_3, hfz12_0, hfz12_1, hfz12_2, hfz12_3⟩ := e4_ BK111
 go_wp2
 go_meet
 case rel => exact ⟨_, (true), rs_, H', ⟨ol_⟩, ⟨bk_ BK111⟩, ⟨bl_ HB⟩⟩}})
 case rest => (
 clear HC2
 obtain ⟨kq, x20_1, rfl, HA, HJ1, BK111, HB⟩ := hcut
 cases kq with
 | zero => exact absurd HA.out (by simp [psalteryref16_Right.j0])
 | succ kj1 => (
 have H := HA.out
 clear HA
 simp only [psalteryref16_Right.j0] at H
 by_cases c13 : x20_1 = true
 {
 subst c13
 rw [if_pos rfl] at H
 obtain rfl := Option.some.inj H
 go_wp2
 go_ret
 exact ⟨by first | rfl | (simp [errW_none, errW_some] <;> rfl) | (simp [*, errW_none, errW_some] <;> rfl), bl_ HB⟩}
 {
 replace c13 := Bool.eq_false_iff.mpr c13
 subst c13
 rw [if_neg (show ¬ (false = true) by decide)] at H
 have HC14 := Aside0.mk H
 clear H
 go_upto_region 3 with (fail)
 go_cut [30] (fun v30 wc => ∃ (kq : Nat) (x30_13 : Bool), v30 = .bool x30_13 ∧ Aside0 (psalteryref16_Right.j1 kq x30_13 a0_0 a0_1 l0_2 l0_3 = some r) ∧ Aside0 (kq ≤ kj1) ∧ Aside0 (wc.heap[gb111]? = some (.cells #[.int .i64 a0_0, .int .i64 a0_1, (.slice A0_2 l0_2.length c0_2), (.slice A0_3 l0_3.length c0_3)] 31 (0, 0))) ∧ Aside0 (Below w.heap.size w wc))
 case first => (
 have H := HC14.out
 clear HC14
 by_cases c15 : (l0_2.length : Int) = 45
 {
 rw [if_pos c15] at H
 have c15b0 : ((l0_2.length : Int) == 45) = true := beq_iff_eq.mpr c15
 have c15b1 : ((l0_2.length : Int) != 45) = false := bne_eq_false_iff_eq.mpr c15
 clear c15
 (first | rw [c15b0] | (simp only [i64_w, i32_w]; rw [c15b0]) | skip)
 have H' := Aside0.mk H
 clear H
 obtain ⟨hcz16_0, hcz16_1, hcz16_2, hcz16_3, hfz16_0, hfz16_1, hfz16_2, hfz16_3⟩ := e4_ BK111
 go_wp2
 go_meet
 case rel => exact ⟨_, (((l0_3.length : Int) != 16)), rs_, H', ⟨by have := HJ1.out; first | omega | exact Nat.le_refl _⟩, ⟨bk_ BK111⟩, ⟨bl_ HB⟩⟩}
 {
 rw [if_neg c15] at H
 have c15b0 : ((l0_2.length : Int) == 45) = false := beq_eq_false_iff_ne.mpr c15
 have c15b1 : ((l0_2.length : Int) != 45) = true := bne_iff_ne.mpr c15
 (first | rw [c15b0] | (simp only [i64_w, i32_w]; rw [c15b0]) | skip)
 have H' := Aside0.mk H
 clear H
 obtain ⟨hcz17_0, hcz17_1, hcz17_2, hcz17_3, hfz17_0, hfz17_1, hfz17_2, hfz17_3⟩ := e4_ BK111
 go_wp2
 go_meet
 case rel => exact ⟨_, (true), rs_, H', ⟨by have := HJ1.out; first | omega | exact Nat.le_refl _⟩, ⟨bk_ BK111⟩, ⟨bl_ HB⟩⟩})
 case rest => (
 clear HC14
 try clear c13
 obtain ⟨kq, x30_13, rfl, HA, HJ13, BK111, HB⟩ := hcut
 cases kq with
 | zero => exact absurd HA.out (by simp [psalteryref16_Right.j1])
 | succ kj13 => (
 have H := HA.out
 clear HA
 simp only [psalteryref16_Right.j1] at H
 by_cases c18 : x30_13 = true
 {
 subst c18
 rw [if_pos rfl] at H
 obtain rfl := Option.some.inj H
 go_wp2
 go_ret
 exact ⟨by first | rfl | (simp [errW_none, errW_some] <;> rfl) | (simp [*, errW_none, errW_some] <;> rfl), bl_ HB⟩}
 {
 replace c18 := Bool.eq_false_iff.mpr c18
 subst c18
 rw [if_neg (show ¬ (false = true) by decide)] at H
 obtain ⟨t112, A19, H⟩ := ob_ H
 (try dsimp only at H)
 by_cases c20 : t112 = true
 {
 subst c20
 rw [if_pos rfl] at H
 obtain ⟨t113, A21, H⟩ := ob_ H
 (try dsimp only at H)
 by_cases c22 : t113 = true
 {
 subst c22
 rw [if_pos rfl] at H
 by_cases c23 : 15 < (l0_3.length : Int)
 {
 rw [if_pos c23] at H
 have c23b0 : decide (15 < (l0_3.length : Int)) = true := decide_eq_true c23
 have c23b1 : decide (15 < l0_3.length) = true := decide_eq_true (by omega)
 clear c23
 obtain rfl := Option.some.inj H
 obtain ⟨hcz24_0, hcz24_1, hcz24_2, hcz24_3, hfz24_0, hfz24_1, hfz24_2, hfz24_3⟩ := e4_ BK111
 go_wp2_with (first | ((with_reducible refine gate_callee (f := 64) rfl ?_); refine gL_ (some 33) Try.func64 #[.slice A0_2 l0_2.length c0_2] ?_; (with_reducible refine (psalteryref04_Right.calls kj13 _ _ l0_2 true _ ?side1 ?side2 A19.out).mono ?_); (case side1 => exact kC_ HR0_2 HB); (case side2 => exact HC0_2.out); rintro e w' ⟨rfl, ⟨nd, rfl⟩⟩; refine ⟨_, rfl, ?_⟩) | (go_at_call 64; (with_reducible refine (psalteryref04_Right.calls kj13 _ _ l0_3 true _ ?side1 ?side2 A21.out).mono ?_); (case side1 => repeat (first | exact (Kd.C_below HR0_3.out (bl_ HB)) | (with_reducible refine Kd.C_alloc ?_ _) | (with_reducible refine Kd.C_drewN ?_ _) | (with_reducible refine Kd.C_drew ?_))); (case side2 => exact HC0_3.out); rintro e w' ⟨rfl, ⟨nd, rfl⟩⟩; have p114 : 0 ≤ (15 : Int) := (by omega); have q114 : 15 < (l0_3.length : Int) := of_decide_eq_true am_; obtain ⟨ad114, e114, hx114_0⟩ := Kd.at_int HR0_3.out 15 p114 q114; cases e114; (try simp only [show (15 : Int).toNat = 15 from rfl, Nat.reduceMul, Nat.reduceEqDiff, Go.Addr.add, ↓reduceIte] at hx114_0); have qi114 : (15 < l0_3.length) = True := eq_true (by omega); (try rw [show ((15 : Int)).toNat = 15 from rfl] at hx114_0); replace hx114_0 := (HB.out.cell (World.block_lt_of_cell? w _ hx114_0)).trans hx114_0; replace p114 := eq_true p114; replace q114 := eq_true q114))
 go_ret
 exact ⟨by first | rfl | (simp [errW_none, errW_some] <;> rfl) | (simp [*, errW_none, errW_some] <;> rfl), bl_ HB⟩}
 {
 rw [if_neg c23] at H
 exact absurd H (by simp)}}
 {
 replace c22 := Bool.eq_false_iff.mpr c22
 subst c22
 rw [if_neg (show ¬ (false = true) by decide)] at H
 obtain rfl := Option.some.inj H
 obtain ⟨hcz25_0, hcz25_1, hcz25_2, hcz25_3, hfz25_0, hfz25_1, hfz25_2, hfz25_3⟩ := e4_ BK111
 go_wp2_with (first | ((with_reducible refine gate_callee (f := 64) rfl ?_); refine gL_ (some 33) Try.func64 #[.slice A0_2 l0_2.length c0_2] ?_; (with_reducible refine (psalteryref04_Right.calls kj13 _ _ l0_2 true _ ?side1 ?side2 A19.out).mono ?_); (case side1 => exact kC_ HR0_2 HB); (case side2 => exact HC0_2.out); rintro e w' ⟨rfl, ⟨nd, rfl⟩⟩; refine ⟨_, rfl, ?_⟩) | (go_at_call 64; (with_reducible refine (psalteryref04_Right.calls kj13 _ _ l0_3 false _ ?side1 ?side2 A21.out).mono ?_); (case side1 => repeat (first | exact (Kd.C_below HR0_3.out (bl_ HB)) | (with_reducible refine Kd.C_alloc ?_ _) | (with_reducible refine Kd.C_drewN ?_ _) | (with_reducible refine Kd.C_drew ?_))); (case side2 => exact HC0_3.out); rintro e w' ⟨rfl, ⟨nd, rfl⟩⟩))
 go_ret
 exact ⟨by first | rfl | (simp [errW_none, errW_some] <;> rfl) | (simp [*, errW_none, errW_some] <;> rfl), bl_ HB⟩}}
 {
 replace c20 := Bool.eq_false_iff.mpr c20
 subst c20
 rw [if_neg (show ¬ (false = true) by decide)] at H
 obtain rfl := Option.some.inj H
 obtain ⟨hcz26_0, hcz26_1, hcz26_2, hcz26_3, hfz26_0, hfz26_1, hfz26_2, hfz26_3⟩ := e4_ BK111
 go_wp2_with (first | ((with_reducible refine gate_callee (f := 64) rfl ?_); refine gL_ (some 33) Try.func64 #[.slice A0_2 l0_2.length c0_2] ?_; (with_reducible refine (psalteryref04_Right.calls kj13 _ _ l0_2 false _ ?side1 ?side2 A19.out).mono ?_); (case side1 => exact kC_ HR0_2 HB); (case side2 => exact HC0_2.out); rintro e w' ⟨rfl, ⟨nd, rfl⟩⟩; refine ⟨_, rfl, ?_⟩))
 go_ret
 exact ⟨by first | rfl | (simp [errW_none, errW_some] <;> rfl) | (simp [*, errW_none, errW_some] <;> rfl), bl_ HB⟩}}))}))
def psalteryref14_Right.l0 : Nat → List Int → Bool → Int → Option (Bool)
  | 0, _, _, _ => none
  | k + 1, x0, x3, x4 => if x4 < (x0.length : Int) then (if x3 = true then (if 0 ≤ x4 then (if (rd x0 x4) ≥ 0 then (psalteryref14_Right.l0 k x0 (decide ((rd x0 x4) ≤ 44)) (wrap64 (x4 + 1))) else (psalteryref14_Right.l0 k x0 false (wrap64 (x4 + 1)))) else (none)) else (psalteryref14_Right.l0 k x0 false (wrap64 (x4 + 1)))) else (some x3)
def psalteryref14_Right.f (k : Nat) (l0 : List Int) : Option (Bool) := psalteryref14_Right.l0 k l0 ((l0.length : Int) == 6) 0
theorem psalteryref14_Right.mono_l : ∀ k, (∀ y0 y1 y2, LeO (psalteryref14_Right.l0 k y0 y1 y2) (psalteryref14_Right.l0 (k + 1) y0 y1 y2))
  | 0 => fun _ _ _ r h => by simp [psalteryref14_Right.l0] at h
  | k + 1 => by
    have ih0 := psalteryref14_Right.mono_l k
    · intro y0 y1 y2
      unfold psalteryref14_Right.l0
      with_reducible repeat' first
   | exact ih0 _ _ _
   | exact LeO.refl _
   | exact LeO.none _
   | refine LeO.ite ?_ ?_
   | refine LeO.bind ?_ (fun _ => ?_)
theorem psalteryref14_Right.mono : ∀ a0 k, LeO (psalteryref14_Right.f k a0) (psalteryref14_Right.f (k + 1) a0) := by
  intro a0 k
  have ih0 := psalteryref14_Right.mono_l k
  unfold psalteryref14_Right.f
  with_reducible repeat' first
   | exact ih0 _ _ _
   | exact LeO.refl _
   | exact LeO.none _
   | refine LeO.ite ?_ ?_
   | refine LeO.bind ?_ (fun _ => ?_)
set_option maxHeartbeats 8000000 in
set_option maxRecDepth 100000 in
theorem psalteryref14_Right.calls (k : Nat) (A0 : Option Addr) (c0 : Nat) (l0 : List Int) (r : Bool) (w : World) (hr0 : Kd.C (Kd.int .i64) w A0 l0.length l0) (hc0 : l0.length ≤ c0) (h : psalteryref14_Right.f k l0 = some r) :
    Calls Try.prog 65 #[.slice A0 l0.length c0] w fun e w' => e = .returned (.bool r) ∧ Drawn0 w w' := by
 have HR0 := Aside0.mk hr0
 have HC0 := Aside0.mk hc0
 clear hr0 hc0
 have H : (psalteryref14_Right.l0 k l0 ((l0.length : Int) == 6) 0) = some r := h
 clear h
 have H' := Aside0.mk H
 clear H
 go_enter Try.func65, Try.ntmps65
 go_wp2
 go_loopg [3, 4] k (fun kq v3 v4 w' => ∃ (x3_1 : Bool) (x4_1 : Int), v3 = .bool x3_1 ∧ v4 = .int .i64 x4_1 ∧ Aside0 (psalteryref14_Right.l0 kq l0 x3_1 x4_1 = some r) ∧ Aside0 (kq ≤ k) ∧ Drawn0 w w')
 case atStart => exact ⟨(((l0.length : Int) == 6)), (0), rs_, rs_, H', ⟨Nat.le_refl _⟩, by repeat (first | exact Drawn0.refl _ | apply Drawn0.step)⟩
 case round => (
 clear H'
 obtain ⟨x3_1, x4_1, rfl, rfl, HA, HK1, ⟨m1, rfl⟩⟩ := hrel
 cases gk with
 | zero => exact absurd HA.out (by simp [psalteryref14_Right.l0])
 | succ k1 => (
 have H := HA.out
 clear HA
 simp only [psalteryref14_Right.l0] at H
 by_cases c2 : x4_1 < (l0.length : Int)
 {
 rw [if_pos c2] at H
 have c2b0 : decide (x4_1 < (l0.length : Int)) = true := decide_eq_true c2
 clear c2
 by_cases c3 : x3_1 = true
 {
 subst c3
 rw [if_pos rfl] at H
 by_cases c4 : 0 ≤ x4_1
 {
 rw [if_pos c4] at H
 have c4b0 : decide (0 ≤ x4_1) = true := decide_eq_true c4
 clear c4
 by_cases c5 : (rd l0 x4_1) ≥ 0
 {
 rw [if_pos c5] at H
 have c5b0 : decide (0 ≤ (rd l0 x4_1)) = true := decide_eq_true c5
 clear c5
 have H' := Aside0.mk H
 clear H
 have p115 : 0 ≤ (x4_1 : Int) := of_decide_eq_true am_
 have q115 : x4_1 < (l0.length : Int) := of_decide_eq_true am_
 obtain ⟨ad115, e115, hx115_0⟩ := Kd.at_int HR0.out x4_1 p115 q115
 cases e115
 replace p115 := eq_true p115
 replace q115 := eq_true q115
 have p116 : 0 ≤ (x4_1 : Int) := of_decide_eq_true am_
 have q116 : x4_1 < (l0.length : Int) := of_decide_eq_true am_
 obtain ⟨ad116, e116, hx116_0⟩ := Kd.at_int HR0.out x4_1 p116 q116
 obtain rfl : ad115 = ad116 := (by injection e116)
 replace p116 := eq_true p116
 replace q116 := eq_true q116
 go_wp2
 go_roundg k1
 case measure => have := HK1.out; omega
 case rel => exact ⟨(decide ((rd l0 x4_1) ≤ 44)), (wrap64 (x4_1 + 1)), rs_, rs_, H', ⟨by have := HK1.out; omega⟩, by repeat (first | exact Drawn0.refl _ | apply Drawn0.step)⟩}
 {
 rw [if_neg c5] at H
 have c5b0 : decide (0 ≤ (rd l0 x4_1)) = false := decide_eq_false c5
 clear c5
 have H' := Aside0.mk H
 clear H
 have p115 : 0 ≤ (x4_1 : Int) := of_decide_eq_true am_
 have q115 : x4_1 < (l0.length : Int) := of_decide_eq_true am_
 obtain ⟨ad115, e115, hx115_0⟩ := Kd.at_int HR0.out x4_1 p115 q115
 cases e115
 replace p115 := eq_true p115
 replace q115 := eq_true q115
 go_wp2
 go_roundg k1
 case measure => have := HK1.out; omega
 case rel => exact ⟨(false), (wrap64 (x4_1 + 1)), rs_, rs_, H', ⟨by have := HK1.out; omega⟩, by repeat (first | exact Drawn0.refl _ | apply Drawn0.step)⟩}}
 {
 rw [if_neg c4] at H
 exact absurd H (by simp)}}
 {
 replace c3 := Bool.eq_false_iff.mpr c3
 subst c3
 rw [if_neg (show ¬ (false = true) by decide)] at H
 have H' := Aside0.mk H
 clear H
 go_wp2
 go_roundg k1
 case measure => have := HK1.out; omega
 case rel => exact ⟨(false), (wrap64 (x4_1 + 1)), rs_, rs_, H', ⟨by have := HK1.out; omega⟩, by repeat (first | exact Drawn0.refl _ | apply Drawn0.step)⟩}}
 {
 rw [if_neg c2] at H
 have c2b0 : decide (x4_1 < (l0.length : Int)) = false := decide_eq_false c2
 clear c2
 obtain rfl := Option.some.inj H
 go_wp2
 go_ret
 exact ⟨by first | rfl | (simp; done) | (simp [*]; done), by repeat (first | exact Drawn0.refl _ | apply Drawn0.step)⟩}))
mutual
def psalteryref17_channel.j0 : Nat → List Int → List Int → Bool → Int → Int → List Int → List Int → Option (Bool)
  | 0, _, _, _, _, _, _, _ => none
  | k + 1, x1, x2, x22, x118000, x118001, x118002, x118003 => if x22 = true then (some false) else (psalteryref17_channel.l0 k x1 x2 0 x118000 x118001 x118002 x118003)
def psalteryref17_channel.l0 : Nat → List Int → List Int → Int → Int → Int → List Int → List Int → Option (Bool)
  | 0, _, _, _, _, _, _, _ => none
  | k + 1, x1, x2, x7, x118000, x118001, x118002, x118003 => if x7 < 6 then (if 0 ≤ x7 then (if x7 < (x1.length : Int) then (if 0 ≤ (rd x1 x7) then (if (rd x1 x7) < (x118002.length : Int) then (if (rd x118002 (rd x1 x7)) = 0 then (some false) else (psalteryref17_channel.l0 k x1 x2 (wrap64 (x7 + 1)) x118000 x118001 x118002 x118003)) else (none)) else (none)) else (none)) else (none)) else (psalteryref17_channel.l1 k x2 0)
def psalteryref17_channel.l1 : Nat → List Int → Int → Option (Bool)
  | 0, _, _ => none
  | k + 1, x2, x8 => if x8 < 16 then (if 0 ≤ x8 then (if x8 < (x2.length : Int) then (if (rd x2 x8) > 4194303 then (some false) else (if (rd x2 x8) < (-4194303) then (some false) else (psalteryref17_channel.l1 k x2 (wrap64 (x8 + 1))))) else (none)) else (none)) else (some true)
end
def psalteryref17_channel.f (k : Nat) (a0_0 : Int) (a0_1 : Int) (l0_2 : List Int) (l0_3 : List Int) (l1 : List Int) (l2 : List Int) : Option (Bool) := if (l1.length : Int) = 0 then (some ((l2.length : Int) == 0)) else ((psalteryref14_Right.f k l1).bind fun t118 => (if t118 = true then (psalteryref17_channel.j0 k l1 l2 ((l2.length : Int) != 16) a0_0 a0_1 l0_2 l0_3) else (psalteryref17_channel.j0 k l1 l2 true a0_0 a0_1 l0_2 l0_3)))
theorem psalteryref17_channel.mono_l : ∀ k, (∀ y0 y1 y2 y3 y4 y5 y6, LeO (psalteryref17_channel.j0 k y0 y1 y2 y3 y4 y5 y6) (psalteryref17_channel.j0 (k + 1) y0 y1 y2 y3 y4 y5 y6)) ∧ (∀ y0 y1 y2 y3 y4 y5 y6, LeO (psalteryref17_channel.l0 k y0 y1 y2 y3 y4 y5 y6) (psalteryref17_channel.l0 (k + 1) y0 y1 y2 y3 y4 y5 y6)) ∧ (∀ y0 y1, LeO (psalteryref17_channel.l1 k y0 y1) (psalteryref17_channel.l1 (k + 1) y0 y1))
  | 0 => ⟨fun _ _ _ _ _ _ _ r h => by simp [psalteryref17_channel.j0] at h, fun _ _ _ _ _ _ _ r h => by simp [psalteryref17_channel.l0] at h, fun _ _ r h => by simp [psalteryref17_channel.l1] at h⟩
  | k + 1 => by
    obtain ⟨ih0, ih1, ih2⟩ := psalteryref17_channel.mono_l k
    refine ⟨?_, ?_, ?_⟩
    all_goals (intros; first | unfold psalteryref17_channel.j0 | unfold psalteryref17_channel.l0 | unfold psalteryref17_channel.l1)
    all_goals with_reducible repeat' first
     | exact ih0 _ _ _ _ _ _ _
     | exact ih1 _ _ _ _ _ _ _
     | exact ih2 _ _
     | exact psalteryref14_Right.mono _ _
     | exact LeO.refl _
     | exact LeO.none _
     | refine LeO.ite ?_ ?_
     | refine LeO.bind ?_ (fun _ => ?_)
theorem psalteryref17_channel.mono : ∀ a0 a1 a2 a3 a4 a5 k, LeO (psalteryref17_channel.f k a0 a1 a2 a3 a4 a5) (psalteryref17_channel.f (k + 1) a0 a1 a2 a3 a4 a5) := by
  intro a0 a1 a2 a3 a4 a5 k
  obtain ⟨ih0, ih1, ih2⟩ := psalteryref17_channel.mono_l k
  unfold psalteryref17_channel.f
  with_reducible repeat' first
   | exact ih0 _ _ _ _ _ _ _
   | exact ih1 _ _ _ _ _ _ _
   | exact ih2 _ _
   | exact psalteryref14_Right.mono _ _
   | exact LeO.refl _
   | exact LeO.none _
   | refine LeO.ite ?_ ?_
   | refine LeO.bind ?_ (fun _ => ?_)
set_option maxHeartbeats 8000000 in
set_option maxRecDepth 100000 in
theorem psalteryref17_channel.calls (k : Nat) (a0_0 : Int) (a0_1 : Int) (A0_2 : Option Addr) (c0_2 : Nat) (l0_2 : List Int) (A0_3 : Option Addr) (c0_3 : Nat) (l0_3 : List Int) (A1 : Option Addr) (c1 : Nat) (l1 : List Int) (A2 : Option Addr) (c2 : Nat) (l2 : List Int) (r : Bool) (w : World) (hr0_2 : Kd.C (Kd.int .i64) w A0_2 l0_2.length l0_2) (hc0_2 : l0_2.length ≤ c0_2) (hr0_3 : Kd.C (Kd.int .i64) w A0_3 l0_3.length l0_3) (hc0_3 : l0_3.length ≤ c0_3) (hr1 : Kd.C (Kd.int .i64) w A1 l1.length l1) (hc1 : l1.length ≤ c1) (hr2 : Kd.C (Kd.int .i64) w A2 l2.length l2) (hc2 : l2.length ≤ c2) (h : psalteryref17_channel.f k a0_0 a0_1 l0_2 l0_3 l1 l2 = some r) :
    Calls Try.prog 30 #[.agg #[.int .i64 a0_0, .int .i64 a0_1, .slice A0_2 l0_2.length c0_2, .slice A0_3 l0_3.length c0_3], .slice A1 l1.length c1, .slice A2 l2.length c2] w fun e w' => e = .returned (.bool r) ∧ Below w.heap.size w w' := by
 have hu31 := Try.underlying31
 have HR0_2 := Aside0.mk hr0_2
 have HC0_2 := Aside0.mk hc0_2
 clear hr0_2 hc0_2
 have HR0_3 := Aside0.mk hr0_3
 have HC0_3 := Aside0.mk hc0_3
 clear hr0_3 hc0_3
 have HR1 := Aside0.mk hr1
 have HC1 := Aside0.mk hc1
 clear hr1 hc1
 have HR2 := Aside0.mk hr2
 have HC2 := Aside0.mk hc2
 clear hr2 hc2
 have HB := Aside0.mk (Below.refl w.heap.size w)
 have H : (if (l1.length : Int) = 0 then (some ((l2.length : Int) == 0)) else ((psalteryref14_Right.f k l1).bind fun t118 => (if t118 = true then (psalteryref17_channel.j0 k l1 l2 ((l2.length : Int) != 16) a0_0 a0_1 l0_2 l0_3) else (psalteryref17_channel.j0 k l1 l2 true a0_0 a0_1 l0_2 l0_3)))) = some r := h
 clear h
 by_cases c4 : (l1.length : Int) = 0
 {
 rw [if_pos c4] at H
 have c4b0 : ((l1.length : Int) == 0) = true := beq_iff_eq.mpr c4
 have c4b1 : ((l1.length : Int) != 0) = false := bne_eq_false_iff_eq.mpr c4
 clear c4
 obtain rfl := Option.some.inj H
 go_enter Try.func30, Try.ntmps30
 go_wp2_with (first | ((with_reducible refine gate_dst (N := 3) rfl ?_); (try (refine gate_guard (by rfl) ?_; dsimp only)); refine bx_ HB 3 #[.int .i64 a0_0, .int .i64 a0_1, .slice A0_2 l0_2.length c0_2, .slice A0_3 l0_3.length c0_3] 31 ?_; clear HB; intro gb117 hg w5 hb BK117 GE117 HB; have GW117 := GE117; clear hb hg))
 repeat (go_quiet (first | ((with_reducible refine gate_dst (N := 3) rfl ?_); (try (refine gate_guard (by rfl) ?_; dsimp only)); refine bx_ HB 3 #[.int .i64 a0_0, .int .i64 a0_1, .slice A0_2 l0_2.length c0_2, .slice A0_3 l0_3.length c0_3] 31 ?_; clear HB; intro gb117 hg w5 hb BK117 GE117 HB; have GW117 := GE117; clear hb hg)); try go_wp2_with (first | ((with_reducible refine gate_dst (N := 3) rfl ?_); (try (refine gate_guard (by rfl) ?_; dsimp only)); refine bx_ HB 3 #[.int .i64 a0_0, .int .i64 a0_1, .slice A0_2 l0_2.length c0_2, .slice A0_3 l0_3.length c0_3] 31 ?_; clear HB; intro gb117 hg w5 hb BK117 GE117 HB; have GW117 := GE117; clear hb hg)))
 go_ret
 exact ⟨by first | rfl | (simp [errW_none, errW_some] <;> rfl) | (simp [*, errW_none, errW_some] <;> rfl), bl_ HB⟩}
 {
 rw [if_neg c4] at H
 have c4b0 : ((l1.length : Int) == 0) = false := beq_eq_false_iff_ne.mpr c4
 have c4b1 : ((l1.length : Int) != 0) = true := bne_iff_ne.mpr c4
 have c4b2 : ¬ (l1 = []) := fun h_ => c4 (by rw [h_]; rfl)
 have HC6 := Aside0.mk H
 clear H
 go_enter Try.func30, Try.ntmps30
 go_upto_region 3 with (first | ((with_reducible refine gate_dst (N := 3) rfl ?_); (try (refine gate_guard (by rfl) ?_; dsimp only)); refine bx_ HB 3 #[.int .i64 a0_0, .int .i64 a0_1, .slice A0_2 l0_2.length c0_2, .slice A0_3 l0_3.length c0_3] 31 ?_; clear HB; intro gb117 hg w7 hb BK117 GE117 HB; have GW117 := GE117; clear hb hg))
 repeat (go_quiet (first | ((with_reducible refine gate_dst (N := 3) rfl ?_); (try (refine gate_guard (by rfl) ?_; dsimp only)); refine bx_ HB 3 #[.int .i64 a0_0, .int .i64 a0_1, .slice A0_2 l0_2.length c0_2, .slice A0_3 l0_3.length c0_3] 31 ?_; clear HB; intro gb117 hg w7 hb BK117 GE117 HB; have GW117 := GE117; clear hb hg)); go_upto_region 3 with (first | ((with_reducible refine gate_dst (N := 3) rfl ?_); (try (refine gate_guard (by rfl) ?_; dsimp only)); refine bx_ HB 3 #[.int .i64 a0_0, .int .i64 a0_1, .slice A0_2 l0_2.length c0_2, .slice A0_3 l0_3.length c0_3] 31 ?_; clear HB; intro gb117 hg w7 hb BK117 GE117 HB; have GW117 := GE117; clear hb hg)))
 (try simp only [Act.put, List.setIfInBounds_toArray, List.set_cons_zero, List.set_cons_succ])
 go_cut [22] (fun v22 wc => ∃ (kq : Nat) (x22_5 : Bool), v22 = .bool x22_5 ∧ Aside0 (psalteryref17_channel.j0 kq l1 l2 x22_5 a0_0 a0_1 l0_2 l0_3 = some r) ∧ Aside0 (kq ≤ k) ∧ Aside0 (wc.heap[gb117]? = some (.cells #[.int .i64 a0_0, .int .i64 a0_1, (.slice A0_2 l0_2.length c0_2), (.slice A0_3 l0_3.length c0_3)] 31 (0, 0))) ∧ Aside0 (Below w.heap.size w wc))
 case first => (
 have H := HC6.out
 clear HC6
 obtain ⟨t118, A8, H⟩ := ob_ H
 (try dsimp only at H)
 by_cases c9 : t118 = true
 {
 subst c9
 rw [if_pos rfl] at H
 have H' := Aside0.mk H
 clear H
 go_wp2_with (first | (go_at_call 65; (with_reducible refine (psalteryref14_Right.calls k _ _ l1 true _ ?side1 ?side2 A8.out).mono ?_); (case side1 => exact kC_ HR1 HB); (case side2 => exact HC1.out); rintro e w' ⟨rfl, ⟨nd, rfl⟩⟩; (try first | exact ⟨rfl, _, World.drewN_drewN _ _ _⟩ | exact ⟨rfl, _, Eq.trans (World.drewN_drewN _ _ _) (congrArg (World.drewN _) (Nat.add_assoc _ _ _))⟩)))
 repeat (go_quiet (first | (go_at_call 65; (with_reducible refine (psalteryref14_Right.calls k _ _ l1 true _ ?side1 ?side2 A8.out).mono ?_); (case side1 => exact kC_ HR1 HB); (case side2 => exact HC1.out); rintro e w' ⟨rfl, ⟨nd, rfl⟩⟩; (try first | exact ⟨rfl, _, World.drewN_drewN _ _ _⟩ | exact ⟨rfl, _, Eq.trans (World.drewN_drewN _ _ _) (congrArg (World.drewN _) (Nat.add_assoc _ _ _))⟩))); try go_wp2_with (first | (go_at_call 65; (with_reducible refine (psalteryref14_Right.calls k _ _ l1 true _ ?side1 ?side2 A8.out).mono ?_); (case side1 => exact kC_ HR1 HB); (case side2 => exact HC1.out); rintro e w' ⟨rfl, ⟨nd, rfl⟩⟩; (try first | exact ⟨rfl, _, World.drewN_drewN _ _ _⟩ | exact ⟨rfl, _, Eq.trans (World.drewN_drewN _ _ _) (congrArg (World.drewN _) (Nat.add_assoc _ _ _))⟩))))
 go_meet
 case rel => exact ⟨_, (((l2.length : Int) != 16)), rs_, H', ⟨ol_⟩, ⟨bk_ BK117⟩, ⟨bl_ HB⟩⟩}
 {
 replace c9 := Bool.eq_false_iff.mpr c9
 subst c9
 rw [if_neg (show ¬ (false = true) by decide)] at H
 have H' := Aside0.mk H
 clear H
 go_wp2_with (first | (go_at_call 65; (with_reducible refine (psalteryref14_Right.calls k _ _ l1 false _ ?side1 ?side2 A8.out).mono ?_); (case side1 => exact kC_ HR1 HB); (case side2 => exact HC1.out); rintro e w' ⟨rfl, ⟨nd, rfl⟩⟩; (try first | exact ⟨rfl, _, World.drewN_drewN _ _ _⟩ | exact ⟨rfl, _, Eq.trans (World.drewN_drewN _ _ _) (congrArg (World.drewN _) (Nat.add_assoc _ _ _))⟩)))
 repeat (go_quiet (first | (go_at_call 65; (with_reducible refine (psalteryref14_Right.calls k _ _ l1 false _ ?side1 ?side2 A8.out).mono ?_); (case side1 => exact kC_ HR1 HB); (case side2 => exact HC1.out); rintro e w' ⟨rfl, ⟨nd, rfl⟩⟩; (try first | exact ⟨rfl, _, World.drewN_drewN _ _ _⟩ | exact ⟨rfl, _, Eq.trans (World.drewN_drewN _ _ _) (congrArg (World.drewN _) (Nat.add_assoc _ _ _))⟩))); try go_wp2_with (first | (go_at_call 65; (with_reducible refine (psalteryref14_Right.calls k _ _ l1 false _ ?side1 ?side2 A8.out).mono ?_); (case side1 => exact kC_ HR1 HB); (case side2 => exact HC1.out); rintro e w' ⟨rfl, ⟨nd, rfl⟩⟩; (try first | exact ⟨rfl, _, World.drewN_drewN _ _ _⟩ | exact ⟨rfl, _, Eq.trans (World.drewN_drewN _ _ _) (congrArg (World.drewN _) (Nat.add_assoc _ _ _))⟩))))
 go_meet
 case rel => exact ⟨_, (true), rs_, H', ⟨ol_⟩, ⟨bk_ BK117⟩, ⟨bl_ HB⟩⟩})
 case rest => (
 clear HC6
 try clear c4
 try clear c4b0
 try clear c4b1
 try clear c4b2
 obtain ⟨kq, x22_5, rfl, HA, HJ5, BK117, HB⟩ := hcut
 cases kq with
 | zero => exact absurd HA.out (by simp [psalteryref17_channel.j0])
 | succ kj5 => (
 have H := HA.out
 clear HA
 simp only [psalteryref17_channel.j0] at H
 by_cases c10 : x22_5 = true
 {
 subst c10
 rw [if_pos rfl] at H
 obtain rfl := Option.some.inj H
 go_wp2
 repeat (go_quiet (fail); try go_wp2)
 go_ret
 exact ⟨by first | rfl | (simp [errW_none, errW_some] <;> rfl) | (simp [*, errW_none, errW_some] <;> rfl), bl_ HB⟩}
 {
 replace c10 := Bool.eq_false_iff.mpr c10
 subst c10
 rw [if_neg (show ¬ (false = true) by decide)] at H
 have H' := Aside0.mk H
 clear H
 go_wp2
 repeat (go_quiet (fail); try go_wp2)
 go_loopg [7] kj5 (fun kq v7 w' => ∃ (x7_2 : Int), v7 = .int .i64 x7_2 ∧ Aside0 (psalteryref17_channel.l0 kq l1 l2 x7_2 a0_0 a0_1 l0_2 l0_3 = some r) ∧ Aside0 (kq ≤ kj5) ∧ Aside0 (w'.heap[gb117]? = some (.cells #[.int .i64 a0_0, .int .i64 a0_1, (.slice A0_2 l0_2.length c0_2), (.slice A0_3 l0_3.length c0_3)] 31 (0, 0))) ∧ Aside0 (Below w.heap.size w w'))
 case atStart => exact ⟨(0), rs_, H', ⟨Nat.le_refl _⟩, ⟨bk_ BK117⟩, ⟨bl_ HB⟩⟩
 case round => (
 clear H'
 try clear c4
 try clear c4b0
 try clear c4b1
 try clear c4b2
 try clear c10
 obtain ⟨x7_2, rfl, HA, HK2, BK117, HB⟩ := hrel
 cases gk with
 | zero => exact absurd HA.out (by simp [psalteryref17_channel.l0])
 | succ k2 => (
 have H := HA.out
 clear HA
 simp only [psalteryref17_channel.l0] at H
 by_cases c11 : x7_2 < 6
 {
 rw [if_pos c11] at H
 have c11b0 : decide (x7_2 < 6) = true := decide_eq_true c11
 clear c11
 by_cases c12 : 0 ≤ x7_2
 {
 rw [if_pos c12] at H
 have c12b0 : decide (0 ≤ x7_2) = true := decide_eq_true c12
 clear c12
 by_cases c13 : x7_2 < (l1.length : Int)
 {
 rw [if_pos c13] at H
 have c13b0 : decide (x7_2 < (l1.length : Int)) = true := decide_eq_true c13
 clear c13
 by_cases c14 : 0 ≤ (rd l1 x7_2)
 {
 rw [if_pos c14] at H
 have c14b0 : decide (0 ≤ (rd l1 x7_2)) = true := decide_eq_true c14
 clear c14
 by_cases c15 : (rd l1 x7_2) < (l0_2.length : Int)
 {
 rw [if_pos c15] at H
 have c15b0 : decide ((rd l1 x7_2) < (l0_2.length : Int)) = true := decide_eq_true c15
 clear c15
 by_cases c16 : (rd l0_2 (rd l1 x7_2)) = 0
 {
 rw [if_pos c16] at H
 have c16b0 : ((rd l0_2 (rd l1 x7_2)) == 0) = true := beq_iff_eq.mpr c16
 have c16b1 : ((rd l0_2 (rd l1 x7_2)) != 0) = false := bne_eq_false_iff_eq.mpr c16
 clear c16
 obtain rfl := Option.some.inj H
 obtain ⟨hcz17_0, hcz17_1, hcz17_2, hcz17_3, hfz17_0, hfz17_1, hfz17_2, hfz17_3⟩ := e4_ BK117
 have p119 : 0 ≤ (x7_2 : Int) := of_decide_eq_true am_
 have q119 : x7_2 < (l1.length : Int) := of_decide_eq_true am_
 obtain ⟨ad119, e119, hx119_0⟩ := Kd.at_int HR1.out x7_2 p119 q119
 cases e119
 replace hx119_0 := (HB.out.cell (World.block_lt_of_cell? w _ hx119_0)).trans hx119_0
 replace p119 := eq_true p119
 replace q119 := eq_true q119
 have p120 : 0 ≤ ((rd l1 x7_2) : Int) := of_decide_eq_true am_
 have q120 : (rd l1 x7_2) < (l0_2.length : Int) := of_decide_eq_true am_
 obtain ⟨ad120, e120, hx120_0⟩ := Kd.at_int HR0_2.out (rd l1 x7_2) p120 q120
 cases e120
 replace hx120_0 := (HB.out.cell (World.block_lt_of_cell? w _ hx120_0)).trans hx120_0
 replace p120 := eq_true p120
 replace q120 := eq_true q120
 go_wp2
 repeat (go_quiet (fail); try go_wp2)
 go_ret
 exact ⟨by first | rfl | (simp [errW_none, errW_some] <;> rfl) | (simp [*, errW_none, errW_some] <;> rfl), bl_ HB⟩}
 {
 rw [if_neg c16] at H
 have c16b0 : ((rd l0_2 (rd l1 x7_2)) == 0) = false := beq_eq_false_iff_ne.mpr c16
 have c16b1 : ((rd l0_2 (rd l1 x7_2)) != 0) = true := bne_iff_ne.mpr c16
 have H' := Aside0.mk H
 clear H
 obtain ⟨hcz18_0, hcz18_1, hcz18_2, hcz18_3, hfz18_0, hfz18_1, hfz18_2, hfz18_3⟩ := e4_ BK117
 have p119 : 0 ≤ (x7_2 : Int) := of_decide_eq_true am_
 have q119 : x7_2 < (l1.length : Int) := of_decide_eq_true am_
 obtain ⟨ad119, e119, hx119_0⟩ := Kd.at_int HR1.out x7_2 p119 q119
 cases e119
 replace hx119_0 := (HB.out.cell (World.block_lt_of_cell? w _ hx119_0)).trans hx119_0
 replace p119 := eq_true p119
 replace q119 := eq_true q119
 have p120 : 0 ≤ ((rd l1 x7_2) : Int) := of_decide_eq_true am_
 have q120 : (rd l1 x7_2) < (l0_2.length : Int) := of_decide_eq_true am_
 obtain ⟨ad120, e120, hx120_0⟩ := Kd.at_int HR0_2.out (rd l1 x7_2) p120 q120
 cases e120
 replace hx120_0 := (HB.out.cell (World.block_lt_of_cell? w _ hx120_0)).trans hx120_0
 replace p120 := eq_true p120
 replace q120 := eq_true q120
 go_wp2
 repeat (go_quiet (fail); try go_wp2)
 go_roundg k2
 case measure => have := HJ5.out; have := HK2.out; omega
 case rel => exact ⟨(wrap64 (x7_2 + 1)), rs_, H', ⟨by have := HJ5.out; have := HK2.out; omega⟩, ⟨bk_ BK117⟩, ⟨bl_ HB⟩⟩}}
 {
 rw [if_neg c15] at H
 exact absurd H (by simp)}}
 {
 rw [if_neg c14] at H
 exact absurd H (by simp)}}
 {
 rw [if_neg c13] at H
 exact absurd H (by simp)}}
 {
 rw [if_neg c12] at H
 exact absurd H (by simp)}}
 {
 rw [if_neg c11] at H
 have c11b0 : decide (x7_2 < 6) = false := decide_eq_false c11
 clear c11
 have H' := Aside0.mk H
 clear H
 go_wp2
 repeat (go_quiet (fail); try go_wp2)
 go_loopg [8] k2 (fun kq v8 w' => ∃ (x8_3 : Int), v8 = .int .i64 x8_3 ∧ Aside0 (psalteryref17_channel.l1 kq l2 x8_3 = some r) ∧ Aside0 (kq ≤ k2) ∧ Aside0 (w'.heap[gb117]? = some (.cells #[.int .i64 a0_0, .int .i64 a0_1, (.slice A0_2 l0_2.length c0_2), (.slice A0_3 l0_3.length c0_3)] 31 (0, 0))) ∧ Aside0 (Below w.heap.size w w'))
 case atStart => exact ⟨(0), rs_, H', ⟨Nat.le_refl _⟩, ⟨bk_ BK117⟩, ⟨bl_ HB⟩⟩
 case round => (
 clear H'
 try clear c4
 try clear c4b0
 try clear c4b1
 try clear c4b2
 try clear c10
 try clear c11
 try clear c11b0
 obtain ⟨x8_3, rfl, HA, HK3, BK117, HB⟩ := hrel
 cases gk with
 | zero => exact absurd HA.out (by simp [psalteryref17_channel.l1])
 | succ k3 => (
 have H := HA.out
 clear HA
 simp only [psalteryref17_channel.l1] at H
 by_cases c19 : x8_3 < 16
 {
 rw [if_pos c19] at H
 have c19b0 : decide (x8_3 < 16) = true := decide_eq_true c19
 clear c19
 by_cases c20 : 0 ≤ x8_3
 {
 rw [if_pos c20] at H
 have c20b0 : decide (0 ≤ x8_3) = true := decide_eq_true c20
 clear c20
 by_cases c21 : x8_3 < (l2.length : Int)
 {
 rw [if_pos c21] at H
 have c21b0 : decide (x8_3 < (l2.length : Int)) = true := decide_eq_true c21
 clear c21
 by_cases c22 : (rd l2 x8_3) > 4194303
 {
 rw [if_pos c22] at H
 have c22b0 : decide (4194303 < (rd l2 x8_3)) = true := decide_eq_true c22
 clear c22
 obtain rfl := Option.some.inj H
 have p121 : 0 ≤ (x8_3 : Int) := of_decide_eq_true am_
 have q121 : x8_3 < (l2.length : Int) := of_decide_eq_true am_
 obtain ⟨ad121, e121, hx121_0⟩ := Kd.at_int HR2.out x8_3 p121 q121
 cases e121
 replace hx121_0 := (HB.out.cell (World.block_lt_of_cell? w _ hx121_0)).trans hx121_0
 replace p121 := eq_true p121
 replace q121 := eq_true q121
 go_wp2
 repeat (go_quiet (fail); try go_wp2)
 go_ret
 exact ⟨by first | rfl | (simp [errW_none, errW_some] <;> rfl) | (simp [*, errW_none, errW_some] <;> rfl), bl_ HB⟩}
 {
 rw [if_neg c22] at H
 have c22b0 : decide (4194303 < (rd l2 x8_3)) = false := decide_eq_false c22
 clear c22
 by_cases c23 : (rd l2 x8_3) < (-4194303)
 {
 rw [if_pos c23] at H
 have c23b0 : decide ((rd l2 x8_3) < (-4194303)) = true := decide_eq_true c23
 clear c23
 obtain rfl := Option.some.inj H
 have p121 : 0 ≤ (x8_3 : Int) := of_decide_eq_true am_
 have q121 : x8_3 < (l2.length : Int) := of_decide_eq_true am_
 obtain ⟨ad121, e121, hx121_0⟩ := Kd.at_int HR2.out x8_3 p121 q121
 cases e121
 replace hx121_0 := (HB.out.cell (World.block_lt_of_cell? w _ hx121_0)).trans hx121_0
 replace p121 := eq_true p121
 replace q121 := eq_true q121
 have p122 : 0 ≤ (x8_3 : Int) := of_decide_eq_true am_
 have q122 : x8_3 < (l2.length : Int) := of_decide_eq_true am_
 obtain ⟨ad122, e122, hx122_0⟩ := Kd.at_int HR2.out x8_3 p122 q122
 obtain rfl : ad121 = ad122 := (by injection e122)
 replace hx122_0 := (HB.out.cell (World.block_lt_of_cell? w _ hx122_0)).trans hx122_0
 replace p122 := eq_true p122
 replace q122 := eq_true q122
 go_wp2
 repeat (go_quiet (fail); try go_wp2)
 go_ret
 exact ⟨by first | rfl | (simp [errW_none, errW_some] <;> rfl) | (simp [*, errW_none, errW_some] <;> rfl), bl_ HB⟩}
 {
 rw [if_neg c23] at H
 have c23b0 : decide ((rd l2 x8_3) < (-4194303)) = false := decide_eq_false c23
 clear c23
 have H' := Aside0.mk H
 clear H
 have p121 : 0 ≤ (x8_3 : Int) := of_decide_eq_true am_
 have q121 : x8_3 < (l2.length : Int) := of_decide_eq_true am_
 obtain ⟨ad121, e121, hx121_0⟩ := Kd.at_int HR2.out x8_3 p121 q121
 cases e121
 replace hx121_0 := (HB.out.cell (World.block_lt_of_cell? w _ hx121_0)).trans hx121_0
 replace p121 := eq_true p121
 replace q121 := eq_true q121
 have p122 : 0 ≤ (x8_3 : Int) := of_decide_eq_true am_
 have q122 : x8_3 < (l2.length : Int) := of_decide_eq_true am_
 obtain ⟨ad122, e122, hx122_0⟩ := Kd.at_int HR2.out x8_3 p122 q122
 obtain rfl : ad121 = ad122 := (by injection e122)
 replace hx122_0 := (HB.out.cell (World.block_lt_of_cell? w _ hx122_0)).trans hx122_0
 replace p122 := eq_true p122
 replace q122 := eq_true q122
 go_wp2
 repeat (go_quiet (fail); try go_wp2)
 go_roundg k3
 case measure => have := HJ5.out; have := HK2.out; have := HK3.out; omega
 case rel => exact ⟨(wrap64 (x8_3 + 1)), rs_, H', ⟨by have := HJ5.out; have := HK2.out; have := HK3.out; omega⟩, ⟨bk_ BK117⟩, ⟨bl_ HB⟩⟩}}}
 {
 rw [if_neg c21] at H
 exact absurd H (by simp)}}
 {
 rw [if_neg c20] at H
 exact absurd H (by simp)}}
 {
 rw [if_neg c19] at H
 have c19b0 : decide (x8_3 < 16) = false := decide_eq_false c19
 clear c19
 obtain rfl := Option.some.inj H
 go_wp2
 repeat (go_quiet (fail); try go_wp2)
 go_ret
 exact ⟨by first | rfl | (simp [errW_none, errW_some] <;> rfl) | (simp [*, errW_none, errW_some] <;> rfl), bl_ HB⟩}))}))}))}
mutual
def psalteryref17_Right.j0 : Nat → Bool → Int → Int → List Int → List Int → List (List Int) → List (List Int) → Option (Bool)
  | 0, _, _, _, _, _, _, _ => none
  | k + 1, x24, x124000, x124001, x124002, x124003, x125000, x125001 => if x24 = true then (some false) else (psalteryref17_Right.l0 k 0 x124000 x124001 x124002 x124003 x125000 x125001)
def psalteryref17_Right.l0 : Nat → Int → Int → Int → List Int → List Int → List (List Int) → List (List Int) → Option (Bool)
  | 0, _, _, _, _, _, _, _ => none
  | k + 1, x5, x124000, x124001, x124002, x124003, x125000, x125001 => if x5 < x124000 then (if 0 ≤ x5 then (if x5 < (x125000.length : Int) then (if x5 < (x125001.length : Int) then ((psalteryref17_channel.f k x124000 x124001 x124002 x124003 (rd_L1 x125000 x5) (rd_L2 x125001 x5)).bind fun t128 => (if t128 = true then (psalteryref17_Right.l0 k (wrap64 (x5 + 1)) x124000 x124001 x124002 x124003 x125000 x125001) else (some false))) else (none)) else (none)) else (none)) else (some true)
end
def psalteryref17_Right.f (k : Nat) (a0_0 : Int) (a0_1 : Int) (l0_2 : List Int) (l0_3 : List Int) (l1_0 : List (List Int)) (l1_1 : List (List Int)) : Option (Bool) := (psalteryref16_Right.f k a0_0 a0_1 l0_2 l0_3).bind fun t125 => (if t125 = true then (if (l1_0.length : Int) = a0_0 then (psalteryref17_Right.j0 k ((l1_1.length : Int) != a0_0) a0_0 a0_1 l0_2 l0_3 l1_0 l1_1) else (psalteryref17_Right.j0 k true a0_0 a0_1 l0_2 l0_3 l1_0 l1_1)) else (psalteryref17_Right.j0 k true a0_0 a0_1 l0_2 l0_3 l1_0 l1_1))
theorem psalteryref17_Right.mono_l : ∀ k, (∀ y0 y1 y2 y3 y4 y5 y6, LeO (psalteryref17_Right.j0 k y0 y1 y2 y3 y4 y5 y6) (psalteryref17_Right.j0 (k + 1) y0 y1 y2 y3 y4 y5 y6)) ∧ (∀ y0 y1 y2 y3 y4 y5 y6, LeO (psalteryref17_Right.l0 k y0 y1 y2 y3 y4 y5 y6) (psalteryref17_Right.l0 (k + 1) y0 y1 y2 y3 y4 y5 y6))
  | 0 => ⟨fun _ _ _ _ _ _ _ r h => by simp [psalteryref17_Right.j0] at h, fun _ _ _ _ _ _ _ r h => by simp [psalteryref17_Right.l0] at h⟩
  | k + 1 => by
    obtain ⟨ih0, ih1⟩ := psalteryref17_Right.mono_l k
    refine ⟨?_, ?_⟩
    all_goals (intros; first | unfold psalteryref17_Right.j0 | unfold psalteryref17_Right.l0)
    all_goals with_reducible repeat' first
     | exact ih0 _ _ _ _ _ _ _
     | exact ih1 _ _ _ _ _ _ _
     | exact psalteryref16_Right.mono _ _ _ _ _
     | exact psalteryref17_channel.mono _ _ _ _ _ _ _
     | exact LeO.refl _
     | exact LeO.none _
     | refine LeO.ite ?_ ?_
     | refine LeO.bind ?_ (fun _ => ?_)
theorem psalteryref17_Right.mono : ∀ a0 a1 a2 a3 a4 a5 k, LeO (psalteryref17_Right.f k a0 a1 a2 a3 a4 a5) (psalteryref17_Right.f (k + 1) a0 a1 a2 a3 a4 a5) := by
  intro a0 a1 a2 a3 a4 a5 k
  obtain ⟨ih0, ih1⟩ := psalteryref17_Right.mono_l k
  unfold psalteryref17_Right.f
  with_reducible repeat' first
   | exact ih0 _ _ _ _ _ _ _
   | exact ih1 _ _ _ _ _ _ _
   | exact psalteryref16_Right.mono _ _ _ _ _
   | exact psalteryref17_channel.mono _ _ _ _ _ _ _
   | exact LeO.refl _
   | exact LeO.none _
   | refine LeO.ite ?_ ?_
   | refine LeO.bind ?_ (fun _ => ?_)
def psalteryref17_Right.T6 : Bool × List (List Nat × List Nat) := (true, [([], []), ([], []), ([1], [1]), ([], []), ([2, 3], [2, 3]), ([4], [4]), ([], []), ([6], [6]), ([], []), ([7, 8], [7, 8]), ([9], [9]), ([0, 5, 10], [0, 5, 10]), ([11], [11])])
def psalteryref17_Right.B6 : List Nat := [0, 0, 2, 0, 14, 30, 0, 64, 0, 448, 960, 2047, 4095]
theorem psalteryref17_Right.tab6 : rtab .any (opsOf Try.f10 6) = psalteryref17_Right.T6 := by kernel_rfl
theorem psalteryref17_Right.bits6 : waitsOk psalteryref17_Right.T6.2 psalteryref17_Right.B6 = true := by kernel_rfl
set_option maxHeartbeats 8000000 in
set_option maxRecDepth 100000 in
theorem psalteryref17_Right.calls (k : Nat) (a0_0 : Int) (a0_1 : Int) (A0_2 : Option Addr) (c0_2 : Nat) (l0_2 : List Int) (A0_3 : Option Addr) (c0_3 : Nat) (l0_3 : List Int) (A1_0 : Option Addr) (c1_0 : Nat) (l1_0 : List (List Int)) (A1_1 : Option Addr) (c1_1 : Nat) (l1_1 : List (List Int)) (r : Bool) (w : World) (hr0_2 : Kd.C (Kd.int .i64) w A0_2 l0_2.length l0_2) (hc0_2 : l0_2.length ≤ c0_2) (hr0_3 : Kd.C (Kd.int .i64) w A0_3 l0_3.length l0_3) (hc0_3 : l0_3.length ≤ c0_3) (hr1_0 : Kd.C (Kd.slice 3 (Kd.int .i64)) w A1_0 l1_0.length l1_0) (hc1_0 : l1_0.length ≤ c1_0) (hr1_1 : Kd.C (Kd.slice 2 (Kd.int .i64)) w A1_1 l1_1.length l1_1) (hc1_1 : l1_1.length ≤ c1_1) (h : psalteryref17_Right.f k a0_0 a0_1 l0_2 l0_3 l1_0 l1_1 = some r) :
    Calls Try.prog 10 #[.agg #[.int .i64 a0_0, .int .i64 a0_1, .slice A0_2 l0_2.length c0_2, .slice A0_3 l0_3.length c0_3], .agg #[.slice A1_0 l1_0.length c1_0, .slice A1_1 l1_1.length c1_1]] w fun e w' => e = .returned (.bool r) ∧ Below w.heap.size w w' := by
 have hu31 := Try.underlying31
 have hu33 := Try.underlying33
 have HR0_2 := Aside0.mk hr0_2
 have HC0_2 := Aside0.mk hc0_2
 clear hr0_2 hc0_2
 have HR0_3 := Aside0.mk hr0_3
 have HC0_3 := Aside0.mk hc0_3
 clear hr0_3 hc0_3
 have HR1_0 := Aside0.mk hr1_0
 have HC1_0 := Aside0.mk hc1_0
 clear hr1_0 hc1_0
 have HR1_1 := Aside0.mk hr1_1
 have HC1_1 := Aside0.mk hc1_1
 clear hr1_1 hc1_1
 have HB := Aside0.mk (Below.refl w.heap.size w)
 have H : ((psalteryref16_Right.f k a0_0 a0_1 l0_2 l0_3).bind fun t125 => (if t125 = true then (if (l1_0.length : Int) = a0_0 then (psalteryref17_Right.j0 k ((l1_1.length : Int) != a0_0) a0_0 a0_1 l0_2 l0_3 l1_0 l1_1) else (psalteryref17_Right.j0 k true a0_0 a0_1 l0_2 l0_3 l1_0 l1_1)) else (psalteryref17_Right.j0 k true a0_0 a0_1 l0_2 l0_3 l1_0 l1_1))) = some r := h
 clear h
 have HC3 := Aside0.mk H
 clear H
 go_enter Try.func10, Try.ntmps10
 go_upto_region 1 with (first | ((with_reducible refine gate_dst (N := 2) rfl ?_); (try (refine gate_guard (by rfl) ?_; dsimp only)); refine bx_ HB 2 #[.int .i64 a0_0, .int .i64 a0_1, .slice A0_2 l0_2.length c0_2, .slice A0_3 l0_3.length c0_3] 31 ?_; clear HB; intro gb123 hg w4 hb BK123 GE123 HB; have GW123 := GE123; clear hb hg) | ((with_reducible refine gate_dst (N := 3) rfl ?_); (try (refine gate_guard (by rfl) ?_; dsimp only)); refine bx_ HB 3 #[.slice A1_0 l1_0.length c1_0, .slice A1_1 l1_1.length c1_1] 33 ?_; clear HB; intro gb124 hg w5 hb BK124 GE124 HB; have GW124 := GE124; obtain ⟨NB123_124, NB124_123⟩ := NN_ BK123 hg; replace BK123 := FB_ BK123 hb; clear hb hg))
 (try simp only [Act.put, List.setIfInBounds_toArray, List.set_cons_zero, List.set_cons_succ])
 go_cut [24] (fun v24 wc => ∃ (kq : Nat) (x24_2 : Bool), v24 = .bool x24_2 ∧ Aside0 (psalteryref17_Right.j0 kq x24_2 a0_0 a0_1 l0_2 l0_3 l1_0 l1_1 = some r) ∧ Aside0 (kq ≤ k) ∧ Aside0 (wc.heap[gb123]? = some (.cells #[.int .i64 a0_0, .int .i64 a0_1, (.slice A0_2 l0_2.length c0_2), (.slice A0_3 l0_3.length c0_3)] 31 (0, 0))) ∧ Aside0 (wc.heap[gb124]? = some (.cells #[(.slice A1_0 l1_0.length c1_0), (.slice A1_1 l1_1.length c1_1)] 33 (0, 0))) ∧ Aside0 (Below w.heap.size w wc))
 case first => (
 have H := HC3.out
 clear HC3
 obtain ⟨t125, A6, H⟩ := ob_ H
 (try dsimp only at H)
 by_cases c7 : t125 = true
 {
 subst c7
 rw [if_pos rfl] at H
 by_cases c8 : (l1_0.length : Int) = a0_0
 {
 rw [if_pos c8] at H
 have c8b0 : ((l1_0.length : Int) == a0_0) = true := beq_iff_eq.mpr c8
 have c8b1 : ((l1_0.length : Int) != a0_0) = false := bne_eq_false_iff_eq.mpr c8
 clear c8
 (first | rw [c8b0] | (simp only [i64_w, i32_w]; rw [c8b0]) | skip)
 have H' := Aside0.mk H
 clear H
 have hnb9 := NB123_124.out
 have hnc9 := NB124_123.out
 obtain ⟨hcz10_0, hcz10_1, hcz10_2, hcz10_3, hfz10_0, hfz10_1, hfz10_2, hfz10_3⟩ := e4_ BK123
 go_wp2_with (first | ((with_reducible refine gate_callee (f := 28) rfl ?_); refine gL_ (some 7) Try.func28 #[.agg #[.int .i64 a0_0, .int .i64 a0_1, .slice A0_2 l0_2.length c0_2, .slice A0_3 l0_3.length c0_3]] ?_; (with_reducible refine (psalteryref16_Right.calls k a0_0 a0_1 _ _ l0_2 _ _ l0_3 true _ ?side1 ?side2 ?side3 ?side4 A6.out).mono ?_); (case side1 => exact kC_ HR0_2 HB); (case side2 => exact HC0_2.out); (case side3 => exact kC_ HR0_3 HB); (case side4 => exact HC0_3.out); rintro e w11 ⟨rfl, hb⟩; refine ⟨_, rfl, ?_⟩; replace BK123 := FB_ BK123 hb; replace BK124 := FB_ BK124 hb; replace HB := BS_ HB hb; (try clear hb); obtain ⟨hcz12_0, hcz12_1, hfz12_0, hfz12_1⟩ := e2_ BK124; obtain ⟨hcz13_0, hcz13_1, hcz13_2, hcz13_3, hfz13_0, hfz13_1, hfz13_2, hfz13_3⟩ := e4_ BK123))
 go_meet
 case rel => exact ⟨_, (((l1_1.length : Int) != a0_0)), rs_, H', ⟨ol_⟩, ⟨bk_ BK123⟩, ⟨bk_ BK124⟩, ⟨bl_ HB⟩⟩}
 {
 rw [if_neg c8] at H
 have c8b0 : ((l1_0.length : Int) == a0_0) = false := beq_eq_false_iff_ne.mpr c8
 have c8b1 : ((l1_0.length : Int) != a0_0) = true := bne_iff_ne.mpr c8
 (first | rw [c8b0] | (simp only [i64_w, i32_w]; rw [c8b0]) | skip)
 have H' := Aside0.mk H
 clear H
 have hnb14 := NB123_124.out
 have hnc14 := NB124_123.out
 obtain ⟨hcz15_0, hcz15_1, hcz15_2, hcz15_3, hfz15_0, hfz15_1, hfz15_2, hfz15_3⟩ := e4_ BK123
 go_wp2_with (first | ((with_reducible refine gate_callee (f := 28) rfl ?_); refine gL_ (some 7) Try.func28 #[.agg #[.int .i64 a0_0, .int .i64 a0_1, .slice A0_2 l0_2.length c0_2, .slice A0_3 l0_3.length c0_3]] ?_; (with_reducible refine (psalteryref16_Right.calls k a0_0 a0_1 _ _ l0_2 _ _ l0_3 true _ ?side1 ?side2 ?side3 ?side4 A6.out).mono ?_); (case side1 => exact kC_ HR0_2 HB); (case side2 => exact HC0_2.out); (case side3 => exact kC_ HR0_3 HB); (case side4 => exact HC0_3.out); rintro e w16 ⟨rfl, hb⟩; refine ⟨_, rfl, ?_⟩; replace BK123 := FB_ BK123 hb; replace BK124 := FB_ BK124 hb; replace HB := BS_ HB hb; (try clear hb); obtain ⟨hcz17_0, hcz17_1, hfz17_0, hfz17_1⟩ := e2_ BK124; obtain ⟨hcz18_0, hcz18_1, hcz18_2, hcz18_3, hfz18_0, hfz18_1, hfz18_2, hfz18_3⟩ := e4_ BK123))
 go_meet
 case rel => exact ⟨_, (true), rs_, H', ⟨ol_⟩, ⟨bk_ BK123⟩, ⟨bk_ BK124⟩, ⟨bl_ HB⟩⟩}}
 {
 replace c7 := Bool.eq_false_iff.mpr c7
 subst c7
 rw [if_neg (show ¬ (false = true) by decide)] at H
 have H' := Aside0.mk H
 clear H
 have hnb19 := NB123_124.out
 have hnc19 := NB124_123.out
 obtain ⟨hcz20_0, hcz20_1, hcz20_2, hcz20_3, hfz20_0, hfz20_1, hfz20_2, hfz20_3⟩ := e4_ BK123
 go_wp2_with (first | ((with_reducible refine gate_callee (f := 28) rfl ?_); refine gL_ (some 7) Try.func28 #[.agg #[.int .i64 a0_0, .int .i64 a0_1, .slice A0_2 l0_2.length c0_2, .slice A0_3 l0_3.length c0_3]] ?_; (with_reducible refine (psalteryref16_Right.calls k a0_0 a0_1 _ _ l0_2 _ _ l0_3 false _ ?side1 ?side2 ?side3 ?side4 A6.out).mono ?_); (case side1 => exact kC_ HR0_2 HB); (case side2 => exact HC0_2.out); (case side3 => exact kC_ HR0_3 HB); (case side4 => exact HC0_3.out); rintro e w21 ⟨rfl, hb⟩; refine ⟨_, rfl, ?_⟩; replace BK123 := FB_ BK123 hb; replace BK124 := FB_ BK124 hb; replace HB := BS_ HB hb; (try clear hb)))
 go_meet
 case rel => exact ⟨_, (true), rs_, H', ⟨ol_⟩, ⟨bk_ BK123⟩, ⟨bk_ BK124⟩, ⟨bl_ HB⟩⟩})
 case rest => (
 clear HC3
 obtain ⟨kq, x24_2, rfl, HA, HJ2, BK123, BK124, HB⟩ := hcut
 cases kq with
 | zero => exact absurd HA.out (by simp [psalteryref17_Right.j0])
 | succ kj2 => (
 have H := HA.out
 clear HA
 simp only [psalteryref17_Right.j0] at H
 by_cases c22 : x24_2 = true
 {
 subst c22
 rw [if_pos rfl] at H
 obtain rfl := Option.some.inj H
 go_wp2
 go_ret
 exact ⟨by first | rfl | (simp [errW_none, errW_some] <;> rfl) | (simp [*, errW_none, errW_some] <;> rfl), bl_ HB⟩}
 {
 replace c22 := Bool.eq_false_iff.mpr c22
 subst c22
 rw [if_neg (show ¬ (false = true) by decide)] at H
 have H' := Aside0.mk H
 clear H
 go_wp2
 go_loopg [5] kj2 (fun kq v5 w' => ∃ (x5_2 : Int), v5 = .int .i64 x5_2 ∧ Aside0 (psalteryref17_Right.l0 kq x5_2 a0_0 a0_1 l0_2 l0_3 l1_0 l1_1 = some r) ∧ Aside0 (kq ≤ kj2) ∧ Aside0 (w'.heap[gb123]? = some (.cells #[.int .i64 a0_0, .int .i64 a0_1, (.slice A0_2 l0_2.length c0_2), (.slice A0_3 l0_3.length c0_3)] 31 (0, 0))) ∧ Aside0 (w'.heap[gb124]? = some (.cells #[(.slice A1_0 l1_0.length c1_0), (.slice A1_1 l1_1.length c1_1)] 33 (0, 0))) ∧ Aside0 (Below w.heap.size w w'))
 case atStart => exact ⟨(0), rs_, H', ⟨Nat.le_refl _⟩, ⟨bk_ BK123⟩, ⟨bk_ BK124⟩, ⟨bl_ HB⟩⟩
 case round => (
 clear H'
 try clear c22
 obtain ⟨x5_2, rfl, HA, HK2, BK123, BK124, HB⟩ := hrel
 cases gk with
 | zero => exact absurd HA.out (by simp [psalteryref17_Right.l0])
 | succ k2 => (
 have H := HA.out
 clear HA
 simp only [psalteryref17_Right.l0] at H
 by_cases c23 : x5_2 < a0_0
 {
 rw [if_pos c23] at H
 have c23b0 : decide (x5_2 < a0_0) = true := decide_eq_true c23
 clear c23
 by_cases c24 : 0 ≤ x5_2
 {
 rw [if_pos c24] at H
 have c24b0 : decide (0 ≤ x5_2) = true := decide_eq_true c24
 clear c24
 by_cases c25 : x5_2 < (l1_0.length : Int)
 {
 rw [if_pos c25] at H
 have c25b0 : decide (x5_2 < (l1_0.length : Int)) = true := decide_eq_true c25
 clear c25
 by_cases c26 : x5_2 < (l1_1.length : Int)
 {
 rw [if_pos c26] at H
 have c26b0 : decide (x5_2 < (l1_1.length : Int)) = true := decide_eq_true c26
 clear c26
 obtain ⟨t128, A27, H⟩ := ob_ H
 (try dsimp only at H)
 by_cases c28 : t128 = true
 {
 subst c28
 rw [if_pos rfl] at H
 have H' := Aside0.mk H
 clear H
 have hnb29 := NB123_124.out
 have hnc29 := NB124_123.out
 obtain ⟨hcz30_0, hcz30_1, hcz30_2, hcz30_3, hfz30_0, hfz30_1, hfz30_2, hfz30_3⟩ := e4_ BK123
 try go_wp2
 replace BK123 := Aside0.mk (blk_drew BK123.out)
 replace BK124 := Aside0.mk (blk_drew BK124.out)
 replace HB := Aside0.mk (below_drew1 HB.out)
 have p126 : 0 ≤ (x5_2 : Int) := of_decide_eq_true am_
 have q126 : x5_2 < (l1_0.length : Int) := of_decide_eq_true am_
 obtain ⟨ad126, A126_0, c126_0, e126, hx126_0, hl126_0, hi126_0⟩ := at_L1 HR1_0.out x5_2 p126 q126
 have hw126_0 := hx126_0
 cases e126
 replace hx126_0 := (HB.out.cell (World.block_lt_of_cell? w _ hx126_0)).trans hx126_0
 have HR126_0 := Aside0.mk hi126_0
 have HC126_0 := Aside0.mk hl126_0
 clear hi126_0 hl126_0
 replace p126 := eq_true p126
 replace q126 := eq_true q126
 have p127 : 0 ≤ (x5_2 : Int) := of_decide_eq_true am_
 have q127 : x5_2 < (l1_1.length : Int) := of_decide_eq_true am_
 obtain ⟨ad127, A127_0, c127_0, e127, hx127_0, hl127_0, hi127_0⟩ := at_L2 HR1_1.out x5_2 p127 q127
 have hw127_0 := hx127_0
 cases e127
 replace hx127_0 := (HB.out.cell (World.block_lt_of_cell? w _ hx127_0)).trans hx127_0
 have HR127_0 := Aside0.mk hi127_0
 have HC127_0 := Aside0.mk hl127_0
 clear hi127_0 hl127_0
 replace p127 := eq_true p127
 replace q127 := eq_true q127
 refine start_ (n := 13) (S := fun w' => w'.cell? ⟨gb123, 0, none⟩ = some (.int .i64 a0_0) ∧ w'.cell? ⟨gb123, 1, none⟩ = some (.int .i64 a0_1) ∧ w'.cell? ⟨gb123, 2, none⟩ = some (.slice A0_2 l0_2.length c0_2) ∧ w'.cell? ⟨gb123, 3, none⟩ = some (.slice A0_3 l0_3.length c0_3) ∧ w'.cell? ⟨gb124, 0, none⟩ = some (.slice (some ad126) l1_0.length c1_0) ∧ w'.cell? ⟨gb124, 1, none⟩ = some (.slice (some ad127) l1_1.length c1_1) ∧ w'.cell? (ad126.add (x5_2).toNat) = some (.slice A126_0 (rd_L1 l1_0 x5_2).length c126_0) ∧ w'.cell? (ad127.add (x5_2).toNat) = some (.slice A127_0 (rd_L2 l1_1 x5_2).length c127_0)) (ds := []) (B_ 13 0) kf_ rfl rfl ⟨ce_ BK123 0, ce_ BK123 1, ce_ BK123 2, ce_ BK123 3, ce_ BK124 0, ce_ BK124 1, ((HB.out.cell (World.block_lt_of_cell? w _ hw126_0)).trans hw126_0), ((HB.out.cell (World.block_lt_of_cell? w _ hw127_0)).trans hw127_0)⟩ (fun hHeld => ?_); refine with_tabW psalteryref17_Right.tab6 psalteryref17_Right.bits6 (fun HT_ HW_ => ?_)
 generalize wr.drew = w31 at BK123 BK124 HB HR126_0 HR127_0 hx126_0 hx127_0 hHeld ⊢
 refine pu_ 1 (some 32) (B_ 13 2) HT_ ?_
 refine pu_ 3 (some 34) (B_ 13 10) HT_ ?_
 refine pu_ 6 (some 37) (B_ 13 74) HT_ ?_
 refine pu_ 8 (some 39) (B_ 13 330) HT_ ?_
 refine take_ (i := 0) (N := some 31) (v := ?_) (a' := ?_) (B_ 13 331) rfl rfl (take_ofW HT_.out HW_.out kf_) (fun _ _ _ h => h) (Or.inl ⟨by rfl, ?_⟩) hHeld ?_ ?_
 rotate_left
 {
 rintro w' ⟨s0, s1, s2, s3, s4, s5, s6, s7⟩
 go_simp
 with_reducible rfl}
 rotate_left
 {
 exact sp_}
 refine take_ (i := 2) (N := some 33) (v := ?_) (a' := ?_) (B_ 13 335) rfl rfl (take_ofW HT_.out HW_.out kf_) (fun _ _ _ h => h) (Or.inl ⟨by rfl, ?_⟩) hHeld ?_ ?_
 rotate_left
 {
 rintro w' ⟨s0, s1, s2, s3, s4, s5, s6, s7⟩
 go_simp
 with_reducible rfl}
 rotate_left
 {
 exact sp_}
 refine pu_ 4 (some 35) (B_ 13 351) HT_ ?_
 refine take_ (i := 5) (N := some 36) (v := ?_) (a' := ?_) (B_ 13 383) rfl rfl (take_ofW HT_.out HW_.out kf_) (fun _ _ _ h => h) (Or.inl ⟨by rfl, ?_⟩) hHeld ?_ ?_
 rotate_left
 {
 rintro w' ⟨s0, s1, s2, s3, s4, s5, s6, s7⟩
 go_simp
 with_reducible rfl}
 rotate_left
 {
 exact sp_}
 refine take_ (i := 7) (N := some 38) (v := ?_) (a' := ?_) (B_ 13 511) rfl rfl (take_ofW HT_.out HW_.out kf_) (fun _ _ _ h => h) (Or.inl ⟨by rfl, ?_⟩) hHeld ?_ ?_
 rotate_left
 {
 rintro w' ⟨s0, s1, s2, s3, s4, s5, s6, s7⟩
 go_simp
 with_reducible rfl}
 rotate_left
 {
 exact sp_}
 refine pu_ 9 (some 40) (B_ 13 1023) HT_ ?_
 refine take_ (i := 10) (N := some 41) (v := ?_) (a' := ?_) (B_ 13 2047) rfl rfl (take_ofW HT_.out HW_.out kf_) (fun _ _ _ h => h) (Or.inl ⟨by rfl, ?_⟩) hHeld ?_ ?_
 rotate_left
 {
 rintro w' ⟨s0, s1, s2, s3, s4, s5, s6, s7⟩
 go_simp
 with_reducible rfl}
 rotate_left
 {
 exact sp_}
 refine one_ (i := 11) (N := some 42) (B_ 13 4095) rfl rfl (one_of HT_.out kf_) (by decide) (fun K hK => ?_)
 refine goes_ Try.func30 kf_ rfl #[.agg #[.int .i64 a0_0, .int .i64 a0_1, .slice A0_2 l0_2.length c0_2, .slice A0_3 l0_3.length c0_3], .slice A126_0 (rd_L1 l1_0 x5_2).length c126_0, .slice A127_0 (rd_L2 l1_1 x5_2).length c127_0] (by rfl) rfl rfl ar_ ?_
 with_reducible refine (psalteryref17_channel.calls k2 a0_0 a0_1 _ _ l0_2 _ _ l0_3 _ _ (rd_L1 l1_0 x5_2) _ _ (rd_L2 l1_1 x5_2) true _ ?side1 ?side2 ?side3 ?side4 ?side5 ?side6 ?side7 ?side8 A27.out).mono ?_
 (case side1 => exact kC_ HR0_2 HB)
 (case side2 => exact HC0_2.out)
 (case side3 => exact kC_ HR0_3 HB)
 (case side4 => exact HC0_3.out)
 (case side5 => exact kC_ HR126_0 HB)
 (case side6 => exact HC126_0.out)
 (case side7 => exact kC_ HR127_0 HB)
 (case side8 => exact HC127_0.out)
 rintro e w32 ⟨rfl, hb⟩
 refine ⟨_, rfl, ?_⟩
 replace BK123 := FB_ BK123 hb
 replace BK124 := FB_ BK124 hb
 replace HB := BS_ HB hb
 (try clear hb)
 refine hK.out _ _ ⟨ce_ BK123 0, ce_ BK123 1, ce_ BK123 2, ce_ BK123 3, ce_ BK124 0, ce_ BK124 1, ((HB.out.cell (World.block_lt_of_cell? w _ hw126_0)).trans hw126_0), ((HB.out.cell (World.block_lt_of_cell? w _ hw127_0)).trans hw127_0)⟩ (fun hHeld => ?_)
 clear hK K
 refine norm_ (a' := ?_) ?_ ?_
 rotate_left
 {
 show Act.put _ (some 42) _ = _
 exact sp_}
 refine pu_ 12 (some 43) (B_ 13 8191) HT_ ?_
 refine done_ (done_of HT_.out kf_) ?_
 try go_wp2
 go_roundg k2
 case measure => have := HJ2.out; have := HK2.out; omega
 case rel => exact ⟨(wrap64 (x5_2 + 1)), rs_, H', ⟨by have := HJ2.out; have := HK2.out; omega⟩, ⟨bk_ BK123⟩, ⟨bk_ BK124⟩, ⟨bl_ HB⟩⟩}
 {
 replace c28 := Bool.eq_false_iff.mpr c28
 subst c28
 rw [if_neg (show ¬ (false = true) by decide)] at H
 obtain rfl := Option.some.inj H
 have hnb33 := NB123_124.out
 have hnc33 := NB124_123.out
 obtain ⟨hcz34_0, hcz34_1, hcz34_2, hcz34_3, hfz34_0, hfz34_1, hfz34_2, hfz34_3⟩ := e4_ BK123
 try go_wp2
 replace BK123 := Aside0.mk (blk_drew BK123.out)
 replace BK124 := Aside0.mk (blk_drew BK124.out)
 replace HB := Aside0.mk (below_drew1 HB.out)
 have p126 : 0 ≤ (x5_2 : Int) := of_decide_eq_true am_
 have q126 : x5_2 < (l1_0.length : Int) := of_decide_eq_true am_
 obtain ⟨ad126, A126_0, c126_0, e126, hx126_0, hl126_0, hi126_0⟩ := at_L1 HR1_0.out x5_2 p126 q126
 have hw126_0 := hx126_0
 cases e126
 replace hx126_0 := (HB.out.cell (World.block_lt_of_cell? w _ hx126_0)).trans hx126_0
 have HR126_0 := Aside0.mk hi126_0
 have HC126_0 := Aside0.mk hl126_0
 clear hi126_0 hl126_0
 replace p126 := eq_true p126
 replace q126 := eq_true q126
 have p127 : 0 ≤ (x5_2 : Int) := of_decide_eq_true am_
 have q127 : x5_2 < (l1_1.length : Int) := of_decide_eq_true am_
 obtain ⟨ad127, A127_0, c127_0, e127, hx127_0, hl127_0, hi127_0⟩ := at_L2 HR1_1.out x5_2 p127 q127
 have hw127_0 := hx127_0
 cases e127
 replace hx127_0 := (HB.out.cell (World.block_lt_of_cell? w _ hx127_0)).trans hx127_0
 have HR127_0 := Aside0.mk hi127_0
 have HC127_0 := Aside0.mk hl127_0
 clear hi127_0 hl127_0
 replace p127 := eq_true p127
 replace q127 := eq_true q127
 refine start_ (n := 13) (S := fun w' => w'.cell? ⟨gb123, 0, none⟩ = some (.int .i64 a0_0) ∧ w'.cell? ⟨gb123, 1, none⟩ = some (.int .i64 a0_1) ∧ w'.cell? ⟨gb123, 2, none⟩ = some (.slice A0_2 l0_2.length c0_2) ∧ w'.cell? ⟨gb123, 3, none⟩ = some (.slice A0_3 l0_3.length c0_3) ∧ w'.cell? ⟨gb124, 0, none⟩ = some (.slice (some ad126) l1_0.length c1_0) ∧ w'.cell? ⟨gb124, 1, none⟩ = some (.slice (some ad127) l1_1.length c1_1) ∧ w'.cell? (ad126.add (x5_2).toNat) = some (.slice A126_0 (rd_L1 l1_0 x5_2).length c126_0) ∧ w'.cell? (ad127.add (x5_2).toNat) = some (.slice A127_0 (rd_L2 l1_1 x5_2).length c127_0)) (ds := []) (B_ 13 0) kf_ rfl rfl ⟨ce_ BK123 0, ce_ BK123 1, ce_ BK123 2, ce_ BK123 3, ce_ BK124 0, ce_ BK124 1, ((HB.out.cell (World.block_lt_of_cell? w _ hw126_0)).trans hw126_0), ((HB.out.cell (World.block_lt_of_cell? w _ hw127_0)).trans hw127_0)⟩ (fun hHeld => ?_); refine with_tabW psalteryref17_Right.tab6 psalteryref17_Right.bits6 (fun HT_ HW_ => ?_)
 generalize wr.drew = w35 at BK123 BK124 HB HR126_0 HR127_0 hx126_0 hx127_0 hHeld ⊢
 refine pu_ 1 (some 32) (B_ 13 2) HT_ ?_
 refine pu_ 3 (some 34) (B_ 13 10) HT_ ?_
 refine pu_ 6 (some 37) (B_ 13 74) HT_ ?_
 refine pu_ 8 (some 39) (B_ 13 330) HT_ ?_
 refine take_ (i := 0) (N := some 31) (v := ?_) (a' := ?_) (B_ 13 331) rfl rfl (take_ofW HT_.out HW_.out kf_) (fun _ _ _ h => h) (Or.inl ⟨by rfl, ?_⟩) hHeld ?_ ?_
 rotate_left
 {
 rintro w' ⟨s0, s1, s2, s3, s4, s5, s6, s7⟩
 go_simp
 with_reducible rfl}
 rotate_left
 {
 exact sp_}
 refine take_ (i := 2) (N := some 33) (v := ?_) (a' := ?_) (B_ 13 335) rfl rfl (take_ofW HT_.out HW_.out kf_) (fun _ _ _ h => h) (Or.inl ⟨by rfl, ?_⟩) hHeld ?_ ?_
 rotate_left
 {
 rintro w' ⟨s0, s1, s2, s3, s4, s5, s6, s7⟩
 go_simp
 with_reducible rfl}
 rotate_left
 {
 exact sp_}
 refine pu_ 4 (some 35) (B_ 13 351) HT_ ?_
 refine take_ (i := 5) (N := some 36) (v := ?_) (a' := ?_) (B_ 13 383) rfl rfl (take_ofW HT_.out HW_.out kf_) (fun _ _ _ h => h) (Or.inl ⟨by rfl, ?_⟩) hHeld ?_ ?_
 rotate_left
 {
 rintro w' ⟨s0, s1, s2, s3, s4, s5, s6, s7⟩
 go_simp
 with_reducible rfl}
 rotate_left
 {
 exact sp_}
 refine take_ (i := 7) (N := some 38) (v := ?_) (a' := ?_) (B_ 13 511) rfl rfl (take_ofW HT_.out HW_.out kf_) (fun _ _ _ h => h) (Or.inl ⟨by rfl, ?_⟩) hHeld ?_ ?_
 rotate_left
 {
 rintro w' ⟨s0, s1, s2, s3, s4, s5, s6, s7⟩
 go_simp
 with_reducible rfl}
 rotate_left
 {
 exact sp_}
 refine pu_ 9 (some 40) (B_ 13 1023) HT_ ?_
 refine take_ (i := 10) (N := some 41) (v := ?_) (a' := ?_) (B_ 13 2047) rfl rfl (take_ofW HT_.out HW_.out kf_) (fun _ _ _ h => h) (Or.inl ⟨by rfl, ?_⟩) hHeld ?_ ?_
 rotate_left
 {
 rintro w' ⟨s0, s1, s2, s3, s4, s5, s6, s7⟩
 go_simp
 with_reducible rfl}
 rotate_left
 {
 exact sp_}
 refine one_ (i := 11) (N := some 42) (B_ 13 4095) rfl rfl (one_of HT_.out kf_) (by decide) (fun K hK => ?_)
 refine goes_ Try.func30 kf_ rfl #[.agg #[.int .i64 a0_0, .int .i64 a0_1, .slice A0_2 l0_2.length c0_2, .slice A0_3 l0_3.length c0_3], .slice A126_0 (rd_L1 l1_0 x5_2).length c126_0, .slice A127_0 (rd_L2 l1_1 x5_2).length c127_0] (by rfl) rfl rfl ar_ ?_
 with_reducible refine (psalteryref17_channel.calls k2 a0_0 a0_1 _ _ l0_2 _ _ l0_3 _ _ (rd_L1 l1_0 x5_2) _ _ (rd_L2 l1_1 x5_2) false _ ?side1 ?side2 ?side3 ?side4 ?side5 ?side6 ?side7 ?side8 A27.out).mono ?_
 (case side1 => exact kC_ HR0_2 HB)
 (case side2 => exact HC0_2.out)
 (case side3 => exact kC_ HR0_3 HB)
 (case side4 => exact HC0_3.out)
 (case side5 => exact kC_ HR126_0 HB)
 (case side6 => exact HC126_0.out)
 (case side7 => exact kC_ HR127_0 HB)
 (case side8 => exact HC127_0.out)
 rintro e w36 ⟨rfl, hb⟩
 refine ⟨_, rfl, ?_⟩
 replace BK123 := FB_ BK123 hb
 replace BK124 := FB_ BK124 hb
 replace HB := BS_ HB hb
 (try clear hb)
 refine hK.out _ _ ⟨ce_ BK123 0, ce_ BK123 1, ce_ BK123 2, ce_ BK123 3, ce_ BK124 0, ce_ BK124 1, ((HB.out.cell (World.block_lt_of_cell? w _ hw126_0)).trans hw126_0), ((HB.out.cell (World.block_lt_of_cell? w _ hw127_0)).trans hw127_0)⟩ (fun hHeld => ?_)
 clear hK K
 refine norm_ (a' := ?_) ?_ ?_
 rotate_left
 {
 show Act.put _ (some 42) _ = _
 exact sp_}
 refine pu_ 12 (some 43) (B_ 13 8191) HT_ ?_
 refine done_ (done_of HT_.out kf_) ?_
 try go_wp2
 go_ret
 exact ⟨by first | rfl | (simp [errW_none, errW_some] <;> rfl) | (simp [*, errW_none, errW_some] <;> rfl), bl_ HB⟩}}
 {
 rw [if_neg c26] at H
 exact absurd H (by simp)}}
 {
 rw [if_neg c25] at H
 exact absurd H (by simp)}}
 {
 rw [if_neg c24] at H
 exact absurd H (by simp)}}
 {
 rw [if_neg c23] at H
 have c23b0 : decide (x5_2 < a0_0) = false := decide_eq_false c23
 clear c23
 obtain rfl := Option.some.inj H
 have hnb37 := NB123_124.out
 have hnc37 := NB124_123.out
 obtain ⟨hcz38_0, hcz38_1, hcz38_2, hcz38_3, hfz38_0, hfz38_1, hfz38_2, hfz38_3⟩ := e4_ BK123
 go_wp2
 go_ret
 exact ⟨by first | rfl | (simp [errW_none, errW_some] <;> rfl) | (simp [*, errW_none, errW_some] <;> rfl), bl_ HB⟩}))}))
def psalterylaw16_As.f (a0_0 : Int) (a0_1 : Int) (l0_2 : List Int) (l0_3 : List Int) : Option (Int × Int) := some (a0_0, a0_1)
set_option maxHeartbeats 8000000 in
set_option maxRecDepth 100000 in
theorem psalterylaw16_As.calls (a0_0 : Int) (a0_1 : Int) (A0_2 : Option Addr) (c0_2 : Nat) (l0_2 : List Int) (A0_3 : Option Addr) (c0_3 : Nat) (l0_3 : List Int) (r1 : Int) (r2 : Int) (w : World) (hr0_2 : Kd.C (Kd.int .i64) w A0_2 l0_2.length l0_2) (hc0_2 : l0_2.length ≤ c0_2) (hr0_3 : Kd.C (Kd.int .i64) w A0_3 l0_3.length l0_3) (hc0_3 : l0_3.length ≤ c0_3) (h : psalterylaw16_As.f a0_0 a0_1 l0_2 l0_3 = some (r1, r2)) :
    Calls Try.prog 11 #[.agg #[.int .i64 a0_0, .int .i64 a0_1, .slice A0_2 l0_2.length c0_2, .slice A0_3 l0_3.length c0_3]] w fun e w' => e = .returned (.agg #[.int .i64 r1, .int .i64 r2, .slice A0_2 l0_2.length c0_2, .slice A0_3 l0_3.length c0_3]) ∧ Below w.heap.size w w' := by
 have hu24 := Try.underlying24
 have hu31 := Try.underlying31
 have HR0_2 := Aside0.mk hr0_2
 have HC0_2 := Aside0.mk hc0_2
 clear hr0_2 hc0_2
 have HR0_3 := Aside0.mk hr0_3
 have HC0_3 := Aside0.mk hc0_3
 clear hr0_3 hc0_3
 have HB := Aside0.mk (Below.refl w.heap.size w)
 have H : (some (a0_0, a0_1)) = some (r1, r2) := h
 clear h
 simp only [Option.some.injEq, Prod.mk.injEq] at H
 obtain ⟨rfl, rfl⟩ := H
 go_enter Try.func11, Try.ntmps11
 go_wp2_with (first | ((with_reducible refine gate_dst (N := 1) rfl ?_); refine bx_ HB 1 #[.int .i64 a0_0, .int .i64 a0_1, .slice A0_2 l0_2.length c0_2, .slice A0_3 l0_3.length c0_3] 24 ?_; clear HB; intro gb129 hg w2 hb BK129 GE129 HB; have GW129 := GE129; clear hb hg) | ((with_reducible refine gate_dst (N := 2) rfl ?_); refine bx_ HB 2 #[.int .i64 0, .int .i64 0, .slice none 0 0, .slice none 0 0] 31 ?_; clear HB; intro gb130 hg w3 hb BK130 GE130 HB; have GW130 := GE130; obtain ⟨NB129_130, NB130_129⟩ := NN_ BK129 hg; replace BK129 := FB_ BK129 hb; clear hb hg; have hnb4 := NB129_130.out; have hnc4 := NB130_129.out; obtain ⟨hcz5_0, hcz5_1, hcz5_2, hcz5_3, hfz5_0, hfz5_1, hfz5_2, hfz5_3⟩ := e4_ BK129; obtain ⟨hcz6_0, hcz6_1, hcz6_2, hcz6_3, hfz6_0, hfz6_1, hfz6_2, hfz6_3⟩ := e4_ BK130))
 refine bodyPost_ret (results_cell_row rfl _ _ gb130 31 #[.int .i64 a0_0, .int .i64 a0_1, .slice A0_2 l0_2.length c0_2, .slice A0_3 l0_3.length c0_3] (0, 0) _ rfl (bp_ BK130) Try.underlying31 rfl kf_) rfl ?_
 exact ⟨by first | rfl | (simp [errW_none, errW_some] <;> rfl) | (simp [*, errW_none, errW_some] <;> rfl), bl_ HB⟩
def psalterylaw17_As.f (l0_0 : List (List Int)) (l0_1 : List (List Int)) : Option (Unit) := some ()
set_option maxHeartbeats 8000000 in
set_option maxRecDepth 100000 in
theorem psalterylaw17_As.calls (A0_0 : Option Addr) (c0_0 : Nat) (l0_0 : List (List Int)) (A0_1 : Option Addr) (c0_1 : Nat) (l0_1 : List (List Int)) (w : World) (hr0_0 : Kd.C (Kd.slice 3 (Kd.int .i64)) w A0_0 l0_0.length l0_0) (hc0_0 : l0_0.length ≤ c0_0) (hr0_1 : Kd.C (Kd.slice 2 (Kd.int .i64)) w A0_1 l0_1.length l0_1) (hc0_1 : l0_1.length ≤ c0_1) (h : psalterylaw17_As.f l0_0 l0_1 = some ()) :
    Calls Try.prog 12 #[.agg #[.slice A0_0 l0_0.length c0_0, .slice A0_1 l0_1.length c0_1]] w fun e w' => e = .returned (.agg #[.slice A0_0 l0_0.length c0_0, .slice A0_1 l0_1.length c0_1]) ∧ Below w.heap.size w w' := by
 have hu28 := Try.underlying28
 have hu33 := Try.underlying33
 have HR0_0 := Aside0.mk hr0_0
 have HC0_0 := Aside0.mk hc0_0
 clear hr0_0 hc0_0
 have HR0_1 := Aside0.mk hr0_1
 have HC0_1 := Aside0.mk hc0_1
 clear hr0_1 hc0_1
 have HB := Aside0.mk (Below.refl w.heap.size w)
 have H : (some ()) = some () := h
 clear h
 go_enter Try.func12, Try.ntmps12
 go_wp2_with (first | ((with_reducible refine gate_dst (N := 1) rfl ?_); refine bx_ HB 1 #[.slice A0_0 l0_0.length c0_0, .slice A0_1 l0_1.length c0_1] 28 ?_; clear HB; intro gb131 hg w2 hb BK131 GE131 HB; have GW131 := GE131; clear hb hg) | ((with_reducible refine gate_dst (N := 2) rfl ?_); refine bx_ HB 2 #[.slice none 0 0, .slice none 0 0] 33 ?_; clear HB; intro gb132 hg w3 hb BK132 GE132 HB; have GW132 := GE132; obtain ⟨NB131_132, NB132_131⟩ := NN_ BK131 hg; replace BK131 := FB_ BK131 hb; clear hb hg; have hnb4 := NB131_132.out; have hnc4 := NB132_131.out; obtain ⟨hcz5_0, hcz5_1, hfz5_0, hfz5_1⟩ := e2_ BK131; obtain ⟨hcz6_0, hcz6_1, hfz6_0, hfz6_1⟩ := e2_ BK132))
 refine bodyPost_ret (results_cell_row rfl _ _ gb132 33 #[.slice A0_0 l0_0.length c0_0, .slice A0_1 l0_1.length c0_1] (0, 0) _ rfl (bp_ BK132) Try.underlying33 rfl kf_) rfl ?_
 exact ⟨by first | rfl | (simp [errW_none, errW_some] <;> rfl) | (simp [*, errW_none, errW_some] <;> rfl), bl_ HB⟩
def huff_used.l0 : Nat → Int → List Int → Int → Int → Option (Int)
  | 0, _, _, _, _ => none
  | k + 1, x3, x6, x7, x8 => if x8 < x7 then (if 0 ≤ x8 then (if x8 < (x6.length : Int) then (if (rd x6 x8) > 0 then (huff_used.l0 k (wrap64 (x3 + 1)) x6 x7 (wrap64 (x8 + 1))) else (huff_used.l0 k x3 x6 x7 (wrap64 (x8 + 1)))) else (none)) else (none)) else (some x3)
def huff_used.f (k : Nat) (l0 : List Int) : Option (Int) := huff_used.l0 k 0 l0 (l0.length : Int) 0
theorem huff_used.mono_l : ∀ k, (∀ y0 y1 y2 y3, LeO (huff_used.l0 k y0 y1 y2 y3) (huff_used.l0 (k + 1) y0 y1 y2 y3))
  | 0 => fun _ _ _ _ r h => by simp [huff_used.l0] at h
  | k + 1 => by
    have ih0 := huff_used.mono_l k
    · intro y0 y1 y2 y3
      unfold huff_used.l0
      with_reducible repeat' first
   | exact ih0 _ _ _ _
   | exact LeO.refl _
   | exact LeO.none _
   | refine LeO.ite ?_ ?_
   | refine LeO.bind ?_ (fun _ => ?_)
theorem huff_used.mono : ∀ a0 k, LeO (huff_used.f k a0) (huff_used.f (k + 1) a0) := by
  intro a0 k
  have ih0 := huff_used.mono_l k
  unfold huff_used.f
  with_reducible repeat' first
   | exact ih0 _ _ _ _
   | exact LeO.refl _
   | exact LeO.none _
   | refine LeO.ite ?_ ?_
   | refine LeO.bind ?_ (fun _ => ?_)
set_option maxHeartbeats 8000000 in
set_option maxRecDepth 100000 in
theorem huff_used.calls (k : Nat) (A0 : Option Addr) (c0 : Nat) (l0 : List Int) (r : Int) (w : World) (hr0 : Kd.C (Kd.int .i64) w A0 l0.length l0) (hc0 : l0.length ≤ c0) (h : huff_used.f k l0 = some r) :
    Calls Try.prog 115 #[.slice A0 l0.length c0] w fun e w' => e = .returned (.int .i64 r) ∧ Drawn0 w w' := by
 have HR0 := Aside0.mk hr0
 have HC0 := Aside0.mk hc0
 clear hr0 hc0
 have H : (huff_used.l0 k 0 l0 (l0.length : Int) 0) = some r := h
 clear h
 have H' := Aside0.mk H
 clear H
 go_enter Try.func115, Try.ntmps115
 go_wp2
 go_loopg [3, 8] k (fun kq v3 v8 w' => ∃ (x3_1 : Int) (x8_1 : Int), v3 = .int .i64 x3_1 ∧ v8 = .int .i64 x8_1 ∧ Aside0 (huff_used.l0 kq x3_1 l0 (l0.length : Int) x8_1 = some r) ∧ Aside0 (kq ≤ k) ∧ Drawn0 w w')
 case atStart => exact ⟨(0), (0), rs_, rs_, H', ⟨Nat.le_refl _⟩, by repeat (first | exact Drawn0.refl _ | apply Drawn0.step)⟩
 case round => (
 clear H'
 obtain ⟨x3_1, x8_1, rfl, rfl, HA, HK1, ⟨m1, rfl⟩⟩ := hrel
 cases gk with
 | zero => exact absurd HA.out (by simp [huff_used.l0])
 | succ k1 => (
 have H := HA.out
 clear HA
 simp only [huff_used.l0] at H
 by_cases c2 : x8_1 < (l0.length : Int)
 {
 rw [if_pos c2] at H
 have c2b0 : decide (x8_1 < (l0.length : Int)) = true := decide_eq_true c2
 clear c2
 by_cases c3 : 0 ≤ x8_1
 {
 rw [if_pos c3] at H
 have c3b0 : decide (0 ≤ x8_1) = true := decide_eq_true c3
 clear c3
 by_cases c4 : x8_1 < (l0.length : Int)
 {
 rw [if_pos c4] at H
 have c4b0 : decide (x8_1 < (l0.length : Int)) = true := decide_eq_true c4
 clear c4
 by_cases c5 : (rd l0 x8_1) > 0
 {
 rw [if_pos c5] at H
 have c5b0 : decide (0 < (rd l0 x8_1)) = true := decide_eq_true c5
 clear c5
 have H' := Aside0.mk H
 clear H
 have p133 : 0 ≤ (x8_1 : Int) := of_decide_eq_true am_
 have q133 : x8_1 < (l0.length : Int) := of_decide_eq_true am_
 obtain ⟨ad133, e133, hx133_0⟩ := Kd.at_int HR0.out x8_1 p133 q133
 cases e133
 replace p133 := eq_true p133
 replace q133 := eq_true q133
 go_wp2
 go_roundg k1
 case measure => have := HK1.out; omega
 case rel => exact ⟨(wrap64 (x3_1 + 1)), (wrap64 (x8_1 + 1)), rs_, rs_, H', ⟨by have := HK1.out; omega⟩, by repeat (first | exact Drawn0.refl _ | apply Drawn0.step)⟩}
 {
 rw [if_neg c5] at H
 have c5b0 : decide (0 < (rd l0 x8_1)) = false := decide_eq_false c5
 clear c5
 have H' := Aside0.mk H
 clear H
 have p133 : 0 ≤ (x8_1 : Int) := of_decide_eq_true am_
 have q133 : x8_1 < (l0.length : Int) := of_decide_eq_true am_
 obtain ⟨ad133, e133, hx133_0⟩ := Kd.at_int HR0.out x8_1 p133 q133
 cases e133
 replace p133 := eq_true p133
 replace q133 := eq_true q133
 go_wp2
 go_roundg k1
 case measure => have := HK1.out; omega
 case rel => exact ⟨(x3_1), (wrap64 (x8_1 + 1)), rs_, rs_, H', ⟨by have := HK1.out; omega⟩, by repeat (first | exact Drawn0.refl _ | apply Drawn0.step)⟩}}
 {
 rw [if_neg c4] at H
 exact absurd H (by simp)}}
 {
 rw [if_neg c3] at H
 exact absurd H (by simp)}}
 {
 rw [if_neg c2] at H
 have c2b0 : decide (x8_1 < (l0.length : Int)) = false := decide_eq_false c2
 clear c2
 obtain rfl := Option.some.inj H
 go_wp2
 go_ret
 exact ⟨by first | rfl | (simp; done) | (simp [*]; done), by repeat (first | exact Drawn0.refl _ | apply Drawn0.step)⟩}))
mutual
def huff_Right.j0 : Nat → List Int → Bool → Option (Bool)
  | 0, _, _ => none
  | k + 1, x0, x13 => if x13 = true then (some false) else (huff_Right.l0 k x0 0 x0 (x0.length : Int) 0)
def huff_Right.l0 : Nat → List Int → Int → List Int → Int → Int → Option (Bool)
  | 0, _, _, _, _, _ => none
  | k + 1, x0, x3, x14, x15, x16 => if x16 < x15 then (if 0 ≤ x16 then (if x16 < (x14.length : Int) then (if (rd x14 x16) < 0 then (huff_Right.j2 k x0 x3 (rd x14 x16) x14 x15 x16 true) else (huff_Right.j2 k x0 x3 (rd x14 x16) x14 x15 x16 (decide ((rd x14 x16) > 16)))) else (none)) else (none)) else ((huff_used.f k x0).bind fun t134 => (if t134 = 1 then (some (x3 == 32768)) else (some (x3 == 65536))))
def huff_Right.j2 : Nat → List Int → Int → Int → List Int → Int → Int → Bool → Option (Bool)
  | 0, _, _, _, _, _, _, _ => none
  | k + 1, x0, x3, x5, x14, x15, x16, x25 => if x25 = true then (some false) else (if x5 > 0 then (if 0 ≤ (wrap64 (16 - x5)) then (huff_Right.l0 k x0 (wrap64 (x3 + (shl .i64 1 (wrap64 (16 - x5))))) x14 x15 (wrap64 (x16 + 1))) else (none)) else (huff_Right.l0 k x0 x3 x14 x15 (wrap64 (x16 + 1))))
end
def huff_Right.f (k : Nat) (l0 : List Int) : Option (Bool) := if (l0.length : Int) < 2 then (huff_Right.j0 k l0 true) else (huff_Right.j0 k l0 (decide ((l0.length : Int) > 64)))
theorem huff_Right.mono_l : ∀ k, (∀ y0 y1, LeO (huff_Right.j0 k y0 y1) (huff_Right.j0 (k + 1) y0 y1)) ∧ (∀ y0 y1 y2 y3 y4, LeO (huff_Right.l0 k y0 y1 y2 y3 y4) (huff_Right.l0 (k + 1) y0 y1 y2 y3 y4)) ∧ (∀ y0 y1 y2 y3 y4 y5 y6, LeO (huff_Right.j2 k y0 y1 y2 y3 y4 y5 y6) (huff_Right.j2 (k + 1) y0 y1 y2 y3 y4 y5 y6))
  | 0 => ⟨fun _ _ r h => by simp [huff_Right.j0] at h, fun _ _ _ _ _ r h => by simp [huff_Right.l0] at h, fun _ _ _ _ _ _ _ r h => by simp [huff_Right.j2] at h⟩
  | k + 1 => by
    obtain ⟨ih0, ih1, ih2⟩ := huff_Right.mono_l k
    refine ⟨?_, ?_, ?_⟩
    all_goals (intros; first | unfold huff_Right.j0 | unfold huff_Right.l0 | unfold huff_Right.j2)
    all_goals with_reducible repeat' first
     | exact ih0 _ _
     | exact ih1 _ _ _ _ _
     | exact ih2 _ _ _ _ _ _ _
     | exact huff_used.mono _ _
     | exact LeO.refl _
     | exact LeO.none _
     | refine LeO.ite ?_ ?_
     | refine LeO.bind ?_ (fun _ => ?_)
theorem huff_Right.mono : ∀ a0 k, LeO (huff_Right.f k a0) (huff_Right.f (k + 1) a0) := by
  intro a0 k
  obtain ⟨ih0, ih1, ih2⟩ := huff_Right.mono_l k
  unfold huff_Right.f
  with_reducible repeat' first
   | exact ih0 _ _
   | exact ih1 _ _ _ _ _
   | exact ih2 _ _ _ _ _ _ _
   | exact huff_used.mono _ _
   | exact LeO.refl _
   | exact LeO.none _
   | refine LeO.ite ?_ ?_
   | refine LeO.bind ?_ (fun _ => ?_)
set_option maxHeartbeats 8000000 in
set_option maxRecDepth 100000 in
theorem huff_Right.calls (k : Nat) (A0 : Option Addr) (c0 : Nat) (l0 : List Int) (r : Bool) (w : World) (hr0 : Kd.C (Kd.int .i64) w A0 l0.length l0) (hc0 : l0.length ≤ c0) (h : huff_Right.f k l0 = some r) :
    Calls Try.prog 101 #[.slice A0 l0.length c0] w fun e w' => e = .returned (.bool r) ∧ Drawn0 w w' := by
 have HR0 := Aside0.mk hr0
 have HC0 := Aside0.mk hc0
 clear hr0 hc0
 have H : (if (l0.length : Int) < 2 then (huff_Right.j0 k l0 true) else (huff_Right.j0 k l0 (decide ((l0.length : Int) > 64)))) = some r := h
 clear h
 have HC2 := Aside0.mk H
 clear H
 go_enter Try.func101, Try.ntmps101
 go_upto_region 1 with (fail)
 go_cut [13] (fun v13 wc => ∃ (kq : Nat) (x13_1 : Bool), v13 = .bool x13_1 ∧ Aside0 (huff_Right.j0 kq l0 x13_1 = some r) ∧ Aside0 (kq ≤ k) ∧ Drawn0 w wc)
 case first => (
 have H := HC2.out
 clear HC2
 by_cases c3 : (l0.length : Int) < 2
 {
 rw [if_pos c3] at H
 have c3b0 : decide ((l0.length : Int) < 2) = true := decide_eq_true c3
 have c3b1 : decide (l0.length < 2) = true := decide_eq_true (by omega)
 clear c3
 (first | rw [c3b0] | (simp only [i64_w, i32_w]; rw [c3b0]) | skip)
 have H' := Aside0.mk H
 clear H
 go_wp2
 go_meet
 case rel => exact ⟨_, (true), rs_, H', ⟨ol_⟩, by repeat (first | exact Drawn0.refl _ | apply Drawn0.step)⟩}
 {
 rw [if_neg c3] at H
 have c3b0 : decide ((l0.length : Int) < 2) = false := decide_eq_false c3
 have c3b1 : decide (l0.length < 2) = false := decide_eq_false (by omega)
 clear c3
 (first | rw [c3b0] | (simp only [i64_w, i32_w]; rw [c3b0]) | skip)
 have H' := Aside0.mk H
 clear H
 go_wp2
 go_meet
 case rel => exact ⟨_, (decide ((l0.length : Int) > 64)), rs_, H', ⟨ol_⟩, by repeat (first | exact Drawn0.refl _ | apply Drawn0.step)⟩})
 case rest => (
 clear HC2
 obtain ⟨kq, x13_1, rfl, HA, HJ1, ⟨mc1, rfl⟩⟩ := hcut
 cases kq with
 | zero => exact absurd HA.out (by simp [huff_Right.j0])
 | succ kj1 => (
 have H := HA.out
 clear HA
 simp only [huff_Right.j0] at H
 by_cases c4 : x13_1 = true
 {
 subst c4
 rw [if_pos rfl] at H
 obtain rfl := Option.some.inj H
 go_wp2
 go_ret
 exact ⟨by first | rfl | (simp; done) | (simp [*]; done), by repeat (first | exact Drawn0.refl _ | apply Drawn0.step)⟩}
 {
 replace c4 := Bool.eq_false_iff.mpr c4
 subst c4
 rw [if_neg (show ¬ (false = true) by decide)] at H
 have H' := Aside0.mk H
 clear H
 go_wp2
 go_loopg [3, 16] kj1 (fun kq v3 v16 w' => ∃ (x3_2 : Int) (x16_2 : Int), v3 = .int .i64 x3_2 ∧ v16 = .int .i64 x16_2 ∧ Aside0 (huff_Right.l0 kq l0 x3_2 l0 (l0.length : Int) x16_2 = some r) ∧ Aside0 (kq ≤ kj1) ∧ Drawn0 w w')
 case atStart => exact ⟨(0), (0), rs_, rs_, H', ⟨Nat.le_refl _⟩, by repeat (first | exact Drawn0.refl _ | apply Drawn0.step)⟩
 case round => (
 clear H'
 try clear c4
 obtain ⟨x3_2, x16_2, rfl, rfl, HA, HK2, ⟨m2, rfl⟩⟩ := hrel
 cases gk with
 | zero => exact absurd HA.out (by simp [huff_Right.l0])
 | succ k2 => (
 have H := HA.out
 clear HA
 simp only [huff_Right.l0] at H
 by_cases c5 : x16_2 < (l0.length : Int)
 {
 rw [if_pos c5] at H
 have c5b0 : decide (x16_2 < (l0.length : Int)) = true := decide_eq_true c5
 clear c5
 by_cases c6 : 0 ≤ x16_2
 {
 rw [if_pos c6] at H
 have c6b0 : decide (0 ≤ x16_2) = true := decide_eq_true c6
 clear c6
 by_cases c7 : x16_2 < (l0.length : Int)
 {
 rw [if_pos c7] at H
 have c7b0 : decide (x16_2 < (l0.length : Int)) = true := decide_eq_true c7
 clear c7
 have HC8 := Aside0.mk H
 clear H
 have p135 : 0 ≤ (x16_2 : Int) := of_decide_eq_true am_
 have q135 : x16_2 < (l0.length : Int) := of_decide_eq_true am_
 obtain ⟨ad135, e135, hx135_0⟩ := Kd.at_int HR0.out x16_2 p135 q135
 cases e135
 replace p135 := eq_true p135
 replace q135 := eq_true q135
 go_upto_region 7 with (fail)
 go_cut [25] (fun v25 wc => ∃ (kq : Nat) (x25_7 : Bool), v25 = .bool x25_7 ∧ Aside0 (huff_Right.j2 kq l0 x3_2 (rd l0 x16_2) l0 (l0.length : Int) x16_2 x25_7 = some r) ∧ Aside0 (kq ≤ k2) ∧ Drawn0 w wc)
 case first => (
 have H := HC8.out
 clear HC8
 by_cases c9 : (rd l0 x16_2) < 0
 {
 rw [if_pos c9] at H
 have c9b0 : decide ((rd l0 x16_2) < 0) = true := decide_eq_true c9
 clear c9
 (first | rw [c9b0] | (simp only [i64_w, i32_w]; rw [c9b0]) | skip)
 have H' := Aside0.mk H
 clear H
 go_wp2
 go_meet
 case rel => exact ⟨_, (true), rs_, H', ⟨by have := HJ1.out; have := HK2.out; first | omega | exact Nat.le_refl _⟩, by repeat (first | exact Drawn0.refl _ | apply Drawn0.step)⟩}
 {
 rw [if_neg c9] at H
 have c9b0 : decide ((rd l0 x16_2) < 0) = false := decide_eq_false c9
 clear c9
 (first | rw [c9b0] | (simp only [i64_w, i32_w]; rw [c9b0]) | skip)
 have H' := Aside0.mk H
 clear H
 go_wp2
 go_meet
 case rel => exact ⟨_, (decide ((rd l0 x16_2) > 16)), rs_, H', ⟨by have := HJ1.out; have := HK2.out; first | omega | exact Nat.le_refl _⟩, by repeat (first | exact Drawn0.refl _ | apply Drawn0.step)⟩})
 case rest => (
 clear HC8
 try clear c4
 try clear c5
 try clear c5b0
 try clear c6
 try clear c6b0
 try clear c7
 try clear c7b0
 try clear hx135_0
 try clear p135
 try clear q135
 obtain ⟨kq, x25_7, rfl, HA, HJ7, ⟨mc7, rfl⟩⟩ := hcut
 cases kq with
 | zero => exact absurd HA.out (by simp [huff_Right.j2])
 | succ kj7 => (
 have H := HA.out
 clear HA
 simp only [huff_Right.j2] at H
 by_cases c10 : x25_7 = true
 {
 subst c10
 rw [if_pos rfl] at H
 obtain rfl := Option.some.inj H
 go_wp2
 go_ret
 exact ⟨by first | rfl | (simp; done) | (simp [*]; done), by repeat (first | exact Drawn0.refl _ | apply Drawn0.step)⟩}
 {
 replace c10 := Bool.eq_false_iff.mpr c10
 subst c10
 rw [if_neg (show ¬ (false = true) by decide)] at H
 by_cases c11 : (rd l0 x16_2) > 0
 {
 rw [if_pos c11] at H
 have c11b0 : decide (0 < (rd l0 x16_2)) = true := decide_eq_true c11
 clear c11
 obtain ⟨ji12, hji12⟩ : ∃ j_ : Int, (wrap64 (16 - (rd l0 x16_2))) = j_ := ⟨_, rfl⟩
 replace H : (if 0 ≤ (ji12) then (huff_Right.l0 kj7 l0 (wrap64 (x3_2 + (shl .i64 1 (ji12)))) l0 (l0.length : Int) (wrap64 (x16_2 + 1))) else (none)) = some r := by first | (rw [hji12] at H; exact H) | (simp only [hji12] at H ⊢; exact H)
 have hji12w : (IntKind.i64.wrap (16 - (rd l0 x16_2))) = ji12 := (i64_w _).trans hji12
 by_cases c13 : 0 ≤ (ji12)
 {
 rw [if_pos c13] at H
 have c13b0 := eq_true c13
 have c13b1 : decide (0 ≤ (ji12)) = true := decide_eq_true c13
 clear c13
 obtain ⟨ji14, hji14⟩ : ∃ j_ : Int, (shl .i64 1 (ji12)) = j_ := ⟨_, rfl⟩
 replace H : (huff_Right.l0 kj7 l0 (wrap64 (x3_2 + (ji14))) l0 (l0.length : Int) (wrap64 (x16_2 + 1))) = some r := by first | (rw [hji14] at H; exact H) | (simp only [hji14] at H ⊢; exact H)
 have hji14_ : (IntKind.i64.wrap (1 * 2 ^ min (ji12).toNat 64)) = ji14 := hji14
 have hji14z : (ji12) ≤ 64 → (IntKind.i64.wrap (1 * 2 ^ (ji12).toNat)) = ji14 := shl_small hji14
 have hji14u : (IntKind.i64.wrap (2 ^ min (ji12).toNat 64)) = ji14 := by have h_ := hji14_; rw [Int.one_mul] at h_; exact h_
 have hji14v : (ji12) ≤ 64 → (IntKind.i64.wrap (2 ^ (ji12).toNat)) = ji14 := fun hle_ => by have h_ := hji14z hle_; rw [Int.one_mul] at h_; exact h_
 have hji14y : (wrap64 (1 * 2 ^ min (ji12).toNat 64)) = ji14 := (i64_w _).symm.trans hji14_
 have hji14x : (ji12) ≤ 64 → (wrap64 (1 * 2 ^ (ji12).toNat)) = ji14 := fun h_ => (i64_w _).symm.trans (hji14z h_)
 have H' := Aside0.mk H
 clear H
 (try subst hji12)
 go_wp2
 first | go_roundg kj7 | (subst hji12; go_roundg kj7)
 case measure => have := HJ1.out; have := HK2.out; have := HJ7.out; omega
 case rel => exact ⟨(wrap64 (x3_2 + (ji14))), (wrap64 (x16_2 + 1)), (by first | rfl | (simp; done) | (simp only [← hji14] <;> (first | rfl | simp)) | (simp [*]; done)), rs_, H', ⟨by have := HJ1.out; have := HK2.out; have := HJ7.out; omega⟩, by repeat (first | exact Drawn0.refl _ | apply Drawn0.step)⟩}
 {
 rw [if_neg c13] at H
 exact absurd H (by simp)}}
 {
 rw [if_neg c11] at H
 have c11b0 : decide (0 < (rd l0 x16_2)) = false := decide_eq_false c11
 clear c11
 have H' := Aside0.mk H
 clear H
 go_wp2
 go_roundg kj7
 case measure => have := HJ1.out; have := HK2.out; have := HJ7.out; omega
 case rel => exact ⟨(x3_2), (wrap64 (x16_2 + 1)), rs_, rs_, H', ⟨by have := HJ1.out; have := HK2.out; have := HJ7.out; omega⟩, by repeat (first | exact Drawn0.refl _ | apply Drawn0.step)⟩}}))}
 {
 rw [if_neg c7] at H
 exact absurd H (by simp)}}
 {
 rw [if_neg c6] at H
 exact absurd H (by simp)}}
 {
 rw [if_neg c5] at H
 have c5b0 : decide (x16_2 < (l0.length : Int)) = false := decide_eq_false c5
 clear c5
 obtain ⟨t134, A15, H⟩ := ob_ H
 (try dsimp only at H)
 by_cases c16 : t134 = 1
 {
 rw [if_pos c16] at H
 have c16b0 : (t134 == 1) = true := beq_iff_eq.mpr c16
 have c16b1 : (t134 != 1) = false := bne_eq_false_iff_eq.mpr c16
 clear c16
 obtain rfl := Option.some.inj H
 go_wp2_with (first | ((with_reducible refine gate_callee (f := 115) rfl ?_); refine gL_ (some 35) Try.func115 #[.slice A0 l0.length c0] ?_; (with_reducible refine (huff_used.calls k2 _ _ l0 t134 _ ?side1 ?side2 A15.out).mono ?_); (case side1 => repeat (first | exact HR0.out | (with_reducible refine Kd.C_alloc ?_ _) | (with_reducible refine Kd.C_drewN ?_ _) | (with_reducible refine Kd.C_drew ?_))); (case side2 => exact HC0.out); rintro e w' ⟨rfl, ⟨nd, rfl⟩⟩; refine ⟨_, rfl, ?_⟩))
 go_ret
 exact ⟨by first | rfl | (simp; done) | (simp [*]; done), by repeat (first | exact Drawn0.refl _ | apply Drawn0.step)⟩}
 {
 rw [if_neg c16] at H
 have c16b0 : (t134 == 1) = false := beq_eq_false_iff_ne.mpr c16
 have c16b1 : (t134 != 1) = true := bne_iff_ne.mpr c16
 obtain rfl := Option.some.inj H
 go_wp2_with (first | ((with_reducible refine gate_callee (f := 115) rfl ?_); refine gL_ (some 35) Try.func115 #[.slice A0 l0.length c0] ?_; (with_reducible refine (huff_used.calls k2 _ _ l0 t134 _ ?side1 ?side2 A15.out).mono ?_); (case side1 => repeat (first | exact HR0.out | (with_reducible refine Kd.C_alloc ?_ _) | (with_reducible refine Kd.C_drewN ?_ _) | (with_reducible refine Kd.C_drew ?_))); (case side2 => exact HC0.out); rintro e w' ⟨rfl, ⟨nd, rfl⟩⟩; refine ⟨_, rfl, ?_⟩))
 go_ret
 exact ⟨by first | rfl | (simp; done) | (simp [*]; done), by repeat (first | exact Drawn0.refl _ | apply Drawn0.step)⟩}}))}))
def vhead_book.f (k : Nat) (l0 : List Int) (a1 : Int) : Option (Bool) := if (l0.length : Int) = a1 then ((huff_Right.f k l0).bind fun t136 => (some t136)) else (some false)
theorem vhead_book.mono : ∀ a0 a1 k, LeO (vhead_book.f k a0 a1) (vhead_book.f (k + 1) a0 a1) := by
  intro a0 a1 k
  unfold vhead_book.f
  with_reducible repeat' first
   | exact huff_Right.mono _ _
   | exact LeO.refl _
   | exact LeO.none _
   | refine LeO.ite ?_ ?_
   | refine LeO.bind ?_ (fun _ => ?_)
set_option maxHeartbeats 8000000 in
set_option maxRecDepth 100000 in
theorem vhead_book.calls (k : Nat) (A0 : Option Addr) (c0 : Nat) (l0 : List Int) (a1 : Int) (r : Bool) (w : World) (hr0 : Kd.C (Kd.int .i64) w A0 l0.length l0) (hc0 : l0.length ≤ c0) (h : vhead_book.f k l0 a1 = some r) :
    Calls Try.prog 79 #[.slice A0 l0.length c0, .int .i64 a1] w fun e w' => e = .returned (.bool r) ∧ Drawn0 w w' := by
 have HR0 := Aside0.mk hr0
 have HC0 := Aside0.mk hc0
 clear hr0 hc0
 have H : (if (l0.length : Int) = a1 then ((huff_Right.f k l0).bind fun t136 => (some t136)) else (some false)) = some r := h
 clear h
 by_cases c3 : (l0.length : Int) = a1
 {
 rw [if_pos c3] at H
 have c3b0 : ((l0.length : Int) == a1) = true := beq_iff_eq.mpr c3
 have c3b1 : ((l0.length : Int) != a1) = false := bne_eq_false_iff_eq.mpr c3
 clear c3
 replace H := Option.bind_eq_some_iff.mp H
 obtain ⟨t136, A40, H⟩ := H
 replace H : (some t136) = some r := H
 have A4 := Aside0.mk A40
 clear A40
 obtain rfl := Option.some.inj H
 go_enter Try.func79, Try.ntmps79
 go_wp2_with (first | (go_at_call 101; (with_reducible refine (huff_Right.calls k _ _ l0 t136 _ ?side1 ?side2 A4.out).mono ?_); (case side1 => repeat (first | exact HR0.out | (with_reducible refine Kd.C_alloc ?_ _) | (with_reducible refine Kd.C_drewN ?_ _) | (with_reducible refine Kd.C_drew ?_))); (case side2 => exact HC0.out); rintro e w' ⟨rfl, ⟨nd, rfl⟩⟩))
 go_ret
 exact ⟨by first | rfl | (simp; done) | (simp [*]; done), by repeat (first | exact Drawn0.refl _ | apply Drawn0.step)⟩}
 {
 rw [if_neg c3] at H
 have c3b0 : ((l0.length : Int) == a1) = false := beq_eq_false_iff_ne.mpr c3
 have c3b1 : ((l0.length : Int) != a1) = true := bne_iff_ne.mpr c3
 obtain rfl := Option.some.inj H
 go_enter Try.func79, Try.ntmps79
 go_wp2
 go_ret
 exact ⟨by first | rfl | (simp; done) | (simp [*]; done), by repeat (first | exact Drawn0.refl _ | apply Drawn0.step)⟩}
def vhead_Right.f (k : Nat) (a0_0 : Int) (a0_1 : Int) (l0_2 : List Int) (l0_3 : List Int) : Option (Bool) := if a0_0 ≥ 1 then (if a0_0 ≤ 2 then (if a0_1 ≥ 0 then (if a0_1 ≤ 12 then ((vhead_book.f k l0_2 45).bind fun t138 => (if t138 = true then ((vhead_book.f k l0_3 16).bind fun t139 => (if t139 = true then (if 15 < (l0_3.length : Int) then (some (decide ((rd l0_3 15) > 0))) else (none)) else (some false))) else (some false))) else (some false)) else (some false)) else (some false)) else (some false)
theorem vhead_Right.mono : ∀ a0 a1 a2 a3 k, LeO (vhead_Right.f k a0 a1 a2 a3) (vhead_Right.f (k + 1) a0 a1 a2 a3) := by
  intro a0 a1 a2 a3 k
  unfold vhead_Right.f
  with_reducible repeat' first
   | exact vhead_book.mono _ _ _
   | exact LeO.refl _
   | exact LeO.none _
   | refine LeO.ite ?_ ?_
   | refine LeO.bind ?_ (fun _ => ?_)
set_option maxHeartbeats 8000000 in
set_option maxRecDepth 100000 in
theorem vhead_Right.calls (k : Nat) (a0_0 : Int) (a0_1 : Int) (A0_2 : Option Addr) (c0_2 : Nat) (l0_2 : List Int) (A0_3 : Option Addr) (c0_3 : Nat) (l0_3 : List Int) (r : Bool) (w : World) (hr0_2 : Kd.C (Kd.int .i64) w A0_2 l0_2.length l0_2) (hc0_2 : l0_2.length ≤ c0_2) (hr0_3 : Kd.C (Kd.int .i64) w A0_3 l0_3.length l0_3) (hc0_3 : l0_3.length ≤ c0_3) (h : vhead_Right.f k a0_0 a0_1 l0_2 l0_3 = some r) :
    Calls Try.prog 41 #[.agg #[.int .i64 a0_0, .int .i64 a0_1, .slice A0_2 l0_2.length c0_2, .slice A0_3 l0_3.length c0_3]] w fun e w' => e = .returned (.bool r) ∧ Below w.heap.size w w' := by
 have hu24 := Try.underlying24
 have HR0_2 := Aside0.mk hr0_2
 have HC0_2 := Aside0.mk hc0_2
 clear hr0_2 hc0_2
 have HR0_3 := Aside0.mk hr0_3
 have HC0_3 := Aside0.mk hc0_3
 clear hr0_3 hc0_3
 have HB := Aside0.mk (Below.refl w.heap.size w)
 have H : (if a0_0 ≥ 1 then (if a0_0 ≤ 2 then (if a0_1 ≥ 0 then (if a0_1 ≤ 12 then ((vhead_book.f k l0_2 45).bind fun t138 => (if t138 = true then ((vhead_book.f k l0_3 16).bind fun t139 => (if t139 = true then (if 15 < (l0_3.length : Int) then (some (decide ((rd l0_3 15) > 0))) else (none)) else (some false))) else (some false))) else (some false)) else (some false)) else (some false)) else (some false)) = some r := h
 clear h
 by_cases c2 : a0_0 ≥ 1
 {
 rw [if_pos c2] at H
 have c2b0 : decide (1 ≤ a0_0) = true := decide_eq_true c2
 clear c2
 by_cases c3 : a0_0 ≤ 2
 {
 rw [if_pos c3] at H
 have c3b0 : decide (a0_0 ≤ 2) = true := decide_eq_true c3
 clear c3
 by_cases c4 : a0_1 ≥ 0
 {
 rw [if_pos c4] at H
 have c4b0 : decide (0 ≤ a0_1) = true := decide_eq_true c4
 clear c4
 by_cases c5 : a0_1 ≤ 12
 {
 rw [if_pos c5] at H
 have c5b0 : decide (a0_1 ≤ 12) = true := decide_eq_true c5
 clear c5
 obtain ⟨t138, A6, H⟩ := ob_ H
 (try dsimp only at H)
 by_cases c7 : t138 = true
 {
 subst c7
 rw [if_pos rfl] at H
 obtain ⟨t139, A8, H⟩ := ob_ H
 (try dsimp only at H)
 by_cases c9 : t139 = true
 {
 subst c9
 rw [if_pos rfl] at H
 by_cases c10 : 15 < (l0_3.length : Int)
 {
 rw [if_pos c10] at H
 have c10b0 : decide (15 < (l0_3.length : Int)) = true := decide_eq_true c10
 have c10b1 : decide (15 < l0_3.length) = true := decide_eq_true (by omega)
 clear c10
 obtain rfl := Option.some.inj H
 go_enter Try.func41, Try.ntmps41
 go_wp2_with (first | ((with_reducible refine gate_dst (N := 1) rfl ?_); refine bx_ HB 1 #[.int .i64 a0_0, .int .i64 a0_1, .slice A0_2 l0_2.length c0_2, .slice A0_3 l0_3.length c0_3] 24 ?_; clear HB; intro gb137 hg w11 hb BK137 GE137 HB; have GW137 := GE137; clear hb hg; obtain ⟨hcz12_0, hcz12_1, hcz12_2, hcz12_3, hfz12_0, hfz12_1, hfz12_2, hfz12_3⟩ := e4_ BK137) | (go_at_call 79; (with_reducible refine (vhead_book.calls k _ _ l0_2 45 true _ ?side1 ?side2 A6.out).mono ?_); (case side1 => exact kC_ HR0_2 HB); (case side2 => exact HC0_2.out); rintro e w' ⟨rfl, ⟨nd, rfl⟩⟩) | (go_at_call 79; (with_reducible refine (vhead_book.calls k _ _ l0_3 16 true _ ?side1 ?side2 A8.out).mono ?_); (case side1 => repeat (first | exact (Kd.C_below HR0_3.out (bl_ HB)) | (with_reducible refine Kd.C_alloc ?_ _) | (with_reducible refine Kd.C_drewN ?_ _) | (with_reducible refine Kd.C_drew ?_))); (case side2 => exact HC0_3.out); rintro e w' ⟨rfl, ⟨nd, rfl⟩⟩; have p140 : 0 ≤ (15 : Int) := (by omega); have q140 : 15 < (l0_3.length : Int) := of_decide_eq_true am_; obtain ⟨ad140, e140, hx140_0⟩ := Kd.at_int HR0_3.out 15 p140 q140; cases e140; (try simp only [show (15 : Int).toNat = 15 from rfl, Nat.reduceMul, Nat.reduceEqDiff, Go.Addr.add, ↓reduceIte] at hx140_0); have qi140 : (15 < l0_3.length) = True := eq_true (by omega); (try rw [show ((15 : Int)).toNat = 15 from rfl] at hx140_0); replace hx140_0 := (HB.out.cell (World.block_lt_of_cell? w _ hx140_0)).trans hx140_0; replace p140 := eq_true p140; replace q140 := eq_true q140))
 go_ret
 exact ⟨by first | rfl | (simp [errW_none, errW_some] <;> rfl) | (simp [*, errW_none, errW_some] <;> rfl), bl_ HB⟩}
 {
 rw [if_neg c10] at H
 exact absurd H (by simp)}}
 {
 replace c9 := Bool.eq_false_iff.mpr c9
 subst c9
 rw [if_neg (show ¬ (false = true) by decide)] at H
 obtain rfl := Option.some.inj H
 go_enter Try.func41, Try.ntmps41
 go_wp2_with (first | ((with_reducible refine gate_dst (N := 1) rfl ?_); refine bx_ HB 1 #[.int .i64 a0_0, .int .i64 a0_1, .slice A0_2 l0_2.length c0_2, .slice A0_3 l0_3.length c0_3] 24 ?_; clear HB; intro gb137 hg w13 hb BK137 GE137 HB; have GW137 := GE137; clear hb hg; obtain ⟨hcz14_0, hcz14_1, hcz14_2, hcz14_3, hfz14_0, hfz14_1, hfz14_2, hfz14_3⟩ := e4_ BK137) | (go_at_call 79; (with_reducible refine (vhead_book.calls k _ _ l0_2 45 true _ ?side1 ?side2 A6.out).mono ?_); (case side1 => exact kC_ HR0_2 HB); (case side2 => exact HC0_2.out); rintro e w' ⟨rfl, ⟨nd, rfl⟩⟩) | (go_at_call 79; (with_reducible refine (vhead_book.calls k _ _ l0_3 16 false _ ?side1 ?side2 A8.out).mono ?_); (case side1 => repeat (first | exact (Kd.C_below HR0_3.out (bl_ HB)) | (with_reducible refine Kd.C_alloc ?_ _) | (with_reducible refine Kd.C_drewN ?_ _) | (with_reducible refine Kd.C_drew ?_))); (case side2 => exact HC0_3.out); rintro e w' ⟨rfl, ⟨nd, rfl⟩⟩))
 go_ret
 exact ⟨by first | rfl | (simp [errW_none, errW_some] <;> rfl) | (simp [*, errW_none, errW_some] <;> rfl), bl_ HB⟩}}
 {
 replace c7 := Bool.eq_false_iff.mpr c7
 subst c7
 rw [if_neg (show ¬ (false = true) by decide)] at H
 obtain rfl := Option.some.inj H
 go_enter Try.func41, Try.ntmps41
 go_wp2_with (first | ((with_reducible refine gate_dst (N := 1) rfl ?_); refine bx_ HB 1 #[.int .i64 a0_0, .int .i64 a0_1, .slice A0_2 l0_2.length c0_2, .slice A0_3 l0_3.length c0_3] 24 ?_; clear HB; intro gb137 hg w15 hb BK137 GE137 HB; have GW137 := GE137; clear hb hg; obtain ⟨hcz16_0, hcz16_1, hcz16_2, hcz16_3, hfz16_0, hfz16_1, hfz16_2, hfz16_3⟩ := e4_ BK137) | (go_at_call 79; (with_reducible refine (vhead_book.calls k _ _ l0_2 45 false _ ?side1 ?side2 A6.out).mono ?_); (case side1 => exact kC_ HR0_2 HB); (case side2 => exact HC0_2.out); rintro e w' ⟨rfl, ⟨nd, rfl⟩⟩))
 go_ret
 exact ⟨by first | rfl | (simp [errW_none, errW_some] <;> rfl) | (simp [*, errW_none, errW_some] <;> rfl), bl_ HB⟩}}
 {
 rw [if_neg c5] at H
 have c5b0 : decide (a0_1 ≤ 12) = false := decide_eq_false c5
 clear c5
 obtain rfl := Option.some.inj H
 go_enter Try.func41, Try.ntmps41
 go_wp2_with (first | ((with_reducible refine gate_dst (N := 1) rfl ?_); refine bx_ HB 1 #[.int .i64 a0_0, .int .i64 a0_1, .slice A0_2 l0_2.length c0_2, .slice A0_3 l0_3.length c0_3] 24 ?_; clear HB; intro gb137 hg w17 hb BK137 GE137 HB; have GW137 := GE137; clear hb hg; obtain ⟨hcz18_0, hcz18_1, hcz18_2, hcz18_3, hfz18_0, hfz18_1, hfz18_2, hfz18_3⟩ := e4_ BK137))
 go_ret
 exact ⟨by first | rfl | (simp [errW_none, errW_some] <;> rfl) | (simp [*, errW_none, errW_some] <;> rfl), bl_ HB⟩}}
 {
 rw [if_neg c4] at H
 have c4b0 : decide (0 ≤ a0_1) = false := decide_eq_false c4
 clear c4
 obtain rfl := Option.some.inj H
 go_enter Try.func41, Try.ntmps41
 go_wp2_with (first | ((with_reducible refine gate_dst (N := 1) rfl ?_); refine bx_ HB 1 #[.int .i64 a0_0, .int .i64 a0_1, .slice A0_2 l0_2.length c0_2, .slice A0_3 l0_3.length c0_3] 24 ?_; clear HB; intro gb137 hg w19 hb BK137 GE137 HB; have GW137 := GE137; clear hb hg; obtain ⟨hcz20_0, hcz20_1, hcz20_2, hcz20_3, hfz20_0, hfz20_1, hfz20_2, hfz20_3⟩ := e4_ BK137))
 go_ret
 exact ⟨by first | rfl | (simp [errW_none, errW_some] <;> rfl) | (simp [*, errW_none, errW_some] <;> rfl), bl_ HB⟩}}
 {
 rw [if_neg c3] at H
 have c3b0 : decide (a0_0 ≤ 2) = false := decide_eq_false c3
 clear c3
 obtain rfl := Option.some.inj H
 go_enter Try.func41, Try.ntmps41
 go_wp2_with (first | ((with_reducible refine gate_dst (N := 1) rfl ?_); refine bx_ HB 1 #[.int .i64 a0_0, .int .i64 a0_1, .slice A0_2 l0_2.length c0_2, .slice A0_3 l0_3.length c0_3] 24 ?_; clear HB; intro gb137 hg w21 hb BK137 GE137 HB; have GW137 := GE137; clear hb hg; obtain ⟨hcz22_0, hcz22_1, hcz22_2, hcz22_3, hfz22_0, hfz22_1, hfz22_2, hfz22_3⟩ := e4_ BK137))
 go_ret
 exact ⟨by first | rfl | (simp [errW_none, errW_some] <;> rfl) | (simp [*, errW_none, errW_some] <;> rfl), bl_ HB⟩}}
 {
 rw [if_neg c2] at H
 have c2b0 : decide (1 ≤ a0_0) = false := decide_eq_false c2
 clear c2
 obtain rfl := Option.some.inj H
 go_enter Try.func41, Try.ntmps41
 go_wp2_with (first | ((with_reducible refine gate_dst (N := 1) rfl ?_); refine bx_ HB 1 #[.int .i64 a0_0, .int .i64 a0_1, .slice A0_2 l0_2.length c0_2, .slice A0_3 l0_3.length c0_3] 24 ?_; clear HB; intro gb137 hg w23 hb BK137 GE137 HB; have GW137 := GE137; clear hb hg; obtain ⟨hcz24_0, hcz24_1, hcz24_2, hcz24_3, hfz24_0, hfz24_1, hfz24_2, hfz24_3⟩ := e4_ BK137))
 go_ret
 exact ⟨by first | rfl | (simp [errW_none, errW_some] <;> rfl) | (simp [*, errW_none, errW_some] <;> rfl), bl_ HB⟩}
def floor_gains.l0 : Nat → List Int → Int → List Int → Int → Int → Option (Bool)
  | 0, _, _, _, _, _ => none
  | k + 1, x0, x1, x7, x8, x9 => if x9 < x8 then (if 0 ≤ x9 then (if x9 < (x7.length : Int) then (if (rd x7 x9) < 0 then (some false) else (if (rd x7 x9) > 44 then (some false) else (floor_gains.l0 k x0 x1 x7 x8 (wrap64 (x9 + 1))))) else (none)) else (none)) else (some ((x0.length : Int) == x1))
def floor_gains.f (k : Nat) (l0 : List Int) (a1 : Int) : Option (Bool) := floor_gains.l0 k l0 a1 l0 (l0.length : Int) 0
theorem floor_gains.mono_l : ∀ k, (∀ y0 y1 y2 y3 y4, LeO (floor_gains.l0 k y0 y1 y2 y3 y4) (floor_gains.l0 (k + 1) y0 y1 y2 y3 y4))
  | 0 => fun _ _ _ _ _ r h => by simp [floor_gains.l0] at h
  | k + 1 => by
    have ih0 := floor_gains.mono_l k
    · intro y0 y1 y2 y3 y4
      unfold floor_gains.l0
      with_reducible repeat' first
   | exact ih0 _ _ _ _ _
   | exact LeO.refl _
   | exact LeO.none _
   | refine LeO.ite ?_ ?_
   | refine LeO.bind ?_ (fun _ => ?_)
theorem floor_gains.mono : ∀ a0 a1 k, LeO (floor_gains.f k a0 a1) (floor_gains.f (k + 1) a0 a1) := by
  intro a0 a1 k
  have ih0 := floor_gains.mono_l k
  unfold floor_gains.f
  with_reducible repeat' first
   | exact ih0 _ _ _ _ _
   | exact LeO.refl _
   | exact LeO.none _
   | refine LeO.ite ?_ ?_
   | refine LeO.bind ?_ (fun _ => ?_)
set_option maxHeartbeats 8000000 in
set_option maxRecDepth 100000 in
theorem floor_gains.calls (k : Nat) (A0 : Option Addr) (c0 : Nat) (l0 : List Int) (a1 : Int) (r : Bool) (w : World) (hr0 : Kd.C (Kd.int .i64) w A0 l0.length l0) (hc0 : l0.length ≤ c0) (h : floor_gains.f k l0 a1 = some r) :
    Calls Try.prog 98 #[.slice A0 l0.length c0, .int .i64 a1] w fun e w' => e = .returned (.bool r) ∧ Drawn0 w w' := by
 have HR0 := Aside0.mk hr0
 have HC0 := Aside0.mk hc0
 clear hr0 hc0
 have H : (floor_gains.l0 k l0 a1 l0 (l0.length : Int) 0) = some r := h
 clear h
 have H' := Aside0.mk H
 clear H
 go_enter Try.func98, Try.ntmps98
 go_wp2
 go_loopg [9] k (fun kq v9 w' => ∃ (x9_1 : Int), v9 = .int .i64 x9_1 ∧ Aside0 (floor_gains.l0 kq l0 a1 l0 (l0.length : Int) x9_1 = some r) ∧ Aside0 (kq ≤ k) ∧ Drawn0 w w')
 case atStart => exact ⟨(0), rs_, H', ⟨Nat.le_refl _⟩, by repeat (first | exact Drawn0.refl _ | apply Drawn0.step)⟩
 case round => (
 clear H'
 obtain ⟨x9_1, rfl, HA, HK1, ⟨m1, rfl⟩⟩ := hrel
 cases gk with
 | zero => exact absurd HA.out (by simp [floor_gains.l0])
 | succ k1 => (
 have H := HA.out
 clear HA
 simp only [floor_gains.l0] at H
 by_cases c3 : x9_1 < (l0.length : Int)
 {
 rw [if_pos c3] at H
 have c3b0 : decide (x9_1 < (l0.length : Int)) = true := decide_eq_true c3
 clear c3
 by_cases c4 : 0 ≤ x9_1
 {
 rw [if_pos c4] at H
 have c4b0 : decide (0 ≤ x9_1) = true := decide_eq_true c4
 clear c4
 by_cases c5 : x9_1 < (l0.length : Int)
 {
 rw [if_pos c5] at H
 have c5b0 : decide (x9_1 < (l0.length : Int)) = true := decide_eq_true c5
 clear c5
 by_cases c6 : (rd l0 x9_1) < 0
 {
 rw [if_pos c6] at H
 have c6b0 : decide ((rd l0 x9_1) < 0) = true := decide_eq_true c6
 clear c6
 obtain rfl := Option.some.inj H
 have p141 : 0 ≤ (x9_1 : Int) := of_decide_eq_true am_
 have q141 : x9_1 < (l0.length : Int) := of_decide_eq_true am_
 obtain ⟨ad141, e141, hx141_0⟩ := Kd.at_int HR0.out x9_1 p141 q141
 cases e141
 replace p141 := eq_true p141
 replace q141 := eq_true q141
 go_wp2
 go_ret
 exact ⟨by first | rfl | (simp; done) | (simp [*]; done), by repeat (first | exact Drawn0.refl _ | apply Drawn0.step)⟩}
 {
 rw [if_neg c6] at H
 have c6b0 : decide ((rd l0 x9_1) < 0) = false := decide_eq_false c6
 clear c6
 by_cases c7 : (rd l0 x9_1) > 44
 {
 rw [if_pos c7] at H
 have c7b0 : decide (44 < (rd l0 x9_1)) = true := decide_eq_true c7
 clear c7
 obtain rfl := Option.some.inj H
 have p141 : 0 ≤ (x9_1 : Int) := of_decide_eq_true am_
 have q141 : x9_1 < (l0.length : Int) := of_decide_eq_true am_
 obtain ⟨ad141, e141, hx141_0⟩ := Kd.at_int HR0.out x9_1 p141 q141
 cases e141
 replace p141 := eq_true p141
 replace q141 := eq_true q141
 go_wp2
 go_ret
 exact ⟨by first | rfl | (simp; done) | (simp [*]; done), by repeat (first | exact Drawn0.refl _ | apply Drawn0.step)⟩}
 {
 rw [if_neg c7] at H
 have c7b0 : decide (44 < (rd l0 x9_1)) = false := decide_eq_false c7
 clear c7
 have H' := Aside0.mk H
 clear H
 have p141 : 0 ≤ (x9_1 : Int) := of_decide_eq_true am_
 have q141 : x9_1 < (l0.length : Int) := of_decide_eq_true am_
 obtain ⟨ad141, e141, hx141_0⟩ := Kd.at_int HR0.out x9_1 p141 q141
 cases e141
 replace p141 := eq_true p141
 replace q141 := eq_true q141
 go_wp2
 go_roundg k1
 case measure => have := HK1.out; omega
 case rel => exact ⟨(wrap64 (x9_1 + 1)), rs_, H', ⟨by have := HK1.out; omega⟩, by repeat (first | exact Drawn0.refl _ | apply Drawn0.step)⟩}}}
 {
 rw [if_neg c5] at H
 exact absurd H (by simp)}}
 {
 rw [if_neg c4] at H
 exact absurd H (by simp)}}
 {
 rw [if_neg c3] at H
 have c3b0 : decide (x9_1 < (l0.length : Int)) = false := decide_eq_false c3
 clear c3
 obtain rfl := Option.some.inj H
 go_wp2
 go_ret
 exact ⟨by first | rfl | (simp; done) | (simp [*]; done), by repeat (first | exact Drawn0.refl _ | apply Drawn0.step)⟩}))
def floor_Right.f (k : Nat) (l0 : List Int) : Option (Bool) := (floor_gains.f k l0 6).bind fun t142 => (some t142)
theorem floor_Right.mono : ∀ a0 k, LeO (floor_Right.f k a0) (floor_Right.f (k + 1) a0) := by
  intro a0 k
  unfold floor_Right.f
  with_reducible repeat' first
   | exact floor_gains.mono _ _ _
   | exact LeO.refl _
   | exact LeO.none _
   | refine LeO.ite ?_ ?_
   | refine LeO.bind ?_ (fun _ => ?_)
set_option maxHeartbeats 8000000 in
set_option maxRecDepth 100000 in
theorem floor_Right.calls (k : Nat) (A0 : Option Addr) (c0 : Nat) (l0 : List Int) (r : Bool) (w : World) (hr0 : Kd.C (Kd.int .i64) w A0 l0.length l0) (hc0 : l0.length ≤ c0) (h : floor_Right.f k l0 = some r) :
    Calls Try.prog 86 #[.slice A0 l0.length c0] w fun e w' => e = .returned (.bool r) ∧ Drawn0 w w' := by
 have HR0 := Aside0.mk hr0
 have HC0 := Aside0.mk hc0
 clear hr0 hc0
 have H : ((floor_gains.f k l0 6).bind fun t142 => (some t142)) = some r := h
 clear h
 replace H := Option.bind_eq_some_iff.mp H
 obtain ⟨t142, A20, H⟩ := H
 replace H : (some t142) = some r := H
 have A2 := Aside0.mk A20
 clear A20
 obtain rfl := Option.some.inj H
 go_enter Try.func86, Try.ntmps86
 go_wp2_with (first | ((with_reducible refine gate_callee (f := 98) rfl ?_); refine gL_ (some 4) Try.func98 #[.slice A0 l0.length c0, .int .i64 6] ?_; (with_reducible refine (floor_gains.calls k _ _ l0 6 t142 _ ?side1 ?side2 A2.out).mono ?_); (case side1 => repeat (first | exact HR0.out | (with_reducible refine Kd.C_alloc ?_ _) | (with_reducible refine Kd.C_drewN ?_ _) | (with_reducible refine Kd.C_drew ?_))); (case side2 => exact HC0.out); rintro e w' ⟨rfl, ⟨nd, rfl⟩⟩; refine ⟨_, rfl, ?_⟩))
 go_ret
 exact ⟨by first | rfl | (simp; done) | (simp [*]; done), by repeat (first | exact Drawn0.refl _ | apply Drawn0.step)⟩
def vpack_posts.l0 : Nat → List Int → Int → Int → Int → Int → List Int → List Int → Option (Bool)
  | 0, _, _, _, _, _, _, _ => none
  | k + 1, x10, x11, x12, x144000, x144001, x144002, x144003 => if x12 < x11 then (if 0 ≤ x12 then (if x12 < (x10.length : Int) then (if 0 ≤ (rd x10 x12) then (if (rd x10 x12) < (x144002.length : Int) then (if (rd x144002 (rd x10 x12)) = 0 then (some false) else (vpack_posts.l0 k x10 x11 (wrap64 (x12 + 1)) x144000 x144001 x144002 x144003)) else (none)) else (none)) else (none)) else (none)) else (some true)
def vpack_posts.f (k : Nat) (a0_0 : Int) (a0_1 : Int) (l0_2 : List Int) (l0_3 : List Int) (l1 : List Int) : Option (Bool) := (floor_Right.f k l1).bind fun t144 => (if t144 = true then (vpack_posts.l0 k l1 (l1.length : Int) 0 a0_0 a0_1 l0_2 l0_3) else (some false))
theorem vpack_posts.mono_l : ∀ k, (∀ y0 y1 y2 y3 y4 y5 y6, LeO (vpack_posts.l0 k y0 y1 y2 y3 y4 y5 y6) (vpack_posts.l0 (k + 1) y0 y1 y2 y3 y4 y5 y6))
  | 0 => fun _ _ _ _ _ _ _ r h => by simp [vpack_posts.l0] at h
  | k + 1 => by
    have ih0 := vpack_posts.mono_l k
    · intro y0 y1 y2 y3 y4 y5 y6
      unfold vpack_posts.l0
      with_reducible repeat' first
   | exact ih0 _ _ _ _ _ _ _
   | exact floor_Right.mono _ _
   | exact LeO.refl _
   | exact LeO.none _
   | refine LeO.ite ?_ ?_
   | refine LeO.bind ?_ (fun _ => ?_)
theorem vpack_posts.mono : ∀ a0 a1 a2 a3 a4 k, LeO (vpack_posts.f k a0 a1 a2 a3 a4) (vpack_posts.f (k + 1) a0 a1 a2 a3 a4) := by
  intro a0 a1 a2 a3 a4 k
  have ih0 := vpack_posts.mono_l k
  unfold vpack_posts.f
  with_reducible repeat' first
   | exact ih0 _ _ _ _ _ _ _
   | exact floor_Right.mono _ _
   | exact LeO.refl _
   | exact LeO.none _
   | refine LeO.ite ?_ ?_
   | refine LeO.bind ?_ (fun _ => ?_)
set_option maxHeartbeats 8000000 in
set_option maxRecDepth 100000 in
theorem vpack_posts.calls (k : Nat) (a0_0 : Int) (a0_1 : Int) (A0_2 : Option Addr) (c0_2 : Nat) (l0_2 : List Int) (A0_3 : Option Addr) (c0_3 : Nat) (l0_3 : List Int) (A1 : Option Addr) (c1 : Nat) (l1 : List Int) (r : Bool) (w : World) (hr0_2 : Kd.C (Kd.int .i64) w A0_2 l0_2.length l0_2) (hc0_2 : l0_2.length ≤ c0_2) (hr0_3 : Kd.C (Kd.int .i64) w A0_3 l0_3.length l0_3) (hc0_3 : l0_3.length ≤ c0_3) (hr1 : Kd.C (Kd.int .i64) w A1 l1.length l1) (hc1 : l1.length ≤ c1) (h : vpack_posts.f k a0_0 a0_1 l0_2 l0_3 l1 = some r) :
    Calls Try.prog 51 #[.agg #[.int .i64 a0_0, .int .i64 a0_1, .slice A0_2 l0_2.length c0_2, .slice A0_3 l0_3.length c0_3], .slice A1 l1.length c1] w fun e w' => e = .returned (.bool r) ∧ Below w.heap.size w w' := by
 have hu24 := Try.underlying24
 have HR0_2 := Aside0.mk hr0_2
 have HC0_2 := Aside0.mk hc0_2
 clear hr0_2 hc0_2
 have HR0_3 := Aside0.mk hr0_3
 have HC0_3 := Aside0.mk hc0_3
 clear hr0_3 hc0_3
 have HR1 := Aside0.mk hr1
 have HC1 := Aside0.mk hc1
 clear hr1 hc1
 have HB := Aside0.mk (Below.refl w.heap.size w)
 have H : ((floor_Right.f k l1).bind fun t144 => (if t144 = true then (vpack_posts.l0 k l1 (l1.length : Int) 0 a0_0 a0_1 l0_2 l0_3) else (some false))) = some r := h
 clear h
 obtain ⟨t144, A3, H⟩ := ob_ H
 (try dsimp only at H)
 by_cases c4 : t144 = true
 {
 subst c4
 rw [if_pos rfl] at H
 have H' := Aside0.mk H
 clear H
 go_enter Try.func51, Try.ntmps51
 go_wp2_with (first | ((with_reducible refine gate_dst (N := 2) rfl ?_); refine bx_ HB 2 #[.int .i64 a0_0, .int .i64 a0_1, .slice A0_2 l0_2.length c0_2, .slice A0_3 l0_3.length c0_3] 24 ?_; clear HB; intro gb143 hg w5 hb BK143 GE143 HB; have GW143 := GE143; clear hb hg) | ((with_reducible refine gate_callee (f := 86) rfl ?_); refine gL_ (some 8) Try.func86 #[.slice A1 l1.length c1] ?_; (with_reducible refine (floor_Right.calls k _ _ l1 true _ ?side1 ?side2 A3.out).mono ?_); (case side1 => exact kC_ HR1 HB); (case side2 => exact HC1.out); rintro e w' ⟨rfl, ⟨nd, rfl⟩⟩; refine ⟨_, rfl, ?_⟩))
 go_loopg [12] k (fun kq v12 w' => ∃ (x12_1 : Int), v12 = .int .i64 x12_1 ∧ Aside0 (vpack_posts.l0 kq l1 (l1.length : Int) x12_1 a0_0 a0_1 l0_2 l0_3 = some r) ∧ Aside0 (kq ≤ k) ∧ Aside0 (w'.heap[gb143]? = some (.cells #[.int .i64 a0_0, .int .i64 a0_1, (.slice A0_2 l0_2.length c0_2), (.slice A0_3 l0_3.length c0_3)] 24 (0, 0))) ∧ Aside0 (Below w.heap.size w w'))
 case atStart => exact ⟨(0), rs_, H', ⟨Nat.le_refl _⟩, ⟨bk_ BK143⟩, ⟨bl_ HB⟩⟩
 case round => (
 clear H'
 try clear c1
 try clear c4
 obtain ⟨x12_1, rfl, HA, HK1, BK143, HB⟩ := hrel
 cases gk with
 | zero => exact absurd HA.out (by simp [vpack_posts.l0])
 | succ k1 => (
 have H := HA.out
 clear HA
 simp only [vpack_posts.l0] at H
 by_cases c6 : x12_1 < (l1.length : Int)
 {
 rw [if_pos c6] at H
 have c6b0 : decide (x12_1 < (l1.length : Int)) = true := decide_eq_true c6
 clear c6
 by_cases c7 : 0 ≤ x12_1
 {
 rw [if_pos c7] at H
 have c7b0 : decide (0 ≤ x12_1) = true := decide_eq_true c7
 clear c7
 by_cases c8 : x12_1 < (l1.length : Int)
 {
 rw [if_pos c8] at H
 have c8b0 : decide (x12_1 < (l1.length : Int)) = true := decide_eq_true c8
 clear c8
 by_cases c9 : 0 ≤ (rd l1 x12_1)
 {
 rw [if_pos c9] at H
 have c9b0 : decide (0 ≤ (rd l1 x12_1)) = true := decide_eq_true c9
 clear c9
 by_cases c10 : (rd l1 x12_1) < (l0_2.length : Int)
 {
 rw [if_pos c10] at H
 have c10b0 : decide ((rd l1 x12_1) < (l0_2.length : Int)) = true := decide_eq_true c10
 clear c10
 by_cases c11 : (rd l0_2 (rd l1 x12_1)) = 0
 {
 rw [if_pos c11] at H
 have c11b0 : ((rd l0_2 (rd l1 x12_1)) == 0) = true := beq_iff_eq.mpr c11
 have c11b1 : ((rd l0_2 (rd l1 x12_1)) != 0) = false := bne_eq_false_iff_eq.mpr c11
 clear c11
 obtain rfl := Option.some.inj H
 have p145 : 0 ≤ (x12_1 : Int) := of_decide_eq_true am_
 have q145 : x12_1 < (l1.length : Int) := of_decide_eq_true am_
 obtain ⟨ad145, e145, hx145_0⟩ := Kd.at_int HR1.out x12_1 p145 q145
 cases e145
 replace hx145_0 := (HB.out.cell (World.block_lt_of_cell? w _ hx145_0)).trans hx145_0
 replace p145 := eq_true p145
 replace q145 := eq_true q145
 obtain ⟨hcz12_0, hcz12_1, hcz12_2, hcz12_3, hfz12_0, hfz12_1, hfz12_2, hfz12_3⟩ := e4_ BK143
 have p146 : 0 ≤ ((rd l1 x12_1) : Int) := of_decide_eq_true am_
 have q146 : (rd l1 x12_1) < (l0_2.length : Int) := of_decide_eq_true am_
 obtain ⟨ad146, e146, hx146_0⟩ := Kd.at_int HR0_2.out (rd l1 x12_1) p146 q146
 cases e146
 replace hx146_0 := (HB.out.cell (World.block_lt_of_cell? w _ hx146_0)).trans hx146_0
 replace p146 := eq_true p146
 replace q146 := eq_true q146
 go_wp2
 go_ret
 exact ⟨by first | rfl | (simp [errW_none, errW_some] <;> rfl) | (simp [*, errW_none, errW_some] <;> rfl), bl_ HB⟩}
 {
 rw [if_neg c11] at H
 have c11b0 : ((rd l0_2 (rd l1 x12_1)) == 0) = false := beq_eq_false_iff_ne.mpr c11
 have c11b1 : ((rd l0_2 (rd l1 x12_1)) != 0) = true := bne_iff_ne.mpr c11
 have H' := Aside0.mk H
 clear H
 have p145 : 0 ≤ (x12_1 : Int) := of_decide_eq_true am_
 have q145 : x12_1 < (l1.length : Int) := of_decide_eq_true am_
 obtain ⟨ad145, e145, hx145_0⟩ := Kd.at_int HR1.out x12_1 p145 q145
 cases e145
 replace hx145_0 := (HB.out.cell (World.block_lt_of_cell? w _ hx145_0)).trans hx145_0
 replace p145 := eq_true p145
 replace q145 := eq_true q145
 obtain ⟨hcz13_0, hcz13_1, hcz13_2, hcz13_3, hfz13_0, hfz13_1, hfz13_2, hfz13_3⟩ := e4_ BK143
 have p146 : 0 ≤ ((rd l1 x12_1) : Int) := of_decide_eq_true am_
 have q146 : (rd l1 x12_1) < (l0_2.length : Int) := of_decide_eq_true am_
 obtain ⟨ad146, e146, hx146_0⟩ := Kd.at_int HR0_2.out (rd l1 x12_1) p146 q146
 cases e146
 replace hx146_0 := (HB.out.cell (World.block_lt_of_cell? w _ hx146_0)).trans hx146_0
 replace p146 := eq_true p146
 replace q146 := eq_true q146
 go_wp2
 go_roundg k1
 case measure => have := HK1.out; omega
 case rel => exact ⟨(wrap64 (x12_1 + 1)), rs_, H', ⟨by have := HK1.out; omega⟩, ⟨bk_ BK143⟩, ⟨bl_ HB⟩⟩}}
 {
 rw [if_neg c10] at H
 exact absurd H (by simp)}}
 {
 rw [if_neg c9] at H
 exact absurd H (by simp)}}
 {
 rw [if_neg c8] at H
 exact absurd H (by simp)}}
 {
 rw [if_neg c7] at H
 exact absurd H (by simp)}}
 {
 rw [if_neg c6] at H
 have c6b0 : decide (x12_1 < (l1.length : Int)) = false := decide_eq_false c6
 clear c6
 obtain rfl := Option.some.inj H
 go_wp2
 go_ret
 exact ⟨by first | rfl | (simp [errW_none, errW_some] <;> rfl) | (simp [*, errW_none, errW_some] <;> rfl), bl_ HB⟩}))}
 {
 replace c4 := Bool.eq_false_iff.mpr c4
 subst c4
 rw [if_neg (show ¬ (false = true) by decide)] at H
 obtain rfl := Option.some.inj H
 go_enter Try.func51, Try.ntmps51
 go_wp2_with (first | ((with_reducible refine gate_dst (N := 2) rfl ?_); refine bx_ HB 2 #[.int .i64 a0_0, .int .i64 a0_1, .slice A0_2 l0_2.length c0_2, .slice A0_3 l0_3.length c0_3] 24 ?_; clear HB; intro gb143 hg w14 hb BK143 GE143 HB; have GW143 := GE143; clear hb hg) | ((with_reducible refine gate_callee (f := 86) rfl ?_); refine gL_ (some 8) Try.func86 #[.slice A1 l1.length c1] ?_; (with_reducible refine (floor_Right.calls k _ _ l1 false _ ?side1 ?side2 A3.out).mono ?_); (case side1 => exact kC_ HR1 HB); (case side2 => exact HC1.out); rintro e w' ⟨rfl, ⟨nd, rfl⟩⟩; refine ⟨_, rfl, ?_⟩))
 go_ret
 exact ⟨by first | rfl | (simp [errW_none, errW_some] <;> rfl) | (simp [*, errW_none, errW_some] <;> rfl), bl_ HB⟩}
mutual
def vpack_Right.j0 : Nat → Bool → Int → Int → List Int → List Int → List (List Int) → List (List Int) → Option (Bool)
  | 0, _, _, _, _, _, _, _ => none
  | k + 1, x27, x148000, x148001, x148002, x148003, x149000, x149001 => if x27 = true then (some false) else (vpack_Right.l0 k x149000 (x149000.length : Int) 0 x148000 x148001 x148002 x148003 x149000 x149001)
def vpack_Right.l0 : Nat → List (List Int) → Int → Int → Int → Int → List Int → List Int → List (List Int) → List (List Int) → Option (Bool)
  | 0, _, _, _, _, _, _, _, _, _ => none
  | k + 1, x29, x30, x31, x148000, x148001, x148002, x148003, x149000, x149001 => if x31 < x30 then (if 0 ≤ x31 then (if x31 < (x29.length : Int) then (if ((rd_L1 x29 x31).length : Int) = 0 then (if x31 < (x149001.length : Int) then (vpack_Right.j2 k x31 (rd_L1 x29 x31) x29 x30 x31 (((rd_L2 x149001 x31).length : Int) == 0) x148000 x148001 x148002 x148003 x149000 x149001) else (none)) else (vpack_Right.j2 k x31 (rd_L1 x29 x31) x29 x30 x31 false x148000 x148001 x148002 x148003 x149000 x149001)) else (none)) else (none)) else (some true)
def vpack_Right.j2 : Nat → Int → List Int → List (List Int) → Int → Int → Bool → Int → Int → List Int → List Int → List (List Int) → List (List Int) → Option (Bool)
  | 0, _, _, _, _, _, _, _, _, _, _, _, _ => none
  | k + 1, x5, x6, x29, x30, x31, x47, x148000, x148001, x148002, x148003, x149000, x149001 => if x47 = true then (vpack_Right.l0 k x29 x30 (wrap64 (x31 + 1)) x148000 x148001 x148002 x148003 x149000 x149001) else ((vpack_posts.f k x148000 x148001 x148002 x148003 x6).bind fun t152 => (if t152 = true then (if 0 ≤ x5 then (if x5 < (x149001.length : Int) then (vpack_Right.j3 k x5 x29 x30 x31 (((rd_L2 x149001 x5).length : Int) != 16) x148000 x148001 x148002 x148003 x149000 x149001) else (none)) else (none)) else (vpack_Right.j3 k x5 x29 x30 x31 true x148000 x148001 x148002 x148003 x149000 x149001)))
def vpack_Right.j3 : Nat → Int → List (List Int) → Int → Int → Bool → Int → Int → List Int → List Int → List (List Int) → List (List Int) → Option (Bool)
  | 0, _, _, _, _, _, _, _, _, _, _, _ => none
  | k + 1, x5, x29, x30, x31, x60, x148000, x148001, x148002, x148003, x149000, x149001 => if x60 = true then (some false) else (if 0 ≤ x5 then (if x5 < (x149001.length : Int) then (vpack_Right.l1 k x29 x30 x31 (rd_L2 x149001 x5) ((rd_L2 x149001 x5).length : Int) 0 x148000 x148001 x148002 x148003 x149000 x149001) else (none)) else (none))
def vpack_Right.l1 : Nat → List (List Int) → Int → Int → List Int → Int → Int → Int → Int → List Int → List Int → List (List Int) → List (List Int) → Option (Bool)
  | 0, _, _, _, _, _, _, _, _, _, _, _, _ => none
  | k + 1, x29, x30, x31, x65, x66, x67, x148000, x148001, x148002, x148003, x149000, x149001 => if x67 < x66 then (if 0 ≤ x67 then (if x67 < (x65.length : Int) then (if (rd x65 x67) < (-4194303) then (some false) else (if (rd x65 x67) > 4194303 then (some false) else (vpack_Right.l1 k x29 x30 x31 x65 x66 (wrap64 (x67 + 1)) x148000 x148001 x148002 x148003 x149000 x149001))) else (none)) else (none)) else (vpack_Right.l0 k x29 x30 (wrap64 (x31 + 1)) x148000 x148001 x148002 x148003 x149000 x149001)
end
def vpack_Right.f (k : Nat) (a0_0 : Int) (a0_1 : Int) (l0_2 : List Int) (l0_3 : List Int) (l1_0 : List (List Int)) (l1_1 : List (List Int)) : Option (Bool) := (vhead_Right.f k a0_0 a0_1 l0_2 l0_3).bind fun t149 => (if t149 = true then (if (l1_0.length : Int) = a0_0 then (vpack_Right.j0 k ((l1_1.length : Int) != a0_0) a0_0 a0_1 l0_2 l0_3 l1_0 l1_1) else (vpack_Right.j0 k true a0_0 a0_1 l0_2 l0_3 l1_0 l1_1)) else (vpack_Right.j0 k true a0_0 a0_1 l0_2 l0_3 l1_0 l1_1))
theorem vpack_Right.mono_l : ∀ k, (∀ y0 y1 y2 y3 y4 y5 y6, LeO (vpack_Right.j0 k y0 y1 y2 y3 y4 y5 y6) (vpack_Right.j0 (k + 1) y0 y1 y2 y3 y4 y5 y6)) ∧ (∀ y0 y1 y2 y3 y4 y5 y6 y7 y8, LeO (vpack_Right.l0 k y0 y1 y2 y3 y4 y5 y6 y7 y8) (vpack_Right.l0 (k + 1) y0 y1 y2 y3 y4 y5 y6 y7 y8)) ∧ (∀ y0 y1 y2 y3 y4 y5 y6 y7 y8 y9 y10 y11, LeO (vpack_Right.j2 k y0 y1 y2 y3 y4 y5 y6 y7 y8 y9 y10 y11) (vpack_Right.j2 (k + 1) y0 y1 y2 y3 y4 y5 y6 y7 y8 y9 y10 y11)) ∧ (∀ y0 y1 y2 y3 y4 y5 y6 y7 y8 y9 y10, LeO (vpack_Right.j3 k y0 y1 y2 y3 y4 y5 y6 y7 y8 y9 y10) (vpack_Right.j3 (k + 1) y0 y1 y2 y3 y4 y5 y6 y7 y8 y9 y10)) ∧ (∀ y0 y1 y2 y3 y4 y5 y6 y7 y8 y9 y10 y11, LeO (vpack_Right.l1 k y0 y1 y2 y3 y4 y5 y6 y7 y8 y9 y10 y11) (vpack_Right.l1 (k + 1) y0 y1 y2 y3 y4 y5 y6 y7 y8 y9 y10 y11))
  | 0 => ⟨fun _ _ _ _ _ _ _ r h => by simp [vpack_Right.j0] at h, fun _ _ _ _ _ _ _ _ _ r h => by simp [vpack_Right.l0] at h, fun _ _ _ _ _ _ _ _ _ _ _ _ r h => by simp [vpack_Right.j2] at h, fun _ _ _ _ _ _ _ _ _ _ _ r h => by simp [vpack_Right.j3] at h, fun _ _ _ _ _ _ _ _ _ _ _ _ r h => by simp [vpack_Right.l1] at h⟩
  | k + 1 => by
    obtain ⟨ih0, ih1, ih2, ih3, ih4⟩ := vpack_Right.mono_l k
    refine ⟨?_, ?_, ?_, ?_, ?_⟩
    all_goals (intros; first | unfold vpack_Right.j0 | unfold vpack_Right.l0 | unfold vpack_Right.j2 | unfold vpack_Right.j3 | unfold vpack_Right.l1)
    all_goals with_reducible repeat' first
     | exact ih0 _ _ _ _ _ _ _
     | exact ih1 _ _ _ _ _ _ _ _ _
     | exact ih2 _ _ _ _ _ _ _ _ _ _ _ _
     | exact ih3 _ _ _ _ _ _ _ _ _ _ _
     | exact ih4 _ _ _ _ _ _ _ _ _ _ _ _
     | exact vhead_Right.mono _ _ _ _ _
     | exact vpack_posts.mono _ _ _ _ _ _
     | exact LeO.refl _
     | exact LeO.none _
     | refine LeO.ite ?_ ?_
     | refine LeO.bind ?_ (fun _ => ?_)
theorem vpack_Right.mono : ∀ a0 a1 a2 a3 a4 a5 k, LeO (vpack_Right.f k a0 a1 a2 a3 a4 a5) (vpack_Right.f (k + 1) a0 a1 a2 a3 a4 a5) := by
  intro a0 a1 a2 a3 a4 a5 k
  obtain ⟨ih0, ih1, ih2, ih3, ih4⟩ := vpack_Right.mono_l k
  unfold vpack_Right.f
  with_reducible repeat' first
   | exact ih0 _ _ _ _ _ _ _
   | exact ih1 _ _ _ _ _ _ _ _ _
   | exact ih2 _ _ _ _ _ _ _ _ _ _ _ _
   | exact ih3 _ _ _ _ _ _ _ _ _ _ _
   | exact ih4 _ _ _ _ _ _ _ _ _ _ _ _
   | exact vhead_Right.mono _ _ _ _ _
   | exact vpack_posts.mono _ _ _ _ _ _
   | exact LeO.refl _
   | exact LeO.none _
   | refine LeO.ite ?_ ?_
   | refine LeO.bind ?_ (fun _ => ?_)
set_option maxHeartbeats 8000000 in
set_option maxRecDepth 100000 in
theorem vpack_Right.calls (k : Nat) (a0_0 : Int) (a0_1 : Int) (A0_2 : Option Addr) (c0_2 : Nat) (l0_2 : List Int) (A0_3 : Option Addr) (c0_3 : Nat) (l0_3 : List Int) (A1_0 : Option Addr) (c1_0 : Nat) (l1_0 : List (List Int)) (A1_1 : Option Addr) (c1_1 : Nat) (l1_1 : List (List Int)) (r : Bool) (w : World) (hr0_2 : Kd.C (Kd.int .i64) w A0_2 l0_2.length l0_2) (hc0_2 : l0_2.length ≤ c0_2) (hr0_3 : Kd.C (Kd.int .i64) w A0_3 l0_3.length l0_3) (hc0_3 : l0_3.length ≤ c0_3) (hr1_0 : Kd.C (Kd.slice 3 (Kd.int .i64)) w A1_0 l1_0.length l1_0) (hc1_0 : l1_0.length ≤ c1_0) (hr1_1 : Kd.C (Kd.slice 2 (Kd.int .i64)) w A1_1 l1_1.length l1_1) (hc1_1 : l1_1.length ≤ c1_1) (h : vpack_Right.f k a0_0 a0_1 l0_2 l0_3 l1_0 l1_1 = some r) :
    Calls Try.prog 21 #[.agg #[.int .i64 a0_0, .int .i64 a0_1, .slice A0_2 l0_2.length c0_2, .slice A0_3 l0_3.length c0_3], .agg #[.slice A1_0 l1_0.length c1_0, .slice A1_1 l1_1.length c1_1]] w fun e w' => e = .returned (.bool r) ∧ Below w.heap.size w w' := by
 have hu24 := Try.underlying24
 have hu28 := Try.underlying28
 have HR0_2 := Aside0.mk hr0_2
 have HC0_2 := Aside0.mk hc0_2
 clear hr0_2 hc0_2
 have HR0_3 := Aside0.mk hr0_3
 have HC0_3 := Aside0.mk hc0_3
 clear hr0_3 hc0_3
 have HR1_0 := Aside0.mk hr1_0
 have HC1_0 := Aside0.mk hc1_0
 clear hr1_0 hc1_0
 have HR1_1 := Aside0.mk hr1_1
 have HC1_1 := Aside0.mk hc1_1
 clear hr1_1 hc1_1
 have HB := Aside0.mk (Below.refl w.heap.size w)
 have H : ((vhead_Right.f k a0_0 a0_1 l0_2 l0_3).bind fun t149 => (if t149 = true then (if (l1_0.length : Int) = a0_0 then (vpack_Right.j0 k ((l1_1.length : Int) != a0_0) a0_0 a0_1 l0_2 l0_3 l1_0 l1_1) else (vpack_Right.j0 k true a0_0 a0_1 l0_2 l0_3 l1_0 l1_1)) else (vpack_Right.j0 k true a0_0 a0_1 l0_2 l0_3 l1_0 l1_1))) = some r := h
 clear h
 have HC3 := Aside0.mk H
 clear H
 go_enter Try.func21, Try.ntmps21
 go_upto_region 1 with (first | ((with_reducible refine gate_dst (N := 2) rfl ?_); (try (refine gate_guard (by rfl) ?_; dsimp only)); refine bx_ HB 2 #[.int .i64 a0_0, .int .i64 a0_1, .slice A0_2 l0_2.length c0_2, .slice A0_3 l0_3.length c0_3] 24 ?_; clear HB; intro gb147 hg w4 hb BK147 GE147 HB; have GW147 := GE147; clear hb hg) | ((with_reducible refine gate_dst (N := 3) rfl ?_); (try (refine gate_guard (by rfl) ?_; dsimp only)); refine bx_ HB 3 #[.slice A1_0 l1_0.length c1_0, .slice A1_1 l1_1.length c1_1] 28 ?_; clear HB; intro gb148 hg w5 hb BK148 GE148 HB; have GW148 := GE148; obtain ⟨NB147_148, NB148_147⟩ := NN_ BK147 hg; replace BK147 := FB_ BK147 hb; clear hb hg))
 (try simp only [Act.put, List.setIfInBounds_toArray, List.set_cons_zero, List.set_cons_succ])
 go_cut [27] (fun v27 wc => ∃ (kq : Nat) (x27_2 : Bool), v27 = .bool x27_2 ∧ Aside0 (vpack_Right.j0 kq x27_2 a0_0 a0_1 l0_2 l0_3 l1_0 l1_1 = some r) ∧ Aside0 (kq ≤ k) ∧ Aside0 (wc.heap[gb147]? = some (.cells #[.int .i64 a0_0, .int .i64 a0_1, (.slice A0_2 l0_2.length c0_2), (.slice A0_3 l0_3.length c0_3)] 24 (0, 0))) ∧ Aside0 (wc.heap[gb148]? = some (.cells #[(.slice A1_0 l1_0.length c1_0), (.slice A1_1 l1_1.length c1_1)] 28 (0, 0))) ∧ Aside0 (Below w.heap.size w wc))
 case first => (
 have H := HC3.out
 clear HC3
 obtain ⟨t149, A6, H⟩ := ob_ H
 (try dsimp only at H)
 by_cases c7 : t149 = true
 {
 subst c7
 rw [if_pos rfl] at H
 by_cases c8 : (l1_0.length : Int) = a0_0
 {
 rw [if_pos c8] at H
 have c8b0 : ((l1_0.length : Int) == a0_0) = true := beq_iff_eq.mpr c8
 have c8b1 : ((l1_0.length : Int) != a0_0) = false := bne_eq_false_iff_eq.mpr c8
 clear c8
 (first | rw [c8b0] | (simp only [i64_w, i32_w]; rw [c8b0]) | skip)
 have H' := Aside0.mk H
 clear H
 have hnb9 := NB147_148.out
 have hnc9 := NB148_147.out
 obtain ⟨hcz10_0, hcz10_1, hcz10_2, hcz10_3, hfz10_0, hfz10_1, hfz10_2, hfz10_3⟩ := e4_ BK147
 go_wp2_with (first | ((with_reducible refine gate_callee (f := 41) rfl ?_); refine gL_ (some 10) Try.func41 #[.agg #[.int .i64 a0_0, .int .i64 a0_1, .slice A0_2 l0_2.length c0_2, .slice A0_3 l0_3.length c0_3]] ?_; (with_reducible refine (vhead_Right.calls k a0_0 a0_1 _ _ l0_2 _ _ l0_3 true _ ?side1 ?side2 ?side3 ?side4 A6.out).mono ?_); (case side1 => exact kC_ HR0_2 HB); (case side2 => exact HC0_2.out); (case side3 => exact kC_ HR0_3 HB); (case side4 => exact HC0_3.out); rintro e w11 ⟨rfl, hb⟩; refine ⟨_, rfl, ?_⟩; replace BK147 := FB_ BK147 hb; replace BK148 := FB_ BK148 hb; replace HB := BS_ HB hb; (try clear hb); obtain ⟨hcz12_0, hcz12_1, hfz12_0, hfz12_1⟩ := e2_ BK148; obtain ⟨hcz13_0, hcz13_1, hcz13_2, hcz13_3, hfz13_0, hfz13_1, hfz13_2, hfz13_3⟩ := e4_ BK147))
 go_meet
 case rel => exact ⟨_, (((l1_1.length : Int) != a0_0)), rs_, H', ⟨ol_⟩, ⟨bk_ BK147⟩, ⟨bk_ BK148⟩, ⟨bl_ HB⟩⟩}
 {
 rw [if_neg c8] at H
 have c8b0 : ((l1_0.length : Int) == a0_0) = false := beq_eq_false_iff_ne.mpr c8
 have c8b1 : ((l1_0.length : Int) != a0_0) = true := bne_iff_ne.mpr c8
 (first | rw [c8b0] | (simp only [i64_w, i32_w]; rw [c8b0]) | skip)
 have H' := Aside0.mk H
 clear H
 have hnb14 := NB147_148.out
 have hnc14 := NB148_147.out
 obtain ⟨hcz15_0, hcz15_1, hcz15_2, hcz15_3, hfz15_0, hfz15_1, hfz15_2, hfz15_3⟩ := e4_ BK147
 go_wp2_with (first | ((with_reducible refine gate_callee (f := 41) rfl ?_); refine gL_ (some 10) Try.func41 #[.agg #[.int .i64 a0_0, .int .i64 a0_1, .slice A0_2 l0_2.length c0_2, .slice A0_3 l0_3.length c0_3]] ?_; (with_reducible refine (vhead_Right.calls k a0_0 a0_1 _ _ l0_2 _ _ l0_3 true _ ?side1 ?side2 ?side3 ?side4 A6.out).mono ?_); (case side1 => exact kC_ HR0_2 HB); (case side2 => exact HC0_2.out); (case side3 => exact kC_ HR0_3 HB); (case side4 => exact HC0_3.out); rintro e w16 ⟨rfl, hb⟩; refine ⟨_, rfl, ?_⟩; replace BK147 := FB_ BK147 hb; replace BK148 := FB_ BK148 hb; replace HB := BS_ HB hb; (try clear hb); obtain ⟨hcz17_0, hcz17_1, hfz17_0, hfz17_1⟩ := e2_ BK148; obtain ⟨hcz18_0, hcz18_1, hcz18_2, hcz18_3, hfz18_0, hfz18_1, hfz18_2, hfz18_3⟩ := e4_ BK147))
 go_meet
 case rel => exact ⟨_, (true), rs_, H', ⟨ol_⟩, ⟨bk_ BK147⟩, ⟨bk_ BK148⟩, ⟨bl_ HB⟩⟩}}
 {
 replace c7 := Bool.eq_false_iff.mpr c7
 subst c7
 rw [if_neg (show ¬ (false = true) by decide)] at H
 have H' := Aside0.mk H
 clear H
 have hnb19 := NB147_148.out
 have hnc19 := NB148_147.out
 obtain ⟨hcz20_0, hcz20_1, hcz20_2, hcz20_3, hfz20_0, hfz20_1, hfz20_2, hfz20_3⟩ := e4_ BK147
 go_wp2_with (first | ((with_reducible refine gate_callee (f := 41) rfl ?_); refine gL_ (some 10) Try.func41 #[.agg #[.int .i64 a0_0, .int .i64 a0_1, .slice A0_2 l0_2.length c0_2, .slice A0_3 l0_3.length c0_3]] ?_; (with_reducible refine (vhead_Right.calls k a0_0 a0_1 _ _ l0_2 _ _ l0_3 false _ ?side1 ?side2 ?side3 ?side4 A6.out).mono ?_); (case side1 => exact kC_ HR0_2 HB); (case side2 => exact HC0_2.out); (case side3 => exact kC_ HR0_3 HB); (case side4 => exact HC0_3.out); rintro e w21 ⟨rfl, hb⟩; refine ⟨_, rfl, ?_⟩; replace BK147 := FB_ BK147 hb; replace BK148 := FB_ BK148 hb; replace HB := BS_ HB hb; (try clear hb)))
 go_meet
 case rel => exact ⟨_, (true), rs_, H', ⟨ol_⟩, ⟨bk_ BK147⟩, ⟨bk_ BK148⟩, ⟨bl_ HB⟩⟩})
 case rest => (
 clear HC3
 obtain ⟨kq, x27_2, rfl, HA, HJ2, BK147, BK148, HB⟩ := hcut
 cases kq with
 | zero => exact absurd HA.out (by simp [vpack_Right.j0])
 | succ kj2 => (
 have H := HA.out
 clear HA
 simp only [vpack_Right.j0] at H
 by_cases c22 : x27_2 = true
 {
 subst c22
 rw [if_pos rfl] at H
 obtain rfl := Option.some.inj H
 go_wp2
 go_ret
 exact ⟨by first | rfl | (simp [errW_none, errW_some] <;> rfl) | (simp [*, errW_none, errW_some] <;> rfl), bl_ HB⟩}
 {
 replace c22 := Bool.eq_false_iff.mpr c22
 subst c22
 rw [if_neg (show ¬ (false = true) by decide)] at H
 have H' := Aside0.mk H
 clear H
 have hnb23 := NB148_147.out
 have hnc23 := NB147_148.out
 obtain ⟨hcz24_0, hcz24_1, hfz24_0, hfz24_1⟩ := e2_ BK148
 go_wp2
 go_loopg [31] kj2 (fun kq v31 w' => ∃ (x31_2 : Int), v31 = .int .i64 x31_2 ∧ Aside0 (vpack_Right.l0 kq l1_0 (l1_0.length : Int) x31_2 a0_0 a0_1 l0_2 l0_3 l1_0 l1_1 = some r) ∧ Aside0 (kq ≤ kj2) ∧ Aside0 (w'.heap[gb147]? = some (.cells #[.int .i64 a0_0, .int .i64 a0_1, (.slice A0_2 l0_2.length c0_2), (.slice A0_3 l0_3.length c0_3)] 24 (0, 0))) ∧ Aside0 (w'.heap[gb148]? = some (.cells #[(.slice A1_0 l1_0.length c1_0), (.slice A1_1 l1_1.length c1_1)] 28 (0, 0))) ∧ Aside0 (Below w.heap.size w w'))
 case atStart => exact ⟨(0), rs_, H', ⟨Nat.le_refl _⟩, ⟨bk_ BK147⟩, ⟨bk_ BK148⟩, ⟨bl_ HB⟩⟩
 case round => (
 clear H'
 try clear c22
 try clear hcz24_0
 try clear hcz24_1
 try clear hfz24_0
 try clear hfz24_1
 obtain ⟨x31_2, rfl, HA, HK2, BK147, BK148, HB⟩ := hrel
 cases gk with
 | zero => exact absurd HA.out (by simp [vpack_Right.l0])
 | succ k2 => (
 have H := HA.out
 clear HA
 simp only [vpack_Right.l0] at H
 by_cases c25 : x31_2 < (l1_0.length : Int)
 {
 rw [if_pos c25] at H
 have c25b0 : decide (x31_2 < (l1_0.length : Int)) = true := decide_eq_true c25
 clear c25
 by_cases c26 : 0 ≤ x31_2
 {
 rw [if_pos c26] at H
 have c26b0 : decide (0 ≤ x31_2) = true := decide_eq_true c26
 clear c26
 by_cases c27 : x31_2 < (l1_0.length : Int)
 {
 rw [if_pos c27] at H
 have c27b0 : decide (x31_2 < (l1_0.length : Int)) = true := decide_eq_true c27
 clear c27
 have HC28 := Aside0.mk H
 clear H
 have p150 : 0 ≤ (x31_2 : Int) := of_decide_eq_true am_
 have q150 : x31_2 < (l1_0.length : Int) := of_decide_eq_true am_
 obtain ⟨ad150, A150_0, c150_0, e150, hx150_0, hl150_0, hi150_0⟩ := at_L1 HR1_0.out x31_2 p150 q150
 cases e150
 replace hx150_0 := (HB.out.cell (World.block_lt_of_cell? w _ hx150_0)).trans hx150_0
 have HR150_0 := Aside0.mk hi150_0
 have HC150_0 := Aside0.mk hl150_0
 clear hi150_0 hl150_0
 replace p150 := eq_true p150
 replace q150 := eq_true q150
 go_upto_region 6 with (fail)
 go_cut [47] (fun v47 wc => ∃ (kq : Nat) (x47_27 : Bool), v47 = .bool x47_27 ∧ Aside0 (vpack_Right.j2 kq x31_2 (rd_L1 l1_0 x31_2) l1_0 (l1_0.length : Int) x31_2 x47_27 a0_0 a0_1 l0_2 l0_3 l1_0 l1_1 = some r) ∧ Aside0 (kq ≤ k2) ∧ Aside0 (wc.heap[gb147]? = some (.cells #[.int .i64 a0_0, .int .i64 a0_1, (.slice A0_2 l0_2.length c0_2), (.slice A0_3 l0_3.length c0_3)] 24 (0, 0))) ∧ Aside0 (wc.heap[gb148]? = some (.cells #[(.slice (some ad150) l1_0.length c1_0), (.slice A1_1 l1_1.length c1_1)] 28 (0, 0))) ∧ Aside0 (Below w.heap.size w wc))
 case first => (
 have H := HC28.out
 clear HC28
 by_cases c29 : ((rd_L1 l1_0 x31_2).length : Int) = 0
 {
 rw [if_pos c29] at H
 have c29b0 : (((rd_L1 l1_0 x31_2).length : Int) == 0) = true := beq_iff_eq.mpr c29
 have c29b1 : (((rd_L1 l1_0 x31_2).length : Int) != 0) = false := bne_eq_false_iff_eq.mpr c29
 clear c29
 (first | rw [c29b0] | (simp only [i64_w, i32_w]; rw [c29b0]) | skip)
 by_cases c30 : x31_2 < (l1_1.length : Int)
 {
 rw [if_pos c30] at H
 have c30b0 : decide (x31_2 < (l1_1.length : Int)) = true := decide_eq_true c30
 clear c30
 have H' := Aside0.mk H
 clear H
 have hnb31 := NB148_147.out
 have hnc31 := NB147_148.out
 obtain ⟨hcz32_0, hcz32_1, hfz32_0, hfz32_1⟩ := e2_ BK148
 have p151 : 0 ≤ (x31_2 : Int) := of_decide_eq_true am_
 have q151 : x31_2 < (l1_1.length : Int) := of_decide_eq_true am_
 obtain ⟨ad151, A151_0, c151_0, e151, hx151_0, hl151_0, hi151_0⟩ := at_L2 HR1_1.out x31_2 p151 q151
 cases e151
 replace hx151_0 := (HB.out.cell (World.block_lt_of_cell? w _ hx151_0)).trans hx151_0
 have HR151_0 := Aside0.mk hi151_0
 have HC151_0 := Aside0.mk hl151_0
 clear hi151_0 hl151_0
 replace p151 := eq_true p151
 replace q151 := eq_true q151
 go_wp2
 go_meet
 case rel => exact ⟨_, ((((rd_L2 l1_1 x31_2).length : Int) == 0)), rs_, H', ⟨by have := HJ2.out; have := HK2.out; first | omega | exact Nat.le_refl _⟩, ⟨bk_ BK147⟩, ⟨bk_ BK148⟩, ⟨bl_ HB⟩⟩}
 {
 rw [if_neg c30] at H
 exact absurd H (by simp)}}
 {
 rw [if_neg c29] at H
 have c29b0 : (((rd_L1 l1_0 x31_2).length : Int) == 0) = false := beq_eq_false_iff_ne.mpr c29
 have c29b1 : (((rd_L1 l1_0 x31_2).length : Int) != 0) = true := bne_iff_ne.mpr c29
 have c29b2 : ¬ ((rd_L1 l1_0 x31_2) = []) := fun h_ => c29 (by rw [h_]; rfl)
 (first | rw [c29b0] | (simp only [i64_w, i32_w]; rw [c29b0]) | skip)
 have H' := Aside0.mk H
 clear H
 go_wp2
 go_meet
 case rel => exact ⟨_, (false), rs_, H', ⟨by have := HJ2.out; have := HK2.out; first | omega | exact Nat.le_refl _⟩, ⟨bk_ BK147⟩, ⟨bk_ BK148⟩, ⟨bl_ HB⟩⟩})
 case rest => (
 clear HC28
 try clear c22
 try clear c25
 try clear c25b0
 try clear c26
 try clear c26b0
 try clear c27
 try clear c27b0
 try clear hcz24_0
 try clear hcz24_1
 try clear hfz24_0
 try clear hfz24_1
 try clear hx150_0
 try clear p150
 try clear q150
 obtain ⟨kq, x47_27, rfl, HA, HJ27, BK147, BK148, HB⟩ := hcut
 cases kq with
 | zero => exact absurd HA.out (by simp [vpack_Right.j2])
 | succ kj27 => (
 have H := HA.out
 clear HA
 simp only [vpack_Right.j2] at H
 by_cases c33 : x47_27 = true
 {
 subst c33
 rw [if_pos rfl] at H
 have H' := Aside0.mk H
 clear H
 go_wp2
 go_roundg kj27
 case measure => have := HJ2.out; have := HK2.out; have := HJ27.out; omega
 case rel => exact ⟨(wrap64 (x31_2 + 1)), rs_, H', ⟨by have := HJ2.out; have := HK2.out; have := HJ27.out; omega⟩, ⟨bk_ BK147⟩, ⟨bk_ BK148⟩, ⟨bl_ HB⟩⟩}
 {
 replace c33 := Bool.eq_false_iff.mpr c33
 subst c33
 rw [if_neg (show ¬ (false = true) by decide)] at H
 have HC34 := Aside0.mk H
 clear H
 go_upto_region 7 with (fail)
 go_cut [60] (fun v60 wc => ∃ (kq : Nat) (x60_33 : Bool), v60 = .bool x60_33 ∧ Aside0 (vpack_Right.j3 kq x31_2 l1_0 (l1_0.length : Int) x31_2 x60_33 a0_0 a0_1 l0_2 l0_3 l1_0 l1_1 = some r) ∧ Aside0 (kq ≤ kj27) ∧ Aside0 (wc.heap[gb147]? = some (.cells #[.int .i64 a0_0, .int .i64 a0_1, (.slice A0_2 l0_2.length c0_2), (.slice A0_3 l0_3.length c0_3)] 24 (0, 0))) ∧ Aside0 (wc.heap[gb148]? = some (.cells #[(.slice (some ad150) l1_0.length c1_0), (.slice A1_1 l1_1.length c1_1)] 28 (0, 0))) ∧ Aside0 (Below w.heap.size w wc))
 case first => (
 have H := HC34.out
 clear HC34
 obtain ⟨t152, A35, H⟩ := ob_ H
 (try dsimp only at H)
 by_cases c36 : t152 = true
 {
 subst c36
 rw [if_pos rfl] at H
 by_cases c37 : 0 ≤ x31_2
 {
 rw [if_pos c37] at H
 have c37b0 : decide (0 ≤ x31_2) = true := decide_eq_true c37
 clear c37
 (first | rw [c37b0] | (simp only [i64_w, i32_w]; rw [c37b0]) | skip)
 by_cases c38 : x31_2 < (l1_1.length : Int)
 {
 rw [if_pos c38] at H
 have c38b0 : decide (x31_2 < (l1_1.length : Int)) = true := decide_eq_true c38
 clear c38
 have H' := Aside0.mk H
 clear H
 have hnb39 := NB147_148.out
 have hnc39 := NB148_147.out
 obtain ⟨hcz40_0, hcz40_1, hcz40_2, hcz40_3, hfz40_0, hfz40_1, hfz40_2, hfz40_3⟩ := e4_ BK147
 go_wp2_with (first | ((with_reducible refine gate_callee (f := 51) rfl ?_); refine gL_ (some 50) Try.func51 #[.agg #[.int .i64 a0_0, .int .i64 a0_1, .slice A0_2 l0_2.length c0_2, .slice A0_3 l0_3.length c0_3], .slice A150_0 (rd_L1 l1_0 x31_2).length c150_0] ?_; (with_reducible refine (vpack_posts.calls kj27 a0_0 a0_1 _ _ l0_2 _ _ l0_3 _ _ (rd_L1 l1_0 x31_2) true _ ?side1 ?side2 ?side3 ?side4 ?side5 ?side6 A35.out).mono ?_); (case side1 => exact kC_ HR0_2 HB); (case side2 => exact HC0_2.out); (case side3 => exact kC_ HR0_3 HB); (case side4 => exact HC0_3.out); (case side5 => exact kC_ HR150_0 HB); (case side6 => exact HC150_0.out); rintro e w41 ⟨rfl, hb⟩; refine ⟨_, rfl, ?_⟩; replace BK147 := FB_ BK147 hb; replace BK148 := FB_ BK148 hb; replace HB := BS_ HB hb; (try clear hb); obtain ⟨hcz42_0, hcz42_1, hfz42_0, hfz42_1⟩ := e2_ BK148; have p153 : 0 ≤ (x31_2 : Int) := of_decide_eq_true am_; have q153 : x31_2 < (l1_1.length : Int) := of_decide_eq_true am_; obtain ⟨ad153, A153_0, c153_0, e153, hx153_0, hl153_0, hi153_0⟩ := at_L2 HR1_1.out x31_2 p153 q153; cases e153; replace hx153_0 := (HB.out.cell (World.block_lt_of_cell? w _ hx153_0)).trans hx153_0; have HR153_0 := Aside0.mk hi153_0; have HC153_0 := Aside0.mk hl153_0; clear hi153_0 hl153_0; replace p153 := eq_true p153; replace q153 := eq_true q153))
 go_meet
 case rel => exact ⟨_, ((((rd_L2 l1_1 x31_2).length : Int) != 16)), rs_, H', ⟨by have := HJ2.out; have := HK2.out; have := HJ27.out; first | omega | exact Nat.le_refl _⟩, ⟨bk_ BK147⟩, ⟨bk_ BK148⟩, ⟨bl_ HB⟩⟩}
 {
 rw [if_neg c38] at H
 exact absurd H (by simp)}}
 {
 rw [if_neg c37] at H
 exact absurd H (by simp)}}
 {
 replace c36 := Bool.eq_false_iff.mpr c36
 subst c36
 rw [if_neg (show ¬ (false = true) by decide)] at H
 have H' := Aside0.mk H
 clear H
 have hnb43 := NB147_148.out
 have hnc43 := NB148_147.out
 obtain ⟨hcz44_0, hcz44_1, hcz44_2, hcz44_3, hfz44_0, hfz44_1, hfz44_2, hfz44_3⟩ := e4_ BK147
 go_wp2_with (first | ((with_reducible refine gate_callee (f := 51) rfl ?_); refine gL_ (some 50) Try.func51 #[.agg #[.int .i64 a0_0, .int .i64 a0_1, .slice A0_2 l0_2.length c0_2, .slice A0_3 l0_3.length c0_3], .slice A150_0 (rd_L1 l1_0 x31_2).length c150_0] ?_; (with_reducible refine (vpack_posts.calls kj27 a0_0 a0_1 _ _ l0_2 _ _ l0_3 _ _ (rd_L1 l1_0 x31_2) false _ ?side1 ?side2 ?side3 ?side4 ?side5 ?side6 A35.out).mono ?_); (case side1 => exact kC_ HR0_2 HB); (case side2 => exact HC0_2.out); (case side3 => exact kC_ HR0_3 HB); (case side4 => exact HC0_3.out); (case side5 => exact kC_ HR150_0 HB); (case side6 => exact HC150_0.out); rintro e w45 ⟨rfl, hb⟩; refine ⟨_, rfl, ?_⟩; replace BK147 := FB_ BK147 hb; replace BK148 := FB_ BK148 hb; replace HB := BS_ HB hb; (try clear hb)))
 go_meet
 case rel => exact ⟨_, (true), rs_, H', ⟨by have := HJ2.out; have := HK2.out; have := HJ27.out; first | omega | exact Nat.le_refl _⟩, ⟨bk_ BK147⟩, ⟨bk_ BK148⟩, ⟨bl_ HB⟩⟩})
 case rest => (
 clear HC34
 try clear c22
 try clear c25
 try clear c25b0
 try clear c26
 try clear c26b0
 try clear c27
 try clear c27b0
 try clear c33
 try clear hcz24_0
 try clear hcz24_1
 try clear hfz24_0
 try clear hfz24_1
 try clear hx150_0
 try clear p150
 try clear q150
 obtain ⟨kq, x60_33, rfl, HA, HJ33, BK147, BK148, HB⟩ := hcut
 cases kq with
 | zero => exact absurd HA.out (by simp [vpack_Right.j3])
 | succ kj33 => (
 have H := HA.out
 clear HA
 simp only [vpack_Right.j3] at H
 by_cases c46 : x60_33 = true
 {
 subst c46
 rw [if_pos rfl] at H
 obtain rfl := Option.some.inj H
 go_wp2
 go_ret
 exact ⟨by first | rfl | (simp [errW_none, errW_some] <;> rfl) | (simp [*, errW_none, errW_some] <;> rfl), bl_ HB⟩}
 {
 replace c46 := Bool.eq_false_iff.mpr c46
 subst c46
 rw [if_neg (show ¬ (false = true) by decide)] at H
 by_cases c47 : 0 ≤ x31_2
 {
 rw [if_pos c47] at H
 have c47b0 : decide (0 ≤ x31_2) = true := decide_eq_true c47
 clear c47
 by_cases c48 : x31_2 < (l1_1.length : Int)
 {
 rw [if_pos c48] at H
 have c48b0 : decide (x31_2 < (l1_1.length : Int)) = true := decide_eq_true c48
 clear c48
 have H' := Aside0.mk H
 clear H
 have hnb49 := NB148_147.out
 have hnc49 := NB147_148.out
 obtain ⟨hcz50_0, hcz50_1, hfz50_0, hfz50_1⟩ := e2_ BK148
 have p154 : 0 ≤ (x31_2 : Int) := of_decide_eq_true am_
 have q154 : x31_2 < (l1_1.length : Int) := of_decide_eq_true am_
 obtain ⟨ad154, A154_0, c154_0, e154, hx154_0, hl154_0, hi154_0⟩ := at_L2 HR1_1.out x31_2 p154 q154
 cases e154
 replace hx154_0 := (HB.out.cell (World.block_lt_of_cell? w _ hx154_0)).trans hx154_0
 have HR154_0 := Aside0.mk hi154_0
 have HC154_0 := Aside0.mk hl154_0
 clear hi154_0 hl154_0
 replace p154 := eq_true p154
 replace q154 := eq_true q154
 go_wp2
 go_loopg [67] kj33 (fun kq v67 w' => ∃ (x67_5 : Int), v67 = .int .i64 x67_5 ∧ Aside0 (vpack_Right.l1 kq l1_0 (l1_0.length : Int) x31_2 (rd_L2 l1_1 x31_2) ((rd_L2 l1_1 x31_2).length : Int) x67_5 a0_0 a0_1 l0_2 l0_3 l1_0 l1_1 = some r) ∧ Aside0 (kq ≤ kj33) ∧ Aside0 (w'.heap[gb147]? = some (.cells #[.int .i64 a0_0, .int .i64 a0_1, (.slice A0_2 l0_2.length c0_2), (.slice A0_3 l0_3.length c0_3)] 24 (0, 0))) ∧ Aside0 (w'.heap[gb148]? = some (.cells #[(.slice (some ad150) l1_0.length c1_0), (.slice (some ad154) l1_1.length c1_1)] 28 (0, 0))) ∧ Aside0 (Below w.heap.size w w'))
 case atStart => exact ⟨(0), rs_, H', ⟨Nat.le_refl _⟩, ⟨bk_ BK147⟩, ⟨bk_ BK148⟩, ⟨bl_ HB⟩⟩
 case round => (
 clear H'
 try clear c22
 try clear c25
 try clear c25b0
 try clear c26
 try clear c26b0
 try clear c27
 try clear c27b0
 try clear c33
 try clear c46
 try clear c47
 try clear c47b0
 try clear c48
 try clear c48b0
 try clear hcz24_0
 try clear hcz24_1
 try clear hcz50_0
 try clear hcz50_1
 try clear hfz24_0
 try clear hfz24_1
 try clear hfz50_0
 try clear hfz50_1
 try clear hx150_0
 try clear hx154_0
 try clear p150
 try clear p154
 try clear q150
 try clear q154
 obtain ⟨x67_5, rfl, HA, HK5, BK147, BK148, HB⟩ := hrel
 cases gk with
 | zero => exact absurd HA.out (by simp [vpack_Right.l1])
 | succ k5 => (
 have H := HA.out
 clear HA
 simp only [vpack_Right.l1] at H
 by_cases c51 : x67_5 < ((rd_L2 l1_1 x31_2).length : Int)
 {
 rw [if_pos c51] at H
 have c51b0 : decide (x67_5 < ((rd_L2 l1_1 x31_2).length : Int)) = true := decide_eq_true c51
 clear c51
 by_cases c52 : 0 ≤ x67_5
 {
 rw [if_pos c52] at H
 have c52b0 : decide (0 ≤ x67_5) = true := decide_eq_true c52
 clear c52
 by_cases c53 : x67_5 < ((rd_L2 l1_1 x31_2).length : Int)
 {
 rw [if_pos c53] at H
 have c53b0 : decide (x67_5 < ((rd_L2 l1_1 x31_2).length : Int)) = true := decide_eq_true c53
 clear c53
 by_cases c54 : (rd (rd_L2 l1_1 x31_2) x67_5) < (-4194303)
 {
 rw [if_pos c54] at H
 have c54b0 : decide ((rd (rd_L2 l1_1 x31_2) x67_5) < (-4194303)) = true := decide_eq_true c54
 clear c54
 obtain rfl := Option.some.inj H
 have p155 : 0 ≤ (x67_5 : Int) := of_decide_eq_true am_
 have q155 : x67_5 < ((rd_L2 l1_1 x31_2).length : Int) := of_decide_eq_true am_
 obtain ⟨ad155, e155, hx155_0⟩ := Kd.at_int HR154_0.out x67_5 p155 q155
 cases e155
 replace hx155_0 := (HB.out.cell (World.block_lt_of_cell? w _ hx155_0)).trans hx155_0
 replace p155 := eq_true p155
 replace q155 := eq_true q155
 go_wp2
 go_ret
 exact ⟨by first | rfl | (simp [errW_none, errW_some] <;> rfl) | (simp [*, errW_none, errW_some] <;> rfl), bl_ HB⟩}
 {
 rw [if_neg c54] at H
 have c54b0 : decide ((rd (rd_L2 l1_1 x31_2) x67_5) < (-4194303)) = false := decide_eq_false c54
 clear c54
 by_cases c55 : (rd (rd_L2 l1_1 x31_2) x67_5) > 4194303
 {
 rw [if_pos c55] at H
 have c55b0 : decide (4194303 < (rd (rd_L2 l1_1 x31_2) x67_5)) = true := decide_eq_true c55
 clear c55
 obtain rfl := Option.some.inj H
 have p155 : 0 ≤ (x67_5 : Int) := of_decide_eq_true am_
 have q155 : x67_5 < ((rd_L2 l1_1 x31_2).length : Int) := of_decide_eq_true am_
 obtain ⟨ad155, e155, hx155_0⟩ := Kd.at_int HR154_0.out x67_5 p155 q155
 cases e155
 replace hx155_0 := (HB.out.cell (World.block_lt_of_cell? w _ hx155_0)).trans hx155_0
 replace p155 := eq_true p155
 replace q155 := eq_true q155
 go_wp2
 go_ret
 exact ⟨by first | rfl | (simp [errW_none, errW_some] <;> rfl) | (simp [*, errW_none, errW_some] <;> rfl), bl_ HB⟩}
 {
 rw [if_neg c55] at H
 have c55b0 : decide (4194303 < (rd (rd_L2 l1_1 x31_2) x67_5)) = false := decide_eq_false c55
 clear c55
 have H' := Aside0.mk H
 clear H
 have p155 : 0 ≤ (x67_5 : Int) := of_decide_eq_true am_
 have q155 : x67_5 < ((rd_L2 l1_1 x31_2).length : Int) := of_decide_eq_true am_
 obtain ⟨ad155, e155, hx155_0⟩ := Kd.at_int HR154_0.out x67_5 p155 q155
 cases e155
 replace hx155_0 := (HB.out.cell (World.block_lt_of_cell? w _ hx155_0)).trans hx155_0
 replace p155 := eq_true p155
 replace q155 := eq_true q155
 go_wp2
 go_roundg k5
 case measure => have := HJ2.out; have := HK2.out; have := HJ27.out; have := HJ33.out; have := HK5.out; omega
 case rel => exact ⟨(wrap64 (x67_5 + 1)), rs_, H', ⟨by have := HJ2.out; have := HK2.out; have := HJ27.out; have := HJ33.out; have := HK5.out; omega⟩, ⟨bk_ BK147⟩, ⟨bk_ BK148⟩, ⟨bl_ HB⟩⟩}}}
 {
 rw [if_neg c53] at H
 exact absurd H (by simp)}}
 {
 rw [if_neg c52] at H
 exact absurd H (by simp)}}
 {
 rw [if_neg c51] at H
 have c51b0 : decide (x67_5 < ((rd_L2 l1_1 x31_2).length : Int)) = false := decide_eq_false c51
 clear c51
 have H' := Aside0.mk H
 clear H
 go_wp2
 go_roundg k5
 case measure => have := HJ2.out; have := HK2.out; have := HJ27.out; have := HJ33.out; have := HK5.out; omega
 case rel => exact ⟨(wrap64 (x31_2 + 1)), rs_, H', ⟨by have := HJ2.out; have := HK2.out; have := HJ27.out; have := HJ33.out; have := HK5.out; omega⟩, ⟨bk_ BK147⟩, ⟨bk_ BK148⟩, ⟨bl_ HB⟩⟩}))}
 {
 rw [if_neg c48] at H
 exact absurd H (by simp)}}
 {
 rw [if_neg c47] at H
 exact absurd H (by simp)}}))}))}
 {
 rw [if_neg c27] at H
 exact absurd H (by simp)}}
 {
 rw [if_neg c26] at H
 exact absurd H (by simp)}}
 {
 rw [if_neg c25] at H
 have c25b0 : decide (x31_2 < (l1_0.length : Int)) = false := decide_eq_false c25
 clear c25
 obtain rfl := Option.some.inj H
 go_wp2
 go_ret
 exact ⟨by first | rfl | (simp [errW_none, errW_some] <;> rfl) | (simp [*, errW_none, errW_some] <;> rfl), bl_ HB⟩}))}))
def vcodec_codec_both.f (a0_0 : Int) (a0_1 : Int) (l0_2 : List Int) (l0_3 : List Int) (l1 : List (List Int)) : Option (Bool) := if a0_0 = 2 then (if 0 < (l1.length : Int) then (if ((rd_L1 l1 0).length : Int) > 0 then (if 1 < (l1.length : Int) then (some (decide (((rd_L1 l1 1).length : Int) > 0))) else (none)) else (some false)) else (none)) else (some false)
set_option maxHeartbeats 8000000 in
set_option maxRecDepth 100000 in
theorem vcodec_codec_both.calls (a0_0 : Int) (a0_1 : Int) (A0_2 : Option Addr) (c0_2 : Nat) (l0_2 : List Int) (A0_3 : Option Addr) (c0_3 : Nat) (l0_3 : List Int) (A1 : Option Addr) (c1 : Nat) (l1 : List (List Int)) (r : Bool) (w : World) (hr0_2 : Kd.C (Kd.int .i64) w A0_2 l0_2.length l0_2) (hc0_2 : l0_2.length ≤ c0_2) (hr0_3 : Kd.C (Kd.int .i64) w A0_3 l0_3.length l0_3) (hc0_3 : l0_3.length ≤ c0_3) (hr1 : Kd.C (Kd.slice 3 (Kd.int .i64)) w A1 l1.length l1) (hc1 : l1.length ≤ c1) (h : vcodec_codec_both.f a0_0 a0_1 l0_2 l0_3 l1 = some r) :
    Calls Try.prog 32 #[.agg #[.int .i64 a0_0, .int .i64 a0_1, .slice A0_2 l0_2.length c0_2, .slice A0_3 l0_3.length c0_3], .slice A1 l1.length c1] w fun e w' => e = .returned (.bool r) ∧ Below w.heap.size w w' := by
 have hu61 := Try.underlying61
 have HR0_2 := Aside0.mk hr0_2
 have HC0_2 := Aside0.mk hc0_2
 clear hr0_2 hc0_2
 have HR0_3 := Aside0.mk hr0_3
 have HC0_3 := Aside0.mk hc0_3
 clear hr0_3 hc0_3
 have HR1 := Aside0.mk hr1
 have HC1 := Aside0.mk hc1
 clear hr1 hc1
 have HB := Aside0.mk (Below.refl w.heap.size w)
 have H : (if a0_0 = 2 then (if 0 < (l1.length : Int) then (if ((rd_L1 l1 0).length : Int) > 0 then (if 1 < (l1.length : Int) then (some (decide (((rd_L1 l1 1).length : Int) > 0))) else (none)) else (some false)) else (none)) else (some false)) = some r := h
 clear h
 by_cases c3 : a0_0 = 2
 {
 rw [if_pos c3] at H
 have c3b0 : (a0_0 == 2) = true := beq_iff_eq.mpr c3
 have c3b1 : (a0_0 != 2) = false := bne_eq_false_iff_eq.mpr c3
 clear c3
 by_cases c4 : 0 < (l1.length : Int)
 {
 rw [if_pos c4] at H
 have c4b0 : decide (0 < (l1.length : Int)) = true := decide_eq_true c4
 have c4b1 : decide (0 < l1.length) = true := decide_eq_true (by omega)
 clear c4
 by_cases c5 : ((rd_L1 l1 0).length : Int) > 0
 {
 rw [if_pos c5] at H
 have c5b0 : decide (0 < ((rd_L1 l1 0).length : Int)) = true := decide_eq_true c5
 have c5b1 : decide (0 < (rd_L1 l1 0).length) = true := decide_eq_true (by omega)
 clear c5
 by_cases c6 : 1 < (l1.length : Int)
 {
 rw [if_pos c6] at H
 have c6b0 : decide (1 < (l1.length : Int)) = true := decide_eq_true c6
 have c6b1 : decide (1 < l1.length) = true := decide_eq_true (by omega)
 clear c6
 obtain rfl := Option.some.inj H
 go_enter Try.func32, Try.ntmps32
 go_wp2_with (first | ((with_reducible refine gate_dst (N := 2) rfl ?_); (try (refine gate_guard (by rfl) ?_; dsimp only)); refine bx_ HB 2 #[.int .i64 a0_0, .int .i64 a0_1, .slice A0_2 l0_2.length c0_2, .slice A0_3 l0_3.length c0_3] 61 ?_; clear HB; intro gb156 hg w7 hb BK156 GE156 HB; have GW156 := GE156; clear hb hg; obtain ⟨hcz8_0, hcz8_1, hcz8_2, hcz8_3, hfz8_0, hfz8_1, hfz8_2, hfz8_3⟩ := e4_ BK156; have p157 : 0 ≤ (0 : Int) := (by omega); have q157 : 0 < (l1.length : Int) := of_decide_eq_true am_; obtain ⟨ad157, A157_0, c157_0, e157, hx157_0, hl157_0, hi157_0⟩ := at_L1 HR1.out 0 p157 q157; cases e157; have qi157 : (0 < l1.length) = True := eq_true (by omega); (try rw [show ((0 : Int)).toNat = 0 from rfl] at hx157_0); (try rw [Addr.add_zero'] at hx157_0); replace hx157_0 := (HB.out.cell (World.block_lt_of_cell? w _ hx157_0)).trans hx157_0; have HR157_0 := Aside0.mk hi157_0; have HC157_0 := Aside0.mk hl157_0; clear hi157_0 hl157_0; replace p157 := eq_true p157; replace q157 := eq_true q157; have p158 : 0 ≤ (1 : Int) := (by omega); have q158 : 1 < (l1.length : Int) := of_decide_eq_true am_; obtain ⟨ad158, A158_0, c158_0, e158, hx158_0, hl158_0, hi158_0⟩ := at_L1 HR1.out 1 p158 q158; obtain rfl : ad157 = ad158 := (by injection e158); (try simp only [show (1 : Int).toNat = 1 from rfl, Nat.reduceMul, Nat.reduceEqDiff, Go.Addr.add, ↓reduceIte] at hx158_0); have qi158 : (1 < l1.length) = True := eq_true (by omega); (try rw [show ((1 : Int)).toNat = 1 from rfl] at hx158_0); replace hx158_0 := (HB.out.cell (World.block_lt_of_cell? w _ hx158_0)).trans hx158_0; have HR158_0 := Aside0.mk hi158_0; have HC158_0 := Aside0.mk hl158_0; clear hi158_0 hl158_0; replace p158 := eq_true p158; replace q158 := eq_true q158))
 go_ret
 exact ⟨by first | rfl | (simp [errW_none, errW_some] <;> rfl) | (simp [*, errW_none, errW_some] <;> rfl), bl_ HB⟩}
 {
 rw [if_neg c6] at H
 exact absurd H (by simp)}}
 {
 rw [if_neg c5] at H
 have c5b0 : decide (0 < ((rd_L1 l1 0).length : Int)) = false := decide_eq_false c5
 have c5b1 : decide (0 < (rd_L1 l1 0).length) = false := decide_eq_false (by omega)
 clear c5
 obtain rfl := Option.some.inj H
 go_enter Try.func32, Try.ntmps32
 go_wp2_with (first | ((with_reducible refine gate_dst (N := 2) rfl ?_); (try (refine gate_guard (by rfl) ?_; dsimp only)); refine bx_ HB 2 #[.int .i64 a0_0, .int .i64 a0_1, .slice A0_2 l0_2.length c0_2, .slice A0_3 l0_3.length c0_3] 61 ?_; clear HB; intro gb156 hg w9 hb BK156 GE156 HB; have GW156 := GE156; clear hb hg; obtain ⟨hcz10_0, hcz10_1, hcz10_2, hcz10_3, hfz10_0, hfz10_1, hfz10_2, hfz10_3⟩ := e4_ BK156; have p157 : 0 ≤ (0 : Int) := (by omega); have q157 : 0 < (l1.length : Int) := of_decide_eq_true am_; obtain ⟨ad157, A157_0, c157_0, e157, hx157_0, hl157_0, hi157_0⟩ := at_L1 HR1.out 0 p157 q157; cases e157; have qi157 : (0 < l1.length) = True := eq_true (by omega); (try rw [show ((0 : Int)).toNat = 0 from rfl] at hx157_0); (try rw [Addr.add_zero'] at hx157_0); replace hx157_0 := (HB.out.cell (World.block_lt_of_cell? w _ hx157_0)).trans hx157_0; have HR157_0 := Aside0.mk hi157_0; have HC157_0 := Aside0.mk hl157_0; clear hi157_0 hl157_0; replace p157 := eq_true p157; replace q157 := eq_true q157))
 go_ret
 exact ⟨by first | rfl | (simp [errW_none, errW_some] <;> rfl) | (simp [*, errW_none, errW_some] <;> rfl), bl_ HB⟩}}
 {
 rw [if_neg c4] at H
 exact absurd H (by simp)}}
 {
 rw [if_neg c3] at H
 have c3b0 : (a0_0 == 2) = false := beq_eq_false_iff_ne.mpr c3
 have c3b1 : (a0_0 != 2) = true := bne_iff_ne.mpr c3
 obtain rfl := Option.some.inj H
 go_enter Try.func32, Try.ntmps32
 go_wp2_with (first | ((with_reducible refine gate_dst (N := 2) rfl ?_); (try (refine gate_guard (by rfl) ?_; dsimp only)); refine bx_ HB 2 #[.int .i64 a0_0, .int .i64 a0_1, .slice A0_2 l0_2.length c0_2, .slice A0_3 l0_3.length c0_3] 61 ?_; clear HB; intro gb156 hg w11 hb BK156 GE156 HB; have GW156 := GE156; clear hb hg; obtain ⟨hcz12_0, hcz12_1, hcz12_2, hcz12_3, hfz12_0, hfz12_1, hfz12_2, hfz12_3⟩ := e4_ BK156))
 go_ret
 exact ⟨by first | rfl | (simp [errW_none, errW_some] <;> rfl) | (simp [*, errW_none, errW_some] <;> rfl), bl_ HB⟩}
def couple_parting.f  : Option (Int) := some 4398046511104
set_option maxHeartbeats 8000000 in
set_option maxRecDepth 100000 in
theorem couple_parting.calls  (r : Int) (w : World) (h : couple_parting.f  = some r) :
    Calls Try.prog 66 #[] w fun e w' => e = .returned (.agg #[.int .i64 r, .func (.func 93) #[] #[]]) ∧ Below w.heap.size w w' := by
 have hu101 := Try.underlying101
 have HB := Aside0.mk (Below.refl w.heap.size w)
 have H : (some 4398046511104) = some r := h
 clear h
 obtain rfl := Option.some.inj H
 go_enter Try.func66, Try.ntmps66
 go_wp2_with (first | ((with_reducible refine gate_dst (N := 0) rfl ?_); refine bx_ HB 0 #[.int .i64 0, .nilFunc] 101 ?_; clear HB; intro gb159 hg w1 hb BK159 GE159 HB; have GW159 := GE159; clear hb hg; obtain ⟨hcz2_0, hcz2_1, hfz2_0, hfz2_1⟩ := e2_ BK159))
 refine bodyPost_ret (results_cell_row rfl _ _ gb159 101 #[.int .i64 4398046511104, .func (.func 93) #[] #[]] (0, 0) _ rfl (bp_ BK159) Try.underlying101 rfl kf_) rfl ?_
 exact ⟨by first | rfl | (simp [errW_none, errW_some] <;> rfl) | (simp [*, errW_none, errW_some] <;> rfl), bl_ HB⟩
def couple_part.f (a0 : Int) (a1 : Int) : Option (Int × Int) := if a0 > 0 then (if a1 > 0 then (some (a0, wrap64 (a0 + (wrap64 (-a1))))) else (some (wrap64 (a0 - (wrap64 (-a1))), a0))) else (if a1 > 0 then (some (a0, wrap64 (a0 + a1))) else (some (wrap64 (a0 - a1), a0)))
set_option maxHeartbeats 8000000 in
set_option maxRecDepth 100000 in
theorem couple_part.calls (a0 : Int) (a1 : Int) (r1 : Int) (r2 : Int) (w : World) (h : couple_part.f a0 a1 = some (r1, r2)) :
    Calls Try.prog 93 #[.int .i64 a0, .int .i64 a1] w fun e w' => e = .returned (.tuple #[.int .i64 r1, .int .i64 r2]) ∧ Drawn0 w w' := by
 have H : (if a0 > 0 then (if a1 > 0 then (some (a0, wrap64 (a0 + (wrap64 (-a1))))) else (some (wrap64 (a0 - (wrap64 (-a1))), a0))) else (if a1 > 0 then (some (a0, wrap64 (a0 + a1))) else (some (wrap64 (a0 - a1), a0)))) = some (r1, r2) := h
 clear h
 by_cases c3 : a0 > 0
 {
 rw [if_pos c3] at H
 have c3b0 : decide (0 < a0) = true := decide_eq_true c3
 clear c3
 by_cases c4 : a1 > 0
 {
 rw [if_pos c4] at H
 have c4b0 : decide (0 < a1) = true := decide_eq_true c4
 clear c4
 simp only [Option.some.injEq, Prod.mk.injEq] at H
 obtain ⟨rfl, rfl⟩ := H
 go_enter Try.func93, Try.ntmps93
 go_wp2
 go_ret2
 exact ⟨by first | rfl | (simp; done) | (simp [*]; done), by repeat (first | exact Drawn0.refl _ | apply Drawn0.step)⟩}
 {
 rw [if_neg c4] at H
 have c4b0 : decide (0 < a1) = false := decide_eq_false c4
 clear c4
 simp only [Option.some.injEq, Prod.mk.injEq] at H
 obtain ⟨rfl, rfl⟩ := H
 go_enter Try.func93, Try.ntmps93
 go_wp2
 go_ret2
 exact ⟨by first | rfl | (simp; done) | (simp [*]; done), by repeat (first | exact Drawn0.refl _ | apply Drawn0.step)⟩}}
 {
 rw [if_neg c3] at H
 have c3b0 : decide (0 < a0) = false := decide_eq_false c3
 clear c3
 by_cases c5 : a1 > 0
 {
 rw [if_pos c5] at H
 have c5b0 : decide (0 < a1) = true := decide_eq_true c5
 clear c5
 simp only [Option.some.injEq, Prod.mk.injEq] at H
 obtain ⟨rfl, rfl⟩ := H
 go_enter Try.func93, Try.ntmps93
 go_wp2
 go_ret2
 exact ⟨by first | rfl | (simp; done) | (simp [*]; done), by repeat (first | exact Drawn0.refl _ | apply Drawn0.step)⟩}
 {
 rw [if_neg c5] at H
 have c5b0 : decide (0 < a1) = false := decide_eq_false c5
 clear c5
 simp only [Option.some.injEq, Prod.mk.injEq] at H
 obtain ⟨rfl, rfl⟩ := H
 go_enter Try.func93, Try.ntmps93
 go_wp2
 go_ret2
 exact ⟨by first | rfl | (simp; done) | (simp [*]; done), by repeat (first | exact Drawn0.refl _ | apply Drawn0.step)⟩}}
def num_Clamp.f (a0 : Int) (a1 : Int) (a2 : Int) : Option (Int) := if a0 < a1 then (some a1) else (if a0 > a2 then (some a2) else (some a0))
set_option maxHeartbeats 8000000 in
set_option maxRecDepth 100000 in
theorem num_Clamp.calls (a0 : Int) (a1 : Int) (a2 : Int) (r : Int) (w : World) (h : num_Clamp.f a0 a1 a2 = some r) :
    Calls Try.prog 73 #[.int .i64 a0, .int .i64 a1, .int .i64 a2] w fun e w' => e = .returned (.int .i64 r) ∧ Drawn0 w w' := by
 have H : (if a0 < a1 then (some a1) else (if a0 > a2 then (some a2) else (some a0))) = some r := h
 clear h
 by_cases c4 : a0 < a1
 {
 rw [if_pos c4] at H
 have c4b0 : decide (a0 < a1) = true := decide_eq_true c4
 clear c4
 obtain rfl := Option.some.inj H
 go_enter Try.func73, Try.ntmps73
 go_wp2
 go_ret
 exact ⟨by first | rfl | (simp; done) | (simp [*]; done), by repeat (first | exact Drawn0.refl _ | apply Drawn0.step)⟩}
 {
 rw [if_neg c4] at H
 have c4b0 : decide (a0 < a1) = false := decide_eq_false c4
 clear c4
 by_cases c5 : a0 > a2
 {
 rw [if_pos c5] at H
 have c5b0 : decide (a2 < a0) = true := decide_eq_true c5
 clear c5
 obtain rfl := Option.some.inj H
 go_enter Try.func73, Try.ntmps73
 go_wp2
 go_ret
 exact ⟨by first | rfl | (simp; done) | (simp [*]; done), by repeat (first | exact Drawn0.refl _ | apply Drawn0.step)⟩}
 {
 rw [if_neg c5] at H
 have c5b0 : decide (a2 < a0) = false := decide_eq_false c5
 clear c5
 obtain rfl := Option.some.inj H
 go_enter Try.func73, Try.ntmps73
 go_wp2
 go_ret
 exact ⟨by first | rfl | (simp; done) | (simp [*]; done), by repeat (first | exact Drawn0.refl _ | apply Drawn0.step)⟩}}
def couple_within.l0 : Nat → Int → List Int → Int → Int → Option (Bool)
  | 0, _, _, _, _ => none
  | k + 1, x0, x7, x8, x9 => if x9 < x8 then (if 0 ≤ x9 then (if x9 < (x7.length : Int) then ((num_Clamp.f (rd x7 x9) (wrap64 (-x0)) x0).bind fun t161 => (if (rd x7 x9) = t161 then (couple_within.l0 k x0 x7 x8 (wrap64 (x9 + 1))) else (some false))) else (none)) else (none)) else (some true)
def couple_within.f (k : Nat) (a0 : Int) (l1 : List Int) : Option (Bool) := couple_within.l0 k a0 l1 (l1.length : Int) 0
theorem couple_within.mono_l : ∀ k, (∀ y0 y1 y2 y3, LeO (couple_within.l0 k y0 y1 y2 y3) (couple_within.l0 (k + 1) y0 y1 y2 y3))
  | 0 => fun _ _ _ _ r h => by simp [couple_within.l0] at h
  | k + 1 => by
    have ih0 := couple_within.mono_l k
    · intro y0 y1 y2 y3
      unfold couple_within.l0
      with_reducible repeat' first
   | exact ih0 _ _ _ _
   | exact LeO.refl _
   | exact LeO.none _
   | refine LeO.ite ?_ ?_
   | refine LeO.bind ?_ (fun _ => ?_)
theorem couple_within.mono : ∀ a0 a1 k, LeO (couple_within.f k a0 a1) (couple_within.f (k + 1) a0 a1) := by
  intro a0 a1 k
  have ih0 := couple_within.mono_l k
  unfold couple_within.f
  with_reducible repeat' first
   | exact ih0 _ _ _ _
   | exact LeO.refl _
   | exact LeO.none _
   | refine LeO.ite ?_ ?_
   | refine LeO.bind ?_ (fun _ => ?_)
set_option maxHeartbeats 8000000 in
set_option maxRecDepth 100000 in
theorem couple_within.calls (k : Nat) (a0 : Int) (A1 : Option Addr) (c1 : Nat) (l1 : List Int) (r : Bool) (w : World) (hr1 : Kd.C (Kd.int .i64) w A1 l1.length l1) (hc1 : l1.length ≤ c1) (h : couple_within.f k a0 l1 = some r) :
    Calls Try.prog 111 #[.int .i64 a0, .slice A1 l1.length c1] w fun e w' => e = .returned (.bool r) ∧ Drawn0 w w' := by
 have HR1 := Aside0.mk hr1
 have HC1 := Aside0.mk hc1
 clear hr1 hc1
 have H : (couple_within.l0 k a0 l1 (l1.length : Int) 0) = some r := h
 clear h
 have H' := Aside0.mk H
 clear H
 go_enter Try.func111, Try.ntmps111
 go_wp2
 go_loopg [9] k (fun kq v9 w' => ∃ (x9_1 : Int), v9 = .int .i64 x9_1 ∧ Aside0 (couple_within.l0 kq a0 l1 (l1.length : Int) x9_1 = some r) ∧ Aside0 (kq ≤ k) ∧ Drawn0 w w')
 case atStart => exact ⟨(0), rs_, H', ⟨Nat.le_refl _⟩, by repeat (first | exact Drawn0.refl _ | apply Drawn0.step)⟩
 case round => (
 clear H'
 obtain ⟨x9_1, rfl, HA, HK1, ⟨m1, rfl⟩⟩ := hrel
 cases gk with
 | zero => exact absurd HA.out (by simp [couple_within.l0])
 | succ k1 => (
 have H := HA.out
 clear HA
 simp only [couple_within.l0] at H
 by_cases c3 : x9_1 < (l1.length : Int)
 {
 rw [if_pos c3] at H
 have c3b0 : decide (x9_1 < (l1.length : Int)) = true := decide_eq_true c3
 clear c3
 by_cases c4 : 0 ≤ x9_1
 {
 rw [if_pos c4] at H
 have c4b0 : decide (0 ≤ x9_1) = true := decide_eq_true c4
 clear c4
 by_cases c5 : x9_1 < (l1.length : Int)
 {
 rw [if_pos c5] at H
 have c5b0 : decide (x9_1 < (l1.length : Int)) = true := decide_eq_true c5
 clear c5
 obtain ⟨t161, A6, H⟩ := ob_ H
 (try dsimp only at H)
 by_cases c7 : (rd l1 x9_1) = t161
 {
 rw [if_pos c7] at H
 have c7b0 : ((rd l1 x9_1) == t161) = true := beq_iff_eq.mpr c7
 have c7b1 : ((rd l1 x9_1) != t161) = false := bne_eq_false_iff_eq.mpr c7
 clear c7
 have H' := Aside0.mk H
 clear H
 have p160 : 0 ≤ (x9_1 : Int) := of_decide_eq_true am_
 have q160 : x9_1 < (l1.length : Int) := of_decide_eq_true am_
 obtain ⟨ad160, e160, hx160_0⟩ := Kd.at_int HR1.out x9_1 p160 q160
 cases e160
 replace p160 := eq_true p160
 replace q160 := eq_true q160
 go_wp2_with (first | ((with_reducible refine gate_callee (f := 73) rfl ?_); refine gL_ (some 18) Try.func73 #[.int .i64 (rd l1 x9_1), .int .i64 (wrap64 (-a0)), .int .i64 a0] ?_; (with_reducible refine (num_Clamp.calls (rd l1 x9_1) (wrap64 (-a0)) a0 t161 _ A6.out).mono ?_); rintro e w' ⟨rfl, ⟨nd, rfl⟩⟩; refine ⟨_, rfl, ?_⟩))
 go_roundg k1
 case measure => have := HK1.out; omega
 case rel => exact ⟨(wrap64 (x9_1 + 1)), rs_, H', ⟨by have := HK1.out; omega⟩, by repeat (first | exact Drawn0.refl _ | apply Drawn0.step)⟩}
 {
 rw [if_neg c7] at H
 have c7b0 : ((rd l1 x9_1) == t161) = false := beq_eq_false_iff_ne.mpr c7
 have c7b1 : ((rd l1 x9_1) != t161) = true := bne_iff_ne.mpr c7
 obtain rfl := Option.some.inj H
 have p160 : 0 ≤ (x9_1 : Int) := of_decide_eq_true am_
 have q160 : x9_1 < (l1.length : Int) := of_decide_eq_true am_
 obtain ⟨ad160, e160, hx160_0⟩ := Kd.at_int HR1.out x9_1 p160 q160
 cases e160
 replace p160 := eq_true p160
 replace q160 := eq_true q160
 go_wp2_with (first | ((with_reducible refine gate_callee (f := 73) rfl ?_); refine gL_ (some 18) Try.func73 #[.int .i64 (rd l1 x9_1), .int .i64 (wrap64 (-a0)), .int .i64 a0] ?_; (with_reducible refine (num_Clamp.calls (rd l1 x9_1) (wrap64 (-a0)) a0 t161 _ A6.out).mono ?_); rintro e w' ⟨rfl, ⟨nd, rfl⟩⟩; refine ⟨_, rfl, ?_⟩))
 go_ret
 exact ⟨by first | rfl | (simp; done) | (simp [*]; done), by repeat (first | exact Drawn0.refl _ | apply Drawn0.step)⟩}}
 {
 rw [if_neg c5] at H
 exact absurd H (by simp)}}
 {
 rw [if_neg c4] at H
 exact absurd H (by simp)}}
 {
 rw [if_neg c3] at H
 have c3b0 : decide (x9_1 < (l1.length : Int)) = false := decide_eq_false c3
 clear c3
 obtain rfl := Option.some.inj H
 go_wp2
 go_ret
 exact ⟨by first | rfl | (simp; done) | (simp [*]; done), by repeat (first | exact Drawn0.refl _ | apply Drawn0.step)⟩}))
end Go.Proofs.Ytdajlfijkbafiaa.P
