/- Words, walks and what they compute, as the law's proof needs them. -/
import Derived.Test.YtdajlfijkbafiaaProg
import Derived.Below
import Derived.Deep.Draws
import Derived.Deep.AppendLies
import Derived.Maps.AppendAt
import Derived.OwnWalk
import Derived.Laws.BytesArg
import Derived.Laws.MakeOwn
import Derived.Laws.OwnMore
import Derived.Deep.OwnRows
import Derived.Tactics
import Derived.Lib.ConvBytes
import Derived.Laws.Slices
import Derived.WalkKit
import Derived.KernelRfl
import Derived.RowKit3
import Derived.Deep.LoopGhost
import Derived.Deep.QuietTactic
import Derived.BigQuiet
import Derived.WideLaws
import Derived.Deep.DeepCutAuto
import Derived.Deep.CutBlock
import Derived.Deep.RegionHeld3
import Derived.Laws.Rows
import Derived.Lib.AppendStr
import Derived.ArgAppend
import Derived.Laws.IdiomCopy
import Derived.OrdersHeld
import Derived.Laws.BitsLemmas
import Derived.RowKit
import Derived.Laws.EntriesVeiled
import Derived.Test.YtdajlfijkbafiaaE1
import Derived.Test.YtdajlfijkbafiaaE2
set_option linter.unusedVariables false
set_option linter.unusedSimpArgs false
namespace Go.Proofs.Ytdajlfijkbafiaa.P
open Go.RowKit Go.Proofs.YtdajlfijkbafiaaW.PrintWords Go.Proofs.YtdajlfijkbafiaaW.PrintLast Go.Proofs.YtdajlfijkbafiaaW.PrintMore
attribute [local go_sem] max2_int min2_int max_two min_two max_three min_three max_four min_four
def errW : Option Int → Value
  | none => .nilIface
  | some c => .iface 0 (.int .i64 c)
theorem errW_none : errW none = .nilIface := rfl
theorem errW_some (c : Int) : errW (some c) = .iface 0 (.int .i64 c) := rfl
theorem info2 : (Try.prog.info? 2).map (fun i => (i.zero, i.size, i.bytes)) = some (some (.int .i64 0), 1, 8) := by kernel_rfl
theorem info3 : (Try.prog.info? 3).map (fun i => (i.zero, i.size, i.bytes)) = some (some (.int .i64 0), 1, 8) := by kernel_rfl
theorem info22 : (Try.prog.info? 22).map (fun i => (i.zero, i.size, i.bytes)) = some (some (.slice none 0 0), 1, 24) := by kernel_rfl
theorem info53 : (Try.prog.info? 53).map (fun i => (i.zero, i.size, i.bytes)) = some (some (.slice none 0 0), 1, 24) := by kernel_rfl
def rd_L1 (xs : List (List Int)) (i : Int) : (List Int) := xs.getD i.toNat ([] : List Int)
theorem at_L1 {w : World} {A : Option Addr} {n : Nat} {xs : List (List Int)} (h : Kd.C (Kd.slice 3 (Kd.int .i64)) w A n xs) (i : Int) (h0 : 0 ≤ i) (h1 : i < n) : ∃ ad A0 c0, A = some ad ∧ w.cell? (ad.add i.toNat) = some (.slice A0 (rd_L1 xs i).length c0) ∧ (rd_L1 xs i).length ≤ c0 ∧ (Kd.int .i64).C w A0 (rd_L1 xs i).length (rd_L1 xs i) := by
  obtain ⟨ad, c, e, _, hK, hc0⟩ := Kd.C_get h ([] : List Int) i h0 h1
  have hc : ∀ j u, c[j]? = some u → w.cell? (ad.add (i.toNat * 1 + j)) = some u := hc0
  obtain ⟨A0, c0, rfl, l0, g0⟩ := hK
  exact ⟨ad, A0, c0, e, by have hq := hc 0 _ rfl; rwa [Nat.mul_one, Nat.add_zero] at hq, l0, g0⟩
def rd_L2 (xs : List (List Int)) (i : Int) : (List Int) := xs.getD i.toNat ([] : List Int)
theorem at_L2 {w : World} {A : Option Addr} {n : Nat} {xs : List (List Int)} (h : Kd.C (Kd.slice 2 (Kd.int .i64)) w A n xs) (i : Int) (h0 : 0 ≤ i) (h1 : i < n) : ∃ ad A0 c0, A = some ad ∧ w.cell? (ad.add i.toNat) = some (.slice A0 (rd_L2 xs i).length c0) ∧ (rd_L2 xs i).length ≤ c0 ∧ (Kd.int .i64).C w A0 (rd_L2 xs i).length (rd_L2 xs i) := by
  obtain ⟨ad, c, e, _, hK, hc0⟩ := Kd.C_get h ([] : List Int) i h0 h1
  have hc : ∀ j u, c[j]? = some u → w.cell? (ad.add (i.toNat * 1 + j)) = some u := hc0
  obtain ⟨A0, c0, rfl, l0, g0⟩ := hK
  exact ⟨ad, A0, c0, e, by have hq := hc 0 _ rfl; rwa [Nat.mul_one, Nat.add_zero] at hq, l0, g0⟩
end Go.Proofs.Ytdajlfijkbafiaa.P
namespace Go.Proofs.Ytdajlfijkbafiaa.P
open Go.RowKit Go.Proofs.YtdajlfijkbafiaaW.PrintWords Go.Proofs.YtdajlfijkbafiaaW.PrintLast Go.Proofs.YtdajlfijkbafiaaW.PrintMore
theorem bset_ {w W : World} {g j : Nat} {v : Value} (h : Below w.heap.size w W) (hg : Aside0 (w.heap.size ≤ g)) : Below w.heap.size w (W.setCell ⟨g, j, none⟩ v) := below_set h hg.out
theorem bfar_ {w : World} {g q j : Nat} {t : TypeId} {cs : Array Value} {u : Value} (h : w.heap[g]? = some (.cells cs t (0, 0))) (hp : Aside0 (g ≠ q)) : (w.setCell ⟨q, j, none⟩ u).heap[g]? = some (.cells cs t (0, 0)) := blk_far h hp.out u
theorem bl_ {w V W : World} (H : Aside0 (Below w.heap.size w V)) (c : Below w.heap.size w V → Below w.heap.size w W := by intro h_; repeat (first | (with_reducible first | exact h_ | apply below_alloc | apply pw_below_drewN | apply below_drew1 | refine bset_ ?_ (by assumption)) | exact h_)) : Below w.heap.size w W := c H.out
theorem bs_ {w V W : World} (H : Aside0 (Below w.heap.size w V)) (c : Below w.heap.size w V → Below w.heap.size w W := by intro h_; repeat (first | (with_reducible first | exact h_ | apply below_alloc | apply pw_below_drewN | apply below_drew1 | refine bset_ ?_ (by assumption)) | exact h_)) : w.heap.size ≤ W.heap.size := below_size (c H.out)
theorem BS_ {w V W w1 : World} (H : Aside0 (Below w.heap.size w V)) (hb : Below W.heap.size W w1) (c : Below w.heap.size w V → Below w.heap.size w W := by intro h_; repeat (first | (with_reducible first | exact h_ | apply below_alloc | apply pw_below_drewN | apply below_drew1 | refine bset_ ?_ (by assumption)) | exact h_)) : Aside0 (Below w.heap.size w w1) := ⟨below_step (c H.out) hb⟩
theorem GE_ {w V W : World} {g : Nat} (H : Aside0 (Below w.heap.size w V)) (hg : g = W.heap.size) (c : Below w.heap.size w V → Below w.heap.size w W := by intro h_; repeat (first | (with_reducible first | exact h_ | apply below_alloc | apply pw_below_drewN | apply below_drew1 | refine bset_ ?_ (by assumption)) | exact h_)) : Aside0 (w.heap.size ≤ g) := ⟨hg ▸ below_size (c H.out)⟩
theorem bk_ {w W : World} {g : Nat} {o : Obj} (h : Aside0 (w.heap[g]? = some o)) (c : w.heap[g]? = some o → W.heap[g]? = some o := by intro h_; (with_reducible repeat (first | refine blk_drewN ?_ _ | refine blk_drew ?_ | refine blk_alloc ?_ _ | refine bfar_ ?_ (by assumption))); exact h_) : W.heap[g]? = some o := c h.out
theorem FB_ {w W w1 : World} {g : Nat} {o : Obj} (h : Aside0 (w.heap[g]? = some o)) (hb : Below W.heap.size W w1) (c : w.heap[g]? = some o → W.heap[g]? = some o := by intro h_; (with_reducible repeat (first | refine blk_drewN ?_ _ | refine blk_drew ?_ | refine blk_alloc ?_ _ | refine bfar_ ?_ (by assumption))); exact h_) : Aside0 (w1.heap[g]? = some o) := ⟨blk_below (c h.out) hb⟩
theorem FG_ {w W w1 : World} {g : Nat} {o : Obj} {row : Option Nat} (h : Aside0 (w.heap[g]? = some o)) (hg : W.grownBy w1 row) (hne : some g ≠ row) (c : w.heap[g]? = some o → W.heap[g]? = some o := by intro h_; (with_reducible repeat (first | refine blk_drewN ?_ _ | refine blk_drew ?_ | refine blk_alloc ?_ _ | refine bfar_ ?_ (by assumption))); exact h_) : Aside0 (w1.heap[g]? = some o) := ⟨blk_grown (c h.out) hg hne⟩
theorem kR_ {α : Type} {d : Kd α} {e base : Nat} {w W : World} {ok : Nat → Prop} {v : Value} {xs : List α} (h : Aside0 (Kd.R d e w base ok v xs)) (c : Kd.R d e w base ok v xs → Kd.R d e W base ok v xs := by intro h_; (with_reducible repeat (first | apply Kd.R_alloc | apply Kd.R_drewN | apply Kd.R_drew)); exact h_) : Kd.R d e W base ok v xs := c h.out
theorem FR_ {α : Type} {d : Kd α} {e base : Nat} {w W w1 : World} {ok : Nat → Prop} {v : Value} {xs : List α} (h : Aside0 (Kd.R d e w base ok v xs)) (hb : Below W.heap.size W w1) (c : Kd.R d e w base ok v xs → Kd.R d e W base ok v xs := by intro h_; (with_reducible repeat (first | apply Kd.R_alloc | apply Kd.R_drewN | apply Kd.R_drew)); exact h_) : Aside0 (Kd.R d e w1 base ok v xs) := ⟨Kd.R_below (c h.out) hb⟩
theorem kN_ {α : Type} {d : Kd α} {e base : Nat} {w W : World} {ok : Nat → Prop} {v : Value} {xs : List α} (h : Aside0 (Kd.N d e w base ok v xs)) (c : Kd.N d e w base ok v xs → Kd.N d e W base ok v xs := by intro h_; (with_reducible repeat (first | apply Kd.N_alloc | apply Kd.N_drewN | apply Kd.N_drew)); exact h_) : Kd.N d e W base ok v xs := c h.out
theorem FN_ {α : Type} {d : Kd α} {e base : Nat} {w W w1 : World} {ok : Nat → Prop} {v : Value} {xs : List α} (h : Aside0 (Kd.N d e w base ok v xs)) (hb : Below W.heap.size W w1) (c : Kd.N d e w base ok v xs → Kd.N d e W base ok v xs := by intro h_; (with_reducible repeat (first | apply Kd.N_alloc | apply Kd.N_drewN | apply Kd.N_drew)); exact h_) : Aside0 (Kd.N d e w1 base ok v xs) := ⟨Kd.N_below (c h.out) hb⟩
theorem kV_ {α : Type} {d : Kd α} {e base : Nat} {w W : World} {ok : Nat → Prop} {v : Value} {xs : List α} (h : Aside0 (Kd.V d e w base ok v xs)) (c : Kd.V d e w base ok v xs → Kd.V d e W base ok v xs := by intro h_; (with_reducible repeat (first | apply Kd.V_alloc | apply Kd.V_drewN | apply Kd.V_drew)); exact h_) : Kd.V d e W base ok v xs := c h.out
theorem FV_ {α : Type} {d : Kd α} {e base : Nat} {w W w1 : World} {ok : Nat → Prop} {v : Value} {xs : List α} (h : Aside0 (Kd.V d e w base ok v xs)) (hb : Below W.heap.size W w1) (c : Kd.V d e w base ok v xs → Kd.V d e W base ok v xs := by intro h_; (with_reducible repeat (first | apply Kd.V_alloc | apply Kd.V_drewN | apply Kd.V_drew)); exact h_) : Aside0 (Kd.V d e w1 base ok v xs) := ⟨Kd.V_below (c h.out) hb⟩
theorem kC_ {α : Type} {d : Kd α} {n : Nat} {A : Option Addr} {w V W : World} {xs : List α} (h : Aside0 (Kd.C d w A n xs)) (H : Aside0 (Below w.heap.size w V)) (c : Kd.C d V A n xs → Kd.C d W A n xs := by intro h_; repeat (first | exact h_ | (with_reducible refine Kd.C_alloc ?_ _) | (with_reducible refine Kd.C_drewN ?_ _) | (with_reducible refine Kd.C_drew ?_))) : Kd.C d W A n xs := c (Kd.C_below h.out H.out)
theorem kCt_ {α : Type} {d : Kd α} {n : Nat} {A : Option Addr} {V W : World} {xs : List α} (h : Kd.C d V A n xs) (c : Kd.C d V A n xs → Kd.C d W A n xs := by intro h_; repeat (first | exact h_ | (with_reducible refine Kd.C_alloc ?_ _) | (with_reducible refine Kd.C_drewN ?_ _) | (with_reducible refine Kd.C_drew ?_))) : Kd.C d W A n xs := c h
theorem kbs_ {w W : World} {g j : Nat} {u : Value} (h : KeepBut w W g none) : KeepBut w (W.setCell ⟨g, j, none⟩ u) g none := h.set_ j u
theorem kba_ {w W : World} {g : Nat} {o : Obj} (h : KeepBut w W g none) : KeepBut w (W.alloc o) g none := h.trans (KeepBut.of_below (below_alloc (Below.refl _ _) o) g none) (Or.inl rfl)
theorem kbd_ {w W : World} {g : Nat} (h : KeepBut w W g none) : KeepBut w W.drew g none := h.trans (KeepBut.of_below (below_drew1 (Below.refl _ _)) g none) (Or.inl rfl)
theorem kbn_ {w W : World} {g n : Nat} (h : KeepBut w W g none) : KeepBut w (W.drewN n) g none := h.trans (KeepBut.of_below (pw_below_drewN (Below.refl _ _) n) g none) (Or.inl rfl)
theorem kRk_ {α : Type} {d : Kd α} {e base g t : Nat} {w W : World} {ok : Nat → Prop} {v : Value} {xs : List α} {cells : Array Value} (h : Aside0 (Kd.R d e w base ok v xs)) (b : Aside0 (w.heap[g]? = some (.cells cells t (0, 0)))) (ht : ∀ q, q ∈ e :: d.E → q ≠ t := by decide) (c : KeepBut w W g none := by with_reducible repeat (first | exact KeepBut.refl _ _ _ | refine kbs_ ?_ | refine kba_ ?_ | refine kbd_ ?_ | refine kbn_ ?_)) : Kd.R d e W base ok v xs := Kd.R_mono (Kd.R_keep (Kd.R_types h.out b.out ht) c (fun _ hk => hk.2)) (fun _ hk => hk.1)
theorem bp_ {w W : World} {g : Nat} {o o2 : Obj} (h : Aside0 (w.heap[g]? = some o)) (c : w.heap[g]? = some o → W.heap[g]? = some o2 := by intro h_; (with_reducible repeat (first | refine blk_drewN ?_ _ | refine blk_drew ?_ | refine blk_alloc ?_ _ | refine bfar_ ?_ (by assumption) | (refine blk_put (cs := ?_) ?_ _ _ ?_; rotate_left))); exact h_; all_goals first | (simp only [List.setIfInBounds_toArray, List.set_cons_zero, List.set_cons_succ]; rfl) | (simp only [List.setIfInBounds_toArray, List.set_cons_zero, List.set_cons_succ]; done) | rfl) : W.heap[g]? = some o2 := c h.out
theorem ce_ {w : World} {g : Nat} {t : TypeId} {cs : Array Value} {v : Value} (h : Aside0 (w.heap[g]? = some (.cells cs t (0, 0)))) (i : Nat) (e : cs[i]? = some v := by exact rfl) : w.cell? ⟨g, i, none⟩ = some v := (blk_cell h.out i).trans e
def B_ (n m : Nat) : Array Bool := ((List.range n).map fun i => m.testBit i).toArray
theorem fr_ {n : Nat} {P : Nat → Prop} (h : ∀ k, n ≤ k → P k) : P n := h n (Nat.le_refl n)
theorem ol_ {p : Prop} (c : p := by first | omega | exact Nat.le_refl _) : p := c
theorem kn_ {p : Prop} (c : p := by first | exact Kd.S_nil _ _ _ _ _ | exact Kd.N_nil _ _ _ _ _ | exact Kd.V_nil _ _ _ _ _ | exact Kd.Q_nil _ _ _ _ _ | exact Kd.R_nil _ _ _ _ _) : p := c
theorem pa_ {p : Prop} (c : p := by simp only [putAll, Act.put, List.setIfInBounds_toArray, List.set_cons_zero, List.set_cons_succ]) : p := c
theorem ob_ {α β : Type} {x : Option α} {f : α → Option β} {b : β} (h : x.bind f = some b) : ∃ a, Aside0 (x = some a) ∧ f a = some b := by
  obtain ⟨a, e, k⟩ := Option.bind_eq_some_iff.mp h
  exact ⟨a, ⟨e⟩, k⟩
theorem e1_ {w : World} {g : Nat} {t : TypeId} {x0 : Value} (h : Aside0 (w.heap[g]? = some (.cells #[x0] t (0, 0)))) : w.cell? ⟨g, 0, none⟩ = some x0 ∧ w.frozen? ⟨g, 0, none⟩ = false := ⟨(blk_cell h.out 0).trans rfl, blk_frozen h.out 0⟩
theorem e2_ {w : World} {g : Nat} {t : TypeId} {x0 x1 : Value} (h : Aside0 (w.heap[g]? = some (.cells #[x0, x1] t (0, 0)))) : w.cell? ⟨g, 0, none⟩ = some x0 ∧ w.cell? ⟨g, 1, none⟩ = some x1 ∧ w.frozen? ⟨g, 0, none⟩ = false ∧ w.frozen? ⟨g, 1, none⟩ = false := ⟨(blk_cell h.out 0).trans rfl, (blk_cell h.out 1).trans rfl, blk_frozen h.out 0, blk_frozen h.out 1⟩
theorem e4_ {w : World} {g : Nat} {t : TypeId} {x0 x1 x2 x3 : Value} (h : Aside0 (w.heap[g]? = some (.cells #[x0, x1, x2, x3] t (0, 0)))) : w.cell? ⟨g, 0, none⟩ = some x0 ∧ w.cell? ⟨g, 1, none⟩ = some x1 ∧ w.cell? ⟨g, 2, none⟩ = some x2 ∧ w.cell? ⟨g, 3, none⟩ = some x3 ∧ w.frozen? ⟨g, 0, none⟩ = false ∧ w.frozen? ⟨g, 1, none⟩ = false ∧ w.frozen? ⟨g, 2, none⟩ = false ∧ w.frozen? ⟨g, 3, none⟩ = false := ⟨(blk_cell h.out 0).trans rfl, (blk_cell h.out 1).trans rfl, (blk_cell h.out 2).trans rfl, (blk_cell h.out 3).trans rfl, blk_frozen h.out 0, blk_frozen h.out 1, blk_frozen h.out 2, blk_frozen h.out 3⟩
theorem NN_ {w W : World} {g g1 : Nat} {o : Obj} (h : Aside0 (w.heap[g]? = some o)) (hg : g1 = W.heap.size) (c : w.heap[g]? = some o → W.heap[g]? = some o := by intro h_; (with_reducible repeat (first | refine blk_drewN ?_ _ | refine blk_drew ?_ | refine blk_alloc ?_ _ | refine bfar_ ?_ (by assumption))); exact h_) : Aside0 (g ≠ g1) ∧ Aside0 (g1 ≠ g) := ⟨⟨hg ▸ Nat.ne_of_lt (blk_lt (c h.out))⟩, ⟨hg ▸ Nat.ne_of_gt (blk_lt (c h.out))⟩⟩
theorem NP_ {w W : World} {g g1 : Nat} {o : Obj} (o2e : Obj) (h : Aside0 (w.heap[g]? = some o)) (hg : g1 = W.heap.size) (c : w.heap[g]? = some o → W.heap[g]? = some o2e := by intro h_; (with_reducible repeat (first | refine blk_drewN ?_ _ | refine blk_drew ?_ | refine blk_alloc ?_ _ | refine bfar_ ?_ (by assumption) | (refine blk_put (cs := ?_) ?_ _ _ ?_; rotate_left))); exact h_; all_goals first | (simp only [List.setIfInBounds_toArray, List.set_cons_zero, List.set_cons_succ]; rfl) | (simp only [List.setIfInBounds_toArray, List.set_cons_zero, List.set_cons_succ]; done) | rfl) : Aside0 (g ≠ g1) ∧ Aside0 (g1 ≠ g) := ⟨⟨hg ▸ Nat.ne_of_lt (blk_lt (c h.out))⟩, ⟨hg ▸ Nat.ne_of_gt (blk_lt (c h.out))⟩⟩
theorem sp_ {p : Prop} (c : p := by simp only [Act.put, List.setIfInBounds_toArray, List.set_cons_zero, List.set_cons_succ, i64_w, i32_w]; rfl) : p := c
theorem ar_ {p : Prop} (c : p := by (try simp only [List.map_toArray, List.map_cons, List.map_nil]); first | done | rfl | (simp only [List.length_drop, List.length_take]; rfl)) : p := c
theorem kf_ {p : Prop} (c : p := by kernel_rfl) : p := c
theorem rs_ {p : Prop} (c : p := by first | rfl | (simp; done) | (simp [*]; done)) : p := c
theorem am_ {p : Prop} (c : p := by first | (with_reducible assumption) | assumption) : p := c
section
variable {P : Program} {md : Region.Mode} {ops : Array Oper} {Q : Exit → Act → World → Prop} {S : World → Prop} {ds : List Nat}
theorem pu_ {T : Bool × List (List Nat × List Nat)} {oi : Oper} {v : Value} {fuel : Nat} {l : Array Bool} {a a' : Act} {w : World} (i : Nat) (N : Option Tmp) (l' : Array Bool) (hT : Aside0 (rtab md ops = T)) (h : wpAnyLast P md ops Q S ds fuel l' a' w)
    (hi : ops[i]? = some oi := by exact rfl) (hN : oi.dst = N := by exact rfl) (hc : anyT T l.toList l'.toList i = true := by kernel_rfl) (hQ : ∀ c a w, Q (.panic c) (a.put oi.dst v) w → Q (.panic c) a w := by exact fun _ _ _ h => h)
    (hg : Region.wanted oi (yielded ops a.tmps) = true := by rfl) (hy : ∀ w', (execOp a.eval oi).run P w' = .ok (.value v) w' := by intro w'; go_simp; with_reducible rfl) (ha : a.put N v = a' := by simp only [Act.put, List.setIfInBounds_toArray, List.set_cons_zero, List.set_cons_succ, i64_w, i32_w]; rfl) : wpAnyLast P md ops Q S ds (fuel + 1) l a w :=
  pure_ l' hi hN (any_of hT.out hc) hQ (Or.inl ⟨hg, hy⟩) ha h
end
section
variable {P : Program} {ops : Array Oper} {Q : Exit → Act → World → Prop}
theorem gL_ {rest : List Oper} {oi : Oper} {a : Act} {w : World} (N : Option Tmp) {f : FuncId} {fn : Func} {ao : Array Operand} {ts : Array TypeId} (hf : P.funcs[f]? = some fn) (args : Array Value)
    (h : Calls P f args w fun e w' => ∃ v, e = .returned v ∧ wpList P ops Q rest (a.put N v) w')
    (hd : oi.dst = N := by exact rfl) (hg : oi.guard = none := by exact rfl) (hname : (fn.name == "runtime.NumGoroutine") = false := by kernel_rfl) (hb : fn.body.isSome = true := by exact rfl)
    (hop : oi.op = .call { callee := .value (.func f), args := ao, argTypes := ts } := by exact rfl) (hargs : ao.map a.eval = args := by (try simp only [List.map_toArray, List.map_cons, List.map_nil]); first | done | rfl | (simp only [List.length_drop, List.length_take]; rfl)) : wpList P ops Q (oi :: rest) a w :=
  goesL_ N hd hg hf hname hb args hop hargs h
theorem bx_ {rest : List Oper} {o : Oper} {a : Act} {w V W : World} (H : Aside0 (Below w.heap.size w V)) (N : Tmp) (cs : Array Value) (t : TypeId)
    (h : ∀ g, g = W.heap.size → ∀ w1, Below W.heap.size W w1 → Aside0 (w1.heap[g]? = some (.cells cs t (0, 0))) → Aside0 (w.heap.size ≤ g) → Aside0 (Below w.heap.size w w1) → wpList P ops Q rest (a.put o.dst (.pointer (some ⟨g, 0, none⟩))) w1)
    (hd : o.dst = some N := by exact rfl) (hgd : o.guard = none := by exact rfl)
    (hrun : (execOp a.eval o).run P W = .ok (.value (.pointer (some ⟨W.heap.size, 0, none⟩))) (W.alloc (.cells cs t (0, 0))) := by first | (go_simp; done) | (go_simp; rfl))
    (c : Below w.heap.size w V → Below w.heap.size w W := by intro h_; repeat (first | (with_reducible first | exact h_ | apply below_alloc | apply pw_below_drewN | apply below_drew1 | refine bset_ ?_ (by assumption)) | exact h_)) : wpList P ops Q (o :: rest) a W :=
  box_event hgd hd hrun fun g hg w1 hb hB => h g hg w1 hB ⟨hb⟩ ⟨hg ▸ below_size (c H.out)⟩ ⟨below_step (c H.out) hB⟩
theorem box_ {rest : List Oper} {o : Oper} {a : Act} {W : World} (N : Tmp) (cs : Array Value) (t : TypeId)
    (h : ∀ g, g = W.heap.size → ∀ w1, w1.heap[g]? = some (.cells cs t (0, 0)) → Below W.heap.size W w1 → wpList P ops Q rest (a.put o.dst (.pointer (some ⟨g, 0, none⟩))) w1)
    (hd : o.dst = some N := by exact rfl) (hgd : o.guard = none := by exact rfl)
    (hrun : (execOp a.eval o).run P W = .ok (.value (.pointer (some ⟨W.heap.size, 0, none⟩))) (W.alloc (.cells cs t (0, 0))) := by first | (go_simp; done) | (go_simp; rfl)) : wpList P ops Q (o :: rest) a W := box_event hgd hd hrun h
end
theorem er_ {p : Prop} (c : p := by first | rfl | (simp [errW_none, errW_some] <;> rfl) | (simp [*, errW_none, errW_some] <;> rfl)) : p := c
theorem es_ {p : Prop} (c : p := by first | rfl | (simp; done) | (simp [*]; done)) : p := c
theorem dr_ {p : Prop} (c : p := by repeat (first | exact Drawn0.refl _ | apply Drawn0.step)) : p := c
theorem gt_ {p : Prop} [Decidable p] {β : Type} {a : Option β} {r : β} (H : (if p then a else none) = some r) : p ∧ a = some r := by
  by_cases c : p
  · rw [if_pos c] at H; exact ⟨c, H⟩
  · rw [if_neg c] at H; cases H
theorem gd_ {p : Prop} [Decidable p] {β : Type} {a : Option β} {r : β} (H : (if p then a else none) = some r) : decide p = true ∧ a = some r := ⟨decide_eq_true (gt_ H).1, (gt_ H).2⟩
theorem ii_ {p : Prop} [Decidable p] {α : Type} {a b r : α} (H : (if p then a else b) = r) : (p ∧ a = r) ∨ (¬p ∧ b = r) := by
  by_cases c : p
  · rw [if_pos c] at H; exact .inl ⟨c, H⟩
  · rw [if_neg c] at H; exact .inr ⟨c, H⟩
theorem id_ {p : Prop} [Decidable p] {α : Type} {a b r : α} (H : (if p then a else b) = r) : (decide p = true ∧ a = r) ∨ (decide p = false ∧ b = r) := (ii_ H).imp (fun h => ⟨decide_eq_true h.1, h.2⟩) (fun h => ⟨decide_eq_false h.1, h.2⟩)
theorem ib_ {t : Bool} {α : Type} {a b r : α} (H : (if t = true then a else b) = r) : (t = true ∧ a = r) ∨ (t = false ∧ b = r) := (ii_ H).imp id (fun h => ⟨Bool.eq_false_iff.mpr h.1, h.2⟩)
theorem ie_ {β : Type} [BEq β] [LawfulBEq β] {x y : β} [Decidable (x = y)] {α : Type} {a b r : α} (H : (if x = y then a else b) = r) : ((x == y) = true ∧ (x != y) = false ∧ a = r) ∨ (¬x = y ∧ (x == y) = false ∧ (x != y) = true ∧ b = r) := (ii_ H).imp (fun h => ⟨beq_iff_eq.mpr h.1, bne_eq_false_iff_eq.mpr h.1, h.2⟩) (fun h => ⟨h.1, beq_eq_false_iff_ne.mpr h.1, bne_iff_ne.mpr h.1, h.2⟩)
theorem by_ {α β : Type} {e y : α} {f : α → Option β} {r : Option β} (H : (some e).bind f = r) (hy : y = e) : f y = r := by subst hy; exact H
theorem dm_ {p : Prop} [Decidable p] (h : decide p = true := by first | (with_reducible assumption) | assumption) : p := of_decide_eq_true h
theorem hc_ {w W : World} (HB : Aside0 (Below w.heap.size w W)) {p : Addr} {v : Value} (hx : w.cell? p = some v) : W.cell? p = some v := (HB.out.cell (World.block_lt_of_cell? w _ hx)).trans hx
theorem cj_ {p : Prop} (c : p := by intro k_ hk; revert hk; try simp only [and_imp]; intros; (repeat' with_reducible apply And.intro) <;> first | (with_reducible assumption) | assumption) : p := c
abbrev no_ (k : Nat) (v : Value) : Prop := some k ≠ v.ownBlock
theorem a_ {p : Prop} (h : p) : Aside0 p := ⟨h⟩
end Go.Proofs.Ytdajlfijkbafiaa.P
namespace Go.Proofs.Ytdajlfijkbafiaa.P
open Go.RowKit Go.Proofs.YtdajlfijkbafiaaW.PrintWords Go.Proofs.YtdajlfijkbafiaaW.PrintLast Go.Proofs.YtdajlfijkbafiaaW.PrintMore
attribute [local go_sem] max2_int min2_int max_two min_two max_three min_three max_four min_four
def psalterylaw16_As.f (a0 : Int) (b0 : Int) (c0 : List Int) (d0 : List Int) : Option (Int × Int) := some (a0, b0)
set_option maxHeartbeats 8000000 in
set_option maxRecDepth 100000 in
theorem psalterylaw16_As.calls (d0 : Int) (e0 : Int) (f0 : Option Addr) (g0 : Nat) (a0 : List Int) (h0 : Option Addr) (i0 : Nat) (b0 : List Int) (r1 : Int) (r2 : Int) (w : World) (hr0_2 : Kd.C (Kd.int .i64) w f0 a0.length a0) (hc0_2 : a0.length ≤ g0) (hr0_3 : Kd.C (Kd.int .i64) w h0 b0.length b0) (hc0_3 : b0.length ≤ i0) (h : psalterylaw16_As.f d0 e0 a0 b0 = some (r1, r2)) :
    Calls Try.prog 11 #[.agg #[.int .i64 d0, .int .i64 e0, .slice f0 a0.length g0, .slice h0 b0.length i0]] w fun e w' => e = .returned (.agg #[.int .i64 r1, .int .i64 r2, .slice f0 a0.length g0, .slice h0 b0.length i0]) ∧ Below w.heap.size w w' := by
 have O0 := Try.underlying24
 have P0 := Try.underlying31
 have H0 := a_ hr0_2
 have I0 := a_ hc0_2
 clear hr0_2 hc0_2
 have J0 := a_ hr0_3
 have K0 := a_ hc0_3
 clear hr0_3 hc0_3
 have HB := a_ (Below.refl w.heap.size w)
 have H : (some (d0, e0)) = some (r1, r2) := h
 clear h
 simp only [Option.some.injEq, Prod.mk.injEq] at H
 obtain ⟨rfl, rfl⟩ := H
 go_enter Try.func11, Try.ntmps11
 go_wp2_with (first | ((with_reducible refine gate_dst (N := 1) rfl ?_); refine bx_ HB 1 #[.int .i64 d0, .int .i64 e0, .slice f0 a0.length g0, .slice h0 b0.length i0] 24 ?_; clear HB; intro L0 hg w2 hb c0 m0 HB; have M0 := m0; clear hb hg) | ((with_reducible refine gate_dst (N := 2) rfl ?_); refine bx_ HB 2 #[.int .i64 0, .int .i64 0, .slice none 0 0, .slice none 0 0] 31 ?_; clear HB; intro n0 hg w3 hb l0 o0 HB; have N0 := o0; obtain ⟨j0, k0⟩ := NN_ c0 hg; replace c0 := FB_ c0 hb; clear hb hg; have Q0 := j0.out; have R0 := k0.out; obtain ⟨p0, q0, r0, s0, t0, v0, w0, y0⟩ := e4_ c0; obtain ⟨z0, A0, B0, C0, D0, E0, F0, G0⟩ := e4_ l0))
 refine bodyPost_ret (results_cell_row rfl _ _ n0 31 #[.int .i64 d0, .int .i64 e0, .slice f0 a0.length g0, .slice h0 b0.length i0] (0, 0) _ rfl (bp_ l0) Try.underlying31 rfl kf_) rfl ?_
 exact ⟨er_, bl_ HB⟩
def psalterylaw17_As.f (a0 : List (List Int)) (b0 : List (List Int)) : Option (Unit) := some ()
set_option maxHeartbeats 8000000 in
set_option maxRecDepth 100000 in
theorem psalterylaw17_As.calls (d0 : Option Addr) (e0 : Nat) (a0 : List (List Int)) (f0 : Option Addr) (g0 : Nat) (b0 : List (List Int)) (w : World) (hr0_0 : Kd.C (Kd.slice 3 (Kd.int .i64)) w d0 a0.length a0) (hc0_0 : a0.length ≤ e0) (hr0_1 : Kd.C (Kd.slice 2 (Kd.int .i64)) w f0 b0.length b0) (hc0_1 : b0.length ≤ g0) (h : psalterylaw17_As.f a0 b0 = some ()) :
    Calls Try.prog 12 #[.agg #[.slice d0 a0.length e0, .slice f0 b0.length g0]] w fun e w' => e = .returned (.agg #[.slice d0 a0.length e0, .slice f0 b0.length g0]) ∧ Below w.heap.size w w' := by
 have E0 := Try.underlying28
 have F0 := Try.underlying33
 have w0 := a_ hr0_0
 have y0 := a_ hc0_0
 clear hr0_0 hc0_0
 have z0 := a_ hr0_1
 have A0 := a_ hc0_1
 clear hr0_1 hc0_1
 have HB := a_ (Below.refl w.heap.size w)
 have H : (some ()) = some () := h
 clear h
 go_enter Try.func12, Try.ntmps12
 go_wp2_with (first | ((with_reducible refine gate_dst (N := 1) rfl ?_); refine bx_ HB 1 #[.slice d0 a0.length e0, .slice f0 b0.length g0] 28 ?_; clear HB; intro B0 hg w2 hb c0 k0 HB; have C0 := k0; clear hb hg) | ((with_reducible refine gate_dst (N := 2) rfl ?_); refine bx_ HB 2 #[.slice none 0 0, .slice none 0 0] 33 ?_; clear HB; intro l0 hg w3 hb j0 m0 HB; have D0 := m0; obtain ⟨h0, i0⟩ := NN_ c0 hg; replace c0 := FB_ c0 hb; clear hb hg; have G0 := h0.out; have H0 := i0.out; obtain ⟨n0, o0, p0, q0⟩ := e2_ c0; obtain ⟨r0, s0, t0, v0⟩ := e2_ j0))
 refine bodyPost_ret (results_cell_row rfl _ _ l0 33 #[.slice d0 a0.length e0, .slice f0 b0.length g0] (0, 0) _ rfl (bp_ j0) Try.underlying33 rfl kf_) rfl ?_
 exact ⟨er_, bl_ HB⟩
def huff_used.l0 : Nat → Int → List Int → Int → Int → Option (Int)
  | 0, _, _, _, _ => none
  | k + 1, x3, x6, x7, x8 => if x8 < x7 then (if 0 ≤ x8 then (if x8 < (x6.length : Int) then (if (rd x6 x8) > 0 then (huff_used.l0 k (wrap64 (x3 + 1)) x6 x7 (wrap64 (x8 + 1))) else (huff_used.l0 k x3 x6 x7 (wrap64 (x8 + 1)))) else (none)) else (none)) else (some x3)
def huff_used.f (k : Nat) (l0 : List Int) : Option (Int) := huff_used.l0 k 0 l0 (l0.length : Int) 0
theorem huff_used.mono_l : ∀ k, (∀ y0 y1 y2 y3, LeO (huff_used.l0 k y0 y1 y2 y3) (huff_used.l0 (k + 1) y0 y1 y2 y3))
  | 0 => fun _ _ _ _ r h => by simp [huff_used.l0] at h
  | k + 1 => by
    have a0 := huff_used.mono_l k
    · intro y0 y1 y2 y3
      unfold huff_used.l0
      with_reducible repeat' first
   | apply a0
   | exact LeO.refl _
   | exact LeO.none _
   | refine LeO.ite ?_ ?_
   | refine LeO.bind ?_ (fun _ => ?_)
theorem huff_used.mono : ∀ a0 k, LeO (huff_used.f k a0) (huff_used.f (k + 1) a0) := by
  intro a0 k
  have b0 := huff_used.mono_l k
  unfold huff_used.f
  with_reducible repeat' first
   | apply b0
   | exact LeO.refl _
   | exact LeO.none _
   | refine LeO.ite ?_ ?_
   | refine LeO.bind ?_ (fun _ => ?_)
set_option maxHeartbeats 8000000 in
set_option maxRecDepth 100000 in
theorem huff_used.calls (k : Nat) (A0 : Option Addr) (c0 : Nat) (l0 : List Int) (r : Int) (w : World) (hr0 : Kd.C (Kd.int .i64) w A0 l0.length l0) (hc0 : l0.length ≤ c0) (h : huff_used.f k l0 = some r) :
    Calls Try.prog 115 #[.slice A0 l0.length c0] w fun e w' => e = .returned (.int .i64 r) ∧ Drawn0 w w' := by
 have j0 := a_ hr0
 have p0 := a_ hc0
 clear hr0 hc0
 have H : (huff_used.l0 k 0 l0 (l0.length : Int) 0) = some r := h
 clear h
 have H' := a_ H
 clear H
 go_enter Try.func115, Try.ntmps115
 go_wp2
 go_loopg [3, 8] k (fun kq v3 v8 w' => ∃ (e0 : Int) (a0 : Int), v3 = .int .i64 e0 ∧ v8 = .int .i64 a0 ∧ Aside0 (huff_used.l0 kq e0 l0 (l0.length : Int) a0 = some r) ∧ Aside0 (kq ≤ k) ∧ Drawn0 w w')
 case atStart => exact ⟨(0), (0), rs_, rs_, H', ⟨Nat.le_refl _⟩, dr_⟩
 case round => (
 clear H'
 obtain ⟨e0, a0, rfl, rfl, HA, g0, ⟨m1, rfl⟩⟩ := hrel
 cases gk with
 | zero => exact absurd HA.out (by simp [huff_used.l0])
 | succ k1 => (
 have H := HA.out
 clear HA
 simp only [huff_used.l0] at H
 replace H := id_ H
 rcases H with ⟨k0, H⟩ | ⟨k0, H⟩
 {
 replace H := gd_ H
 obtain ⟨n0, H⟩ := H
 replace H := gd_ H
 obtain ⟨o0, H⟩ := H
 replace H := ii_ H
 rcases H with ⟨c5, H⟩ | ⟨c5, H⟩
 {
 have m0 : decide (0 < (rd l0 a0)) = true := decide_eq_true c5
 clear c5
 have H' := a_ H
 clear H
 have b0 : 0 ≤ (a0 : Int) := dm_
 have d0 : a0 < (l0.length : Int) := dm_
 obtain ⟨i0, f0, h0⟩ := Kd.at_int j0.out a0 b0 d0
 cases f0
 replace b0 := eq_true b0
 replace d0 := eq_true d0
 go_wp2
 go_roundg k1
 case measure => have := g0.out; omega
 case rel => exact ⟨(wrap64 (e0 + 1)), (wrap64 (a0 + 1)), rs_, rs_, H', ⟨by have := g0.out; omega⟩, dr_⟩}
 {
 have m0 : decide (0 < (rd l0 a0)) = false := decide_eq_false c5
 clear c5
 have H' := a_ H
 clear H
 have b0 : 0 ≤ (a0 : Int) := dm_
 have d0 : a0 < (l0.length : Int) := dm_
 obtain ⟨i0, f0, h0⟩ := Kd.at_int j0.out a0 b0 d0
 cases f0
 replace b0 := eq_true b0
 replace d0 := eq_true d0
 go_wp2
 go_roundg k1
 case measure => have := g0.out; omega
 case rel => exact ⟨(e0), (wrap64 (a0 + 1)), rs_, rs_, H', ⟨by have := g0.out; omega⟩, dr_⟩}}
 {
 obtain rfl := Option.some.inj H
 go_wp2
 go_ret
 exact ⟨es_, dr_⟩}))
mutual
def huff_Right.j0 : Nat → List Int → Bool → Option (Bool)
  | 0, _, _ => none
  | k + 1, x0, a0 => if a0 = true then (some false) else (huff_Right.l0 k x0 0 x0 (x0.length : Int) 0)
def huff_Right.l0 : Nat → List Int → Int → List Int → Int → Int → Option (Bool)
  | 0, _, _, _, _, _ => none
  | k + 1, x0, x3, b0, c0, a0 => if a0 < c0 then (if 0 ≤ a0 then (if a0 < (b0.length : Int) then (if (rd b0 a0) < 0 then (huff_Right.j2 k x0 x3 (rd b0 a0) b0 c0 a0 true) else (huff_Right.j2 k x0 x3 (rd b0 a0) b0 c0 a0 (decide ((rd b0 a0) > 16)))) else (none)) else (none)) else ((huff_used.f k x0).bind fun d0 => (if d0 = 1 then (some (x3 == 32768)) else (some (x3 == 65536))))
def huff_Right.j2 : Nat → List Int → Int → Int → List Int → Int → Int → Bool → Option (Bool)
  | 0, _, _, _, _, _, _, _ => none
  | k + 1, x0, x3, x5, a0, b0, c0, d0 => if d0 = true then (some false) else (if x5 > 0 then (if 0 ≤ (wrap64 (16 - x5)) then (huff_Right.l0 k x0 (wrap64 (x3 + (shl .i64 1 (wrap64 (16 - x5))))) a0 b0 (wrap64 (c0 + 1))) else (none)) else (huff_Right.l0 k x0 x3 a0 b0 (wrap64 (c0 + 1))))
end
def huff_Right.f (k : Nat) (l0 : List Int) : Option (Bool) := if (l0.length : Int) < 2 then (huff_Right.j0 k l0 true) else (huff_Right.j0 k l0 (decide ((l0.length : Int) > 64)))
theorem huff_Right.mono_l : ∀ k, (∀ y0 y1, LeO (huff_Right.j0 k y0 y1) (huff_Right.j0 (k + 1) y0 y1)) ∧ (∀ y0 y1 y2 y3 y4, LeO (huff_Right.l0 k y0 y1 y2 y3 y4) (huff_Right.l0 (k + 1) y0 y1 y2 y3 y4)) ∧ (∀ y0 y1 y2 y3 y4 y5 y6, LeO (huff_Right.j2 k y0 y1 y2 y3 y4 y5 y6) (huff_Right.j2 (k + 1) y0 y1 y2 y3 y4 y5 y6))
  | 0 => ⟨fun _ _ r h => by simp [huff_Right.j0] at h, fun _ _ _ _ _ r h => by simp [huff_Right.l0] at h, fun _ _ _ _ _ _ _ r h => by simp [huff_Right.j2] at h⟩
  | k + 1 => by
    obtain ⟨a0, b0, c0⟩ := huff_Right.mono_l k
    refine ⟨?_, ?_, ?_⟩
    all_goals (intros; first | unfold huff_Right.j0 | unfold huff_Right.l0 | unfold huff_Right.j2)
    all_goals with_reducible repeat' first
     | apply a0
     | exact b0 _ _ _ _ _
     | exact c0 _ _ _ _ _ _ _
     | apply huff_used.mono
     | exact LeO.refl _
     | exact LeO.none _
     | refine LeO.ite ?_ ?_
     | refine LeO.bind ?_ (fun _ => ?_)
theorem huff_Right.mono : ∀ a0 k, LeO (huff_Right.f k a0) (huff_Right.f (k + 1) a0) := by
  intro a0 k
  obtain ⟨b0, c0, d0⟩ := huff_Right.mono_l k
  unfold huff_Right.f
  with_reducible repeat' first
   | apply b0
   | exact c0 _ _ _ _ _
   | exact d0 _ _ _ _ _ _ _
   | apply huff_used.mono
   | exact LeO.refl _
   | exact LeO.none _
   | refine LeO.ite ?_ ?_
   | refine LeO.bind ?_ (fun _ => ?_)
set_option maxHeartbeats 8000000 in
set_option maxRecDepth 100000 in
theorem huff_Right.calls (k : Nat) (A0 : Option Addr) (c0 : Nat) (l0 : List Int) (r : Bool) (w : World) (hr0 : Kd.C (Kd.int .i64) w A0 l0.length l0) (hc0 : l0.length ≤ c0) (h : huff_Right.f k l0 = some r) :
    Calls Try.prog 101 #[.slice A0 l0.length c0] w fun e w' => e = .returned (.bool r) ∧ Drawn0 w w' := by
 have t0 := a_ hr0
 have F0 := a_ hc0
 clear hr0 hc0
 have H : (if (l0.length : Int) < 2 then (huff_Right.j0 k l0 true) else (huff_Right.j0 k l0 (decide ((l0.length : Int) > 64)))) = some r := h
 clear h
 have v0 := a_ H
 clear H
 go_enter Try.func101, Try.ntmps101
 go_upto_region 1 with (fail)
 go_cut [13] (fun L0 wc => ∃ (kq : Nat) (h0 : Bool), L0 = .bool h0 ∧ Aside0 (huff_Right.j0 kq l0 h0 = some r) ∧ Aside0 (kq ≤ k) ∧ Drawn0 w wc)
 case first => (
 have H := v0.out
 clear v0
 replace H := ii_ H
 rcases H with ⟨c3, H⟩ | ⟨c3, H⟩
 {
 have k0 : decide ((l0.length : Int) < 2) = true := decide_eq_true c3
 have H0 : decide (l0.length < 2) = true := decide_eq_true (by omega)
 clear c3
 (first | rw [k0] | (simp only [i64_w, i32_w]; rw [k0]) | skip)
 have H' := a_ H
 clear H
 go_wp2
 go_meet
 case rel => exact ⟨_, (true), rs_, H', ⟨ol_⟩, dr_⟩}
 {
 have k0 : decide ((l0.length : Int) < 2) = false := decide_eq_false c3
 have H0 : decide (l0.length < 2) = false := decide_eq_false (by omega)
 clear c3
 (first | rw [k0] | (simp only [i64_w, i32_w]; rw [k0]) | skip)
 have H' := a_ H
 clear H
 go_wp2
 go_meet
 case rel => exact ⟨_, (decide ((l0.length : Int) > 64)), rs_, H', ⟨ol_⟩, dr_⟩})
 case rest => (
 clear v0
 obtain ⟨kq, h0, rfl, HA, HJ1, ⟨mc1, rfl⟩⟩ := hcut
 cases kq with
 | zero => exact absurd HA.out (by simp [huff_Right.j0])
 | succ kj1 => (
 have H := HA.out
 clear HA
 simp only [huff_Right.j0] at H
 by_cases c4 : h0 = true
 {
 subst c4
 rw [if_pos rfl] at H
 obtain rfl := Option.some.inj H
 go_wp2
 go_ret
 exact ⟨es_, dr_⟩}
 {
 replace c4 := Bool.eq_false_iff.mpr c4
 subst c4
 rw [if_neg (show ¬ (false = true) by decide)] at H
 have H' := a_ H
 clear H
 go_wp2
 go_loopg [3, 16] kj1 (fun kq v3 M0 w' => ∃ (d0 : Int) (a0 : Int), v3 = .int .i64 d0 ∧ M0 = .int .i64 a0 ∧ Aside0 (huff_Right.l0 kq l0 d0 l0 (l0.length : Int) a0 = some r) ∧ Aside0 (kq ≤ kj1) ∧ Drawn0 w w')
 case atStart => exact ⟨(0), (0), rs_, rs_, H', ⟨Nat.le_refl _⟩, dr_⟩
 case round => (
 clear H'
 try clear c4
 obtain ⟨d0, a0, rfl, rfl, HA, n0, ⟨m2, rfl⟩⟩ := hrel
 cases gk with
 | zero => exact absurd HA.out (by simp [huff_Right.l0])
 | succ k2 => (
 have H := HA.out
 clear HA
 simp only [huff_Right.l0] at H
 replace H := id_ H
 rcases H with ⟨w0, H⟩ | ⟨w0, H⟩
 {
 replace H := gd_ H
 obtain ⟨I0, H⟩ := H
 replace H := gd_ H
 obtain ⟨J0, H⟩ := H
 have y0 := a_ H
 clear H
 have o0 : 0 ≤ (a0 : Int) := dm_
 have p0 : a0 < (l0.length : Int) := dm_
 obtain ⟨O0, K0, s0⟩ := Kd.at_int t0.out a0 o0 p0
 cases K0
 replace o0 := eq_true o0
 replace p0 := eq_true p0
 go_upto_region 7 with (fail)
 go_cut [25] (fun N0 wc => ∃ (kq : Nat) (i0 : Bool), N0 = .bool i0 ∧ Aside0 (huff_Right.j2 kq l0 d0 (rd l0 a0) l0 (l0.length : Int) a0 i0 = some r) ∧ Aside0 (kq ≤ k2) ∧ Drawn0 w wc)
 case first => (
 have H := y0.out
 clear y0
 replace H := id_ H
 rcases H with ⟨m0, H⟩ | ⟨m0, H⟩
 {
 (first | rw [m0] | (simp only [i64_w, i32_w]; rw [m0]) | skip)
 have H' := a_ H
 clear H
 go_wp2
 go_meet
 case rel => exact ⟨_, (true), rs_, H', ⟨by have := HJ1.out; have := n0.out; first | omega | exact Nat.le_refl _⟩, dr_⟩}
 {
 (first | rw [m0] | (simp only [i64_w, i32_w]; rw [m0]) | skip)
 have H' := a_ H
 clear H
 go_wp2
 go_meet
 case rel => exact ⟨_, (decide ((rd l0 a0) > 16)), rs_, H', ⟨by have := HJ1.out; have := n0.out; first | omega | exact Nat.le_refl _⟩, dr_⟩})
 case rest => (
 clear y0
 try clear c4
 try clear c5
 try clear w0
 try clear c6
 try clear I0
 try clear c7
 try clear J0
 try clear s0
 try clear o0
 try clear p0
 obtain ⟨kq, i0, rfl, HA, HJ7, ⟨mc7, rfl⟩⟩ := hcut
 cases kq with
 | zero => exact absurd HA.out (by simp [huff_Right.j2])
 | succ kj7 => (
 have H := HA.out
 clear HA
 simp only [huff_Right.j2] at H
 by_cases r0 : i0 = true
 {
 subst r0
 rw [if_pos rfl] at H
 obtain rfl := Option.some.inj H
 go_wp2
 go_ret
 exact ⟨es_, dr_⟩}
 {
 replace r0 := Bool.eq_false_iff.mpr r0
 subst r0
 rw [if_neg (show ¬ (false = true) by decide)] at H
 replace H := ii_ H
 rcases H with ⟨q0, H⟩ | ⟨q0, H⟩
 {
 have C0 : decide (0 < (rd l0 a0)) = true := decide_eq_true q0
 clear q0
 obtain ⟨b0, f0⟩ : ∃ j_ : Int, (wrap64 (16 - (rd l0 a0))) = j_ := ⟨_, rfl⟩
 replace H : (if 0 ≤ (b0) then (huff_Right.l0 kj7 l0 (wrap64 (d0 + (shl .i64 1 (b0)))) l0 (l0.length : Int) (wrap64 (a0 + 1))) else (none)) = some r := by first | (rw [f0] at H; exact H) | (simp only [f0] at H ⊢; exact H)
 have hji12w : (IntKind.i64.wrap (16 - (rd l0 a0))) = b0 := (i64_w _).trans f0
 replace H := gt_ H
 obtain ⟨z0, H⟩ := H
 have P0 := eq_true z0
 have Q0 : decide (0 ≤ (b0)) = true := decide_eq_true z0
 clear z0
 obtain ⟨e0, g0⟩ : ∃ j_ : Int, (shl .i64 1 (b0)) = j_ := ⟨_, rfl⟩
 replace H : (huff_Right.l0 kj7 l0 (wrap64 (d0 + (e0))) l0 (l0.length : Int) (wrap64 (a0 + 1))) = some r := by first | (rw [g0] at H; exact H) | (simp only [g0] at H ⊢; exact H)
 have hji14_ : (IntKind.i64.wrap (1 * 2 ^ min (b0).toNat 64)) = e0 := g0
 have hji14z : (b0) ≤ 64 → (IntKind.i64.wrap (1 * 2 ^ (b0).toNat)) = e0 := shl_small g0
 have hji14u : (IntKind.i64.wrap (2 ^ min (b0).toNat 64)) = e0 := by have h_ := hji14_; rw [Int.one_mul] at h_; exact h_
 have hji14v : (b0) ≤ 64 → (IntKind.i64.wrap (2 ^ (b0).toNat)) = e0 := fun hle_ => by have h_ := hji14z hle_; rw [Int.one_mul] at h_; exact h_
 have hji14y : (wrap64 (1 * 2 ^ min (b0).toNat 64)) = e0 := (i64_w _).symm.trans hji14_
 have hji14x : (b0) ≤ 64 → (wrap64 (1 * 2 ^ (b0).toNat)) = e0 := fun h_ => (i64_w _).symm.trans (hji14z h_)
 have H' := a_ H
 clear H
 (try subst f0)
 go_wp2
 first | go_roundg kj7 | (subst f0; go_roundg kj7)
 case measure => have := HJ1.out; have := n0.out; have := HJ7.out; omega
 case rel => exact ⟨(wrap64 (d0 + (e0))), (wrap64 (a0 + 1)), (by first | rfl | (simp; done) | (simp only [← g0] <;> (first | rfl | simp)) | (simp [*]; done)), rs_, H', ⟨by have := HJ1.out; have := n0.out; have := HJ7.out; omega⟩, dr_⟩}
 {
 have C0 : decide (0 < (rd l0 a0)) = false := decide_eq_false q0
 clear q0
 have H' := a_ H
 clear H
 go_wp2
 go_roundg kj7
 case measure => have := HJ1.out; have := n0.out; have := HJ7.out; omega
 case rel => exact ⟨(d0), (wrap64 (a0 + 1)), rs_, rs_, H', ⟨by have := HJ1.out; have := n0.out; have := HJ7.out; omega⟩, dr_⟩}}))}
 {
 obtain ⟨B0, G0, H⟩ := ob_ H
 (try dsimp only at H)
 replace H := ie_ H
 rcases H with ⟨D0, E0, H⟩ | ⟨R0, D0, E0, H⟩
 {
 obtain rfl := Option.some.inj H
 go_wp2_with (first | ((with_reducible refine gate_callee (f := 115) rfl ?_); refine gL_ (some 35) Try.func115 #[.slice A0 l0.length c0] ?_; (with_reducible refine (huff_used.calls k2 _ _ l0 B0 _ ?side1 ?side2 G0.out).mono ?_); (case side1 => repeat (first | exact t0.out | (with_reducible refine Kd.C_alloc ?_ _) | (with_reducible refine Kd.C_drewN ?_ _) | (with_reducible refine Kd.C_drew ?_))); (case side2 => exact F0.out); rintro e w' ⟨rfl, ⟨nd, rfl⟩⟩; refine ⟨_, rfl, ?_⟩))
 go_ret
 exact ⟨es_, dr_⟩}
 {
 obtain rfl := Option.some.inj H
 go_wp2_with (first | ((with_reducible refine gate_callee (f := 115) rfl ?_); refine gL_ (some 35) Try.func115 #[.slice A0 l0.length c0] ?_; (with_reducible refine (huff_used.calls k2 _ _ l0 B0 _ ?side1 ?side2 G0.out).mono ?_); (case side1 => repeat (first | exact t0.out | (with_reducible refine Kd.C_alloc ?_ _) | (with_reducible refine Kd.C_drewN ?_ _) | (with_reducible refine Kd.C_drew ?_))); (case side2 => exact F0.out); rintro e w' ⟨rfl, ⟨nd, rfl⟩⟩; refine ⟨_, rfl, ?_⟩))
 go_ret
 exact ⟨es_, dr_⟩}}))}))
def vhead_book.f (k : Nat) (l0 : List Int) (a1 : Int) : Option (Bool) := if (l0.length : Int) = a1 then ((huff_Right.f k l0).bind fun a0 => (some a0)) else (some false)
theorem vhead_book.mono : ∀ a0 a1 k, LeO (vhead_book.f k a0 a1) (vhead_book.f (k + 1) a0 a1) := by
  intro a0 a1 k
  unfold vhead_book.f
  with_reducible repeat' first
   | apply huff_Right.mono
   | exact LeO.refl _
   | exact LeO.none _
   | refine LeO.ite ?_ ?_
   | refine LeO.bind ?_ (fun _ => ?_)
set_option maxHeartbeats 8000000 in
set_option maxRecDepth 100000 in
theorem vhead_book.calls (k : Nat) (A0 : Option Addr) (c0 : Nat) (l0 : List Int) (a1 : Int) (r : Bool) (w : World) (hr0 : Kd.C (Kd.int .i64) w A0 l0.length l0) (hc0 : l0.length ≤ c0) (h : vhead_book.f k l0 a1 = some r) :
    Calls Try.prog 79 #[.slice A0 l0.length c0, .int .i64 a1] w fun e w' => e = .returned (.bool r) ∧ Drawn0 w w' := by
 have f0 := a_ hr0
 have g0 := a_ hc0
 clear hr0 hc0
 have H : (if (l0.length : Int) = a1 then ((huff_Right.f k l0).bind fun a0 => (some a0)) else (some false)) = some r := h
 clear h
 replace H := ie_ H
 rcases H with ⟨d0, e0, H⟩ | ⟨c3, d0, e0, H⟩
 {
 replace H := Option.bind_eq_some_iff.mp H
 obtain ⟨a0, b0, H⟩ := H
 replace H : (some a0) = some r := H
 have A4 := a_ b0
 clear b0
 obtain rfl := Option.some.inj H
 go_enter Try.func79, Try.ntmps79
 go_wp2_with (first | (go_at_call 101; (with_reducible refine (huff_Right.calls k _ _ l0 a0 _ ?side1 ?side2 A4.out).mono ?_); (case side1 => repeat (first | exact f0.out | (with_reducible refine Kd.C_alloc ?_ _) | (with_reducible refine Kd.C_drewN ?_ _) | (with_reducible refine Kd.C_drew ?_))); (case side2 => exact g0.out); rintro e w' ⟨rfl, ⟨nd, rfl⟩⟩))
 go_ret
 exact ⟨es_, dr_⟩}
 {
 obtain rfl := Option.some.inj H
 go_enter Try.func79, Try.ntmps79
 go_wp2
 go_ret
 exact ⟨es_, dr_⟩}
def vhead_Right.f (k : Nat) (b0 : Int) (c0 : Int) (d0 : List Int) (a0 : List Int) : Option (Bool) := if b0 ≥ 1 then (if b0 ≤ 2 then (if c0 ≥ 0 then (if c0 ≤ 12 then ((vhead_book.f k d0 45).bind fun e0 => (if e0 = true then ((vhead_book.f k a0 16).bind fun f0 => (if f0 = true then (if 15 < (a0.length : Int) then (some (decide ((rd a0 15) > 0))) else (none)) else (some false))) else (some false))) else (some false)) else (some false)) else (some false)) else (some false)
theorem vhead_Right.mono : ∀ a0 a1 a2 a3 k, LeO (vhead_Right.f k a0 a1 a2 a3) (vhead_Right.f (k + 1) a0 a1 a2 a3) := by
  intro a0 a1 a2 a3 k
  unfold vhead_Right.f
  with_reducible repeat' first
   | apply vhead_book.mono
   | exact LeO.refl _
   | exact LeO.none _
   | refine LeO.ite ?_ ?_
   | refine LeO.bind ?_ (fun _ => ?_)
set_option maxHeartbeats 8000000 in
set_option maxRecDepth 100000 in
theorem vhead_Right.calls (k : Nat) (e0 : Int) (f0 : Int) (g0 : Option Addr) (h0 : Nat) (d0 : List Int) (i0 : Option Addr) (j0 : Nat) (a0 : List Int) (r : Bool) (w : World) (hr0_2 : Kd.C (Kd.int .i64) w g0 d0.length d0) (hc0_2 : d0.length ≤ h0) (hr0_3 : Kd.C (Kd.int .i64) w i0 a0.length a0) (hc0_3 : a0.length ≤ j0) (h : vhead_Right.f k e0 f0 d0 a0 = some r) :
    Calls Try.prog 41 #[.agg #[.int .i64 e0, .int .i64 f0, .slice g0 d0.length h0, .slice i0 a0.length j0]] w fun e w' => e = .returned (.bool r) ∧ Below w.heap.size w w' := by
 have O1 := Try.underlying24
 have n0 := a_ hr0_2
 have o0 := a_ hc0_2
 clear hr0_2 hc0_2
 have p0 := a_ hr0_3
 have s0 := a_ hc0_3
 clear hr0_3 hc0_3
 have HB := a_ (Below.refl w.heap.size w)
 have H : (if e0 ≥ 1 then (if e0 ≤ 2 then (if f0 ≥ 0 then (if f0 ≤ 12 then ((vhead_book.f k d0 45).bind fun t0 => (if t0 = true then ((vhead_book.f k a0 16).bind fun v0 => (if v0 = true then (if 15 < (a0.length : Int) then (some (decide ((rd a0 15) > 0))) else (none)) else (some false))) else (some false))) else (some false)) else (some false)) else (some false)) else (some false)) = some r := h
 clear h
 replace H := ii_ H
 rcases H with ⟨c2, H⟩ | ⟨c2, H⟩
 {
 have y0 : decide (1 ≤ e0) = true := decide_eq_true c2
 clear c2
 replace H := id_ H
 rcases H with ⟨z0, H⟩ | ⟨z0, H⟩
 {
 replace H := ii_ H
 rcases H with ⟨c4, H⟩ | ⟨c4, H⟩
 {
 have A0 : decide (0 ≤ f0) = true := decide_eq_true c4
 clear c4
 replace H := id_ H
 rcases H with ⟨B0, H⟩ | ⟨B0, H⟩
 {
 obtain ⟨t0, A6, H⟩ := ob_ H
 (try dsimp only at H)
 replace H := ib_ H
 rcases H with ⟨rfl, H⟩ | ⟨rfl, H⟩
 {
 obtain ⟨v0, A8, H⟩ := ob_ H
 (try dsimp only at H)
 replace H := ib_ H
 rcases H with ⟨rfl, H⟩ | ⟨rfl, H⟩
 {
 replace H := gt_ H
 obtain ⟨w0, H⟩ := H
 have L1 : decide (15 < (a0.length : Int)) = true := decide_eq_true w0
 have M1 : decide (15 < a0.length) = true := decide_eq_true (by omega)
 clear w0
 obtain rfl := Option.some.inj H
 go_enter Try.func41, Try.ntmps41
 go_wp2_with (first | ((with_reducible refine gate_dst (N := 1) rfl ?_); refine bx_ HB 1 #[.int .i64 e0, .int .i64 f0, .slice g0 d0.length h0, .slice i0 a0.length j0] 24 ?_; clear HB; intro k0 hg P1 hb b0 c0 HB; have l0 := c0; clear hb hg; obtain ⟨D0, E0, F0, G0, H0, I0, J0, K0⟩ := e4_ b0) | (go_at_call 79; (with_reducible refine (vhead_book.calls k _ _ d0 45 true _ ?side1 ?side2 A6.out).mono ?_); (case side1 => exact kC_ n0 HB); (case side2 => exact o0.out); rintro e w' ⟨rfl, ⟨nd, rfl⟩⟩) | (go_at_call 79; (with_reducible refine (vhead_book.calls k _ _ a0 16 true _ ?side1 ?side2 A8.out).mono ?_); (case side1 => repeat (first | exact (Kd.C_below p0.out (bl_ HB)) | (with_reducible refine Kd.C_alloc ?_ _) | (with_reducible refine Kd.C_drewN ?_ _) | (with_reducible refine Kd.C_drew ?_))); (case side2 => exact s0.out); rintro e w' ⟨rfl, ⟨nd, rfl⟩⟩; have q0 : 0 ≤ (15 : Int) := (by omega); have r0 : 15 < (a0.length : Int) := dm_; obtain ⟨N1, C0, m0⟩ := Kd.at_int p0.out 15 q0 r0; cases C0; (try simp only [show (15 : Int).toNat = 15 from rfl, Nat.reduceMul, Nat.reduceEqDiff, Go.Addr.add, ↓reduceIte] at m0); have qi140 : (15 < a0.length) = True := eq_true (by omega); (try rw [show ((15 : Int)).toNat = 15 from rfl] at m0); replace m0 := hc_ HB m0; replace q0 := eq_true q0; replace r0 := eq_true r0))
 go_ret
 exact ⟨er_, bl_ HB⟩}
 {
 obtain rfl := Option.some.inj H
 go_enter Try.func41, Try.ntmps41
 go_wp2_with (first | ((with_reducible refine gate_dst (N := 1) rfl ?_); refine bx_ HB 1 #[.int .i64 e0, .int .i64 f0, .slice g0 d0.length h0, .slice i0 a0.length j0] 24 ?_; clear HB; intro k0 hg Q1 hb b0 c0 HB; have l0 := c0; clear hb hg; obtain ⟨L0, M0, N0, O0, P0, Q0, R0, S0⟩ := e4_ b0) | (go_at_call 79; (with_reducible refine (vhead_book.calls k _ _ d0 45 true _ ?side1 ?side2 A6.out).mono ?_); (case side1 => exact kC_ n0 HB); (case side2 => exact o0.out); rintro e w' ⟨rfl, ⟨nd, rfl⟩⟩) | (go_at_call 79; (with_reducible refine (vhead_book.calls k _ _ a0 16 false _ ?side1 ?side2 A8.out).mono ?_); (case side1 => repeat (first | exact (Kd.C_below p0.out (bl_ HB)) | (with_reducible refine Kd.C_alloc ?_ _) | (with_reducible refine Kd.C_drewN ?_ _) | (with_reducible refine Kd.C_drew ?_))); (case side2 => exact s0.out); rintro e w' ⟨rfl, ⟨nd, rfl⟩⟩))
 go_ret
 exact ⟨er_, bl_ HB⟩}}
 {
 obtain rfl := Option.some.inj H
 go_enter Try.func41, Try.ntmps41
 go_wp2_with (first | ((with_reducible refine gate_dst (N := 1) rfl ?_); refine bx_ HB 1 #[.int .i64 e0, .int .i64 f0, .slice g0 d0.length h0, .slice i0 a0.length j0] 24 ?_; clear HB; intro k0 hg R1 hb b0 c0 HB; have l0 := c0; clear hb hg; obtain ⟨T0, U0, V0, W0, X0, Y0, Z0, a1⟩ := e4_ b0) | (go_at_call 79; (with_reducible refine (vhead_book.calls k _ _ d0 45 false _ ?side1 ?side2 A6.out).mono ?_); (case side1 => exact kC_ n0 HB); (case side2 => exact o0.out); rintro e w' ⟨rfl, ⟨nd, rfl⟩⟩))
 go_ret
 exact ⟨er_, bl_ HB⟩}}
 {
 obtain rfl := Option.some.inj H
 go_enter Try.func41, Try.ntmps41
 go_wp2_with (first | ((with_reducible refine gate_dst (N := 1) rfl ?_); refine bx_ HB 1 #[.int .i64 e0, .int .i64 f0, .slice g0 d0.length h0, .slice i0 a0.length j0] 24 ?_; clear HB; intro k0 hg S1 hb b0 c0 HB; have l0 := c0; clear hb hg; obtain ⟨b1, c1, d1, e1, f1, h1, i1, j1⟩ := e4_ b0))
 go_ret
 exact ⟨er_, bl_ HB⟩}}
 {
 have A0 : decide (0 ≤ f0) = false := decide_eq_false c4
 clear c4
 obtain rfl := Option.some.inj H
 go_enter Try.func41, Try.ntmps41
 go_wp2_with (first | ((with_reducible refine gate_dst (N := 1) rfl ?_); refine bx_ HB 1 #[.int .i64 e0, .int .i64 f0, .slice g0 d0.length h0, .slice i0 a0.length j0] 24 ?_; clear HB; intro k0 hg T1 hb b0 c0 HB; have l0 := c0; clear hb hg; obtain ⟨k1, l1, m1, n1, o1, p1, q1, r1⟩ := e4_ b0))
 go_ret
 exact ⟨er_, bl_ HB⟩}}
 {
 obtain rfl := Option.some.inj H
 go_enter Try.func41, Try.ntmps41
 go_wp2_with (first | ((with_reducible refine gate_dst (N := 1) rfl ?_); refine bx_ HB 1 #[.int .i64 e0, .int .i64 f0, .slice g0 d0.length h0, .slice i0 a0.length j0] 24 ?_; clear HB; intro k0 hg U1 hb b0 c0 HB; have l0 := c0; clear hb hg; obtain ⟨s1, t1, v1, y1, z1, A1, B1, C1⟩ := e4_ b0))
 go_ret
 exact ⟨er_, bl_ HB⟩}}
 {
 have y0 : decide (1 ≤ e0) = false := decide_eq_false c2
 clear c2
 obtain rfl := Option.some.inj H
 go_enter Try.func41, Try.ntmps41
 go_wp2_with (first | ((with_reducible refine gate_dst (N := 1) rfl ?_); refine bx_ HB 1 #[.int .i64 e0, .int .i64 f0, .slice g0 d0.length h0, .slice i0 a0.length j0] 24 ?_; clear HB; intro k0 hg V1 hb b0 c0 HB; have l0 := c0; clear hb hg; obtain ⟨D1, E1, F1, G1, H1, I1, J1, K1⟩ := e4_ b0))
 go_ret
 exact ⟨er_, bl_ HB⟩}
def num_Clamp.f (a0 : Int) (a1 : Int) (a2 : Int) : Option (Int) := if a0 < a1 then (some a1) else (if a0 > a2 then (some a2) else (some a0))
set_option maxHeartbeats 8000000 in
set_option maxRecDepth 100000 in
theorem num_Clamp.calls (a0 : Int) (a1 : Int) (a2 : Int) (r : Int) (w : World) (h : num_Clamp.f a0 a1 a2 = some r) :
    Calls Try.prog 73 #[.int .i64 a0, .int .i64 a1, .int .i64 a2] w fun e w' => e = .returned (.int .i64 r) ∧ Drawn0 w w' := by
 have H : (if a0 < a1 then (some a1) else (if a0 > a2 then (some a2) else (some a0))) = some r := h
 clear h
 replace H := id_ H
 rcases H with ⟨b0, H⟩ | ⟨b0, H⟩
 {
 obtain rfl := Option.some.inj H
 go_enter Try.func73, Try.ntmps73
 go_wp2
 go_ret
 exact ⟨es_, dr_⟩}
 {
 replace H := ii_ H
 rcases H with ⟨c5, H⟩ | ⟨c5, H⟩
 {
 have c0 : decide (a2 < a0) = true := decide_eq_true c5
 clear c5
 obtain rfl := Option.some.inj H
 go_enter Try.func73, Try.ntmps73
 go_wp2
 go_ret
 exact ⟨es_, dr_⟩}
 {
 have c0 : decide (a2 < a0) = false := decide_eq_false c5
 clear c5
 obtain rfl := Option.some.inj H
 go_enter Try.func73, Try.ntmps73
 go_wp2
 go_ret
 exact ⟨es_, dr_⟩}}
def pvq_fair.l0 : Nat → List Int → List Int → Int → Int → Option (Bool)
  | 0, _, _, _, _ => none
  | k + 1, x0, x5, x6, x7 => if x7 < x6 then (if 0 ≤ x7 then (if x7 < (x5.length : Int) then ((num_Clamp.f (rd x5 x7) (-1048576) 1048576).bind fun a0 => (if (rd x5 x7) = a0 then (pvq_fair.l0 k x0 x5 x6 (wrap64 (x7 + 1))) else (some false))) else (none)) else (none)) else (if (x0.length : Int) ≥ 1 then (some (decide ((x0.length : Int) ≤ 16))) else (some false))
def pvq_fair.f (k : Nat) (l0 : List Int) : Option (Bool) := pvq_fair.l0 k l0 l0 (l0.length : Int) 0
theorem pvq_fair.mono_l : ∀ k, (∀ y0 y1 y2 y3, LeO (pvq_fair.l0 k y0 y1 y2 y3) (pvq_fair.l0 (k + 1) y0 y1 y2 y3))
  | 0 => fun _ _ _ _ r h => by simp [pvq_fair.l0] at h
  | k + 1 => by
    have a0 := pvq_fair.mono_l k
    · intro y0 y1 y2 y3
      unfold pvq_fair.l0
      with_reducible repeat' first
   | apply a0
   | exact LeO.refl _
   | exact LeO.none _
   | refine LeO.ite ?_ ?_
   | refine LeO.bind ?_ (fun _ => ?_)
theorem pvq_fair.mono : ∀ a0 k, LeO (pvq_fair.f k a0) (pvq_fair.f (k + 1) a0) := by
  intro a0 k
  have b0 := pvq_fair.mono_l k
  unfold pvq_fair.f
  with_reducible repeat' first
   | apply b0
   | exact LeO.refl _
   | exact LeO.none _
   | refine LeO.ite ?_ ?_
   | refine LeO.bind ?_ (fun _ => ?_)
set_option maxHeartbeats 8000000 in
set_option maxRecDepth 100000 in
theorem pvq_fair.calls (k : Nat) (A0 : Option Addr) (c0 : Nat) (l0 : List Int) (r : Bool) (w : World) (hr0 : Kd.C (Kd.int .i64) w A0 l0.length l0) (hc0 : l0.length ≤ c0) (h : pvq_fair.f k l0 = some r) :
    Calls Try.prog 102 #[.slice A0 l0.length c0] w fun e w' => e = .returned (.bool r) ∧ Drawn0 w w' := by
 have i0 := a_ hr0
 have s0 := a_ hc0
 clear hr0 hc0
 have H : (pvq_fair.l0 k l0 l0 (l0.length : Int) 0) = some r := h
 clear h
 have H' := a_ H
 clear H
 go_enter Try.func102, Try.ntmps102
 go_wp2
 go_loopg [7] k (fun kq v7 w' => ∃ (a0 : Int), v7 = .int .i64 a0 ∧ Aside0 (pvq_fair.l0 kq l0 l0 (l0.length : Int) a0 = some r) ∧ Aside0 (kq ≤ k) ∧ Drawn0 w w')
 case atStart => exact ⟨(0), rs_, H', ⟨Nat.le_refl _⟩, dr_⟩
 case round => (
 clear H'
 obtain ⟨a0, rfl, HA, j0, ⟨m1, rfl⟩⟩ := hrel
 cases gk with
 | zero => exact absurd HA.out (by simp [pvq_fair.l0])
 | succ k1 => (
 have H := HA.out
 clear HA
 simp only [pvq_fair.l0] at H
 replace H := id_ H
 rcases H with ⟨k0, H⟩ | ⟨k0, H⟩
 {
 replace H := gd_ H
 obtain ⟨q0, H⟩ := H
 replace H := gd_ H
 obtain ⟨r0, H⟩ := H
 obtain ⟨g0, A5, H⟩ := ob_ H
 (try dsimp only at H)
 replace H := ie_ H
 rcases H with ⟨m0, n0, H⟩ | ⟨c6, m0, n0, H⟩
 {
 have H' := a_ H
 clear H
 have b0 : 0 ≤ (a0 : Int) := dm_
 have d0 : a0 < (l0.length : Int) := dm_
 obtain ⟨h0, e0, f0⟩ := Kd.at_int i0.out a0 b0 d0
 cases e0
 replace b0 := eq_true b0
 replace d0 := eq_true d0
 go_wp2_with (first | ((with_reducible refine gate_callee (f := 73) rfl ?_); refine gL_ (some 13) Try.func73 #[.int .i64 (rd l0 a0), .int .i64 (-1048576), .int .i64 1048576] ?_; (with_reducible refine (num_Clamp.calls (rd l0 a0) (-1048576) 1048576 g0 _ A5.out).mono ?_); rintro e w' ⟨rfl, ⟨nd, rfl⟩⟩; refine ⟨_, rfl, ?_⟩))
 go_roundg k1
 case measure => have := j0.out; omega
 case rel => exact ⟨(wrap64 (a0 + 1)), rs_, H', ⟨by have := j0.out; omega⟩, dr_⟩}
 {
 obtain rfl := Option.some.inj H
 have b0 : 0 ≤ (a0 : Int) := dm_
 have d0 : a0 < (l0.length : Int) := dm_
 obtain ⟨h0, e0, f0⟩ := Kd.at_int i0.out a0 b0 d0
 cases e0
 replace b0 := eq_true b0
 replace d0 := eq_true d0
 go_wp2_with (first | ((with_reducible refine gate_callee (f := 73) rfl ?_); refine gL_ (some 13) Try.func73 #[.int .i64 (rd l0 a0), .int .i64 (-1048576), .int .i64 1048576] ?_; (with_reducible refine (num_Clamp.calls (rd l0 a0) (-1048576) 1048576 g0 _ A5.out).mono ?_); rintro e w' ⟨rfl, ⟨nd, rfl⟩⟩; refine ⟨_, rfl, ?_⟩))
 go_ret
 exact ⟨es_, dr_⟩}}
 {
 replace H := ii_ H
 rcases H with ⟨c7, H⟩ | ⟨c7, H⟩
 {
 have o0 : decide (1 ≤ (l0.length : Int)) = true := decide_eq_true c7
 have p0 : decide (1 ≤ l0.length) = true := decide_eq_true (by omega)
 clear c7
 obtain rfl := Option.some.inj H
 go_wp2
 go_ret
 exact ⟨es_, dr_⟩}
 {
 have o0 : decide (1 ≤ (l0.length : Int)) = false := decide_eq_false c7
 have p0 : decide (1 ≤ l0.length) = false := decide_eq_false (by omega)
 clear c7
 obtain rfl := Option.some.inj H
 go_wp2
 go_ret
 exact ⟨es_, dr_⟩}}))
def pvq_Square.l0 : Nat → Int → List Int → Int → Int → Option (Int × Int)
  | 0, _, _, _, _ => none
  | k + 1, x4, b0, c0, a0 => if a0 < c0 then (if 0 ≤ a0 then (if a0 < (b0.length : Int) then (pvq_Square.l0 k (IntKind.u64.wrap (x4 + (IntKind.u64.wrap (wrap64 ((rd b0 a0) * (rd b0 a0)))))) b0 c0 (wrap64 (a0 + 1))) else (none)) else (none)) else (some (x4, 0))
def pvq_Square.f (k : Nat) (l0 : List Int) : Option (Int × Int) := (pvq_fair.f k l0).bind fun a0 => (if a0 = true then (pvq_Square.l0 k 0 l0 (l0.length : Int) 0) else (some (0, 1)))
theorem pvq_Square.mono_l : ∀ k, (∀ y0 y1 y2 y3, LeO (pvq_Square.l0 k y0 y1 y2 y3) (pvq_Square.l0 (k + 1) y0 y1 y2 y3))
  | 0 => fun _ _ _ _ r h => by simp [pvq_Square.l0] at h
  | k + 1 => by
    have a0 := pvq_Square.mono_l k
    · intro y0 y1 y2 y3
      unfold pvq_Square.l0
      with_reducible repeat' first
   | apply a0
   | apply pvq_fair.mono
   | exact LeO.refl _
   | exact LeO.none _
   | refine LeO.ite ?_ ?_
   | refine LeO.bind ?_ (fun _ => ?_)
theorem pvq_Square.mono : ∀ a0 k, LeO (pvq_Square.f k a0) (pvq_Square.f (k + 1) a0) := by
  intro a0 k
  have b0 := pvq_Square.mono_l k
  unfold pvq_Square.f
  with_reducible repeat' first
   | apply b0
   | apply pvq_fair.mono
   | exact LeO.refl _
   | exact LeO.none _
   | refine LeO.ite ?_ ?_
   | refine LeO.bind ?_ (fun _ => ?_)
set_option maxHeartbeats 8000000 in
set_option maxRecDepth 100000 in
theorem pvq_Square.calls (k : Nat) (A0 : Option Addr) (c0 : Nat) (l0 : List Int) (r1 : Int) (r2 : Int) (w : World) (hr0 : Kd.C (Kd.int .i64) w A0 l0.length l0) (hc0 : l0.length ≤ c0) (h : pvq_Square.f k l0 = some (r1, r2)) :
    Calls Try.prog 80 #[.slice A0 l0.length c0] w fun e w' => e = .returned (.tuple #[.int .u64 r1, .int .i64 r2]) ∧ Drawn0 w w' := by
 have f0 := a_ hr0
 have h0 := a_ hc0
 clear hr0 hc0
 have H : ((pvq_fair.f k l0).bind fun g0 => (if g0 = true then (pvq_Square.l0 k 0 l0 (l0.length : Int) 0) else (some (0, 1)))) = some (r1, r2) := h
 clear h
 obtain ⟨g0, A2, H⟩ := ob_ H
 (try dsimp only at H)
 replace H := ib_ H
 rcases H with ⟨rfl, H⟩ | ⟨rfl, H⟩
 {
 have H' := a_ H
 clear H
 go_enter Try.func80, Try.ntmps80
 go_wp2_with (first | ((with_reducible refine gate_callee (f := 102) rfl ?_); refine gL_ (some 8) Try.func102 #[.slice A0 l0.length c0] ?_; (with_reducible refine (pvq_fair.calls k _ _ l0 true _ ?side1 ?side2 A2.out).mono ?_); (case side1 => repeat (first | exact f0.out | (with_reducible refine Kd.C_alloc ?_ _) | (with_reducible refine Kd.C_drewN ?_ _) | (with_reducible refine Kd.C_drew ?_))); (case side2 => exact h0.out); rintro e w' ⟨rfl, ⟨nd, rfl⟩⟩; refine ⟨_, rfl, ?_⟩))
 go_loopg [4, 12] k (fun kq v4 n0 w' => ∃ (b0 : Int) (a0 : Int), v4 = .int .u64 b0 ∧ n0 = .int .i64 a0 ∧ Aside0 (pvq_Square.l0 kq b0 l0 (l0.length : Int) a0 = some (r1, r2)) ∧ Aside0 (kq ≤ k) ∧ Drawn0 w w')
 case atStart => exact ⟨(0), (0), rs_, rs_, H', ⟨Nat.le_refl _⟩, dr_⟩
 case round => (
 clear H'
 try clear c3
 obtain ⟨b0, a0, rfl, rfl, HA, i0, ⟨m1, rfl⟩⟩ := hrel
 cases gk with
 | zero => exact absurd HA.out (by simp [pvq_Square.l0])
 | succ k1 => (
 have H := HA.out
 clear HA
 simp only [pvq_Square.l0] at H
 replace H := id_ H
 rcases H with ⟨j0, H⟩ | ⟨j0, H⟩
 {
 replace H := gd_ H
 obtain ⟨p0, H⟩ := H
 replace H := gd_ H
 obtain ⟨q0, H⟩ := H
 have H' := a_ H
 clear H
 have d0 : 0 ≤ (a0 : Int) := dm_
 have e0 : a0 < (l0.length : Int) := dm_
 obtain ⟨o0, k0, m0⟩ := Kd.at_int f0.out a0 d0 e0
 cases k0
 replace d0 := eq_true d0
 replace e0 := eq_true e0
 go_wp2
 go_roundg k1
 case measure => have := i0.out; omega
 case rel => exact ⟨(IntKind.u64.wrap (b0 + (IntKind.u64.wrap (wrap64 ((rd l0 a0) * (rd l0 a0)))))), (wrap64 (a0 + 1)), rs_, rs_, H', ⟨by have := i0.out; omega⟩, dr_⟩}
 {
 simp only [Option.some.injEq, Prod.mk.injEq] at H
 obtain ⟨rfl, rfl⟩ := H
 go_wp2
 go_ret2
 exact ⟨es_, dr_⟩}))}
 {
 simp only [Option.some.injEq, Prod.mk.injEq] at H
 obtain ⟨rfl, rfl⟩ := H
 go_enter Try.func80, Try.ntmps80
 go_wp2_with (first | ((with_reducible refine gate_callee (f := 102) rfl ?_); refine gL_ (some 8) Try.func102 #[.slice A0 l0.length c0] ?_; (with_reducible refine (pvq_fair.calls k _ _ l0 false _ ?side1 ?side2 A2.out).mono ?_); (case side1 => repeat (first | exact f0.out | (with_reducible refine Kd.C_alloc ?_ _) | (with_reducible refine Kd.C_drewN ?_ _) | (with_reducible refine Kd.C_drew ?_))); (case side2 => exact h0.out); rintro e w' ⟨rfl, ⟨nd, rfl⟩⟩; refine ⟨_, rfl, ?_⟩))
 go_ret2
 exact ⟨es_, dr_⟩}
def band_there.f (a0 : Int) : Option (Bool) := if a0 ≥ 0 then (some (decide (a0 < 5))) else (some false)
set_option maxHeartbeats 8000000 in
set_option maxRecDepth 100000 in
theorem band_there.calls (a0 : Int) (r : Bool) (w : World) (h : band_there.f a0 = some r) :
    Calls Try.prog 103 #[.int .i64 a0] w fun e w' => e = .returned (.bool r) ∧ Drawn0 w w' := by
 have H : (if a0 ≥ 0 then (some (decide (a0 < 5))) else (some false)) = some r := h
 clear h
 replace H := ii_ H
 rcases H with ⟨c2, H⟩ | ⟨c2, H⟩
 {
 have b0 : decide (0 ≤ a0) = true := decide_eq_true c2
 clear c2
 obtain rfl := Option.some.inj H
 go_enter Try.func103, Try.ntmps103
 go_wp2
 go_ret
 exact ⟨es_, dr_⟩}
 {
 have b0 : decide (0 ≤ a0) = false := decide_eq_false c2
 clear c2
 obtain rfl := Option.some.inj H
 go_enter Try.func103, Try.ntmps103
 go_wp2
 go_ret
 exact ⟨es_, dr_⟩}
def band_From.f (a0 : Int) : Option (Int) := (band_there.f a0).bind fun b0 => (if b0 = true then (if a0 = 0 then (some 0) else (if 0 ≤ (wrap64 (a0 - 1)) then (some (shl .i64 1 (wrap64 (a0 - 1)))) else (none))) else (some 0))
set_option maxHeartbeats 8000000 in
set_option maxRecDepth 100000 in
theorem band_From.calls (a0 : Int) (r : Int) (w : World) (h : band_From.f a0 = some r) :
    Calls Try.prog 81 #[.int .i64 a0] w fun e w' => e = .returned (.int .i64 r) ∧ Drawn0 w w' := by
 have H : ((band_there.f a0).bind fun f0 => (if f0 = true then (if a0 = 0 then (some 0) else (if 0 ≤ (wrap64 (a0 - 1)) then (some (shl .i64 1 (wrap64 (a0 - 1)))) else (none))) else (some 0))) = some r := h
 clear h
 obtain ⟨f0, A2, H⟩ := ob_ H
 (try dsimp only at H)
 replace H := ib_ H
 rcases H with ⟨rfl, H⟩ | ⟨rfl, H⟩
 {
 replace H := ie_ H
 rcases H with ⟨g0, h0, H⟩ | ⟨c4, g0, h0, H⟩
 {
 obtain rfl := Option.some.inj H
 go_enter Try.func81, Try.ntmps81
 go_wp2_with (first | ((with_reducible refine gate_callee (f := 103) rfl ?_); refine gL_ (some 4) Try.func103 #[.int .i64 a0] ?_; (with_reducible refine (band_there.calls a0 true _ A2.out).mono ?_); rintro e w' ⟨rfl, ⟨nd, rfl⟩⟩; refine ⟨_, rfl, ?_⟩))
 go_ret
 exact ⟨es_, dr_⟩}
 {
 obtain ⟨b0, d0⟩ : ∃ j_ : Int, (wrap64 (a0 - 1)) = j_ := ⟨_, rfl⟩
 replace H : (if 0 ≤ (b0) then (some (shl .i64 1 (b0))) else (none)) = some r := by first | (rw [d0] at H; exact H) | (simp only [d0] at H ⊢; exact H)
 (try rw [d0] at A2)
 have hji5w : (IntKind.i64.wrap (a0 - 1)) = b0 := (i64_w _).trans d0
 replace H := gt_ H
 obtain ⟨c6, H⟩ := H
 have i0 := eq_true c6
 have j0 : decide (0 ≤ (b0)) = true := decide_eq_true c6
 clear c6
 obtain ⟨e0, c0⟩ : ∃ j_ : Int, (shl .i64 1 (b0)) = j_ := ⟨_, rfl⟩
 replace H : (some e0) = some r := by first | (rw [c0] at H; exact H) | (simp only [c0] at H ⊢; exact H)
 (try rw [c0] at A2)
 have hji7_ : (IntKind.i64.wrap (1 * 2 ^ min (b0).toNat 64)) = e0 := c0
 have hji7z : (b0) ≤ 64 → (IntKind.i64.wrap (1 * 2 ^ (b0).toNat)) = e0 := shl_small c0
 have hji7u : (IntKind.i64.wrap (2 ^ min (b0).toNat 64)) = e0 := by have h_ := hji7_; rw [Int.one_mul] at h_; exact h_
 have hji7v : (b0) ≤ 64 → (IntKind.i64.wrap (2 ^ (b0).toNat)) = e0 := fun hle_ => by have h_ := hji7z hle_; rw [Int.one_mul] at h_; exact h_
 have hji7y : (wrap64 (1 * 2 ^ min (b0).toNat 64)) = e0 := (i64_w _).symm.trans hji7_
 have hji7x : (b0) ≤ 64 → (wrap64 (1 * 2 ^ (b0).toNat)) = e0 := fun h_ => (i64_w _).symm.trans (hji7z h_)
 obtain rfl := Option.some.inj H
 go_enter Try.func81, Try.ntmps81
 go_wp2_with (first | ((with_reducible refine gate_callee (f := 103) rfl ?_); refine gL_ (some 4) Try.func103 #[.int .i64 a0] ?_; (with_reducible refine (band_there.calls a0 true _ A2.out).mono ?_); rintro e w' ⟨rfl, ⟨nd, rfl⟩⟩; refine ⟨_, rfl, ?_⟩))
 go_ret
 exact ⟨by first | rfl | (simp; done) | (simp only [← d0, ← c0] <;> (first | rfl | simp)) | (simp [*]; done), dr_⟩}}
 {
 obtain rfl := Option.some.inj H
 go_enter Try.func81, Try.ntmps81
 go_wp2_with (first | ((with_reducible refine gate_callee (f := 103) rfl ?_); refine gL_ (some 4) Try.func103 #[.int .i64 a0] ?_; (with_reducible refine (band_there.calls a0 false _ A2.out).mono ?_); rintro e w' ⟨rfl, ⟨nd, rfl⟩⟩; refine ⟨_, rfl, ?_⟩))
 go_ret
 exact ⟨es_, dr_⟩}
def band_Width.f (a0 : Int) : Option (Int) := (band_there.f a0).bind fun b0 => (if b0 = true then ((band_From.f a0).bind fun c0 => (some (mx 1 c0))) else (some 0))
set_option maxHeartbeats 8000000 in
set_option maxRecDepth 100000 in
theorem band_Width.calls (a0 : Int) (r : Int) (w : World) (h : band_Width.f a0 = some r) :
    Calls Try.prog 82 #[.int .i64 a0] w fun e w' => e = .returned (.int .i64 r) ∧ Below w.heap.size w w' := by
 have HB := a_ (Below.refl w.heap.size w)
 have H : ((band_there.f a0).bind fun e0 => (if e0 = true then ((band_From.f a0).bind fun b0 => (some (mx 1 b0))) else (some 0))) = some r := h
 clear h
 obtain ⟨e0, A2, H⟩ := ob_ H
 (try dsimp only at H)
 replace H := ib_ H
 rcases H with ⟨rfl, H⟩ | ⟨rfl, H⟩
 {
 replace H := Option.bind_eq_some_iff.mp H
 obtain ⟨b0, f0, H⟩ := H
 replace H : (some (mx 1 b0)) = some r := H
 have A4 := a_ f0
 clear f0
 obtain ⟨d0, c0⟩ : ∃ j_ : Int, (mx 1 b0) = j_ := ⟨_, rfl⟩
 replace H : (some d0) = some r := by first | (rw [c0] at H; exact H) | (simp only [c0] at H ⊢; exact H)
 (try rw [c0] at A2)
 (try rw [c0] at A4)
 (try (have hji5l : 1 ≤ d0 := by (rw [← c0]; unfold mx; (repeat' split) <;> omega)))
 (try (have hji5m : 0 ≤ d0 := by omega))
 have hji5_ : (if 1 < b0 then b0 else 1) = d0 := c0
 obtain rfl := Option.some.inj H
 go_enter Try.func82, Try.ntmps82
 go_wp2_with (first | ((with_reducible refine gate_callee (f := 103) rfl ?_); refine gL_ (some 4) Try.func103 #[.int .i64 a0] ?_; (with_reducible refine (band_there.calls a0 true _ A2.out).mono ?_); rintro e w' ⟨rfl, ⟨nd, rfl⟩⟩; refine ⟨_, rfl, ?_⟩) | ((with_reducible refine gate_callee (f := 81) rfl ?_); refine gL_ (some 7) Try.func81 #[.int .i64 a0] ?_; (with_reducible refine (band_From.calls a0 b0 _ A4.out).mono ?_); rintro e w' ⟨rfl, ⟨nd, rfl⟩⟩; refine ⟨_, rfl, ?_⟩))
 go_ret
 exact ⟨by first | rfl | (simp [errW_none, errW_some] <;> rfl) | (simp only [← c0]; first | rfl | (simp [errW_none, errW_some] <;> rfl)) | (simp [*, errW_none, errW_some] <;> rfl), bl_ HB⟩}
 {
 obtain rfl := Option.some.inj H
 go_enter Try.func82, Try.ntmps82
 go_wp2_with (first | ((with_reducible refine gate_callee (f := 103) rfl ?_); refine gL_ (some 4) Try.func103 #[.int .i64 a0] ?_; (with_reducible refine (band_there.calls a0 false _ A2.out).mono ?_); rintro e w' ⟨rfl, ⟨nd, rfl⟩⟩; refine ⟨_, rfl, ?_⟩))
 go_ret
 exact ⟨er_, bl_ HB⟩}
mutual
def band_Split.j0 : Nat → List Int → Bool → Option ((List (List Int)) × Int)
  | 0, _, _ => none
  | k + 1, x0, b0 => if b0 = true then (some (([] : List (List Int)), 1)) else ((some (([] : List Int) : List Int)).bind fun a0 => (if a0.length + x0.length < 17592186044416 then (band_Split.l0 k (a0 ++ x0) ([] : List (List Int)) 0) else (none)))
def band_Split.l0 : Nat → List Int → List (List Int) → Int → Option ((List (List Int)) × Int)
  | 0, _, _, _ => none
  | k + 1, x6, x7, c0 => if c0 < 5 then ((band_From.f c0).bind fun a0 => ((band_Width.f c0).bind fun b0 => (if 0 ≤ a0 then (if a0 ≤ (wrap64 (a0 + b0)) then (if (wrap64 (a0 + b0)) ≤ (x6.length : Int) then (if x7.length < 5864062014805 then (band_Split.l0 k x6 (x7 ++ [((x6.take ((wrap64 (a0 + b0)) : Int).toNat).drop (a0 : Int).toNat)]) (wrap64 (c0 + 1))) else (none)) else (none)) else (none)) else (none)))) else (some (x7, 0))
end
def band_Split.f (k : Nat) (l0 : List Int) : Option ((List (List Int)) × Int) := (pvq_Square.f k l0).bind fun a0 => (if a0.2 = 0 then (band_Split.j0 k l0 ((l0.length : Int) != 16)) else (band_Split.j0 k l0 true))
theorem band_Split.mono_l : ∀ k, (∀ y0 y1, LeO (band_Split.j0 k y0 y1) (band_Split.j0 (k + 1) y0 y1)) ∧ (∀ y0 y1 y2, LeO (band_Split.l0 k y0 y1 y2) (band_Split.l0 (k + 1) y0 y1 y2))
  | 0 => ⟨fun _ _ r h => by simp [band_Split.j0] at h, fun _ _ _ r h => by simp [band_Split.l0] at h⟩
  | k + 1 => by
    obtain ⟨a0, b0⟩ := band_Split.mono_l k
    refine ⟨?_, ?_⟩
    all_goals (intros; first | unfold band_Split.j0 | unfold band_Split.l0)
    all_goals with_reducible repeat' first
     | apply a0
     | exact b0 _ _ _
     | apply pvq_Square.mono
     | exact LeO.refl _
     | exact LeO.none _
     | refine LeO.ite ?_ ?_
     | refine LeO.bind ?_ (fun _ => ?_)
theorem band_Split.mono : ∀ a0 k, LeO (band_Split.f k a0) (band_Split.f (k + 1) a0) := by
  intro a0 k
  obtain ⟨b0, c0⟩ := band_Split.mono_l k
  unfold band_Split.f
  with_reducible repeat' first
   | apply b0
   | exact c0 _ _ _
   | apply pvq_Square.mono
   | exact LeO.refl _
   | exact LeO.none _
   | refine LeO.ite ?_ ?_
   | refine LeO.bind ?_ (fun _ => ?_)
set_option maxHeartbeats 8000000 in
set_option maxRecDepth 100000 in
theorem band_Split.calls (k : Nat) (A0 : Option Addr) (c0 : Nat) (l0 : List Int) (r1 : List (List Int)) (r2 : Int) (w : World) (hr0 : Kd.C (Kd.int .i64) w A0 l0.length l0) (hc0 : l0.length ≤ c0) (h : band_Split.f k l0 = some (r1, r2)) :
    Calls Try.prog 42 #[.slice A0 l0.length c0] w fun e w' => ∃ v0_ : Value, e = .returned (.tuple #[v0_, .int .i64 r2]) ∧ Kd.N (Kd.slice 2 (Kd.int .i64)) 53 w' w.heap.size (fun k_ => (w.heap.size ≤ k_)) v0_ r1 ∧ Below w.heap.size w w' := by
 have Q0 := a_ hr0
 have h1 := a_ hc0
 clear hr0 hc0
 have HB := a_ (Below.refl w.heap.size w)
 have H : ((pvq_Square.f k l0).bind fun J0 => (if J0.2 = 0 then (band_Split.j0 k l0 ((l0.length : Int) != 16)) else (band_Split.j0 k l0 true))) = some (r1, r2) := h
 clear h
 obtain ⟨⟨W0, X0⟩, A2, H⟩ := ob_ H
 (try dsimp only at H)
 have F0 := a_ H
 clear H
 go_enter Try.func42, Try.ntmps42
 go_upto_region 2 with (first | ((with_reducible refine gate_callee (f := 80) rfl ?_); refine gL_ (some 13) Try.func80 #[.slice A0 l0.length c0] ?_; (with_reducible refine (pvq_Square.calls k _ _ l0 W0 X0 _ ?side1 ?side2 A2.out).mono ?_); (case side1 => repeat (first | exact Q0.out | (with_reducible refine Kd.C_alloc ?_ _) | (with_reducible refine Kd.C_drewN ?_ _) | (with_reducible refine Kd.C_drew ?_))); (case side2 => exact h1.out); rintro e w' ⟨rfl, ⟨nd, rfl⟩⟩; refine ⟨_, rfl, ?_⟩))
 (try simp only [Act.put, List.setIfInBounds_toArray, List.set_cons_zero, List.set_cons_succ])
 go_cut [22] (fun i1 wc => ∃ (kq : Nat) (k0 : Bool), i1 = .bool k0 ∧ Aside0 (band_Split.j0 kq l0 k0 = some (r1, r2)) ∧ Aside0 (kq ≤ k) ∧ Aside0 (Below w.heap.size w wc))
 case first => (
 have H := F0.out
 clear F0
 replace H := ie_ H
 rcases H with ⟨r0, Y0, H⟩ | ⟨c4, r0, Y0, H⟩
 {
 (first | rw [r0] | (simp only [i64_w, i32_w]; rw [r0]) | skip)
 have H' := a_ H
 clear H
 go_wp2
 go_meet
 case rel => exact ⟨_, (((l0.length : Int) != 16)), rs_, H', ⟨ol_⟩, ⟨bl_ HB⟩⟩}
 {
 (first | rw [r0] | (simp only [i64_w, i32_w]; rw [r0]) | skip)
 have H' := a_ H
 clear H
 go_wp2
 go_meet
 case rel => exact ⟨_, (true), rs_, H', ⟨ol_⟩, ⟨bl_ HB⟩⟩})
 case rest => (
 clear F0
 obtain ⟨kq, k0, rfl, HA, HJ2, HB⟩ := hcut
 cases kq with
 | zero => exact absurd HA.out (by simp [band_Split.j0])
 | succ kj2 => (
 have H := HA.out
 clear HA
 simp only [band_Split.j0] at H
 by_cases c5 : k0 = true
 {
 subst c5
 rw [if_pos rfl] at H
 simp only [Option.some.injEq, Prod.mk.injEq] at H
 obtain ⟨rfl, rfl⟩ := H
 go_wp2
 go_ret2
 exact ⟨_, er_, by first | exact Kd.S_nil _ _ _ _ _ | exact Kd.N_nil _ _ _ _ _ | exact Kd.V_nil _ _ _ _ _ | exact Kd.Q_nil _ _ _ _ _ | exact Kd.R_nil _ _ _ _ _, bl_ HB⟩}
 {
 replace c5 := Bool.eq_false_iff.mpr c5
 subst c5
 rw [if_neg (show ¬ (false = true) by decide)] at H
 obtain ⟨G0, m0⟩ : ∃ y_ : List Int, y_ = (([] : List Int)) := ⟨_, rfl⟩
 first | replace H := by_ H m0 | rw [← m0] at H
 have z0 := a_ m0
 clear m0
 replace H := gt_ H
 obtain ⟨c6, H⟩ := H
 have Z0 := a_ c6
 clear c6
 obtain ⟨d0, n0⟩ : ∃ y_ : List Int, y_ = (G0 ++ l0) := ⟨_, rfl⟩
 first | replace H := by_ H n0 | rw [← n0] at H
 have K0 := a_ n0
 clear n0
 have H' := a_ H
 clear H
 go_wp2_with (first | ((with_reducible refine gate_dst (N := 23) rfl ?_); (try (refine gate_guard (by rfl) ?_; dsimp only)); refine Kd.R_lit (Kd.int .i64) _ 2 ?hg (N := 23) ?hd (xs := ([] : List Int)) (inner := []) (ok := fun _ => True) (okp := fun _ => True) ?hr ?hp (fun _ hk => hk) trivial (Below.refl _ _) (Nat.le_refl _) (by simp) ?_; (case hd => rfl); (case hg => rfl); (case hr => first | (go_simp; done) | (go_simp; rfl)); (case hp => exact (Reps.none _ _)); intro a1 w7 v0 hb hg_ hnew_; clear hg_ hnew_; (first | rw [← z0.out] at v0 | (simp only [Int.reduceToNat] at v0; rw [← z0.out] at v0)); have B0 := a_ (Kd.R_lower (Kd.R_newM (M := fun k_ => (w.heap.size ≤ k_)) v0 (bs_ HB) (fun k_ h_ => h_)) (bs_ HB)); replace HB := BS_ HB hb; clear hb v0) | ((with_reducible refine gate_builtin (b := .append) (xs := #[.tmp 23, .tmp 24]) rfl ?_); (try (refine gate_guard (by rfl) ?_; dsimp only)); at_builtin; refine Kd.R_append_rows (Kd.int .i64) (w0 := w) w.heap.size rfl (.tmp 23) (.tmp 24) 53 2 (.int .i64 0) 8 rfl Try.underlying53 info2 rfl (by decide) (by omega) a1 G0 l0 _ _ _ (fun k_ => (w.heap.size ≤ k_)) (fun _ => False) rfl rfl ?aO ?aR (fun _ _ h => h) (fun _ h => h.elim) ?aF ?aB ?aS ?aL ?_; (case aR => exact kC_ Q0 HB); (case aB => exact (bl_ HB)); (case aF => exact (fun k_ hk => (Nat.le_trans (bs_ HB) hk))); (case aO => exact (by (with_reducible repeat (first | apply Kd.R_alloc | apply Kd.R_drewN | apply Kd.R_drew)); exact Kd.R_mono B0.out (fun _ hk => hk.1))); (case aS => exact (bs_ HB)); (case aL => have := Z0.out; omega); intro b1 w9 ho hb hg hat; rw [← K0.out] at ho; replace HB := a_ (hb); have L0 := a_ (ho); clear B0; clear ho hb hg hat))
 go_loopg [7, 26] kj2 (fun kq v7 j1 w' => ∃ (s0 : List (List Int)) (e0 : Int), j1 = .int .i64 e0 ∧ Aside0 (band_Split.l0 kq d0 s0 e0 = some (r1, r2)) ∧ Aside0 (kq ≤ kj2) ∧ Aside0 (Kd.R (Kd.int .i64) 2 w' w.heap.size (fun k_ => (w.heap.size ≤ k_)) b1 d0) ∧ Aside0 (Kd.N (Kd.slice 2 (Kd.int .i64)) 53 w' w.heap.size (fun k_ => (w.heap.size ≤ k_)) v7 s0) ∧ Aside0 (Below w.heap.size w w'))
 case atStart => exact ⟨(([] : List (List Int))), (0), rs_, H', ⟨Nat.le_refl _⟩, ⟨kR_ L0⟩, ⟨kn_⟩, ⟨bl_ HB⟩⟩
 case round => (
 clear H'
 try clear c5
 try clear c6
 obtain ⟨s0, e0, rfl, HA, R0, g0, h0, HB⟩ := hrel
 cases gk with
 | zero => exact absurd HA.out (by simp [band_Split.l0])
 | succ k2 => (
 have H := HA.out
 clear HA
 simp only [band_Split.l0] at H
 replace H := id_ H
 rcases H with ⟨M0, H⟩ | ⟨M0, H⟩
 {
 obtain ⟨a0, k1, H⟩ := ob_ H
 (try dsimp only at H)
 obtain ⟨b0, l1, H⟩ := ob_ H
 (try dsimp only at H)
 replace H := gt_ H
 obtain ⟨H0, H⟩ := H
 have m1 := eq_true H0
 have n1 : decide (0 ≤ a0) = true := decide_eq_true H0
 clear H0
 replace H := gt_ H
 obtain ⟨S0, H⟩ := H
 have o1 := eq_true S0
 have p1 : decide (a0 ≤ (wrap64 (a0 + b0))) = true := decide_eq_true S0
 replace H := gt_ H
 obtain ⟨T0, H⟩ := H
 have q1 := eq_true T0
 have s1 : decide ((wrap64 (a0 + b0)) ≤ (d0.length : Int)) = true := decide_eq_true T0
 obtain ⟨f0, o0⟩ : ∃ y_ : List Int, y_ = ((d0.take ((wrap64 (a0 + b0)) : Int).toNat).drop (a0 : Int).toNat) := ⟨_, rfl⟩
 first | replace H := by_ H o0 | rw [← o0] at H
 have C0 := a_ o0
 clear o0
 replace H := gt_ H
 obtain ⟨U0, H⟩ := H
 have N0 := a_ U0
 clear U0
 obtain ⟨d1, p0⟩ : ∃ y_ : List (List Int), y_ = (s0 ++ [f0]) := ⟨_, rfl⟩
 first | replace H := by_ H p0 | rw [← p0] at H
 have O0 := a_ p0
 clear p0
 have H' := a_ H
 clear H
 go_wp2_with (first | ((with_reducible refine gate_callee (f := 81) rfl ?_); refine gL_ (some 30) Try.func81 #[.int .i64 e0] ?_; (with_reducible refine (band_From.calls e0 a0 _ k1.out).mono ?_); rintro e w' ⟨rfl, ⟨nd, rfl⟩⟩; refine ⟨_, rfl, ?_⟩) | ((with_reducible refine gate_callee (f := 82) rfl ?_); refine gL_ (some 32) Try.func82 #[.int .i64 e0] ?_; (with_reducible refine (band_Width.calls e0 b0 _ l1.out).mono ?_); rintro e y1 ⟨rfl, hb⟩; refine ⟨_, rfl, ?_⟩; replace g0 := FR_ g0 hb; replace h0 := FN_ h0 hb; replace HB := BS_ HB hb; (try clear hb); (try clear hk); obtain ⟨i0, y0, e1⟩ := Kd.R_slice g0.out; subst e1; have V0 : ((wrap64 (a0 + b0)) : Int) ≤ ((d0.length : Int) : Int) := dm_; obtain ⟨i018, D0, _, hsz18, _⟩ := info_parts info2; have hroom18 : d0.length ≤ y0 := (Kd.R_reads' g0.out).2.1; have hC18 : Kd.F (Kd.int .i64) _ _ i0 d0.length d0 := (Kd.V_at (base := w.heap.size) (Kd.R_V (Kd.R_apart' (g0.out) (Kd.N_typed h0.out) (by decide)))).2.2; have ql18 : (a0 : Int) ≤ ((wrap64 (a0 + b0)) : Int) := dm_; have f1 : (0 : Int) ≤ (a0 : Int) := dm_; obtain ⟨E0, hc18⟩ : ∃ c1, c1 = ((wrap64 (a0 + b0)) : Int).toNat - (a0 : Int).toNat := ⟨_, rfl⟩; have hcut18 : ∀ W_ : World, (Instr.slice 53 (.slice i0 d0.length y0) (some (.int .i64 a0)) (some (.int .i64 (wrap64 (a0 + b0)))) (some (.int .i64 (wrap64 (a0 + b0))))).run Try.prog W_ = .ok (.slice (if ((wrap64 (a0 + b0)) : Int).toNat = (a0 : Int).toNat then i0 else (i0 : Option Addr).map (·.add ((a0 : Int).toNat * 1))) (((wrap64 (a0 + b0)) : Int).toNat - (a0 : Int).toNat) E0) W_ := (fun W_ => by have hel_ : Program.elem Try.prog 53 = 2 := (by simp [Program.elem, Try.underlying53]); rw [hc18, run_slice_lhm W_ 53 i0 d0.length y0 (by rw [hel_]; exact Try.underlying53) .i64 .i64 .i64 a0 (wrap64 (a0 + b0)) (wrap64 (a0 + b0)) f1 ql18 (Int.le_refl _) (by omega), hel_]; simp [sizeOf, typeInfo, D0, hsz18, sliced, Result.andThen]); have hr18 := Kd.F_cut (m := (a0 : Int).toNat) (c := ((wrap64 (a0 + b0)) : Int).toNat) (Kd.F_take (m := ((wrap64 (a0 + b0)) : Int).toNat) hC18 (by omega)) (by rw [List.length_take]; omega) (by rw [List.length_take]; omega); obtain ⟨I0, hA18⟩ : ∃ A1, A1 = (if ((wrap64 (a0 + b0)) : Int).toNat = (a0 : Int).toNat then i0 else (i0 : Option Addr).map (·.add ((a0 : Int).toNat * 1))) := ⟨_, rfl⟩; have t0 : f0.length = ((wrap64 (a0 + b0)) : Int).toNat - (a0 : Int).toNat := (by rw [C0.out, List.length_drop, List.length_take] <;> omega); rw [show ((d0).take ((wrap64 (a0 + b0)) : Int).toNat).drop (a0 : Int).toNat = f0 from C0.out.symm] at hr18; replace hr18 : Kd.F (Kd.int .i64) _ _ I0 f0.length f0 := (by rw [hA18]; exact hr18); rw [← t0, ← hA18] at hcut18; have q0 := a_ (show Kd.V (Kd.int .i64) 2 _ w.heap.size _ (.slice I0 f0.length E0) f0 from Kd.V_mk (by rw [t0, hc18]; exact Nat.le_refl _) hr18); have t1 := a_ (show f0.length ≤ E0 from by rw [t0, hc18]; exact Nat.le_refl _); clear hr18 hC18 hroom18 D0 hsz18 hc18; have KY18 := a_ t0; have KA18 := a_ hA18; clear t0 hA18; replace V0 := eq_true V0) | ((with_reducible refine gate_builtin (b := .append) (xs := #[.tmp 33, .tmp 43]) rfl ?_); (try (refine gate_guard (by rfl) ?_; dsimp only)); at_builtin; refine Kd.N_append (Kd.slice 2 (Kd.int .i64)) (w0 := w) w.heap.size rfl (.tmp 33) (.tmp 43) 26 53 (.slice none 0 0) 24 rfl Try.underlying26 info53 rfl (by decide) (by omega) u7 s0 f0 [.slice I0 f0.length E0] (fun k_ => (w.heap.size ≤ k_)) (fun k_ => ((fun k_ => (w.heap.size ≤ k_))) k_ ∧ no_ k_ u7) rfl rfl ?aP (fun _ hk => hk) ?aF ?aO ?aB ?aS ?aL ?_; (case aP => exact (Kd.FK_slice_mk (Kd.V_reads' (Kd.V_mono (ok' := (fun k_ => ((fun k_ => (w.heap.size ≤ k_))) k_ ∧ no_ k_ u7)) (q0.out) (fun k_ hk => ⟨hk.1, hk.2⟩))).2.1 (Kd.V_F (Kd.V_mono (ok' := (fun k_ => ((fun k_ => (w.heap.size ≤ k_))) k_ ∧ no_ k_ u7)) (q0.out) (fun k_ hk => ⟨hk.1, hk.2⟩))))); (case aB => exact (bl_ HB)); (case aF => exact (fun k_ hk => (Nat.le_trans (bs_ HB) hk))); (case aO => exact (kN_ h0)); (case aS => exact (bs_ HB)); (case aL => have := N0.out; omega); intro v1 z1 ho hb hg hat; rw [← O0.out] at ho; replace g0 := a_ (Kd.R_over' (kR_ g0) (Kd.N_typed (kN_ h0)) (by decide) hg); replace q0 := a_ (Kd.V_afterv (ok := (fun k_ => (w.heap.size ≤ k_))) (kV_ q0) hg hat); replace HB := a_ (hb); have P0 := a_ (ho); clear h0; clear ho hb hg hat))
 go_roundg k2
 case measure => have := HJ2.out; have := R0.out; omega
 case rel => exact ⟨(d1), (wrap64 (e0 + 1)), rs_, H', ⟨by have := HJ2.out; have := R0.out; omega⟩, ⟨kR_ g0⟩, ⟨kN_ P0⟩, ⟨bl_ HB⟩⟩}
 {
 simp only [Option.some.injEq, Prod.mk.injEq] at H
 obtain ⟨rfl, rfl⟩ := H
 go_wp2
 go_ret2
 exact ⟨_, er_, kN_ h0, bl_ HB⟩}))}))
mutual
def vcodec_Right.j0 : Nat → Bool → List (List Int) → Option (Bool)
  | 0, _, _ => none
  | k + 1, b0, a0 => if b0 = true then (some false) else (vcodec_Right.l0 k a0 (a0.length : Int) 0)
def vcodec_Right.l0 : Nat → List (List Int) → Int → Int → Option (Bool)
  | 0, _, _, _ => none
  | k + 1, b0, d0, a0 => if a0 < d0 then (if 0 ≤ a0 then (if a0 < (b0.length : Int) then ((band_Split.f k (rd_L2 b0 a0)).bind fun c0 => (if c0.2 = 0 then (vcodec_Right.l0 k b0 d0 (wrap64 (a0 + 1))) else (some false))) else (none)) else (none)) else (some true)
end
def vcodec_Right.f (k : Nat) (b0 : Int) (c0 : Int) (d0 : List Int) (e0 : List Int) (a0 : List (List Int)) : Option (Bool) := (vhead_Right.f k b0 c0 d0 e0).bind fun f0 => (if f0 = true then (vcodec_Right.j0 k ((a0.length : Int) != b0) a0) else (vcodec_Right.j0 k true a0))
theorem vcodec_Right.mono_l : ∀ k, (∀ y0 y1, LeO (vcodec_Right.j0 k y0 y1) (vcodec_Right.j0 (k + 1) y0 y1)) ∧ (∀ y0 y1 y2, LeO (vcodec_Right.l0 k y0 y1 y2) (vcodec_Right.l0 (k + 1) y0 y1 y2))
  | 0 => ⟨fun _ _ r h => by simp [vcodec_Right.j0] at h, fun _ _ _ r h => by simp [vcodec_Right.l0] at h⟩
  | k + 1 => by
    obtain ⟨a0, b0⟩ := vcodec_Right.mono_l k
    refine ⟨?_, ?_⟩
    all_goals (intros; first | unfold vcodec_Right.j0 | unfold vcodec_Right.l0)
    all_goals with_reducible repeat' first
     | apply a0
     | exact b0 _ _ _
     | apply band_Split.mono
     | apply vhead_Right.mono
     | exact LeO.refl _
     | exact LeO.none _
     | refine LeO.ite ?_ ?_
     | refine LeO.bind ?_ (fun _ => ?_)
theorem vcodec_Right.mono : ∀ a0 a1 a2 a3 a4 k, LeO (vcodec_Right.f k a0 a1 a2 a3 a4) (vcodec_Right.f (k + 1) a0 a1 a2 a3 a4) := by
  intro a0 a1 a2 a3 a4 k
  obtain ⟨b0, c0⟩ := vcodec_Right.mono_l k
  unfold vcodec_Right.f
  with_reducible repeat' first
   | apply b0
   | exact c0 _ _ _
   | apply band_Split.mono
   | apply vhead_Right.mono
   | exact LeO.refl _
   | exact LeO.none _
   | refine LeO.ite ?_ ?_
   | refine LeO.bind ?_ (fun _ => ?_)
set_option maxHeartbeats 8000000 in
set_option maxRecDepth 100000 in
theorem vcodec_Right.calls (k : Nat) (g0 : Int) (h0 : Int) (n0 : Option Addr) (o0 : Nat) (e0 : List Int) (p0 : Option Addr) (q0 : Nat) (f0 : List Int) (D0 : Option Addr) (w0 : Nat) (b0 : List (List Int)) (r : Bool) (w : World) (hr0_2 : Kd.C (Kd.int .i64) w n0 e0.length e0) (hc0_2 : e0.length ≤ o0) (hr0_3 : Kd.C (Kd.int .i64) w p0 f0.length f0) (hc0_3 : f0.length ≤ q0) (hr1_0 : Kd.C (Kd.slice 2 (Kd.int .i64)) w D0 b0.length b0) (hc1_0 : b0.length ≤ w0) (h : vcodec_Right.f k g0 h0 e0 f0 b0 = some r) :
    Calls Try.prog 16 #[.agg #[.int .i64 g0, .int .i64 h0, .slice n0 e0.length o0, .slice p0 f0.length q0], .agg #[.slice D0 b0.length w0]] w fun e w' => e = .returned (.bool r) ∧ Below w.heap.size w w' := by
 have T1 := Try.underlying24
 have U1 := Try.underlying37
 have K0 := a_ hr0_2
 have L0 := a_ hc0_2
 clear hr0_2 hc0_2
 have M0 := a_ hr0_3
 have N0 := a_ hc0_3
 clear hr0_3 hc0_3
 have O0 := a_ hr1_0
 have K1 := a_ hc1_0
 clear hr1_0 hc1_0
 have HB := a_ (Below.refl w.heap.size w)
 have H : ((vhead_Right.f k g0 h0 e0 f0).bind fun R0 => (if R0 = true then (vcodec_Right.j0 k ((b0.length : Int) != g0) b0) else (vcodec_Right.j0 k true b0))) = some r := h
 clear h
 have S0 := a_ H
 clear H
 go_enter Try.func16, Try.ntmps16
 go_upto_region 1 with (first | ((with_reducible refine gate_dst (N := 2) rfl ?_); (try (refine gate_guard (by rfl) ?_; dsimp only)); refine bx_ HB 2 #[.int .i64 g0, .int .i64 h0, .slice n0 e0.length o0, .slice p0 f0.length q0] 24 ?_; clear HB; intro t0 hg w4 hb a0 V0 HB; have L1 := V0; clear hb hg) | ((with_reducible refine gate_dst (N := 3) rfl ?_); (try (refine gate_guard (by rfl) ?_; dsimp only)); refine bx_ HB 3 #[.slice D0 b0.length w0] 37 ?_; clear HB; intro v0 hg w5 hb c0 W0 HB; have M1 := W0; obtain ⟨r0, s0⟩ := NN_ a0 hg; replace a0 := FB_ a0 hb; clear hb hg))
 (try simp only [Act.put, List.setIfInBounds_toArray, List.set_cons_zero, List.set_cons_succ])
 go_cut [19] (fun A1 wc => ∃ (kq : Nat) (C0 : Bool), A1 = .bool C0 ∧ Aside0 (vcodec_Right.j0 kq C0 b0 = some r) ∧ Aside0 (kq ≤ k) ∧ Aside0 (wc.heap[t0]? = some (.cells #[.int .i64 g0, .int .i64 h0, (.slice n0 e0.length o0), (.slice p0 f0.length q0)] 24 (0, 0))) ∧ Aside0 (wc.heap[v0]? = some (.cells #[(.slice D0 b0.length w0)] 37 (0, 0))) ∧ Aside0 (Below w.heap.size w wc))
 case first => (
 have H := S0.out
 clear S0
 obtain ⟨R0, A6, H⟩ := ob_ H
 (try dsimp only at H)
 replace H := ib_ H
 rcases H with ⟨rfl, H⟩ | ⟨rfl, H⟩
 {
 have H' := a_ H
 clear H
 have V1 := r0.out
 have W1 := s0.out
 obtain ⟨B1, C1, D1, E1, F1, G1, H1, I1⟩ := e4_ a0
 go_wp2_with (first | ((with_reducible refine gate_callee (f := 41) rfl ?_); refine gL_ (some 10) Try.func41 #[.agg #[.int .i64 g0, .int .i64 h0, .slice n0 e0.length o0, .slice p0 f0.length q0]] ?_; (with_reducible refine (vhead_Right.calls k g0 h0 _ _ e0 _ _ f0 true _ ?side1 ?side2 ?side3 ?side4 A6.out).mono ?_); (case side1 => exact kC_ K0 HB); (case side2 => exact L0.out); (case side3 => exact kC_ M0 HB); (case side4 => exact N0.out); rintro e X1 ⟨rfl, hb⟩; refine ⟨_, rfl, ?_⟩; replace a0 := FB_ a0 hb; replace c0 := FB_ c0 hb; replace HB := BS_ HB hb; (try clear hb); obtain ⟨e1, f1⟩ := e1_ c0; obtain ⟨h1, i1, j1, k1, l1, m1, n1, o1⟩ := e4_ a0))
 go_meet
 case rel => exact ⟨_, (((b0.length : Int) != g0)), rs_, H', ⟨ol_⟩, ⟨bk_ a0⟩, ⟨bk_ c0⟩, ⟨bl_ HB⟩⟩}
 {
 have H' := a_ H
 clear H
 have N1 := r0.out
 have O1 := s0.out
 obtain ⟨p1, q1, r1, s1, t1, v1, y1, z1⟩ := e4_ a0
 go_wp2_with (first | ((with_reducible refine gate_callee (f := 41) rfl ?_); refine gL_ (some 10) Try.func41 #[.agg #[.int .i64 g0, .int .i64 h0, .slice n0 e0.length o0, .slice p0 f0.length q0]] ?_; (with_reducible refine (vhead_Right.calls k g0 h0 _ _ e0 _ _ f0 false _ ?side1 ?side2 ?side3 ?side4 A6.out).mono ?_); (case side1 => exact kC_ K0 HB); (case side2 => exact L0.out); (case side3 => exact kC_ M0 HB); (case side4 => exact N0.out); rintro e Y1 ⟨rfl, hb⟩; refine ⟨_, rfl, ?_⟩; replace a0 := FB_ a0 hb; replace c0 := FB_ c0 hb; replace HB := BS_ HB hb; (try clear hb)))
 go_meet
 case rel => exact ⟨_, (true), rs_, H', ⟨ol_⟩, ⟨bk_ a0⟩, ⟨bk_ c0⟩, ⟨bl_ HB⟩⟩})
 case rest => (
 clear S0
 obtain ⟨kq, C0, rfl, HA, HJ2, a0, c0, HB⟩ := hcut
 cases kq with
 | zero => exact absurd HA.out (by simp [vcodec_Right.j0])
 | succ kj2 => (
 have H := HA.out
 clear HA
 simp only [vcodec_Right.j0] at H
 by_cases H0 : C0 = true
 {
 subst H0
 rw [if_pos rfl] at H
 obtain rfl := Option.some.inj H
 go_wp2
 go_ret
 exact ⟨er_, bl_ HB⟩}
 {
 replace H0 := Bool.eq_false_iff.mpr H0
 subst H0
 rw [if_neg (show ¬ (false = true) by decide)] at H
 have H' := a_ H
 clear H
 have P1 := s0.out
 have Q1 := r0.out
 obtain ⟨P0, Q0⟩ := e1_ c0
 go_wp2
 go_loopg [23] kj2 (fun kq J1 w' => ∃ (d0 : Int), J1 = .int .i64 d0 ∧ Aside0 (vcodec_Right.l0 kq b0 (b0.length : Int) d0 = some r) ∧ Aside0 (kq ≤ kj2) ∧ Aside0 (w'.heap[t0]? = some (.cells #[.int .i64 g0, .int .i64 h0, (.slice n0 e0.length o0), (.slice p0 f0.length q0)] 24 (0, 0))) ∧ Aside0 (w'.heap[v0]? = some (.cells #[(.slice D0 b0.length w0)] 37 (0, 0))) ∧ Aside0 (Below w.heap.size w w'))
 case atStart => exact ⟨(0), rs_, H', ⟨Nat.le_refl _⟩, ⟨bk_ a0⟩, ⟨bk_ c0⟩, ⟨bl_ HB⟩⟩
 case round => (
 clear H'
 try clear H0
 try clear P0 Q0
 obtain ⟨d0, rfl, HA, b1, a0, c0, HB⟩ := hrel
 cases gk with
 | zero => exact absurd HA.out (by simp [vcodec_Right.l0])
 | succ k2 => (
 have H := HA.out
 clear HA
 simp only [vcodec_Right.l0] at H
 replace H := id_ H
 rcases H with ⟨X0, H⟩ | ⟨X0, H⟩
 {
 replace H := gd_ H
 obtain ⟨R1, H⟩ := H
 replace H := gd_ H
 obtain ⟨S1, H⟩ := H
 obtain ⟨⟨T0, U0⟩, c1, H⟩ := ob_ H
 (try dsimp only at H)
 replace H := ie_ H
 rcases H with ⟨Y0, Z0, H⟩ | ⟨Z1, Y0, Z0, H⟩
 {
 have H' := a_ H
 clear H
 have y0 : 0 ≤ (d0 : Int) := dm_
 have z0 : d0 < (b0.length : Int) := dm_
 obtain ⟨G0, E0, F0, J0, i0, k0, m0⟩ := at_L2 O0.out d0 y0 z0
 cases J0
 replace i0 := hc_ HB i0
 have A0 := a_ m0
 have B0 := a_ k0
 clear m0 k0
 replace y0 := eq_true y0
 replace z0 := eq_true z0
 go_wp2_with (first | ((with_reducible refine gate_callee (f := 42) rfl ?_); refine gL_ (some 29) Try.func42 #[.slice E0 (rd_L2 b0 d0).length F0] ?_; (with_reducible refine (band_Split.calls k2 _ _ (rd_L2 b0 d0) T0 U0 _ ?side1 ?side2 c1.out).mono ?_); (case side1 => exact kC_ A0 HB); (case side2 => exact B0.out); rintro e a2 ⟨d1, rfl, I0, hb⟩; refine ⟨_, rfl, ?_⟩; have a1 := a_ (Kd.N_lower (Kd.N_mono (ok' := fun k_ => k_ ≠ t0 ∧ k_ ≠ v0) I0 (fun k_ hk_ => ⟨(Kd.freshB (g := t0) (o := .cells #[.int .i64 g0, .int .i64 h0, .slice n0 e0.length o0, .slice p0 f0.length q0] 24 (0, 0)) (bk_ a0) k_ hk_), (Kd.freshB (g := v0) (o := .cells #[.slice (some G0) b0.length w0] 37 (0, 0)) (bk_ c0) k_ hk_)⟩)) (bs_ HB)); replace a0 := FB_ a0 hb; replace c0 := FB_ c0 hb; replace HB := BS_ HB hb; (try clear hb); (try clear I0)))
 go_roundg k2
 case measure => have := HJ2.out; have := b1.out; omega
 case rel => exact ⟨(wrap64 (d0 + 1)), rs_, H', ⟨by have := HJ2.out; have := b1.out; omega⟩, ⟨bk_ a0⟩, ⟨bk_ c0⟩, ⟨bl_ HB⟩⟩}
 {
 obtain rfl := Option.some.inj H
 have y0 : 0 ≤ (d0 : Int) := dm_
 have z0 : d0 < (b0.length : Int) := dm_
 obtain ⟨G0, E0, F0, J0, i0, k0, m0⟩ := at_L2 O0.out d0 y0 z0
 cases J0
 replace i0 := hc_ HB i0
 have A0 := a_ m0
 have B0 := a_ k0
 clear m0 k0
 replace y0 := eq_true y0
 replace z0 := eq_true z0
 go_wp2_with (first | ((with_reducible refine gate_callee (f := 42) rfl ?_); refine gL_ (some 29) Try.func42 #[.slice E0 (rd_L2 b0 d0).length F0] ?_; (with_reducible refine (band_Split.calls k2 _ _ (rd_L2 b0 d0) T0 U0 _ ?side1 ?side2 c1.out).mono ?_); (case side1 => exact kC_ A0 HB); (case side2 => exact B0.out); rintro e b2 ⟨d1, rfl, I0, hb⟩; refine ⟨_, rfl, ?_⟩; have a1 := a_ (Kd.N_lower (Kd.N_mono (ok' := fun k_ => k_ ≠ t0 ∧ k_ ≠ v0) I0 (fun k_ hk_ => ⟨(Kd.freshB (g := t0) (o := .cells #[.int .i64 g0, .int .i64 h0, .slice n0 e0.length o0, .slice p0 f0.length q0] 24 (0, 0)) (bk_ a0) k_ hk_), (Kd.freshB (g := v0) (o := .cells #[.slice (some G0) b0.length w0] 37 (0, 0)) (bk_ c0) k_ hk_)⟩)) (bs_ HB)); replace a0 := FB_ a0 hb; replace c0 := FB_ c0 hb; replace HB := BS_ HB hb; (try clear hb); (try clear I0)))
 go_ret
 exact ⟨er_, bl_ HB⟩}}
 {
 obtain rfl := Option.some.inj H
 go_wp2
 go_ret
 exact ⟨er_, bl_ HB⟩}))}))
def vcodec_codec_both.f (a0 : Int) (b0 : Int) (c0 : List Int) (d0 : List Int) (l1 : List (List Int)) : Option (Bool) := if a0 = 2 then (if 0 < (l1.length : Int) then (if ((rd_L1 l1 0).length : Int) > 0 then (if 1 < (l1.length : Int) then (some (decide (((rd_L1 l1 1).length : Int) > 0))) else (none)) else (some false)) else (none)) else (some false)
set_option maxHeartbeats 8000000 in
set_option maxRecDepth 100000 in
theorem vcodec_codec_both.calls (k0 : Int) (l0 : Int) (m0 : Option Addr) (n0 : Nat) (d0 : List Int) (o0 : Option Addr) (p0 : Nat) (e0 : List Int) (A1 : Option Addr) (c1 : Nat) (l1 : List (List Int)) (r : Bool) (w : World) (hr0_2 : Kd.C (Kd.int .i64) w m0 d0.length d0) (hc0_2 : d0.length ≤ n0) (hr0_3 : Kd.C (Kd.int .i64) w o0 e0.length e0) (hc0_3 : e0.length ≤ p0) (hr1 : Kd.C (Kd.slice 3 (Kd.int .i64)) w A1 l1.length l1) (hc1 : l1.length ≤ c1) (h : vcodec_codec_both.f k0 l0 d0 e0 l1 = some r) :
    Calls Try.prog 32 #[.agg #[.int .i64 k0, .int .i64 l0, .slice m0 d0.length n0, .slice o0 e0.length p0], .slice A1 l1.length c1] w fun e w' => e = .returned (.bool r) ∧ Below w.heap.size w w' := by
 have v1 := Try.underlying61
 have q1 := a_ hr0_2
 have r1 := a_ hc0_2
 clear hr0_2 hc0_2
 have s1 := a_ hr0_3
 have t1 := a_ hc0_3
 clear hr0_3 hc0_3
 have C0 := a_ hr1
 have D1 := a_ hc1
 clear hr1 hc1
 have HB := a_ (Below.refl w.heap.size w)
 have H : (if k0 = 2 then (if 0 < (l1.length : Int) then (if ((rd_L1 l1 0).length : Int) > 0 then (if 1 < (l1.length : Int) then (some (decide (((rd_L1 l1 1).length : Int) > 0))) else (none)) else (some false)) else (none)) else (some false)) = some r := h
 clear h
 replace H := ie_ H
 rcases H with ⟨G0, H0, H⟩ | ⟨c3, G0, H0, H⟩
 {
 replace H := gt_ H
 obtain ⟨c4, H⟩ := H
 have y1 : decide (0 < (l1.length : Int)) = true := decide_eq_true c4
 have z1 : decide (0 < l1.length) = true := decide_eq_true (by omega)
 clear c4
 replace H := ii_ H
 rcases H with ⟨c5, H⟩ | ⟨c5, H⟩
 {
 have I0 : decide (0 < ((rd_L1 l1 0).length : Int)) = true := decide_eq_true c5
 have J0 : decide (0 < (rd_L1 l1 0).length) = true := decide_eq_true (by omega)
 clear c5
 replace H := gt_ H
 obtain ⟨c6, H⟩ := H
 have B1 : decide (1 < (l1.length : Int)) = true := decide_eq_true c6
 have C1 : decide (1 < l1.length) = true := decide_eq_true (by omega)
 clear c6
 obtain rfl := Option.some.inj H
 go_enter Try.func32, Try.ntmps32
 go_wp2_with (first | ((with_reducible refine gate_dst (N := 2) rfl ?_); (try (refine gate_guard (by rfl) ?_; dsimp only)); refine bx_ HB 2 #[.int .i64 k0, .int .i64 l0, .slice m0 d0.length n0, .slice o0 e0.length p0] 61 ?_; clear HB; intro w0 hg w7 hb i0 j0 HB; have y0 := j0; clear hb hg; obtain ⟨e1, f1, h1, i1, j1, k1, m1, n1⟩ := e4_ i0; have g0 : 0 ≤ (0 : Int) := (by omega); have h0 : 0 < (l1.length : Int) := dm_; obtain ⟨z0, D0, E0, s0, a0, b0, c0⟩ := at_L1 C0.out 0 g0 h0; cases s0; have qi157 : (0 < l1.length) = True := eq_true (by omega); (try rw [show ((0 : Int)).toNat = 0 from rfl] at a0); (try rw [Addr.add_zero'] at a0); replace a0 := hc_ HB a0; have A0 := a_ c0; have B0 := a_ b0; clear c0 b0; replace g0 := eq_true g0; replace h0 := eq_true h0; have t0 : 0 ≤ (1 : Int) := (by omega); have v0 : 1 < (l1.length : Int) := dm_; obtain ⟨F0, o1, p1, K0, f0, q0, r0⟩ := at_L1 C0.out 1 t0 v0; obtain rfl : z0 = F0 := (by injection K0); (try simp only [show (1 : Int).toNat = 1 from rfl, Nat.reduceMul, Nat.reduceEqDiff, Go.Addr.add, ↓reduceIte] at f0); have qi158 : (1 < l1.length) = True := eq_true (by omega); (try rw [show ((1 : Int)).toNat = 1 from rfl] at f0); replace f0 := hc_ HB f0; have L0 := a_ r0; have M0 := a_ q0; clear r0 q0; replace t0 := eq_true t0; replace v0 := eq_true v0))
 go_ret
 exact ⟨er_, bl_ HB⟩}
 {
 have I0 : decide (0 < ((rd_L1 l1 0).length : Int)) = false := decide_eq_false c5
 have J0 : decide (0 < (rd_L1 l1 0).length) = false := decide_eq_false (by omega)
 clear c5
 obtain rfl := Option.some.inj H
 go_enter Try.func32, Try.ntmps32
 go_wp2_with (first | ((with_reducible refine gate_dst (N := 2) rfl ?_); (try (refine gate_guard (by rfl) ?_; dsimp only)); refine bx_ HB 2 #[.int .i64 k0, .int .i64 l0, .slice m0 d0.length n0, .slice o0 e0.length p0] 61 ?_; clear HB; intro w0 hg w9 hb i0 j0 HB; have y0 := j0; clear hb hg; obtain ⟨N0, O0, P0, Q0, R0, S0, T0, U0⟩ := e4_ i0; have g0 : 0 ≤ (0 : Int) := (by omega); have h0 : 0 < (l1.length : Int) := dm_; obtain ⟨z0, D0, E0, s0, a0, b0, c0⟩ := at_L1 C0.out 0 g0 h0; cases s0; have qi157 : (0 < l1.length) = True := eq_true (by omega); (try rw [show ((0 : Int)).toNat = 0 from rfl] at a0); (try rw [Addr.add_zero'] at a0); replace a0 := hc_ HB a0; have A0 := a_ c0; have B0 := a_ b0; clear c0 b0; replace g0 := eq_true g0; replace h0 := eq_true h0))
 go_ret
 exact ⟨er_, bl_ HB⟩}}
 {
 obtain rfl := Option.some.inj H
 go_enter Try.func32, Try.ntmps32
 go_wp2_with (first | ((with_reducible refine gate_dst (N := 2) rfl ?_); (try (refine gate_guard (by rfl) ?_; dsimp only)); refine bx_ HB 2 #[.int .i64 k0, .int .i64 l0, .slice m0 d0.length n0, .slice o0 e0.length p0] 61 ?_; clear HB; intro w0 hg E1 hb i0 j0 HB; have y0 := j0; clear hb hg; obtain ⟨V0, W0, X0, Y0, Z0, a1, b1, d1⟩ := e4_ i0))
 go_ret
 exact ⟨er_, bl_ HB⟩}
def floor_gains.l0 : Nat → List Int → Int → List Int → Int → Int → Option (Bool)
  | 0, _, _, _, _, _ => none
  | k + 1, x0, x1, x7, x8, x9 => if x9 < x8 then (if 0 ≤ x9 then (if x9 < (x7.length : Int) then (if (rd x7 x9) < 0 then (some false) else (if (rd x7 x9) > 44 then (some false) else (floor_gains.l0 k x0 x1 x7 x8 (wrap64 (x9 + 1))))) else (none)) else (none)) else (some ((x0.length : Int) == x1))
def floor_gains.f (k : Nat) (l0 : List Int) (a1 : Int) : Option (Bool) := floor_gains.l0 k l0 a1 l0 (l0.length : Int) 0
theorem floor_gains.mono_l : ∀ k, (∀ y0 y1 y2 y3 y4, LeO (floor_gains.l0 k y0 y1 y2 y3 y4) (floor_gains.l0 (k + 1) y0 y1 y2 y3 y4))
  | 0 => fun _ _ _ _ _ r h => by simp [floor_gains.l0] at h
  | k + 1 => by
    have a0 := floor_gains.mono_l k
    · intro y0 y1 y2 y3 y4
      unfold floor_gains.l0
      with_reducible repeat' first
   | apply a0
   | exact LeO.refl _
   | exact LeO.none _
   | refine LeO.ite ?_ ?_
   | refine LeO.bind ?_ (fun _ => ?_)
theorem floor_gains.mono : ∀ a0 a1 k, LeO (floor_gains.f k a0 a1) (floor_gains.f (k + 1) a0 a1) := by
  intro a0 a1 k
  have b0 := floor_gains.mono_l k
  unfold floor_gains.f
  with_reducible repeat' first
   | apply b0
   | exact LeO.refl _
   | exact LeO.none _
   | refine LeO.ite ?_ ?_
   | refine LeO.bind ?_ (fun _ => ?_)
set_option maxHeartbeats 8000000 in
set_option maxRecDepth 100000 in
theorem floor_gains.calls (k : Nat) (A0 : Option Addr) (c0 : Nat) (l0 : List Int) (a1 : Int) (r : Bool) (w : World) (hr0 : Kd.C (Kd.int .i64) w A0 l0.length l0) (hc0 : l0.length ≤ c0) (h : floor_gains.f k l0 a1 = some r) :
    Calls Try.prog 98 #[.slice A0 l0.length c0, .int .i64 a1] w fun e w' => e = .returned (.bool r) ∧ Drawn0 w w' := by
 have h0 := a_ hr0
 have p0 := a_ hc0
 clear hr0 hc0
 have H : (floor_gains.l0 k l0 a1 l0 (l0.length : Int) 0) = some r := h
 clear h
 have H' := a_ H
 clear H
 go_enter Try.func98, Try.ntmps98
 go_wp2
 go_loopg [9] k (fun kq v9 w' => ∃ (a0 : Int), v9 = .int .i64 a0 ∧ Aside0 (floor_gains.l0 kq l0 a1 l0 (l0.length : Int) a0 = some r) ∧ Aside0 (kq ≤ k) ∧ Drawn0 w w')
 case atStart => exact ⟨(0), rs_, H', ⟨Nat.le_refl _⟩, dr_⟩
 case round => (
 clear H'
 obtain ⟨a0, rfl, HA, i0, ⟨m1, rfl⟩⟩ := hrel
 cases gk with
 | zero => exact absurd HA.out (by simp [floor_gains.l0])
 | succ k1 => (
 have H := HA.out
 clear HA
 simp only [floor_gains.l0] at H
 replace H := id_ H
 rcases H with ⟨j0, H⟩ | ⟨j0, H⟩
 {
 replace H := gd_ H
 obtain ⟨n0, H⟩ := H
 replace H := gd_ H
 obtain ⟨o0, H⟩ := H
 replace H := id_ H
 rcases H with ⟨k0, H⟩ | ⟨k0, H⟩
 {
 obtain rfl := Option.some.inj H
 have b0 : 0 ≤ (a0 : Int) := dm_
 have d0 : a0 < (l0.length : Int) := dm_
 obtain ⟨g0, e0, f0⟩ := Kd.at_int h0.out a0 b0 d0
 cases e0
 replace b0 := eq_true b0
 replace d0 := eq_true d0
 go_wp2
 go_ret
 exact ⟨es_, dr_⟩}
 {
 replace H := ii_ H
 rcases H with ⟨c7, H⟩ | ⟨c7, H⟩
 {
 have m0 : decide (44 < (rd l0 a0)) = true := decide_eq_true c7
 clear c7
 obtain rfl := Option.some.inj H
 have b0 : 0 ≤ (a0 : Int) := dm_
 have d0 : a0 < (l0.length : Int) := dm_
 obtain ⟨g0, e0, f0⟩ := Kd.at_int h0.out a0 b0 d0
 cases e0
 replace b0 := eq_true b0
 replace d0 := eq_true d0
 go_wp2
 go_ret
 exact ⟨es_, dr_⟩}
 {
 have m0 : decide (44 < (rd l0 a0)) = false := decide_eq_false c7
 clear c7
 have H' := a_ H
 clear H
 have b0 : 0 ≤ (a0 : Int) := dm_
 have d0 : a0 < (l0.length : Int) := dm_
 obtain ⟨g0, e0, f0⟩ := Kd.at_int h0.out a0 b0 d0
 cases e0
 replace b0 := eq_true b0
 replace d0 := eq_true d0
 go_wp2
 go_roundg k1
 case measure => have := i0.out; omega
 case rel => exact ⟨(wrap64 (a0 + 1)), rs_, H', ⟨by have := i0.out; omega⟩, dr_⟩}}}
 {
 obtain rfl := Option.some.inj H
 go_wp2
 go_ret
 exact ⟨es_, dr_⟩}))
def floor_Right.f (k : Nat) (l0 : List Int) : Option (Bool) := (floor_gains.f k l0 6).bind fun a0 => (some a0)
theorem floor_Right.mono : ∀ a0 k, LeO (floor_Right.f k a0) (floor_Right.f (k + 1) a0) := by
  intro a0 k
  unfold floor_Right.f
  with_reducible repeat' first
   | apply floor_gains.mono
   | exact LeO.refl _
   | exact LeO.none _
   | refine LeO.ite ?_ ?_
   | refine LeO.bind ?_ (fun _ => ?_)
set_option maxHeartbeats 8000000 in
set_option maxRecDepth 100000 in
theorem floor_Right.calls (k : Nat) (A0 : Option Addr) (c0 : Nat) (l0 : List Int) (r : Bool) (w : World) (hr0 : Kd.C (Kd.int .i64) w A0 l0.length l0) (hc0 : l0.length ≤ c0) (h : floor_Right.f k l0 = some r) :
    Calls Try.prog 86 #[.slice A0 l0.length c0] w fun e w' => e = .returned (.bool r) ∧ Drawn0 w w' := by
 have d0 := a_ hr0
 have e0 := a_ hc0
 clear hr0 hc0
 have H : ((floor_gains.f k l0 6).bind fun a0 => (some a0)) = some r := h
 clear h
 replace H := Option.bind_eq_some_iff.mp H
 obtain ⟨a0, b0, H⟩ := H
 replace H : (some a0) = some r := H
 have A2 := a_ b0
 clear b0
 obtain rfl := Option.some.inj H
 go_enter Try.func86, Try.ntmps86
 go_wp2_with (first | ((with_reducible refine gate_callee (f := 98) rfl ?_); refine gL_ (some 4) Try.func98 #[.slice A0 l0.length c0, .int .i64 6] ?_; (with_reducible refine (floor_gains.calls k _ _ l0 6 a0 _ ?side1 ?side2 A2.out).mono ?_); (case side1 => repeat (first | exact d0.out | (with_reducible refine Kd.C_alloc ?_ _) | (with_reducible refine Kd.C_drewN ?_ _) | (with_reducible refine Kd.C_drew ?_))); (case side2 => exact e0.out); rintro e w' ⟨rfl, ⟨nd, rfl⟩⟩; refine ⟨_, rfl, ?_⟩))
 go_ret
 exact ⟨es_, dr_⟩
def floor_At.f (a0 : Int) : Option (Int) := some (if a0 = 0 then 0 else if a0 = 1 then 1 else if a0 = 2 then 2 else if a0 = 3 then 4 else if a0 = 4 then 8 else if a0 = 5 then 15 else -1)
set_option maxHeartbeats 4000000 in
set_option maxRecDepth 100000 in
theorem floor_At.low (a0 : Int) (w : World) (h : a0 < 0) : Calls Try.prog 95 #[.int .i64 a0] w fun e w' => e = .returned (.int .i64 (-1)) ∧ Below w.heap.size w w' := by
  go_enter Try.func95, Try.ntmps95
  go_wp2
  go_ret
  exact ⟨rfl, by repeat (first | exact Below.refl _ _ | apply below_alloc | apply pw_below_drewN | apply below_drew1)⟩
set_option maxHeartbeats 4000000 in
set_option maxRecDepth 100000 in
theorem floor_At.high (a0 : Int) (w : World) (h : 6 ≤ a0) : Calls Try.prog 95 #[.int .i64 a0] w fun e w' => e = .returned (.int .i64 (-1)) ∧ Below w.heap.size w w' := by
  have h0 : ¬ a0 < 0 := by omega
  go_enter Try.func95, Try.ntmps95
  go_wp2
  go_ret
  exact ⟨rfl, by repeat (first | exact Below.refl _ _ | apply below_alloc | apply pw_below_drewN | apply below_drew1)⟩
set_option maxHeartbeats 4000000 in
set_option maxRecDepth 100000 in
theorem floor_At.mid (a0 r : Int) (w : World) (h : (a0 = 0 ∧ r = 0) ∨ (a0 = 1 ∧ r = 1) ∨ (a0 = 2 ∧ r = 2) ∨ (a0 = 3 ∧ r = 4) ∨ (a0 = 4 ∧ r = 8) ∨ (a0 = 5 ∧ r = 15)) : Calls Try.prog 95 #[.int .i64 a0] w fun e w' => e = .returned (.int .i64 r) ∧ Below w.heap.size w w' := by
  rcases h with ⟨rfl, rfl⟩ | ⟨rfl, rfl⟩ | ⟨rfl, rfl⟩ | ⟨rfl, rfl⟩ | ⟨rfl, rfl⟩ | ⟨rfl, rfl⟩
  all_goals
    go_enter Try.func95, Try.ntmps95
    go_wp2
    (try simp only [Exit.inBlock, Exit.then])
    refine bodyPost_ret (v := .agg #[.int .i64 0, .int .i64 1, .int .i64 2, .int .i64 4, .int .i64 8, .int .i64 15]) ?_ rfl ?_
    · exact results_cell_row rfl _ _ w.heap.size 139 _ (0, 0) _ (by rfl) (heap_alloc_new w _) Try.underlying139 rfl (by rfl)
    simp only []
    go_at_K
    go_wp2
    go_ret
    exact ⟨rfl, by repeat (first | exact Below.refl _ _ | apply below_alloc | apply pw_below_drewN | apply below_drew1)⟩
theorem floor_At.calls (a0 : Int) (r : Int) (w : World) (h : floor_At.f a0 = some r) : Calls Try.prog 95 #[.int .i64 a0] w fun e w' => e = .returned (.int .i64 r) ∧ Below w.heap.size w w' := by
 have e := Option.some.inj h
 by_cases h0 : a0 < 0
 {
 obtain rfl : r = -1 := by rw [← e]; repeat (rw [if_neg (by omega)])
 exact floor_At.low a0 w h0}
 by_cases h6 : 6 ≤ a0
 {
 obtain rfl : r = -1 := by rw [← e]; repeat (rw [if_neg (by omega)])
 exact floor_At.high a0 w h6}
 refine floor_At.mid a0 r w ?_
 have : a0 = 0 ∨ a0 = 1 ∨ a0 = 2 ∨ a0 = 3 ∨ a0 = 4 ∨ a0 = 5 := by omega
 rcases this with h | h | h | h | h | h <;> subst h <;> simp at e <;> omega
mutual
def floor_Line.l0 : Nat → List Int → List Int → Int → Option (List Int × Int)
  | 0, _, _, _ => none
  | k + 1, x0, x4, a0 => if a0 < 5 then ((floor_At.f a0).bind fun b0 => ((floor_At.f (wrap64 (a0 + 1))).bind fun c0 => (floor_Line.l1 k x0 x4 a0 b0 c0 b0 a0))) else (some (x4, 0))
def floor_Line.l1 : Nat → List Int → List Int → Int → Int → Int → Int → Int → Option (List Int × Int)
  | 0, _, _, _, _, _, _, _ => none
  | k + 1, x0, x4, x5, x6, x7, x8, a0 => if x8 ≤ x7 then (if 0 ≤ x5 then (if x5 < (x0.length : Int) then (if 0 ≤ (wrap64 (x5 + 1)) then (if (wrap64 (x5 + 1)) < (x0.length : Int) then (if (wrap64 (x7 - x6)) = 0 then (none) else (if 0 ≤ x8 then (if x8 < (x4.length : Int) then (floor_Line.l1 k x0 (x4.set (x8 : Int).toNat (wrap64 ((rd x0 x5) + (wrap64 (Int.tdiv (wrap64 ((wrap64 ((rd x0 (wrap64 (x5 + 1))) - (rd x0 x5))) * (wrap64 (x8 - x6)))) (wrap64 (x7 - x6))))))) x5 x6 x7 (wrap64 (x8 + 1)) a0) else (none)) else (none))) else (none)) else (none)) else (none)) else (none)) else (floor_Line.l0 k x0 x4 (wrap64 (a0 + 1)))
end
def floor_Line.f (k : Nat) (l0 : List Int) : Option (List Int × Int) := (floor_Right.f k l0).bind fun a0 => (if a0 = true then (if 16 ≤ 35184372088832 then (floor_Line.l0 k l0 (List.replicate 16 0) 0) else (none)) else (some (([] : List Int), 1)))
theorem floor_Line.mono_l : ∀ k, (∀ y0 y1 y2, LeO (floor_Line.l0 k y0 y1 y2) (floor_Line.l0 (k + 1) y0 y1 y2)) ∧ (∀ y0 y1 y2 y3 y4 y5 y6, LeO (floor_Line.l1 k y0 y1 y2 y3 y4 y5 y6) (floor_Line.l1 (k + 1) y0 y1 y2 y3 y4 y5 y6))
  | 0 => ⟨fun _ _ _ r h => by simp [floor_Line.l0] at h, fun _ _ _ _ _ _ _ r h => by simp [floor_Line.l1] at h⟩
  | k + 1 => by
    obtain ⟨a0, b0⟩ := floor_Line.mono_l k
    refine ⟨?_, ?_⟩
    all_goals (intros; first | unfold floor_Line.l0 | unfold floor_Line.l1)
    all_goals with_reducible repeat' first
     | apply a0
     | exact b0 _ _ _ _ _ _ _
     | apply floor_Right.mono
     | exact LeO.refl _
     | exact LeO.none _
     | refine LeO.ite ?_ ?_
     | refine LeO.bind ?_ (fun _ => ?_)
theorem floor_Line.mono : ∀ a0 k, LeO (floor_Line.f k a0) (floor_Line.f (k + 1) a0) := by
  intro a0 k
  obtain ⟨b0, c0⟩ := floor_Line.mono_l k
  unfold floor_Line.f
  with_reducible repeat' first
   | apply b0
   | exact c0 _ _ _ _ _ _ _
   | apply floor_Right.mono
   | exact LeO.refl _
   | exact LeO.none _
   | refine LeO.ite ?_ ?_
   | refine LeO.bind ?_ (fun _ => ?_)
def floor_Line.T11 : Bool × List (List Nat × List Nat) := (true, [([], []), ([], []), ([], []), ([], []), ([2, 3], [2, 3]), ([4], [4]), ([], []), ([], []), ([7], [7]), ([6, 8], [6, 8]), ([9], [9]), ([], []), ([], []), ([11, 12], [11, 12]), ([13], [13]), ([10, 14], [10, 14]), ([], []), ([], []), ([16, 17], [16, 17]), ([15, 18], [15, 18]), ([], []), ([], []), ([20, 21], [20, 21]), ([19, 22], [19, 22]), ([5, 23], [5, 23]), ([0, 1, 0, 1, 2, 3, 4, 5, 6, 7, 8, 9, 10, 11, 12, 13, 14, 15, 16, 17, 18, 19, 20, 21, 22, 23, 24], [0, 1]), ([25, 24, 0, 1, 2, 3, 4, 5, 6, 7, 8, 9, 10, 11, 12, 13, 14, 15, 16, 17, 18, 19, 20, 21, 22, 23, 24], [24, 25])])
def floor_Line.B11 : List Nat := [0, 0, 0, 0, 12, 28, 0, 0, 128, 448, 960, 0, 0, 6144, 14336, 32704, 0, 0, 196608, 524224, 0, 0, 3145728, 8388544, 16777212, 33554431, 67108863]
theorem floor_Line.tab11 : rtab .any (opsOf Try.f68 11) = floor_Line.T11 := by kernel_rfl
theorem floor_Line.bits11 : waitsOk floor_Line.T11.2 floor_Line.B11 = true := by kernel_rfl
set_option maxHeartbeats 8000000 in
set_option maxRecDepth 100000 in
theorem floor_Line.calls (k : Nat) (A0 : Option Addr) (c0 : Nat) (l0 : List Int) (r1 : List Int) (r2 : Int) (w : World) (hr0 : Kd.C (Kd.int .i64) w A0 l0.length l0) (hc0 : l0.length ≤ c0) (h : floor_Line.f k l0 = some (r1, r2)) :
    Calls Try.prog 68 #[.slice A0 l0.length c0] w fun e w' => ∃ v0_ : Value, e = .returned (.tuple #[v0_, .int .i64 r2]) ∧ Kd.R (Kd.int .i64) 3 w' w.heap.size (fun _ => True) v0_ r1 ∧ Below w.heap.size w w' := by
 have r0 := a_ hr0
 have Z0 := a_ hc0
 clear hr0 hc0
 have HB := a_ (Below.refl w.heap.size w)
 have H : ((floor_Right.f k l0).bind fun J0 => (if J0 = true then (if 16 ≤ 35184372088832 then (floor_Line.l0 k l0 (List.replicate 16 0) 0) else (none)) else (some (([] : List Int), 1)))) = some (r1, r2) := h
 clear h
 obtain ⟨J0, A2, H⟩ := ob_ H
 (try dsimp only at H)
 replace H := ib_ H
 rcases H with ⟨rfl, H⟩ | ⟨rfl, H⟩
 {
 replace H := gt_ H
 obtain ⟨c4, H⟩ := H
 have K0 := eq_true c4
 have L0 : decide (16 ≤ 35184372088832) = true := decide_eq_true c4
 clear c4
 obtain ⟨a1, n0⟩ : ∃ y_ : List Int, y_ = (List.replicate 16 0) := ⟨_, rfl⟩
 first | replace H := by_ H n0 | rw [← n0] at H
 have D0 := a_ n0
 clear n0
 have H' := a_ H
 clear H
 go_enter Try.func68, Try.ntmps68
 go_wp2_with (first | ((with_reducible refine gate_callee (f := 86) rfl ?_); refine gL_ (some 10) Try.func86 #[.slice A0 l0.length c0] ?_; (with_reducible refine (floor_Right.calls k _ _ l0 true _ ?side1 ?side2 A2.out).mono ?_); (case side1 => repeat (first | exact r0.out | (with_reducible refine Kd.C_alloc ?_ _) | (with_reducible refine Kd.C_drewN ?_ _) | (with_reducible refine Kd.C_drew ?_))); (case side2 => exact Z0.out); rintro e w' ⟨rfl, ⟨nd, rfl⟩⟩; refine ⟨_, rfl, ?_⟩) | ((with_reducible refine gate_dst (N := 12) rfl ?_); refine Kd.R_make (Kd.int .i64) _ 3 rfl (N := 12) rfl 22 _ _ rfl 16 rfl rfl Try.underlying22 (.int .i64 0) 8 info3 rfl (by decide) (by omega) 0 (ok := fun _ => True) (okp := fun _ => True) rfl (fun _ hk => hk) trivial (by omega) (by omega) (Below.refl _ _) (Nat.le_refl _) ?_; intro M0 w5 t0 hb hg_ hnew_; clear hg_ hnew_; (first | rw [← D0.out] at t0 | (simp only [Int.reduceToNat] at t0; rw [← D0.out] at t0)); have U0 := a_ (Kd.R_lower t0 (bs_ HB)); replace HB := BS_ HB hb; clear hb t0))
 go_loopg [13] k (fun kq f1 w' => ∃ (q0 : List Int) (a0 : Int), f1 = .int .i64 a0 ∧ Aside0 (floor_Line.l0 kq l0 q0 a0 = some (r1, r2)) ∧ Aside0 (kq ≤ k) ∧ Aside0 (Kd.R (Kd.int .i64) 3 w' w.heap.size (fun _ => True) M0 q0) ∧ Aside0 (Below w.heap.size w w'))
 case atStart => exact ⟨(a1), (0), rs_, H', ⟨Nat.le_refl _⟩, ⟨kR_ U0⟩, ⟨bl_ HB⟩⟩
 case round => (
 clear H'
 try clear c3
 try clear c4
 try clear K0
 try clear L0
 obtain ⟨q0, a0, rfl, HA, E0, d0, HB⟩ := hrel
 cases gk with
 | zero => exact absurd HA.out (by simp [floor_Line.l0])
 | succ k1 => (
 have H := HA.out
 clear HA
 simp only [floor_Line.l0] at H
 replace H := id_ H
 rcases H with ⟨N0, H⟩ | ⟨N0, H⟩
 {
 obtain ⟨e0, A8, H⟩ := ob_ H
 (try dsimp only at H)
 obtain ⟨g0, A9, H⟩ := ob_ H
 (try dsimp only at H)
 have H' := a_ H
 clear H
 go_wp2_with (first | ((with_reducible refine gate_callee (f := 95) rfl ?_); refine gL_ (some 17) Try.func95 #[.int .i64 a0] ?_; (with_reducible refine (floor_At.calls a0 e0 _ A8.out).mono ?_); rintro e v1 ⟨rfl, hb⟩; refine ⟨_, rfl, ?_⟩; replace d0 := FR_ d0 hb; replace HB := BS_ HB hb; (try clear hb)) | ((with_reducible refine gate_callee (f := 95) rfl ?_); refine gL_ (some 20) Try.func95 #[.int .i64 (wrap64 (a0 + 1))] ?_; (with_reducible refine (floor_At.calls (wrap64 (a0 + 1)) g0 _ A9.out).mono ?_); rintro e y1 ⟨rfl, hb⟩; refine ⟨_, rfl, ?_⟩; replace d0 := FR_ d0 hb; replace HB := BS_ HB hb; (try clear hb)))
 go_loopg [8] k1 (fun kq v8 w' => ∃ (h0 : List Int) (b0 : Int), v8 = .int .i64 b0 ∧ Aside0 (floor_Line.l1 kq l0 h0 a0 e0 g0 b0 a0 = some (r1, r2)) ∧ Aside0 (kq ≤ k1) ∧ Aside0 (Kd.R (Kd.int .i64) 3 w' w.heap.size (fun _ => True) M0 h0) ∧ Aside0 (Below w.heap.size w w'))
 case atStart => exact ⟨(q0), (e0), rs_, H', ⟨Nat.le_refl _⟩, ⟨kR_ d0⟩, ⟨bl_ HB⟩⟩
 case round => (
 clear H'
 try clear c3
 try clear c4
 try clear K0
 try clear L0
 try clear c7
 try clear N0
 obtain ⟨h0, b0, rfl, HA, F0, d0, HB⟩ := hrel
 cases gk with
 | zero => exact absurd HA.out (by simp [floor_Line.l1])
 | succ k2 => (
 have H := HA.out
 clear HA
 simp only [floor_Line.l1] at H
 replace H := id_ H
 rcases H with ⟨V0, H⟩ | ⟨V0, H⟩
 {
 replace H := gd_ H
 obtain ⟨h1, H⟩ := H
 replace H := gd_ H
 obtain ⟨i1, H⟩ := H
 obtain ⟨f0, o0⟩ : ∃ j_ : Int, (wrap64 (a0 + 1)) = j_ := ⟨_, rfl⟩
 replace H : (if 0 ≤ (f0) then (if (f0) < (l0.length : Int) then (if (wrap64 (g0 - e0)) = 0 then (none) else (if 0 ≤ b0 then (if b0 < (h0.length : Int) then (floor_Line.l1 k2 l0 (h0.set (b0 : Int).toNat (wrap64 ((rd l0 a0) + (wrap64 (Int.tdiv (wrap64 ((wrap64 ((rd l0 (f0)) - (rd l0 a0))) * (wrap64 (b0 - e0)))) (wrap64 (g0 - e0))))))) a0 e0 g0 (wrap64 (b0 + 1)) a0) else (none)) else (none))) else (none)) else (none)) = some (r1, r2) := by first | (rw [o0] at H; exact H) | (simp only [o0] at H ⊢; exact H)
 have hji15w : (IntKind.i64.wrap (a0 + 1)) = f0 := (i64_w _).trans o0
 replace H := gd_ H
 obtain ⟨j1, H⟩ := H
 replace H := gd_ H
 obtain ⟨m1, H⟩ := H
 replace H := ii_ H
 rcases H with ⟨O0, H⟩ | ⟨O0, H⟩
 {
 exact absurd H (by simp)}
 {
 have n1 : ((wrap64 (g0 - e0)) == 0) = false := beq_eq_false_iff_ne.mpr O0
 have o1 : ((wrap64 (g0 - e0)) != 0) = true := bne_iff_ne.mpr O0
 replace H := gd_ H
 obtain ⟨p1, H⟩ := H
 replace H := gd_ H
 obtain ⟨q1, H⟩ := H
 obtain ⟨b1, p0⟩ : ∃ y_ : List Int, y_ = (h0.set (b0 : Int).toNat (wrap64 ((rd l0 a0) + (wrap64 (Int.tdiv (wrap64 ((wrap64 ((rd l0 (f0)) - (rd l0 a0))) * (wrap64 (b0 - e0)))) (wrap64 (g0 - e0))))))) := ⟨_, rfl⟩
 first | replace H := by_ H p0 | rw [← p0] at H
 have W0 := a_ p0
 clear p0
 have H' := a_ H
 clear H
 try go_wp2
 replace d0 := a_ (Kd.R_drew d0.out)
 replace HB := a_ (below_drew1 HB.out)
 have v0 : 0 ≤ (a0 : Int) := dm_
 have w0 : a0 < (l0.length : Int) := dm_
 obtain ⟨m0, c1, i0⟩ := Kd.at_int r0.out a0 v0 w0
 have G0 := i0
 cases c1
 replace i0 := hc_ HB i0
 replace v0 := eq_true v0
 replace w0 := eq_true w0
 have y0 : 0 ≤ ((f0) : Int) := dm_
 have z0 : (f0) < (l0.length : Int) := dm_
 obtain ⟨X0, d1, j0⟩ := Kd.at_int r0.out (f0) y0 z0
 have H0 := j0
 obtain rfl : m0 = X0 := (by injection d1)
 replace j0 := hc_ HB j0
 replace y0 := eq_true y0
 replace z0 := eq_true z0
 have B0 : 0 ≤ (a0 : Int) := dm_
 have C0 : a0 < (l0.length : Int) := dm_
 obtain ⟨Y0, e1, k0⟩ := Kd.at_int r0.out a0 B0 C0
 have I0 := k0
 obtain rfl : m0 = Y0 := (by injection e1)
 replace k0 := hc_ HB k0
 replace B0 := eq_true B0
 replace C0 := eq_true C0
 have P0 : 0 ≤ (b0 : Int) := dm_
 have Q0 : (b0 : Int) < ((h0.length : Int) : Int) := dm_
 obtain ⟨go21, t1, R0, S0, gl21, cl21, HG21⟩ := Kd.R_form d0.out (by omega)
 (first | cases R0 | (injection R0 with ea_ en_ ec_; (first | subst ea_ | (injection ea_ with ea_; subst ea_)); subst ec_; clear en_))
 have GB21 := a_ S0
 have GG21 := a_ HG21
 clear S0 gl21 HG21
 obtain ⟨T0, hf21_0⟩ := Kd.R_celln 0 d0.out (b0 : Int) P0 Q0
 replace P0 := eq_true P0
 replace Q0 := eq_true Q0
 have HP23 := Kd.R_putn d0.out (b0 : Int) (wrap64 ((rd l0 a0) + (wrap64 (Int.tdiv (wrap64 ((wrap64 ((rd l0 (f0)) - (rd l0 a0))) * (wrap64 (b0 - e0)))) (wrap64 (g0 - e0))))))
 rw [← W0.out] at HP23
 have HQ23 := a_ HP23
 clear HP23
 refine start_ (n := 27) (S := fun w' => w'.cell? (m0.add (a0).toNat) = some (.int .i64 (rd l0 a0)) ∧ w'.cell? (m0.add ((f0)).toNat) = some (.int .i64 (rd l0 (f0))) ∧ w'.cell? (m0.add (a0).toNat) = some (.int .i64 (rd l0 a0))) (ds := [26]) (B_ 27 0) kf_ rfl rfl ⟨(hc_ HB G0), (hc_ HB H0), (hc_ HB I0)⟩ (fun hHeld => ?_); refine with_tabW floor_Line.tab11 floor_Line.bits11 (fun HT_ HW_ => ?_)
 generalize wr.drew = z1 at d0 HB GG21 HQ23 hf21_0 i0 j0 k0 T0 hHeld ⊢
 refine pu_ 0 (some 27) (B_ 27 1) HT_ ?_
 refine pu_ 1 (some 28) (B_ 27 3) HT_ ?_
 refine pu_ 2 (some 29) (B_ 27 7) HT_ ?_
 refine pu_ 3 (some 30) (B_ 27 15) HT_ ?_
 refine pu_ 4 (some 31) (B_ 27 31) HT_ ?_
 refine pu_ 6 (some 33) (B_ 27 95) HT_ ?_
 refine pu_ 7 (some 34) (B_ 27 223) HT_ ?_
 refine pu_ 8 (some 35) (B_ 27 479) HT_ ?_
 refine pu_ 9 (some 36) (B_ 27 991) HT_ ?_
 refine pu_ 11 (some 38) (B_ 27 3039) HT_ ?_
 refine pu_ 12 (some 39) (B_ 27 7135) HT_ ?_
 refine pu_ 13 (some 40) (B_ 27 15327) HT_ ?_
 refine pu_ 16 (some 43) (B_ 27 80863) HT_ ?_
 refine pu_ 17 (some 44) (B_ 27 211935) HT_ ?_
 refine pu_ 18 (some 45) (B_ 27 474079) HT_ ?_
 refine pu_ 20 (some 47) (B_ 27 1522655) HT_ ?_
 refine pu_ 21 (some 48) (B_ 27 3619807) HT_ ?_
 refine pu_ 22 (some 49) (B_ 27 7814111) HT_ ?_
 refine take_ (i := 5) (N := some 32) (v := ?_) (a' := ?_) (B_ 27 7814143) rfl rfl (take_ofW HT_.out HW_.out kf_) (fun _ _ _ h => h) (Or.inl ⟨by rfl, ?_⟩) hHeld ?_ ?_
 rotate_left
 {
 rintro w' ⟨s0, s1, s2⟩
 go_simp
 with_reducible rfl}
 rotate_left
 {
 exact sp_}
 refine take_ (i := 10) (N := some 37) (v := ?_) (a' := ?_) (B_ 27 7815167) rfl rfl (take_ofW HT_.out HW_.out kf_) (fun _ _ _ h => h) (Or.inl ⟨by rfl, ?_⟩) hHeld ?_ ?_
 rotate_left
 {
 rintro w' ⟨s0, s1, s2⟩
 go_simp
 with_reducible rfl}
 rotate_left
 {
 exact sp_}
 refine take_ (i := 14) (N := some 41) (v := ?_) (a' := ?_) (B_ 27 7831551) rfl rfl (take_ofW HT_.out HW_.out kf_) (fun _ _ _ h => h) (Or.inl ⟨by rfl, ?_⟩) hHeld ?_ ?_
 rotate_left
 {
 rintro w' ⟨s0, s1, s2⟩
 go_simp
 with_reducible rfl}
 rotate_left
 {
 exact sp_}
 refine pu_ 15 (some 42) (B_ 27 7864319) HT_ ?_
 refine pu_ 19 (some 46) (B_ 27 8388607) HT_ ?_
 refine pu_ 23 (some 50) (B_ 27 16777215) HT_ ?_
 refine pu_ 24 (some 51) (B_ 27 33554431) HT_ ?_
 refine pu_ 25 (some 52) (B_ 27 67108863) HT_ ?_
 refine last_ (i := 26) (N := none) (B_ 27 134217727) rfl rfl (one_of HT_.out kf_) (by decide) (fun K hK => ?_)
 refine skip_ (w1 := ?_) (by rfl) rfl ?_ ?_
 rotate_left
 {
 go_simp
 rfl}
 refine hK.out _ _ ?_
 clear hK K
 refine done_ (done_of HT_.out kf_) ?_
 try go_wp2
 first | go_roundg k2 | (subst o0; go_roundg k2)
 case measure => have := E0.out; have := F0.out; omega
 case rel => exact ⟨(b1), (wrap64 (b0 + 1)), rs_, H', ⟨by have := E0.out; have := F0.out; omega⟩, ⟨kR_ HQ23⟩, ⟨by repeat (first | (with_reducible first | exact HB.out | apply below_alloc | apply pw_below_drewN | apply below_drew1 | refine below_set ?_ GB21.out) | exact HB.out)⟩⟩}}
 {
 have H' := a_ H
 clear H
 go_wp2
 go_roundg k2
 case measure => have := E0.out; have := F0.out; omega
 case rel => exact ⟨(h0), (wrap64 (a0 + 1)), rs_, H', ⟨by have := E0.out; have := F0.out; omega⟩, ⟨kR_ d0⟩, ⟨bl_ HB⟩⟩}))}
 {
 simp only [Option.some.injEq, Prod.mk.injEq] at H
 obtain ⟨rfl, rfl⟩ := H
 go_wp2
 go_ret2
 exact ⟨_, er_, kR_ d0, bl_ HB⟩}))}
 {
 simp only [Option.some.injEq, Prod.mk.injEq] at H
 obtain ⟨rfl, rfl⟩ := H
 go_enter Try.func68, Try.ntmps68
 go_wp2_with (first | ((with_reducible refine gate_callee (f := 86) rfl ?_); refine gL_ (some 10) Try.func86 #[.slice A0 l0.length c0] ?_; (with_reducible refine (floor_Right.calls k _ _ l0 false _ ?side1 ?side2 A2.out).mono ?_); (case side1 => repeat (first | exact r0.out | (with_reducible refine Kd.C_alloc ?_ _) | (with_reducible refine Kd.C_drewN ?_ _) | (with_reducible refine Kd.C_drew ?_))); (case side2 => exact Z0.out); rintro e w' ⟨rfl, ⟨nd, rfl⟩⟩; refine ⟨_, rfl, ?_⟩))
 go_ret2
 exact ⟨_, er_, kn_, bl_ HB⟩}
def num_Sqrt.l0 : Nat → Int → Int → Int → Option (Int)
  | 0, _, _, _ => none
  | k + 1, x0, x3, x4 => if x4 > 0 then (if (Go.bits .or .u64 x3 x4) = 0 then (none) else (if (Go.bits .or .u64 x3 x4) ≤ (IntKind.u64.wrap (Int.tdiv x0 (Go.bits .or .u64 x3 x4))) then (num_Sqrt.l0 k x0 (Go.bits .or .u64 x3 x4) (x4 / 2)) else (num_Sqrt.l0 k x0 x3 (x4 / 2)))) else (some x3)
def num_Sqrt.f (k : Nat) (a0 : Int) : Option (Int) := num_Sqrt.l0 k a0 0 2147483648
theorem num_Sqrt.mono_l : ∀ k, (∀ y0 y1 y2, LeO (num_Sqrt.l0 k y0 y1 y2) (num_Sqrt.l0 (k + 1) y0 y1 y2))
  | 0 => fun _ _ _ r h => by simp [num_Sqrt.l0] at h
  | k + 1 => by
    have a0 := num_Sqrt.mono_l k
    · intro y0 y1 y2
      unfold num_Sqrt.l0
      with_reducible repeat' first
   | apply a0
   | exact LeO.refl _
   | exact LeO.none _
   | refine LeO.ite ?_ ?_
   | refine LeO.bind ?_ (fun _ => ?_)
theorem num_Sqrt.mono : ∀ a0 k, LeO (num_Sqrt.f k a0) (num_Sqrt.f (k + 1) a0) := by
  intro a0 k
  have b0 := num_Sqrt.mono_l k
  unfold num_Sqrt.f
  with_reducible repeat' first
   | apply b0
   | exact LeO.refl _
   | exact LeO.none _
   | refine LeO.ite ?_ ?_
   | refine LeO.bind ?_ (fun _ => ?_)
set_option maxHeartbeats 8000000 in
set_option maxRecDepth 100000 in
theorem num_Sqrt.calls (k : Nat) (a0 : Int) (r : Int) (w : World) (h : num_Sqrt.f k a0 = some r) :
    Calls Try.prog 96 #[.int .u64 a0] w fun e w' => e = .returned (.int .u64 r) ∧ Drawn0 w w' := by
 have H : (num_Sqrt.l0 k a0 0 2147483648) = some r := h
 clear h
 have H' := a_ H
 clear H
 go_enter Try.func96, Try.ntmps96
 go_wp2
 go_loopg [3, 4] k (fun kq v3 v4 w' => ∃ (c0 : Int) (b0 : Int), v3 = .int .u64 c0 ∧ v4 = .int .u64 b0 ∧ Aside0 (num_Sqrt.l0 kq a0 c0 b0 = some r) ∧ Aside0 (kq ≤ k) ∧ Drawn0 w w')
 case atStart => exact ⟨(0), (2147483648), rs_, rs_, H', ⟨Nat.le_refl _⟩, dr_⟩
 case round => (
 clear H'
 obtain ⟨c0, b0, rfl, rfl, HA, d0, ⟨m1, rfl⟩⟩ := hrel
 cases gk with
 | zero => exact absurd HA.out (by simp [num_Sqrt.l0])
 | succ k1 => (
 have H := HA.out
 clear HA
 simp only [num_Sqrt.l0] at H
 replace H := ii_ H
 rcases H with ⟨c2, H⟩ | ⟨c2, H⟩
 {
 have e0 : decide (0 < b0) = true := decide_eq_true c2
 clear c2
 replace H := ii_ H
 rcases H with ⟨c3, H⟩ | ⟨c3, H⟩
 {
 exact absurd H (by simp)}
 {
 have g0 : ((Go.bits .or .u64 c0 b0) == 0) = false := beq_eq_false_iff_ne.mpr c3
 have h0 : ((Go.bits .or .u64 c0 b0) != 0) = true := bne_iff_ne.mpr c3
 replace H := id_ H
 rcases H with ⟨f0, H⟩ | ⟨f0, H⟩
 {
 have H' := a_ H
 clear H
 go_wp2
 go_roundg k1
 case measure => have := d0.out; omega
 case rel => exact ⟨(Go.bits .or .u64 c0 b0), (b0 / 2), rs_, rs_, H', ⟨by have := d0.out; omega⟩, dr_⟩}
 {
 have H' := a_ H
 clear H
 go_wp2
 go_roundg k1
 case measure => have := d0.out; omega
 case rel => exact ⟨(c0), (b0 / 2), rs_, rs_, H', ⟨by have := d0.out; omega⟩, dr_⟩}}}
 {
 have e0 : decide (0 < b0) = false := decide_eq_false c2
 clear c2
 obtain rfl := Option.some.inj H
 go_wp2
 go_ret
 exact ⟨es_, dr_⟩}))
def band_Value.f (k : Nat) (a0 : Int) : Option (Int) := if a0 < 1 then (some 0) else (if a0 > 44 then (some 0) else (if 0 ≤ (wrap64 (a0 - 1)) then ((num_Sqrt.f k (shl .u64 1 (wrap64 (a0 - 1)))).bind fun b0 => (some (wrap64 (b0)))) else (none)))
theorem band_Value.mono : ∀ a0 k, LeO (band_Value.f k a0) (band_Value.f (k + 1) a0) := by
  intro a0 k
  unfold band_Value.f
  with_reducible repeat' first
   | apply num_Sqrt.mono
   | exact LeO.refl _
   | exact LeO.none _
   | refine LeO.ite ?_ ?_
   | refine LeO.bind ?_ (fun _ => ?_)
set_option maxHeartbeats 8000000 in
set_option maxRecDepth 100000 in
theorem band_Value.calls (k : Nat) (a0 : Int) (r : Int) (w : World) (h : band_Value.f k a0 = some r) :
    Calls Try.prog 69 #[.int .i64 a0] w fun e w' => e = .returned (.int .i64 r) ∧ Drawn0 w w' := by
 have H : (if a0 < 1 then (some 0) else (if a0 > 44 then (some 0) else (if 0 ≤ (wrap64 (a0 - 1)) then ((num_Sqrt.f k (shl .u64 1 (wrap64 (a0 - 1)))).bind fun c0 => (some (wrap64 (c0)))) else (none)))) = some r := h
 clear h
 replace H := id_ H
 rcases H with ⟨g0, H⟩ | ⟨g0, H⟩
 {
 obtain rfl := Option.some.inj H
 go_enter Try.func69, Try.ntmps69
 go_wp2
 go_ret
 exact ⟨es_, dr_⟩}
 {
 replace H := ii_ H
 rcases H with ⟨c3, H⟩ | ⟨c3, H⟩
 {
 have h0 : decide (44 < a0) = true := decide_eq_true c3
 clear c3
 obtain rfl := Option.some.inj H
 go_enter Try.func69, Try.ntmps69
 go_wp2
 go_ret
 exact ⟨es_, dr_⟩}
 {
 have h0 : decide (44 < a0) = false := decide_eq_false c3
 clear c3
 obtain ⟨b0, f0⟩ : ∃ j_ : Int, (wrap64 (a0 - 1)) = j_ := ⟨_, rfl⟩
 replace H : (if 0 ≤ (b0) then ((num_Sqrt.f k (shl .u64 1 (b0))).bind fun c0 => (some (wrap64 (c0)))) else (none)) = some r := by first | (rw [f0] at H; exact H) | (simp only [f0] at H ⊢; exact H)
 have hji4w : (IntKind.i64.wrap (a0 - 1)) = b0 := (i64_w _).trans f0
 replace H := gt_ H
 obtain ⟨c5, H⟩ := H
 have i0 := eq_true c5
 have j0 : decide (0 ≤ (b0)) = true := decide_eq_true c5
 clear c5
 obtain ⟨e0, d0⟩ : ∃ j_ : Int, (shl .u64 1 (b0)) = j_ := ⟨_, rfl⟩
 replace H : ((num_Sqrt.f k (e0)).bind fun c0 => (some (wrap64 (c0)))) = some r := by first | (rw [d0] at H; exact H) | (simp only [d0] at H ⊢; exact H)
 have hji6_ : (IntKind.u64.wrap (1 * 2 ^ min (b0).toNat 64)) = e0 := d0
 have hji6z : (b0) ≤ 64 → (IntKind.u64.wrap (1 * 2 ^ (b0).toNat)) = e0 := shl_small d0
 have hji6u : (IntKind.u64.wrap (2 ^ min (b0).toNat 64)) = e0 := by have h_ := hji6_; rw [Int.one_mul] at h_; exact h_
 have hji6v : (b0) ≤ 64 → (IntKind.u64.wrap (2 ^ (b0).toNat)) = e0 := fun hle_ => by have h_ := hji6z hle_; rw [Int.one_mul] at h_; exact h_
 obtain ⟨c0, A7, H⟩ := ob_ H
 (try dsimp only at H)
 obtain rfl := Option.some.inj H
 go_enter Try.func69, Try.ntmps69
 go_wp2_with (first | ((with_reducible refine gate_callee (f := 96) rfl ?_); refine goesL_ (some 12) rfl rfl Try.func96 kf_ rfl #[.int .u64 e0] rfl (by (try simp only [List.map_toArray, List.map_cons, List.map_nil]); first | done | (simp only [d0]; rfl) | rfl | (simp only [List.length_drop, List.length_take]; rfl)) ?_; (with_reducible refine (num_Sqrt.calls k e0 c0 _ A7.out).mono ?_); rintro e w' ⟨rfl, ⟨nd, rfl⟩⟩; refine ⟨_, rfl, ?_⟩))
 go_ret
 exact ⟨by first | rfl | (simp; done) | (simp only [← f0, ← d0] <;> (first | rfl | simp)) | (simp [*]; done), dr_⟩}}
def floor_Floor.l0 : Nat → List Int → List Int → Int → Int → Option (List Int × Int)
  | 0, _, _, _, _ => none
  | k + 1, x6, b0, c0, a0 => if a0 < c0 then (if 0 ≤ a0 then (if a0 < (b0.length : Int) then ((band_Value.f k (rd b0 a0)).bind fun d0 => (if x6.length < 17592186044416 then (floor_Floor.l0 k (x6 ++ [mx 1 d0]) b0 c0 (wrap64 (a0 + 1))) else (none))) else (none)) else (none)) else (some (x6, 0))
def floor_Floor.f (k : Nat) (l0 : List Int) : Option (List Int × Int) := (floor_Line.f k l0).bind fun a0 => (if a0.2 = 0 then (floor_Floor.l0 k ([] : List Int) a0.1 (a0.1.length : Int) 0) else (some (([] : List Int), a0.2)))
theorem floor_Floor.mono_l : ∀ k, (∀ y0 y1 y2 y3, LeO (floor_Floor.l0 k y0 y1 y2 y3) (floor_Floor.l0 (k + 1) y0 y1 y2 y3))
  | 0 => fun _ _ _ _ r h => by simp [floor_Floor.l0] at h
  | k + 1 => by
    have a0 := floor_Floor.mono_l k
    · intro y0 y1 y2 y3
      unfold floor_Floor.l0
      with_reducible repeat' first
   | apply a0
   | apply band_Value.mono
   | apply floor_Line.mono
   | exact LeO.refl _
   | exact LeO.none _
   | refine LeO.ite ?_ ?_
   | refine LeO.bind ?_ (fun _ => ?_)
theorem floor_Floor.mono : ∀ a0 k, LeO (floor_Floor.f k a0) (floor_Floor.f (k + 1) a0) := by
  intro a0 k
  have b0 := floor_Floor.mono_l k
  unfold floor_Floor.f
  with_reducible repeat' first
   | apply b0
   | apply band_Value.mono
   | apply floor_Line.mono
   | exact LeO.refl _
   | exact LeO.none _
   | refine LeO.ite ?_ ?_
   | refine LeO.bind ?_ (fun _ => ?_)
set_option maxHeartbeats 8000000 in
set_option maxRecDepth 100000 in
theorem floor_Floor.calls (k : Nat) (A0 : Option Addr) (c0 : Nat) (l0 : List Int) (r1 : List Int) (r2 : Int) (w : World) (hr0 : Kd.C (Kd.int .i64) w A0 l0.length l0) (hc0 : l0.length ≤ c0) (h : floor_Floor.f k l0 = some (r1, r2)) :
    Calls Try.prog 34 #[.slice A0 l0.length c0] w fun e w' => ∃ v0_ : Value, e = .returned (.tuple #[v0_, .int .i64 r2]) ∧ Kd.R (Kd.int .i64) 2 w' w.heap.size (fun _ => True) v0_ r1 ∧ Below w.heap.size w w' := by
 have z0 := a_ hr0
 have B0 := a_ hc0
 clear hr0 hc0
 have HB := a_ (Below.refl w.heap.size w)
 have H : ((floor_Line.f k l0).bind fun g0 => (if g0.2 = 0 then (floor_Floor.l0 k ([] : List Int) g0.1 (g0.1.length : Int) 0) else (some (([] : List Int), g0.2)))) = some (r1, r2) := h
 clear h
 obtain ⟨⟨b0, q0⟩, A2, H⟩ := ob_ H
 (try dsimp only at H)
 replace H := ie_ H
 rcases H with ⟨r0, s0, H⟩ | ⟨c3, r0, s0, H⟩
 {
 have H' := a_ H
 clear H
 go_enter Try.func34, Try.ntmps34
 go_wp2_with (first | ((with_reducible refine gate_callee (f := 68) rfl ?_); refine gL_ (some 11) Try.func68 #[.slice A0 l0.length c0] ?_; (with_reducible refine (floor_Line.calls k _ _ l0 b0 q0 _ ?side1 ?side2 A2.out).mono ?_); (case side1 => repeat (first | exact z0.out | (with_reducible refine Kd.C_alloc ?_ _) | (with_reducible refine Kd.C_drewN ?_ _) | (with_reducible refine Kd.C_drew ?_))); (case side2 => exact B0.out); rintro e w4 ⟨E0, rfl, n0, hb⟩; refine ⟨_, rfl, ?_⟩; have j0 := a_ (Kd.R_lower n0 (bs_ HB)); replace HB := BS_ HB hb; (try clear hb); (try clear n0); obtain ⟨J0, K0, L0⟩ := Kd.R_slice j0.out; subst L0))
 go_loopg [6, 19] k (fun kq v6 M0 w' => ∃ (d0 : List Int) (a0 : Int), M0 = .int .i64 a0 ∧ Aside0 (floor_Floor.l0 kq d0 b0 (b0.length : Int) a0 = some (r1, r2)) ∧ Aside0 (kq ≤ k) ∧ Aside0 (Kd.R (Kd.int .i64) 2 w' w.heap.size (fun _ => True) v6 d0) ∧ Aside0 (Kd.R (Kd.int .i64) 3 w' w.heap.size (fun _ => True) (.slice J0 b0.length K0) b0) ∧ Aside0 (Below w.heap.size w w'))
 case atStart => exact ⟨(([] : List Int)), (0), rs_, H', ⟨Nat.le_refl _⟩, ⟨kn_⟩, ⟨kR_ j0⟩, ⟨bl_ HB⟩⟩
 case round => (
 clear H'
 try clear c3
 try clear r0
 try clear s0
 obtain ⟨d0, a0, rfl, HA, C0, k0, h0, HB⟩ := hrel
 cases gk with
 | zero => exact absurd HA.out (by simp [floor_Floor.l0])
 | succ k1 => (
 have H := HA.out
 clear HA
 simp only [floor_Floor.l0] at H
 replace H := id_ H
 rcases H with ⟨F0, H⟩ | ⟨F0, H⟩
 {
 replace H := gd_ H
 obtain ⟨O0, H⟩ := H
 replace H := gd_ H
 obtain ⟨P0, H⟩ := H
 obtain ⟨m0, A9, H⟩ := ob_ H
 (try dsimp only at H)
 obtain ⟨e0, f0⟩ : ∃ j_ : Int, (mx 1 m0) = j_ := ⟨_, rfl⟩
 replace H : (if d0.length < 17592186044416 then (floor_Floor.l0 k1 (d0 ++ [e0]) b0 (b0.length : Int) (wrap64 (a0 + 1))) else (none)) = some (r1, r2) := by first | (rw [f0] at H; exact H) | (simp only [f0] at H ⊢; exact H)
 (try rw [f0] at A9)
 (try (have hji10l : 1 ≤ e0 := by (rw [← f0]; unfold mx; (repeat' split) <;> omega)))
 (try (have hji10m : 0 ≤ e0 := by omega))
 have hji10_ : (if 1 < m0 then m0 else 1) = e0 := f0
 replace H := gt_ H
 obtain ⟨D0, H⟩ := H
 have t0 := a_ D0
 clear D0
 obtain ⟨G0, i0⟩ : ∃ y_ : List Int, y_ = (d0 ++ [e0]) := ⟨_, rfl⟩
 first | replace H := by_ H i0 | rw [← i0] at H
 have v0 := a_ i0
 clear i0
 have H' := a_ H
 clear H
 have o0 : 0 ≤ (a0 : Int) := dm_
 have p0 : a0 < (b0.length : Int) := dm_
 obtain ⟨N0, H0, I0⟩ := Kd.at_int (Kd.R_reads' h0.out).2.2 a0 o0 p0
 cases H0
 replace o0 := eq_true o0
 replace p0 := eq_true p0
 go_wp2_with (first | ((with_reducible refine gate_callee (f := 69) rfl ?_); refine gL_ (some 25) Try.func69 #[.int .i64 (rd b0 a0)] ?_; (with_reducible refine (band_Value.calls k1 (rd b0 a0) m0 _ A9.out).mono ?_); rintro e w' ⟨rfl, ⟨nd, rfl⟩⟩; refine ⟨_, rfl, ?_⟩) | ((with_reducible refine gate_builtin (b := .append) (xs := #[.tmp 23, .tmp 27]) rfl ?_); at_builtin; refine Kd.R_append (Kd.int .i64) (w0 := w) w.heap.size rfl (.tmp 23) (.tmp 27) 53 2 (.int .i64 0) 8 rfl Try.underlying53 info2 rfl (by decide) (by omega) u6 d0 e0 [.int .i64 e0] (fun _ => True) (fun _ => False) rfl rfl ?aP (fun _ hk => hk.elim) ?aF ?aO ?aB ?aS ?aL ?_; (case aP => exact rfl); (case aB => exact (bl_ HB)); (case aF => exact (fun _ _ => trivial)); (case aO => exact (kR_ k0)); (case aS => exact (bs_ HB)); (case aL => have := t0.out; omega); intro Q0 R0 ho hb hg hat; rw [← v0.out] at ho; replace h0 := a_ (Kd.R_over' (kR_ h0) (Kd.R_typed (kR_ k0)) (by decide) hg); replace HB := a_ (hb); have y0 := a_ (ho); clear k0; clear ho hb hg hat))
 go_roundg k1
 case measure => have := C0.out; omega
 case rel => exact ⟨(G0), (wrap64 (a0 + 1)), rs_, H', ⟨by have := C0.out; omega⟩, ⟨kR_ y0⟩, ⟨kR_ h0⟩, ⟨bl_ HB⟩⟩}
 {
 simp only [Option.some.injEq, Prod.mk.injEq] at H
 obtain ⟨rfl, rfl⟩ := H
 go_wp2
 go_ret2
 exact ⟨_, er_, kR_ k0, bl_ HB⟩}))}
 {
 simp only [Option.some.injEq, Prod.mk.injEq] at H
 obtain ⟨rfl, rfl⟩ := H
 go_enter Try.func34, Try.ntmps34
 go_wp2_with (first | ((with_reducible refine gate_callee (f := 68) rfl ?_); refine gL_ (some 11) Try.func68 #[.slice A0 l0.length c0] ?_; (with_reducible refine (floor_Line.calls k _ _ l0 b0 q0 _ ?side1 ?side2 A2.out).mono ?_); (case side1 => repeat (first | exact z0.out | (with_reducible refine Kd.C_alloc ?_ _) | (with_reducible refine Kd.C_drewN ?_ _) | (with_reducible refine Kd.C_drew ?_))); (case side2 => exact B0.out); rintro e S0 ⟨E0, rfl, n0, hb⟩; refine ⟨_, rfl, ?_⟩; have j0 := a_ (Kd.R_lower n0 (bs_ HB)); replace HB := BS_ HB hb; (try clear hb); (try clear n0)))
 go_ret2
 exact ⟨_, er_, kn_, bl_ HB⟩}
def num_Log2.l0 : Nat → Int → Int → Option (Int)
  | 0, _, _ => none
  | k + 1, x0, x3 => if x0 > 0 then (num_Log2.l0 k (x0 / 2) (wrap64 (x3 + 1))) else (some x3)
def num_Log2.f (k : Nat) (a0 : Int) : Option (Int) := num_Log2.l0 k a0 (-1)
theorem num_Log2.mono_l : ∀ k, (∀ y0 y1, LeO (num_Log2.l0 k y0 y1) (num_Log2.l0 (k + 1) y0 y1))
  | 0 => fun _ _ r h => by simp [num_Log2.l0] at h
  | k + 1 => by
    have a0 := num_Log2.mono_l k
    · intro y0 y1
      unfold num_Log2.l0
      with_reducible repeat' first
   | apply a0
   | exact LeO.refl _
   | exact LeO.none _
   | refine LeO.ite ?_ ?_
   | refine LeO.bind ?_ (fun _ => ?_)
theorem num_Log2.mono : ∀ a0 k, LeO (num_Log2.f k a0) (num_Log2.f (k + 1) a0) := by
  intro a0 k
  have b0 := num_Log2.mono_l k
  unfold num_Log2.f
  with_reducible repeat' first
   | apply b0
   | exact LeO.refl _
   | exact LeO.none _
   | refine LeO.ite ?_ ?_
   | refine LeO.bind ?_ (fun _ => ?_)
set_option maxHeartbeats 8000000 in
set_option maxRecDepth 100000 in
theorem num_Log2.calls (k : Nat) (a0 : Int) (r : Int) (w : World) (h : num_Log2.f k a0 = some r) :
    Calls Try.prog 118 #[.int .u64 a0] w fun e w' => e = .returned (.int .i64 r) ∧ Drawn0 w w' := by
 have H : (num_Log2.l0 k a0 (-1)) = some r := h
 clear h
 have H' := a_ H
 clear H
 go_enter Try.func118, Try.ntmps118
 go_wp2
 go_loopg [0, 3] k (fun kq v0 v3 w' => ∃ (b0 : Int) (c0 : Int), v0 = .int .u64 b0 ∧ v3 = .int .i64 c0 ∧ Aside0 (num_Log2.l0 kq b0 c0 = some r) ∧ Aside0 (kq ≤ k) ∧ Drawn0 w w')
 case atStart => exact ⟨(a0), ((-1)), rs_, rs_, H', ⟨Nat.le_refl _⟩, dr_⟩
 case round => (
 clear H'
 obtain ⟨b0, c0, rfl, rfl, HA, d0, ⟨m1, rfl⟩⟩ := hrel
 cases gk with
 | zero => exact absurd HA.out (by simp [num_Log2.l0])
 | succ k1 => (
 have H := HA.out
 clear HA
 simp only [num_Log2.l0] at H
 replace H := ii_ H
 rcases H with ⟨c2, H⟩ | ⟨c2, H⟩
 {
 have e0 : decide (0 < b0) = true := decide_eq_true c2
 clear c2
 have H' := a_ H
 clear H
 go_wp2
 go_roundg k1
 case measure => have := d0.out; omega
 case rel => exact ⟨(b0 / 2), (wrap64 (c0 + 1)), rs_, rs_, H', ⟨by have := d0.out; omega⟩, dr_⟩}
 {
 have e0 : decide (0 < b0) = false := decide_eq_false c2
 clear c2
 obtain rfl := Option.some.inj H
 go_wp2
 go_ret
 exact ⟨es_, dr_⟩}))
def band_gain.f (k : Nat) (a0 : Int) : Option (Int) := (num_Log2.f k a0).bind fun b0 => (some (wrap64 (b0 + 1)))
theorem band_gain.mono : ∀ a0 k, LeO (band_gain.f k a0) (band_gain.f (k + 1) a0) := by
  intro a0 k
  unfold band_gain.f
  with_reducible repeat' first
   | apply num_Log2.mono
   | exact LeO.refl _
   | exact LeO.none _
   | refine LeO.ite ?_ ?_
   | refine LeO.bind ?_ (fun _ => ?_)
set_option maxHeartbeats 8000000 in
set_option maxRecDepth 100000 in
theorem band_gain.calls (k : Nat) (a0 : Int) (r : Int) (w : World) (h : band_gain.f k a0 = some r) :
    Calls Try.prog 113 #[.int .u64 a0] w fun e w' => e = .returned (.int .i64 r) ∧ Drawn0 w w' := by
 have H : ((num_Log2.f k a0).bind fun b0 => (some (wrap64 (b0 + 1)))) = some r := h
 clear h
 obtain ⟨b0, A2, H⟩ := ob_ H
 (try dsimp only at H)
 obtain rfl := Option.some.inj H
 go_enter Try.func113, Try.ntmps113
 go_wp2_with (first | ((with_reducible refine gate_callee (f := 118) rfl ?_); refine gL_ (some 4) Try.func118 #[.int .u64 a0] ?_; (with_reducible refine (num_Log2.calls k a0 b0 _ A2.out).mono ?_); rintro e w' ⟨rfl, ⟨nd, rfl⟩⟩; refine ⟨_, rfl, ?_⟩))
 go_ret
 exact ⟨es_, dr_⟩
def band_Gain.f (k : Nat) (l0 : List Int) : Option (Int × Int) := (pvq_Square.f k l0).bind fun a0 => (if a0.2 = 0 then (if (l0.length : Int) > 8 then (some (0, 1)) else ((band_gain.f k a0.1).bind fun b0 => (some (b0, 0)))) else (some (0, 1)))
theorem band_Gain.mono : ∀ a0 k, LeO (band_Gain.f k a0) (band_Gain.f (k + 1) a0) := by
  intro a0 k
  unfold band_Gain.f
  with_reducible repeat' first
   | apply band_gain.mono
   | apply pvq_Square.mono
   | exact LeO.refl _
   | exact LeO.none _
   | refine LeO.ite ?_ ?_
   | refine LeO.bind ?_ (fun _ => ?_)
set_option maxHeartbeats 8000000 in
set_option maxRecDepth 100000 in
theorem band_Gain.calls (k : Nat) (A0 : Option Addr) (c0 : Nat) (l0 : List Int) (r1 : Int) (r2 : Int) (w : World) (hr0 : Kd.C (Kd.int .i64) w A0 l0.length l0) (hc0 : l0.length ≤ c0) (h : band_Gain.f k l0 = some (r1, r2)) :
    Calls Try.prog 97 #[.slice A0 l0.length c0] w fun e w' => e = .returned (.tuple #[.int .i64 r1, .int .i64 r2]) ∧ Drawn0 w w' := by
 have f0 := a_ hr0
 have g0 := a_ hc0
 clear hr0 hc0
 have H : ((pvq_Square.f k l0).bind fun e0 => (if e0.2 = 0 then (if (l0.length : Int) > 8 then (some (0, 1)) else ((band_gain.f k e0.1).bind fun b0 => (some (b0, 0)))) else (some (0, 1)))) = some (r1, r2) := h
 clear h
 obtain ⟨⟨a0, d0⟩, A2, H⟩ := ob_ H
 (try dsimp only at H)
 replace H := ie_ H
 rcases H with ⟨h0, i0, H⟩ | ⟨c3, h0, i0, H⟩
 {
 replace H := ii_ H
 rcases H with ⟨c4, H⟩ | ⟨c4, H⟩
 {
 have j0 : decide (8 < (l0.length : Int)) = true := decide_eq_true c4
 have k0 : decide (8 < l0.length) = true := decide_eq_true (by omega)
 clear c4
 simp only [Option.some.injEq, Prod.mk.injEq] at H
 obtain ⟨rfl, rfl⟩ := H
 go_enter Try.func97, Try.ntmps97
 go_wp2_with (first | ((with_reducible refine gate_callee (f := 80) rfl ?_); refine gL_ (some 8) Try.func80 #[.slice A0 l0.length c0] ?_; (with_reducible refine (pvq_Square.calls k _ _ l0 a0 d0 _ ?side1 ?side2 A2.out).mono ?_); (case side1 => repeat (first | exact f0.out | (with_reducible refine Kd.C_alloc ?_ _) | (with_reducible refine Kd.C_drewN ?_ _) | (with_reducible refine Kd.C_drew ?_))); (case side2 => exact g0.out); rintro e w' ⟨rfl, ⟨nd, rfl⟩⟩; refine ⟨_, rfl, ?_⟩))
 go_ret2
 exact ⟨es_, dr_⟩}
 {
 have j0 : decide (8 < (l0.length : Int)) = false := decide_eq_false c4
 have k0 : decide (8 < l0.length) = false := decide_eq_false (by omega)
 clear c4
 obtain ⟨b0, A5, H⟩ := ob_ H
 (try dsimp only at H)
 simp only [Option.some.injEq, Prod.mk.injEq] at H
 obtain ⟨rfl, rfl⟩ := H
 go_enter Try.func97, Try.ntmps97
 go_wp2_with (first | ((with_reducible refine gate_callee (f := 80) rfl ?_); refine gL_ (some 8) Try.func80 #[.slice A0 l0.length c0] ?_; (with_reducible refine (pvq_Square.calls k _ _ l0 a0 d0 _ ?side1 ?side2 A2.out).mono ?_); (case side1 => repeat (first | exact f0.out | (with_reducible refine Kd.C_alloc ?_ _) | (with_reducible refine Kd.C_drewN ?_ _) | (with_reducible refine Kd.C_drew ?_))); (case side2 => exact g0.out); rintro e w' ⟨rfl, ⟨nd, rfl⟩⟩; refine ⟨_, rfl, ?_⟩) | ((with_reducible refine gate_callee (f := 113) rfl ?_); refine gL_ (some 19) Try.func113 #[.int .u64 a0] ?_; (with_reducible refine (band_gain.calls k a0 b0 _ A5.out).mono ?_); rintro e w' ⟨rfl, ⟨nd, rfl⟩⟩; refine ⟨_, rfl, ?_⟩))
 go_ret2
 exact ⟨es_, dr_⟩}}
 {
 simp only [Option.some.injEq, Prod.mk.injEq] at H
 obtain ⟨rfl, rfl⟩ := H
 go_enter Try.func97, Try.ntmps97
 go_wp2_with (first | ((with_reducible refine gate_callee (f := 80) rfl ?_); refine gL_ (some 8) Try.func80 #[.slice A0 l0.length c0] ?_; (with_reducible refine (pvq_Square.calls k _ _ l0 a0 d0 _ ?side1 ?side2 A2.out).mono ?_); (case side1 => repeat (first | exact f0.out | (with_reducible refine Kd.C_alloc ?_ _) | (with_reducible refine Kd.C_drewN ?_ _) | (with_reducible refine Kd.C_drew ?_))); (case side2 => exact g0.out); rintro e w' ⟨rfl, ⟨nd, rfl⟩⟩; refine ⟨_, rfl, ?_⟩))
 go_ret2
 exact ⟨es_, dr_⟩}
def band_Gains.l0 : Nat → List Int → List (List Int) → Int → Int → Option (List Int × Int)
  | 0, _, _, _, _ => none
  | k + 1, x6, b0, d0, a0 => if a0 < d0 then (if 0 ≤ a0 then (if a0 < (b0.length : Int) then ((band_Gain.f k (rd_L2 b0 a0)).bind fun c0 => (if x6.length < 17592186044416 then (band_Gains.l0 k (x6 ++ [c0.1]) b0 d0 (wrap64 (a0 + 1))) else (none))) else (none)) else (none)) else (some (x6, 0))
def band_Gains.f (k : Nat) (l0 : List Int) : Option (List Int × Int) := (band_Split.f k l0).bind fun a0 => (if a0.2 = 0 then (band_Gains.l0 k ([] : List Int) a0.1 (a0.1.length : Int) 0) else (some (([] : List Int), a0.2)))
theorem band_Gains.mono_l : ∀ k, (∀ y0 y1 y2 y3, LeO (band_Gains.l0 k y0 y1 y2 y3) (band_Gains.l0 (k + 1) y0 y1 y2 y3))
  | 0 => fun _ _ _ _ r h => by simp [band_Gains.l0] at h
  | k + 1 => by
    have a0 := band_Gains.mono_l k
    · intro y0 y1 y2 y3
      unfold band_Gains.l0
      with_reducible repeat' first
   | apply a0
   | apply band_Gain.mono
   | apply band_Split.mono
   | exact LeO.refl _
   | exact LeO.none _
   | refine LeO.ite ?_ ?_
   | refine LeO.bind ?_ (fun _ => ?_)
theorem band_Gains.mono : ∀ a0 k, LeO (band_Gains.f k a0) (band_Gains.f (k + 1) a0) := by
  intro a0 k
  have b0 := band_Gains.mono_l k
  unfold band_Gains.f
  with_reducible repeat' first
   | apply b0
   | apply band_Gain.mono
   | apply band_Split.mono
   | exact LeO.refl _
   | exact LeO.none _
   | refine LeO.ite ?_ ?_
   | refine LeO.bind ?_ (fun _ => ?_)
set_option maxHeartbeats 8000000 in
set_option maxRecDepth 100000 in
theorem band_Gains.calls (k : Nat) (A0 : Option Addr) (c0 : Nat) (l0 : List Int) (r1 : List Int) (r2 : Int) (w : World) (hr0 : Kd.C (Kd.int .i64) w A0 l0.length l0) (hc0 : l0.length ≤ c0) (h : band_Gains.f k l0 = some (r1, r2)) :
    Calls Try.prog 74 #[.slice A0 l0.length c0] w fun e w' => ∃ v0_ : Value, e = .returned (.tuple #[v0_, .int .i64 r2]) ∧ Kd.R (Kd.int .i64) 3 w' w.heap.size (fun _ => True) v0_ r1 ∧ Below w.heap.size w w' := by
 have G0 := a_ hr0
 have H0 := a_ hc0
 clear hr0 hc0
 have HB := a_ (Below.refl w.heap.size w)
 have H : ((band_Split.f k l0).bind fun e0 => (if e0.2 = 0 then (band_Gains.l0 k ([] : List Int) e0.1 (e0.1.length : Int) 0) else (some (([] : List Int), e0.2)))) = some (r1, r2) := h
 clear h
 obtain ⟨⟨b0, t0⟩, A2, H⟩ := ob_ H
 (try dsimp only at H)
 replace H := ie_ H
 rcases H with ⟨v0, y0, H⟩ | ⟨c3, v0, y0, H⟩
 {
 have H' := a_ H
 clear H
 go_enter Try.func74, Try.ntmps74
 go_wp2_with (first | ((with_reducible refine gate_callee (f := 42) rfl ?_); refine gL_ (some 13) Try.func42 #[.slice A0 l0.length c0] ?_; (with_reducible refine (band_Split.calls k _ _ l0 b0 t0 _ ?side1 ?side2 A2.out).mono ?_); (case side1 => repeat (first | exact G0.out | (with_reducible refine Kd.C_alloc ?_ _) | (with_reducible refine Kd.C_drewN ?_ _) | (with_reducible refine Kd.C_drew ?_))); (case side2 => exact H0.out); rintro e w4 ⟨L0, rfl, p0, hb⟩; refine ⟨_, rfl, ?_⟩; have k0 := a_ (Kd.N_lower (Kd.N_mono (ok' := fun k_ => True) p0 (fun k_ hk_ => trivial)) (bs_ HB)); replace HB := BS_ HB hb; (try clear hb); (try clear p0); obtain ⟨Q0, I0, R0⟩ := Kd.N_slice k0.out; subst R0))
 go_loopg [6, 21] k (fun kq v6 S0 w' => ∃ (g0 : List Int) (a0 : Int), S0 = .int .i64 a0 ∧ Aside0 (band_Gains.l0 kq g0 b0 (b0.length : Int) a0 = some (r1, r2)) ∧ Aside0 (kq ≤ k) ∧ Aside0 (Kd.R (Kd.int .i64) 3 w' w.heap.size (fun _ => True) v6 g0) ∧ Aside0 (Kd.N (Kd.slice 2 (Kd.int .i64)) 53 w' w.heap.size (fun k_ => no_ k_ v6) (.slice Q0 b0.length I0) b0) ∧ Aside0 (Below w.heap.size w w'))
 case atStart => exact ⟨(([] : List Int)), (0), rs_, H', ⟨Nat.le_refl _⟩, ⟨kn_⟩, ⟨by (with_reducible repeat (first | apply Kd.N_alloc | apply Kd.N_drewN | apply Kd.N_drew)); exact Kd.N_mono k0.out (fun _ hk => (by simp [Value.ownBlock]))⟩, ⟨bl_ HB⟩⟩
 case round => (
 clear H'
 try clear c3
 try clear v0
 try clear y0
 obtain ⟨g0, a0, rfl, HA, J0, q0, d0, HB⟩ := hrel
 cases gk with
 | zero => exact absurd HA.out (by simp [band_Gains.l0])
 | succ k1 => (
 have H := HA.out
 clear HA
 simp only [band_Gains.l0] at H
 replace H := id_ H
 rcases H with ⟨M0, H⟩ | ⟨M0, H⟩
 {
 replace H := gd_ H
 obtain ⟨T0, H⟩ := H
 replace H := gd_ H
 obtain ⟨U0, H⟩ := H
 obtain ⟨⟨m0, N0⟩, A9, H⟩ := ob_ H
 (try dsimp only at H)
 replace H := gt_ H
 obtain ⟨K0, H⟩ := H
 have C0 := a_ K0
 clear K0
 obtain ⟨O0, f0⟩ : ∃ y_ : List Int, y_ = (g0 ++ [m0]) := ⟨_, rfl⟩
 first | replace H := by_ H f0 | rw [← f0] at H
 have D0 := a_ f0
 clear f0
 have H' := a_ H
 clear H
 have n0 : 0 ≤ (a0 : Int) := dm_
 have o0 : a0 < (b0.length : Int) := dm_
 obtain ⟨E0, z0, B0, P0, r0, h0, i0⟩ := at_L2 (Kd.N_reads' d0.out).2.2 a0 n0 o0
 cases P0
 obtain ⟨ce315, hce315, hMe315, hcc315⟩ := Kd.N_get d0.out [] a0 n0 (by first | exact o0 | exact dm_ | (have e_ := (Kd.N_reads' d0.out).1; omega))
 obtain ⟨ua315_0, uc315_0, rfl, ul315_0, ge315_0⟩ := Kd.FK_slice_open hMe315
 have hv315_0 := hcc315 0 _ rfl
 rw [Nat.add_zero, show ((Kd.slice 2 (Kd.int .i64))).sz = 1 from rfl, Nat.mul_one] at hv315_0
 replace hv315_0 := Option.some.inj (hv315_0.symm.trans r0)
 injection hv315_0 with hva_ hvn_ hvc_
 rw [hva_] at ge315_0
 rw [hvc_] at ul315_0
 have HL315_0 := a_ (show Kd.V (Kd.int .i64) 2 _ w.heap.size _ _ (rd_L2 b0 a0) from Kd.V_mk ul315_0 ge315_0)
 clear hva_ hvn_ hvc_ ge315_0 ul315_0
 clear hcc315 hce315
 have j0 := a_ i0
 have s0 := a_ h0
 clear i0 h0
 replace n0 := eq_true n0
 replace o0 := eq_true o0
 go_wp2_with (first | ((with_reducible refine gate_callee (f := 97) rfl ?_); refine gL_ (some 27) Try.func97 #[.slice z0 (rd_L2 b0 a0).length B0] ?_; (with_reducible refine (band_Gain.calls k1 _ _ (rd_L2 b0 a0) m0 N0 _ ?side1 ?side2 A9.out).mono ?_); (case side1 => repeat (first | exact (by repeat (first | (with_reducible exact j0.out) | (with_reducible refine Kd.C_alloc ?_ _) | (with_reducible refine Kd.C_drewN ?_ _) | (with_reducible refine Kd.C_drew ?_) | exact j0.out)) | (with_reducible refine Kd.C_alloc ?_ _) | (with_reducible refine Kd.C_drewN ?_ _) | (with_reducible refine Kd.C_drew ?_))); (case side2 => exact s0.out); rintro e w' ⟨rfl, ⟨nd, rfl⟩⟩; refine ⟨_, rfl, ?_⟩) | ((with_reducible refine gate_builtin (b := .append) (xs := #[.tmp 30, .tmp 32]) rfl ?_); at_builtin; refine Kd.R_append (Kd.int .i64) (w0 := w) w.heap.size rfl (.tmp 30) (.tmp 32) 22 3 (.int .i64 0) 8 rfl Try.underlying22 info3 rfl (by decide) (by omega) u6 g0 m0 [.int .i64 m0] (fun _ => True) (fun _ => False) rfl rfl ?aP (fun _ hk => hk.elim) ?aF ?aO ?aB ?aS ?aL ?_; (case aP => exact rfl); (case aB => exact (bl_ HB)); (case aF => exact (fun _ _ => trivial)); (case aO => exact (kR_ q0)); (case aS => exact (bs_ HB)); (case aL => have := C0.out; omega); intro V0 W0 ho hb hg hat; rw [← D0.out] at ho; replace d0 := a_ (Kd.N_afterv (ok := (fun _ => True)) (by (with_reducible repeat (first | apply Kd.N_alloc | apply Kd.N_drewN | apply Kd.N_drew)); exact Kd.N_mono d0.out (fun _ hk => ⟨trivial, hk⟩)) hg hat); replace HL315_0 := a_ (Kd.V_afterv (ok := (fun k_ => no_ k_ (.slice (some E0) b0.length I0))) (by (with_reducible repeat (first | apply Kd.V_alloc | apply Kd.V_drewN | apply Kd.V_drew)); exact Kd.V_mono HL315_0.out (fun _ hk => ⟨hk.2, hk.1⟩)) hg hat); replace HB := a_ (hb); have F0 := a_ (ho); clear q0; clear ho hb hg hat))
 go_roundg k1
 case measure => have := J0.out; omega
 case rel => exact ⟨(O0), (wrap64 (a0 + 1)), rs_, H', ⟨by have := J0.out; omega⟩, ⟨kR_ F0⟩, ⟨by (with_reducible repeat (first | apply Kd.N_alloc | apply Kd.N_drewN | apply Kd.N_drew)); exact Kd.N_mono d0.out (fun _ hk => hk.2)⟩, ⟨bl_ HB⟩⟩}
 {
 simp only [Option.some.injEq, Prod.mk.injEq] at H
 obtain ⟨rfl, rfl⟩ := H
 go_wp2
 go_ret2
 exact ⟨_, er_, kR_ q0, bl_ HB⟩}))}
 {
 simp only [Option.some.injEq, Prod.mk.injEq] at H
 obtain ⟨rfl, rfl⟩ := H
 go_enter Try.func74, Try.ntmps74
 go_wp2_with (first | ((with_reducible refine gate_callee (f := 42) rfl ?_); refine gL_ (some 13) Try.func42 #[.slice A0 l0.length c0] ?_; (with_reducible refine (band_Split.calls k _ _ l0 b0 t0 _ ?side1 ?side2 A2.out).mono ?_); (case side1 => repeat (first | exact G0.out | (with_reducible refine Kd.C_alloc ?_ _) | (with_reducible refine Kd.C_drewN ?_ _) | (with_reducible refine Kd.C_drew ?_))); (case side2 => exact H0.out); rintro e X0 ⟨L0, rfl, p0, hb⟩; refine ⟨_, rfl, ?_⟩; have k0 := a_ (Kd.N_lower (Kd.N_mono (ok' := fun k_ => True) p0 (fun k_ hk_ => trivial)) (bs_ HB)); replace HB := BS_ HB hb; (try clear hb); (try clear p0)))
 go_ret2
 exact ⟨_, er_, kn_, bl_ HB⟩}
mutual
def floor_Fit.j0 : Nat → List Int → Int → Bool → Option (List Int × Int)
  | 0, _, _, _ => none
  | k + 1, x0, x1, a0 => if a0 = true then (some (([] : List Int), 1)) else (if 6 ≤ 35184372088832 then (floor_Fit.l0 k x0 x1 (List.replicate 6 0) 0) else (none))
def floor_Fit.l0 : Nat → List Int → Int → List Int → Int → Option (List Int × Int)
  | 0, _, _, _, _ => none
  | k + 1, x0, x1, x6, a0 => if a0 < 6 then (if x1 > 0 then (if 0 ≤ (mn a0 4) then (if (mn a0 4) < (x0.length : Int) then (if 0 ≤ a0 then (if a0 < (x6.length : Int) then (floor_Fit.l0 k x0 x1 (x6.set (a0 : Int).toNat (mx 0 (mn (wrap64 ((wrap64 ((rd x0 (mn a0 4)) - 13)) + x1)) 44))) (wrap64 (a0 + 1))) else (none)) else (none)) else (none)) else (none)) else (floor_Fit.l0 k x0 x1 x6 (wrap64 (a0 + 1)))) else (some (x6, 0))
end
def floor_Fit.f (k : Nat) (l0 : List Int) (a1 : Int) : Option (List Int × Int) := (floor_gains.f k l0 5).bind fun a0 => (if a0 = true then (if a1 < 0 then (floor_Fit.j0 k l0 a1 true) else (floor_Fit.j0 k l0 a1 (decide (a1 > 12)))) else (floor_Fit.j0 k l0 a1 true))
theorem floor_Fit.mono_l : ∀ k, (∀ y0 y1 y2, LeO (floor_Fit.j0 k y0 y1 y2) (floor_Fit.j0 (k + 1) y0 y1 y2)) ∧ (∀ y0 y1 y2 y3, LeO (floor_Fit.l0 k y0 y1 y2 y3) (floor_Fit.l0 (k + 1) y0 y1 y2 y3))
  | 0 => ⟨fun _ _ _ r h => by simp [floor_Fit.j0] at h, fun _ _ _ _ r h => by simp [floor_Fit.l0] at h⟩
  | k + 1 => by
    obtain ⟨a0, b0⟩ := floor_Fit.mono_l k
    refine ⟨?_, ?_⟩
    all_goals (intros; first | unfold floor_Fit.j0 | unfold floor_Fit.l0)
    all_goals with_reducible repeat' first
     | apply a0
     | exact b0 _ _ _ _
     | apply floor_gains.mono
     | exact LeO.refl _
     | exact LeO.none _
     | refine LeO.ite ?_ ?_
     | refine LeO.bind ?_ (fun _ => ?_)
theorem floor_Fit.mono : ∀ a0 a1 k, LeO (floor_Fit.f k a0 a1) (floor_Fit.f (k + 1) a0 a1) := by
  intro a0 a1 k
  obtain ⟨b0, c0⟩ := floor_Fit.mono_l k
  unfold floor_Fit.f
  with_reducible repeat' first
   | apply b0
   | exact c0 _ _ _ _
   | apply floor_gains.mono
   | exact LeO.refl _
   | exact LeO.none _
   | refine LeO.ite ?_ ?_
   | refine LeO.bind ?_ (fun _ => ?_)
set_option maxHeartbeats 8000000 in
set_option maxRecDepth 100000 in
theorem floor_Fit.calls (k : Nat) (A0 : Option Addr) (c0 : Nat) (l0 : List Int) (a1 : Int) (r1 : List Int) (r2 : Int) (w : World) (hr0 : Kd.C (Kd.int .i64) w A0 l0.length l0) (hc0 : l0.length ≤ c0) (h : floor_Fit.f k l0 a1 = some (r1, r2)) :
    Calls Try.prog 75 #[.slice A0 l0.length c0, .int .i64 a1] w fun e w' => ∃ v0_ : Value, e = .returned (.tuple #[v0_, .int .i64 r2]) ∧ Kd.R (Kd.int .i64) 3 w' w.heap.size (fun _ => True) v0_ r1 ∧ Below w.heap.size w w' := by
 have w0 := a_ hr0
 have B0 := a_ hc0
 clear hr0 hc0
 have HB := a_ (Below.refl w.heap.size w)
 have H : ((floor_gains.f k l0 5).bind fun C0 => (if C0 = true then (if a1 < 0 then (floor_Fit.j0 k l0 a1 true) else (floor_Fit.j0 k l0 a1 (decide (a1 > 12)))) else (floor_Fit.j0 k l0 a1 true))) = some (r1, r2) := h
 clear h
 have D0 := a_ H
 clear H
 go_enter Try.func75, Try.ntmps75
 go_upto_region 1 with (fail)
 go_cut [18] (fun U0 wc => ∃ (kq : Nat) (f0 : Bool), U0 = .bool f0 ∧ Aside0 (floor_Fit.j0 kq l0 a1 f0 = some (r1, r2)) ∧ Aside0 (kq ≤ k) ∧ Aside0 (Below w.heap.size w wc))
 case first => (
 have H := D0.out
 clear D0
 obtain ⟨C0, A4, H⟩ := ob_ H
 (try dsimp only at H)
 replace H := ib_ H
 rcases H with ⟨rfl, H⟩ | ⟨rfl, H⟩
 {
 replace H := id_ H
 rcases H with ⟨i0, H⟩ | ⟨i0, H⟩
 {
 (first | rw [i0] | (simp only [i64_w, i32_w]; rw [i0]) | skip)
 have H' := a_ H
 clear H
 go_wp2_with (first | ((with_reducible refine gate_callee (f := 98) rfl ?_); refine gL_ (some 9) Try.func98 #[.slice A0 l0.length c0, .int .i64 5] ?_; (with_reducible refine (floor_gains.calls k _ _ l0 5 true _ ?side1 ?side2 A4.out).mono ?_); (case side1 => exact kC_ w0 HB); (case side2 => exact B0.out); rintro e w' ⟨rfl, ⟨nd, rfl⟩⟩; refine ⟨_, rfl, ?_⟩))
 go_meet
 case rel => exact ⟨_, (true), rs_, H', ⟨ol_⟩, ⟨bl_ HB⟩⟩}
 {
 (first | rw [i0] | (simp only [i64_w, i32_w]; rw [i0]) | skip)
 have H' := a_ H
 clear H
 go_wp2_with (first | ((with_reducible refine gate_callee (f := 98) rfl ?_); refine gL_ (some 9) Try.func98 #[.slice A0 l0.length c0, .int .i64 5] ?_; (with_reducible refine (floor_gains.calls k _ _ l0 5 true _ ?side1 ?side2 A4.out).mono ?_); (case side1 => exact kC_ w0 HB); (case side2 => exact B0.out); rintro e w' ⟨rfl, ⟨nd, rfl⟩⟩; refine ⟨_, rfl, ?_⟩))
 go_meet
 case rel => exact ⟨_, (decide (a1 > 12)), rs_, H', ⟨ol_⟩, ⟨bl_ HB⟩⟩}}
 {
 have H' := a_ H
 clear H
 go_wp2_with (first | ((with_reducible refine gate_callee (f := 98) rfl ?_); refine gL_ (some 9) Try.func98 #[.slice A0 l0.length c0, .int .i64 5] ?_; (with_reducible refine (floor_gains.calls k _ _ l0 5 false _ ?side1 ?side2 A4.out).mono ?_); (case side1 => exact kC_ w0 HB); (case side2 => exact B0.out); rintro e w' ⟨rfl, ⟨nd, rfl⟩⟩; refine ⟨_, rfl, ?_⟩))
 go_meet
 case rel => exact ⟨_, (true), rs_, H', ⟨ol_⟩, ⟨bl_ HB⟩⟩})
 case rest => (
 clear D0
 obtain ⟨kq, f0, rfl, HA, HJ2, HB⟩ := hcut
 cases kq with
 | zero => exact absurd HA.out (by simp [floor_Fit.j0])
 | succ kj2 => (
 have H := HA.out
 clear HA
 simp only [floor_Fit.j0] at H
 by_cases c7 : f0 = true
 {
 subst c7
 rw [if_pos rfl] at H
 simp only [Option.some.injEq, Prod.mk.injEq] at H
 obtain ⟨rfl, rfl⟩ := H
 go_wp2
 go_ret2
 exact ⟨_, er_, kn_, bl_ HB⟩}
 {
 replace c7 := Bool.eq_false_iff.mpr c7
 subst c7
 rw [if_neg (show ¬ (false = true) by decide)] at H
 replace H := gt_ H
 obtain ⟨c8, H⟩ := H
 have O0 := eq_true c8
 have P0 : decide (6 ≤ 35184372088832) = true := decide_eq_true c8
 clear c8
 obtain ⟨Q0, g0⟩ : ∃ y_ : List Int, y_ = (List.replicate 6 0) := ⟨_, rfl⟩
 first | replace H := by_ H g0 | rw [← g0] at H
 have y0 := a_ g0
 clear g0
 have H' := a_ H
 clear H
 go_wp2_with (first | ((with_reducible refine gate_dst (N := 19) rfl ?_); refine Kd.R_make (Kd.int .i64) _ 3 rfl (N := 19) rfl 22 _ _ rfl 6 rfl rfl Try.underlying22 (.int .i64 0) 8 info3 rfl (by decide) (by omega) 0 (ok := fun _ => True) (okp := fun _ => True) rfl (fun _ hk => hk) trivial (by omega) (by omega) (Below.refl _ _) (Nat.le_refl _) ?_; intro R0 w9 k0 hb hg_ hnew_; clear hg_ hnew_; (first | rw [← y0.out] at k0 | (simp only [Int.reduceToNat] at k0; rw [← y0.out] at k0)); have K0 := a_ (Kd.R_lower k0 (bs_ HB)); replace HB := BS_ HB hb; clear hb k0))
 go_loopg [20] kj2 (fun kq V0 w' => ∃ (b0 : List Int) (a0 : Int), V0 = .int .i64 a0 ∧ Aside0 (floor_Fit.l0 kq l0 a1 b0 a0 = some (r1, r2)) ∧ Aside0 (kq ≤ kj2) ∧ Aside0 (Kd.R (Kd.int .i64) 3 w' w.heap.size (fun _ => True) R0 b0) ∧ Aside0 (Below w.heap.size w w'))
 case atStart => exact ⟨(Q0), (0), rs_, H', ⟨Nat.le_refl _⟩, ⟨kR_ K0⟩, ⟨bl_ HB⟩⟩
 case round => (
 clear H'
 try clear c7
 try clear c8
 try clear O0
 try clear P0
 obtain ⟨b0, a0, rfl, HA, z0, e0, HB⟩ := hrel
 cases gk with
 | zero => exact absurd HA.out (by simp [floor_Fit.l0])
 | succ k2 => (
 have H := HA.out
 clear HA
 simp only [floor_Fit.l0] at H
 replace H := id_ H
 rcases H with ⟨L0, H⟩ | ⟨L0, H⟩
 {
 replace H := ii_ H
 rcases H with ⟨s0, H⟩ | ⟨s0, H⟩
 {
 have M0 : decide (0 < a1) = true := decide_eq_true s0
 clear s0
 obtain ⟨d0, p0⟩ : ∃ j_ : Int, (mn a0 4) = j_ := ⟨_, rfl⟩
 replace H : (if 0 ≤ (d0) then (if (d0) < (l0.length : Int) then (if 0 ≤ a0 then (if a0 < (b0.length : Int) then (floor_Fit.l0 k2 l0 a1 (b0.set (a0 : Int).toNat (mx 0 (mn (wrap64 ((wrap64 ((rd l0 (d0)) - 13)) + a1)) 44))) (wrap64 (a0 + 1))) else (none)) else (none)) else (none)) else (none)) = some (r1, r2) := by first | (rw [p0] at H; exact H) | (simp only [p0] at H ⊢; exact H)
 have hji13_ : (if 4 < a0 then 4 else a0) = d0 := p0
 replace H := gd_ H
 obtain ⟨X0, H⟩ := H
 replace H := gd_ H
 obtain ⟨Y0, H⟩ := H
 obtain ⟨m0, q0⟩ : ∃ j_ : Int, (mn (wrap64 ((wrap64 ((rd l0 (d0)) - 13)) + a1)) 44) = j_ := ⟨_, rfl⟩
 replace H : (if 0 ≤ a0 then (if a0 < (b0.length : Int) then (floor_Fit.l0 k2 l0 a1 (b0.set (a0 : Int).toNat (mx 0 (m0))) (wrap64 (a0 + 1))) else (none)) else (none)) = some (r1, r2) := by first | (rw [q0] at H; exact H) | (simp only [q0] at H ⊢; exact H)
 have hji16_ : (if 44 < (wrap64 ((wrap64 ((rd l0 (d0)) - 13)) + a1)) then 44 else (wrap64 ((wrap64 ((rd l0 (d0)) - 13)) + a1))) = m0 := q0
 obtain ⟨n0, r0⟩ : ∃ j_ : Int, (mx 0 (m0)) = j_ := ⟨_, rfl⟩
 replace H : (if 0 ≤ a0 then (if a0 < (b0.length : Int) then (floor_Fit.l0 k2 l0 a1 (b0.set (a0 : Int).toNat (n0)) (wrap64 (a0 + 1))) else (none)) else (none)) = some (r1, r2) := by first | (rw [r0] at H; exact H) | (simp only [r0] at H ⊢; exact H)
 have hji17_ : (if 0 < (m0) then (m0) else 0) = n0 := r0
 replace H := gd_ H
 obtain ⟨Z0, H⟩ := H
 replace H := gd_ H
 obtain ⟨b1, H⟩ := H
 obtain ⟨E0, h0⟩ : ∃ y_ : List Int, y_ = (b0.set (a0 : Int).toNat (n0)) := ⟨_, rfl⟩
 first | replace H := by_ H h0 | rw [← h0] at H
 have N0 := a_ h0
 clear h0
 have H' := a_ H
 clear H
 have t0 : 0 ≤ ((d0) : Int) := dm_
 have v0 : (d0) < (l0.length : Int) := dm_
 obtain ⟨c1, S0, o0⟩ := Kd.at_int w0.out (d0) t0 v0
 cases S0
 replace o0 := hc_ HB o0
 replace t0 := eq_true t0
 replace v0 := eq_true v0
 have F0 : 0 ≤ (a0 : Int) := dm_
 have G0 : (a0 : Int) < ((b0.length : Int) : Int) := dm_
 obtain ⟨go20, T0, H0, I0, gl20, cl20, HG20⟩ := Kd.R_form e0.out (by omega)
 (first | cases H0 | (injection H0 with ea_ en_ ec_; (first | subst ea_ | (injection ea_ with ea_; subst ea_)); subst ec_; clear en_))
 have GB20 := a_ I0
 have GG20 := a_ HG20
 clear I0 gl20 HG20
 obtain ⟨W0, hf20_0⟩ := Kd.R_celln 0 e0.out (a0 : Int) F0 G0
 replace F0 := eq_true F0
 replace G0 := eq_true G0
 have HP21 := Kd.R_putg e0.out (a0 : Int) n0
 go_wp2_with (first | ((with_reducible refine gate_store (t := 3) (p := 37) rfl ?_); refine store_event (t := 3) (p := 37) (v := ?vo_w22) (w1 := (wr.setCell ⟨go20, (a0 : Int).toNat, none⟩ (.int .i64 n0))) ?hg ?ho ?hn ?hr ?_; (case ho => rfl); (case hg => rfl); (case hn => rfl); (case hr => first | (go_simp; done) | (go_simp; rfl)); intro J0 hw; have hg : wr.grownBy J0 (some go20) := (by rw [hw]; exact HP21.2); have hp_ : Kd.R (Kd.int .i64) 3 J0 w.heap.size (fun _ => True) (.slice (some ⟨go20, 0, none⟩) b0.length T0) E0 := (by rw [hw, N0.out]; exact HP21.1); clear HP21; replace e0 := a_ (hp_); replace HB := a_ ((by rw [hw]; exact below_set (HB.out) GB20.out : Below w.heap.size w J0)); clear hg hw hp_))
 go_roundg k2
 case measure => have := HJ2.out; have := z0.out; omega
 case rel => exact ⟨(E0), (wrap64 (a0 + 1)), rs_, H', ⟨by have := HJ2.out; have := z0.out; omega⟩, ⟨kR_ e0⟩, ⟨bl_ HB⟩⟩}
 {
 have M0 : decide (0 < a1) = false := decide_eq_false s0
 clear s0
 have H' := a_ H
 clear H
 go_wp2
 go_roundg k2
 case measure => have := HJ2.out; have := z0.out; omega
 case rel => exact ⟨(b0), (wrap64 (a0 + 1)), rs_, H', ⟨by have := HJ2.out; have := z0.out; omega⟩, ⟨kR_ e0⟩, ⟨bl_ HB⟩⟩}}
 {
 simp only [Option.some.injEq, Prod.mk.injEq] at H
 obtain ⟨rfl, rfl⟩ := H
 go_wp2
 go_ret2
 exact ⟨_, er_, kR_ e0, bl_ HB⟩}))}))
def vcodec_codec_settled.l0 : Nat → Int → Int → List Int → Int → Int → Option (Int)
  | 0, _, _, _, _, _ => none
  | k + 1, x1, x5, b0, c0, a0 => if a0 < c0 then (if 0 ≤ a0 then (if a0 < (b0.length : Int) then (if (rd b0 a0) > 0 then (if x5 < 0 then (vcodec_codec_settled.l0 k x1 a0 b0 c0 (wrap64 (a0 + 1))) else (if a0 ≤ x1 then (vcodec_codec_settled.l0 k x1 a0 b0 c0 (wrap64 (a0 + 1))) else (vcodec_codec_settled.l0 k x1 x5 b0 c0 (wrap64 (a0 + 1))))) else (vcodec_codec_settled.l0 k x1 x5 b0 c0 (wrap64 (a0 + 1)))) else (none)) else (none)) else (some x5)
def vcodec_codec_settled.f (k : Nat) (b0 : Int) (c0 : Int) (a0 : List Int) (d0 : List Int) (a1 : Int) : Option (Int) := vcodec_codec_settled.l0 k a1 (-1) a0 (a0.length : Int) 0
theorem vcodec_codec_settled.mono_l : ∀ k, (∀ y0 y1 y2 y3 y4, LeO (vcodec_codec_settled.l0 k y0 y1 y2 y3 y4) (vcodec_codec_settled.l0 (k + 1) y0 y1 y2 y3 y4))
  | 0 => fun _ _ _ _ _ r h => by simp [vcodec_codec_settled.l0] at h
  | k + 1 => by
    have a0 := vcodec_codec_settled.mono_l k
    · intro y0 y1 y2 y3 y4
      unfold vcodec_codec_settled.l0
      with_reducible repeat' first
   | apply a0
   | exact LeO.refl _
   | exact LeO.none _
   | refine LeO.ite ?_ ?_
   | refine LeO.bind ?_ (fun _ => ?_)
theorem vcodec_codec_settled.mono : ∀ a0 a1 a2 a3 a4 k, LeO (vcodec_codec_settled.f k a0 a1 a2 a3 a4) (vcodec_codec_settled.f (k + 1) a0 a1 a2 a3 a4) := by
  intro a0 a1 a2 a3 a4 k
  have b0 := vcodec_codec_settled.mono_l k
  unfold vcodec_codec_settled.f
  with_reducible repeat' first
   | apply b0
   | exact LeO.refl _
   | exact LeO.none _
   | refine LeO.ite ?_ ?_
   | refine LeO.bind ?_ (fun _ => ?_)
set_option maxHeartbeats 8000000 in
set_option maxRecDepth 100000 in
theorem vcodec_codec_settled.calls (k : Nat) (m0 : Int) (n0 : Int) (o0 : Option Addr) (p0 : Nat) (c0 : List Int) (q0 : Option Addr) (r0 : Nat) (g0 : List Int) (a1 : Int) (r : Int) (w : World) (hr0_2 : Kd.C (Kd.int .i64) w o0 c0.length c0) (hc0_2 : c0.length ≤ p0) (hr0_3 : Kd.C (Kd.int .i64) w q0 g0.length g0) (hc0_3 : g0.length ≤ r0) (h : vcodec_codec_settled.f k m0 n0 c0 g0 a1 = some r) :
    Calls Try.prog 76 #[.agg #[.int .i64 m0, .int .i64 n0, .slice o0 c0.length p0, .slice q0 g0.length r0], .int .i64 a1] w fun e w' => e = .returned (.int .i64 r) ∧ Below w.heap.size w w' := by
 have O0 := Try.underlying61
 have j0 := a_ hr0_2
 have K0 := a_ hc0_2
 clear hr0_2 hc0_2
 have L0 := a_ hr0_3
 have M0 := a_ hc0_3
 clear hr0_3 hc0_3
 have HB := a_ (Below.refl w.heap.size w)
 have H : (vcodec_codec_settled.l0 k a1 (-1) c0 (c0.length : Int) 0) = some r := h
 clear h
 have H' := a_ H
 clear H
 go_enter Try.func76, Try.ntmps76
 go_wp2_with (first | ((with_reducible refine gate_dst (N := 2) rfl ?_); refine bx_ HB 2 #[.int .i64 m0, .int .i64 n0, .slice o0 c0.length p0, .slice q0 g0.length r0] 61 ?_; clear HB; intro D0 hg w3 hb f0 E0 HB; have N0 := E0; clear hb hg; obtain ⟨t0, v0, w0, y0, z0, A0, B0, C0⟩ := e4_ f0))
 go_loopg [5, 12] k (fun kq v5 J0 w' => ∃ (k0 : Int) (a0 : Int), v5 = .int .i64 k0 ∧ J0 = .int .i64 a0 ∧ Aside0 (vcodec_codec_settled.l0 kq a1 k0 c0 (c0.length : Int) a0 = some r) ∧ Aside0 (kq ≤ k) ∧ Aside0 (w'.heap[D0]? = some (.cells #[.int .i64 m0, .int .i64 n0, (.slice o0 c0.length p0), (.slice q0 g0.length r0)] 61 (0, 0))) ∧ Aside0 (Below w.heap.size w w'))
 case atStart => exact ⟨((-1)), (0), rs_, rs_, H', ⟨Nat.le_refl _⟩, ⟨bk_ f0⟩, ⟨bl_ HB⟩⟩
 case round => (
 clear H'
 try clear t0 v0 w0 y0 z0 A0 B0 C0
 obtain ⟨k0, a0, rfl, rfl, HA, i0, f0, HB⟩ := hrel
 cases gk with
 | zero => exact absurd HA.out (by simp [vcodec_codec_settled.l0])
 | succ k1 => (
 have H := HA.out
 clear HA
 simp only [vcodec_codec_settled.l0] at H
 replace H := id_ H
 rcases H with ⟨G0, H⟩ | ⟨G0, H⟩
 {
 replace H := gd_ H
 obtain ⟨P0, H⟩ := H
 replace H := gd_ H
 obtain ⟨Q0, H⟩ := H
 replace H := ii_ H
 rcases H with ⟨c8, H⟩ | ⟨c8, H⟩
 {
 have H0 : decide (0 < (rd c0 a0)) = true := decide_eq_true c8
 clear c8
 replace H := id_ H
 rcases H with ⟨I0, H⟩ | ⟨I0, H⟩
 {
 have H' := a_ H
 clear H
 have d0 : 0 ≤ (a0 : Int) := dm_
 have e0 : a0 < (c0.length : Int) := dm_
 obtain ⟨s0, h0, b0⟩ := Kd.at_int j0.out a0 d0 e0
 cases h0
 replace b0 := hc_ HB b0
 replace d0 := eq_true d0
 replace e0 := eq_true e0
 go_wp2
 go_roundg k1
 case measure => have := i0.out; omega
 case rel => exact ⟨(a0), (wrap64 (a0 + 1)), rs_, rs_, H', ⟨by have := i0.out; omega⟩, ⟨bk_ f0⟩, ⟨bl_ HB⟩⟩}
 {
 replace H := id_ H
 rcases H with ⟨F0, H⟩ | ⟨F0, H⟩
 {
 have H' := a_ H
 clear H
 have d0 : 0 ≤ (a0 : Int) := dm_
 have e0 : a0 < (c0.length : Int) := dm_
 obtain ⟨s0, h0, b0⟩ := Kd.at_int j0.out a0 d0 e0
 cases h0
 replace b0 := hc_ HB b0
 replace d0 := eq_true d0
 replace e0 := eq_true e0
 go_wp2
 go_roundg k1
 case measure => have := i0.out; omega
 case rel => exact ⟨(a0), (wrap64 (a0 + 1)), rs_, rs_, H', ⟨by have := i0.out; omega⟩, ⟨bk_ f0⟩, ⟨bl_ HB⟩⟩}
 {
 have H' := a_ H
 clear H
 have d0 : 0 ≤ (a0 : Int) := dm_
 have e0 : a0 < (c0.length : Int) := dm_
 obtain ⟨s0, h0, b0⟩ := Kd.at_int j0.out a0 d0 e0
 cases h0
 replace b0 := hc_ HB b0
 replace d0 := eq_true d0
 replace e0 := eq_true e0
 go_wp2
 go_roundg k1
 case measure => have := i0.out; omega
 case rel => exact ⟨(k0), (wrap64 (a0 + 1)), rs_, rs_, H', ⟨by have := i0.out; omega⟩, ⟨bk_ f0⟩, ⟨bl_ HB⟩⟩}}}
 {
 have H0 : decide (0 < (rd c0 a0)) = false := decide_eq_false c8
 clear c8
 have H' := a_ H
 clear H
 have d0 : 0 ≤ (a0 : Int) := dm_
 have e0 : a0 < (c0.length : Int) := dm_
 obtain ⟨s0, h0, b0⟩ := Kd.at_int j0.out a0 d0 e0
 cases h0
 replace b0 := hc_ HB b0
 replace d0 := eq_true d0
 replace e0 := eq_true e0
 go_wp2
 go_roundg k1
 case measure => have := i0.out; omega
 case rel => exact ⟨(k0), (wrap64 (a0 + 1)), rs_, rs_, H', ⟨by have := i0.out; omega⟩, ⟨bk_ f0⟩, ⟨bl_ HB⟩⟩}}
 {
 obtain rfl := Option.some.inj H
 go_wp2
 go_ret
 exact ⟨er_, bl_ HB⟩}))
def vcodec_codec_posts.l0 : Nat → List Int → Int → Int → Int → Int → List Int → List Int → Option (List Int)
  | 0, _, _, _, _, _, _, _ => none
  | k + 1, x7, f0, a0, b0, c0, d0, e0 => if a0 < f0 then (if 0 ≤ a0 then (if a0 < (x7.length : Int) then ((vcodec_codec_settled.f k b0 c0 d0 e0 (rd x7 a0)).bind fun g0 => (vcodec_codec_posts.l0 k (x7.set (a0 : Int).toNat g0) f0 (wrap64 (a0 + 1)) b0 c0 d0 e0)) else (none)) else (none)) else (some x7)
def vcodec_codec_posts.f (k : Nat) (d0 : Int) (b0 : Int) (e0 : List Int) (f0 : List Int) (l1 : List Int) : Option (List Int) := (band_Gains.f k l1).bind fun c0 => ((floor_Fit.f k c0.1 b0).bind fun a0 => (vcodec_codec_posts.l0 k a0.1 (a0.1.length : Int) 0 d0 b0 e0 f0))
theorem vcodec_codec_posts.mono_l : ∀ k, (∀ y0 y1 y2 y3 y4 y5 y6, LeO (vcodec_codec_posts.l0 k y0 y1 y2 y3 y4 y5 y6) (vcodec_codec_posts.l0 (k + 1) y0 y1 y2 y3 y4 y5 y6))
  | 0 => fun _ _ _ _ _ _ _ r h => by simp [vcodec_codec_posts.l0] at h
  | k + 1 => by
    have a0 := vcodec_codec_posts.mono_l k
    · intro y0 y1 y2 y3 y4 y5 y6
      unfold vcodec_codec_posts.l0
      with_reducible repeat' first
   | apply a0
   | apply band_Gains.mono
   | apply floor_Fit.mono
   | apply vcodec_codec_settled.mono
   | exact LeO.refl _
   | exact LeO.none _
   | refine LeO.ite ?_ ?_
   | refine LeO.bind ?_ (fun _ => ?_)
theorem vcodec_codec_posts.mono : ∀ a0 a1 a2 a3 a4 k, LeO (vcodec_codec_posts.f k a0 a1 a2 a3 a4) (vcodec_codec_posts.f (k + 1) a0 a1 a2 a3 a4) := by
  intro a0 a1 a2 a3 a4 k
  have b0 := vcodec_codec_posts.mono_l k
  unfold vcodec_codec_posts.f
  with_reducible repeat' first
   | apply b0
   | apply band_Gains.mono
   | apply floor_Fit.mono
   | apply vcodec_codec_settled.mono
   | exact LeO.refl _
   | exact LeO.none _
   | refine LeO.ite ?_ ?_
   | refine LeO.bind ?_ (fun _ => ?_)
def vcodec_codec_posts.T6 : Bool × List (List Nat × List Nat) := (true, [([], []), ([], []), ([], []), ([], []), ([], []), ([3, 4], [3, 4]), ([5], [5]), ([2, 6], [2, 6]), ([0, 1, 0, 1, 2, 3, 4, 5, 6, 7], [0, 1]), ([8, 7, 7, 0, 1, 2, 3, 4, 5, 6, 7], [7, 8])])
def vcodec_codec_posts.B6 : List Nat := [0, 0, 0, 0, 0, 24, 56, 124, 255, 511]
theorem vcodec_codec_posts.tab6 : rtab .any (opsOf Try.f37 6) = vcodec_codec_posts.T6 := by kernel_rfl
theorem vcodec_codec_posts.bits6 : waitsOk vcodec_codec_posts.T6.2 vcodec_codec_posts.B6 = true := by kernel_rfl
set_option maxHeartbeats 8000000 in
set_option maxRecDepth 100000 in
theorem vcodec_codec_posts.calls (k : Nat) (g0 : Int) (d0 : Int) (m0 : Option Addr) (n0 : Nat) (e0 : List Int) (o0 : Option Addr) (p0 : Nat) (f0 : List Int) (A1 : Option Addr) (c1 : Nat) (l1 : List Int) (r : List Int) (w : World) (hr0_2 : Kd.C (Kd.int .i64) w m0 e0.length e0) (hc0_2 : e0.length ≤ n0) (hr0_3 : Kd.C (Kd.int .i64) w o0 f0.length f0) (hc0_3 : f0.length ≤ p0) (hr1 : Kd.C (Kd.int .i64) w A1 l1.length l1) (hc1 : l1.length ≤ c1) (h : vcodec_codec_posts.f k g0 d0 e0 f0 l1 = some r) :
    Calls Try.prog 37 #[.agg #[.int .i64 g0, .int .i64 d0, .slice m0 e0.length n0, .slice o0 f0.length p0], .slice A1 l1.length c1] w fun e w' => ∃ v0_ : Value, e = .returned (v0_) ∧ Kd.R (Kd.int .i64) 3 w' w.heap.size (fun _ => True) v0_ r ∧ Below w.heap.size w w' := by
 have B1 := Try.underlying61
 have S0 := a_ hr0_2
 have T0 := a_ hc0_2
 clear hr0_2 hc0_2
 have U0 := a_ hr0_3
 have V0 := a_ hc0_3
 clear hr0_3 hc0_3
 have j1 := a_ hr1
 have m1 := a_ hc1
 clear hr1 hc1
 have HB := a_ (Below.refl w.heap.size w)
 have H : ((band_Gains.f k l1).bind fun W0 => ((floor_Fit.f k W0.1 d0).bind fun C0 => (vcodec_codec_posts.l0 k C0.1 (C0.1.length : Int) 0 g0 d0 e0 f0))) = some r := h
 clear h
 obtain ⟨⟨y0, a1⟩, A3, H⟩ := ob_ H
 (try dsimp only at H)
 obtain ⟨⟨q0, b1⟩, A4, H⟩ := ob_ H
 (try dsimp only at H)
 have H' := a_ H
 clear H
 go_enter Try.func37, Try.ntmps37
 go_wp2_with (first | ((with_reducible refine gate_dst (N := 2) rfl ?_); refine bx_ HB 2 #[.int .i64 g0, .int .i64 d0, .slice m0 e0.length n0, .slice o0 f0.length p0] 61 ?_; clear HB; intro k0 hg w5 hb a0 D0 HB; have v1 := D0; clear hb hg) | ((with_reducible refine gate_callee (f := 74) rfl ?_); refine gL_ (some 12) Try.func74 #[.slice A1 l1.length c1] ?_; (with_reducible refine (band_Gains.calls k _ _ l1 y0 a1 _ ?side1 ?side2 A3.out).mono ?_); (case side1 => exact kC_ j1 HB); (case side2 => exact m1.out); rintro e w6 ⟨C1, rfl, v0, hb⟩; refine ⟨_, rfl, ?_⟩; have j0 := a_ (Kd.R_lower v0 (bs_ HB)); replace a0 := FB_ a0 hb; replace HB := BS_ HB hb; (try clear hb); (try clear v0); obtain ⟨G0, H0, I0, J0, K0, L0, M0, N0⟩ := e4_ a0; obtain ⟨n1, o1, p1⟩ := Kd.R_slice j0.out; subst p1) | ((with_reducible refine gate_callee (f := 75) rfl ?_); refine gL_ (some 20) Try.func75 #[.slice n1 y0.length o1, .int .i64 d0] ?_; (with_reducible refine (floor_Fit.calls k _ _ y0 d0 q0 b1 _ ?side1 ?side2 A4.out).mono ?_); (case side1 => exact kCt_ (Kd.R_reads' j0.out).2.2); (case side2 => exact (Kd.R_reads' j0.out).2.1); rintro e w9 ⟨D1, rfl, v0, hb⟩; refine ⟨_, rfl, ?_⟩; have E0 := a_ (Kd.R_lower (Kd.R_new' v0 (Kd.R_lt (kR_ j0))) (bs_ HB)); replace j0 := a_ (Kd.R_elder' (kR_ j0) (Kd.R_base v0) hb); replace a0 := FB_ a0 hb; replace HB := BS_ HB hb; (try clear hb); (try clear v0); obtain ⟨d1, e1, f1⟩ := Kd.R_slice E0.out; subst f1))
 go_loopg [25] k (fun kq q1 w' => ∃ (h0 : List Int) (b0 : Int), q1 = .int .i64 b0 ∧ Aside0 (vcodec_codec_posts.l0 kq h0 (q0.length : Int) b0 g0 d0 e0 f0 = some r) ∧ Aside0 (kq ≤ k) ∧ Aside0 (Kd.R (Kd.int .i64) 3 w' w.heap.size (fun _ => True) (.slice d1 q0.length e1) h0) ∧ Aside0 (w'.heap[k0]? = some (.cells #[.int .i64 g0, .int .i64 d0, (.slice m0 e0.length n0), (.slice o0 f0.length p0)] 61 (0, 0))) ∧ Aside0 (Below w.heap.size w w'))
 case atStart => exact ⟨(q0), (0), rs_, H', ⟨Nat.le_refl _⟩, ⟨by (with_reducible repeat (first | apply Kd.R_alloc | apply Kd.R_drewN | apply Kd.R_drew)); exact Kd.R_mono E0.out (fun _ hk => trivial)⟩, ⟨bk_ a0⟩, ⟨bl_ HB⟩⟩
 case round => (
 clear H'
 try clear c1
 try clear G0 H0 I0 J0 K0 L0 M0 N0
 obtain ⟨h0, b0, rfl, HA, Z0, c0, a0, HB⟩ := hrel
 have i0 := (Kd.R_reads' c0.out).1
 rw [i0] at c0
 (try simp only [i0])
 (try simp only [i0] at a0)
 cases gk with
 | zero => exact absurd HA.out (by simp [vcodec_codec_posts.l0])
 | succ k1 => (
 have H := HA.out
 clear HA
 simp only [vcodec_codec_posts.l0] at H
 replace H := ii_ H
 rcases H with ⟨w0, H⟩ | ⟨w0, H⟩
 {
 have F0 : decide (b0 < (q0.length : Int)) = true := decide_eq_true w0
 clear w0
 replace H := gd_ H
 obtain ⟨y1, H⟩ := H
 replace H := gd_ H
 obtain ⟨z1, H⟩ := H
 obtain ⟨z0, r1, H⟩ := ob_ H
 (try dsimp only at H)
 obtain ⟨h1, t0⟩ : ∃ y_ : List Int, y_ = (h0.set (b0 : Int).toNat z0) := ⟨_, rfl⟩
 first | replace H := by_ H t0 | rw [← t0] at H
 have X0 := a_ t0
 clear t0
 have H' := a_ H
 clear H
 try go_wp2
 replace c0 := a_ (Kd.R_drew c0.out)
 replace a0 := a_ (blk_drew a0.out)
 replace HB := a_ (below_drew1 HB.out)
 have A0 : 0 ≤ (b0 : Int) := dm_
 have B0 : b0 < (h0.length : Int) := dm_
 obtain ⟨Y0, i1, r0⟩ := Kd.at_int (Kd.R_reads' c0.out).2.2 b0 A0 B0
 cases i1
 replace A0 := eq_true A0
 replace B0 := eq_true B0
 refine start_ (n := 10) (S := fun w' => w'.cell? ⟨k0, 0, none⟩ = some (.int .i64 g0) ∧ w'.cell? ⟨k0, 1, none⟩ = some (.int .i64 d0) ∧ w'.cell? ⟨k0, 2, none⟩ = some (.slice m0 e0.length n0) ∧ w'.cell? ⟨k0, 3, none⟩ = some (.slice o0 f0.length p0) ∧ w'.cell? (Y0.add (b0).toNat) = some (.int .i64 (rd h0 b0))) (ds := [9]) (B_ 10 0) kf_ rfl rfl ⟨ce_ a0 0, ce_ a0 1, ce_ a0 2, ce_ a0 3, r0⟩ (fun hHeld => ?_); refine with_tabW vcodec_codec_posts.tab6 vcodec_codec_posts.bits6 (fun HT_ HW_ => ?_)
 generalize wr.drew = F1 at c0 a0 HB r0 hHeld ⊢
 refine pu_ 0 (some 28) (B_ 10 1) HT_ ?_
 refine pu_ 1 (some 29) (B_ 10 3) HT_ ?_
 refine pu_ 3 (some 31) (B_ 10 11) HT_ ?_
 refine pu_ 4 (some 32) (B_ 10 27) HT_ ?_
 refine pu_ 5 (some 33) (B_ 10 59) HT_ ?_
 refine take_ (i := 2) (N := some 30) (v := ?_) (a' := ?_) (B_ 10 63) rfl rfl (take_ofW HT_.out HW_.out kf_) (fun _ _ _ h => h) (Or.inl ⟨by rfl, ?_⟩) hHeld ?_ ?_
 rotate_left
 {
 rintro w' ⟨s0, s1, s2, s3, s4⟩
 go_simp
 with_reducible rfl}
 rotate_left
 {
 exact sp_}
 refine take_ (i := 6) (N := some 34) (v := ?_) (a' := ?_) (B_ 10 127) rfl rfl (take_ofW HT_.out HW_.out kf_) (fun _ _ _ h => h) (Or.inl ⟨by rfl, ?_⟩) hHeld ?_ ?_
 rotate_left
 {
 rintro w' ⟨s0, s1, s2, s3, s4⟩
 go_simp
 with_reducible rfl}
 rotate_left
 {
 exact sp_}
 refine one_ (i := 7) (N := some 35) (B_ 10 255) rfl rfl (one_of HT_.out kf_) (by decide) (fun K hK => ?_)
 refine goes_ Try.func76 kf_ rfl #[.agg #[.int .i64 g0, .int .i64 d0, .slice m0 e0.length n0, .slice o0 f0.length p0], .int .i64 (rd h0 b0)] (by rfl) rfl rfl ar_ ?_
 with_reducible refine (vcodec_codec_settled.calls k1 g0 d0 _ _ e0 _ _ f0 (rd h0 b0) z0 _ ?side1 ?side2 ?side3 ?side4 r1.out).mono ?_
 (case side1 => exact kC_ S0 HB)
 (case side2 => exact T0.out)
 (case side3 => exact kC_ U0 HB)
 (case side4 => exact V0.out)
 rintro e G1 ⟨rfl, hb⟩
 have HS4_ := (hb.cell (World.block_lt_of_cell? _ _ (hHeld.2.2.2.2))).trans (hHeld.2.2.2.2)
 refine ⟨_, rfl, ?_⟩
 replace c0 := FR_ c0 hb
 replace a0 := FB_ a0 hb
 replace HB := BS_ HB hb
 (try clear hb)
 (try clear hk)
 have O0 : 0 ≤ (b0 : Int) := dm_
 have P0 : (b0 : Int) < ((h0.length : Int) : Int) := dm_
 obtain ⟨go15, E1, Q0, R0, gl15, cl15, HG15⟩ := Kd.R_form c0.out (by omega)
 (first | cases Q0 | (injection Q0 with ea_ en_ ec_; (first | subst ea_ | (injection ea_ with ea_; subst ea_)); subst ec_; clear en_))
 have GB15 := a_ R0
 have GG15 := a_ HG15
 clear R0 gl15 HG15
 (first | simp only [add_plain] at r0 | skip)
 obtain ⟨t1, hf15_0⟩ := Kd.R_celln 0 c0.out (b0 : Int) O0 P0
 replace O0 := eq_true O0
 replace P0 := eq_true P0
 have HP18 := Kd.R_putn c0.out (b0 : Int) z0
 rw [← X0.out] at HP18
 have HQ18 := a_ HP18
 clear HP18
 refine hK.out _ _ ⟨ce_ a0 0, ce_ a0 1, ce_ a0 2, ce_ a0 3, HS4_⟩ (fun hHeld => ?_)
 clear hK K
 refine norm_ (a' := ?_) ?_ ?_
 rotate_left
 {
 show Act.put _ (some 35) _ = _
 exact sp_}
 refine pu_ 8 (some 36) (B_ 10 511) HT_ ?_
 refine last_ (i := 9) (N := none) (B_ 10 1023) rfl rfl (one_of HT_.out kf_) (by decide) (fun K hK => ?_)
 refine skip_ (w1 := ?_) (by rfl) rfl ?_ ?_
 rotate_left
 {
 go_simp
 rfl}
 refine hK.out _ _ ?_
 clear hK K
 refine done_ (done_of HT_.out kf_) ?_
 try go_wp2
 (try simp only [← i0])
 go_roundg k1
 case measure => have := Z0.out; omega
 case rel => exact ⟨(h1), (wrap64 (b0 + 1)), rs_, H', ⟨by have := Z0.out; omega⟩, ⟨by (try simp only [i0]); (with_reducible repeat (first | apply Kd.R_alloc | apply Kd.R_drewN | apply Kd.R_drew)); exact HQ18.out⟩, ⟨by (try simp only [i0]); (with_reducible repeat (first | refine blk_drewN ?_ _ | refine blk_drew ?_ | refine blk_alloc ?_ _)); refine blk_far ?_ (by have h_ := Kd.R_ne c0.out a0.out (by decide); intro e_; exact h_ (by rw [e_]; rfl)) _; (with_reducible repeat (first | refine blk_drewN ?_ _ | refine blk_drew ?_ | refine blk_alloc ?_ _)); exact a0.out⟩, ⟨by repeat (first | (with_reducible first | exact HB.out | apply below_alloc | apply pw_below_drewN | apply below_drew1 | refine below_set ?_ GB15.out | refine below_set ?_ D0.out) | exact HB.out)⟩⟩}
 {
 have F0 : decide (b0 < (q0.length : Int)) = false := decide_eq_false w0
 (try rw [i0] at F0)
 clear w0
 obtain rfl := Option.some.inj H
 go_wp2
 go_ret
 exact ⟨_, er_, kR_ c0, bl_ HB⟩}))
def remap_row.l0 : Nat → List Int → Int → Int → List Int → Int → Int → Option (Bool)
  | 0, _, _, _, _, _, _ => none
  | k + 1, x0, x1, x2, x9, b0, a0 => if a0 < b0 then (if 0 ≤ a0 then (if a0 < (x9.length : Int) then ((num_Clamp.f (rd x9 a0) x1 x2).bind fun c0 => (if (rd x9 a0) = c0 then (remap_row.l0 k x0 x1 x2 x9 b0 (wrap64 (a0 + 1))) else (some false))) else (none)) else (none)) else (some ((x0.length : Int) == 16))
def remap_row.f (k : Nat) (l0 : List Int) (a1 : Int) (a2 : Int) : Option (Bool) := remap_row.l0 k l0 a1 a2 l0 (l0.length : Int) 0
theorem remap_row.mono_l : ∀ k, (∀ y0 y1 y2 y3 y4 y5, LeO (remap_row.l0 k y0 y1 y2 y3 y4 y5) (remap_row.l0 (k + 1) y0 y1 y2 y3 y4 y5))
  | 0 => fun _ _ _ _ _ _ r h => by simp [remap_row.l0] at h
  | k + 1 => by
    have a0 := remap_row.mono_l k
    · intro y0 y1 y2 y3 y4 y5
      unfold remap_row.l0
      with_reducible repeat' first
   | apply a0
   | exact LeO.refl _
   | exact LeO.none _
   | refine LeO.ite ?_ ?_
   | refine LeO.bind ?_ (fun _ => ?_)
theorem remap_row.mono : ∀ a0 a1 a2 k, LeO (remap_row.f k a0 a1 a2) (remap_row.f (k + 1) a0 a1 a2) := by
  intro a0 a1 a2 k
  have b0 := remap_row.mono_l k
  unfold remap_row.f
  with_reducible repeat' first
   | apply b0
   | exact LeO.refl _
   | exact LeO.none _
   | refine LeO.ite ?_ ?_
   | refine LeO.bind ?_ (fun _ => ?_)
set_option maxHeartbeats 8000000 in
set_option maxRecDepth 100000 in
theorem remap_row.calls (k : Nat) (A0 : Option Addr) (c0 : Nat) (l0 : List Int) (a1 : Int) (a2 : Int) (r : Bool) (w : World) (hr0 : Kd.C (Kd.int .i64) w A0 l0.length l0) (hc0 : l0.length ≤ c0) (h : remap_row.f k l0 a1 a2 = some r) :
    Calls Try.prog 70 #[.slice A0 l0.length c0, .int .i64 a1, .int .i64 a2] w fun e w' => e = .returned (.bool r) ∧ Drawn0 w w' := by
 have i0 := a_ hr0
 have r0 := a_ hc0
 clear hr0 hc0
 have H : (remap_row.l0 k l0 a1 a2 l0 (l0.length : Int) 0) = some r := h
 clear h
 have H' := a_ H
 clear H
 go_enter Try.func70, Try.ntmps70
 go_wp2
 go_loopg [11] k (fun kq o0 w' => ∃ (a0 : Int), o0 = .int .i64 a0 ∧ Aside0 (remap_row.l0 kq l0 a1 a2 l0 (l0.length : Int) a0 = some r) ∧ Aside0 (kq ≤ k) ∧ Drawn0 w w')
 case atStart => exact ⟨(0), rs_, H', ⟨Nat.le_refl _⟩, dr_⟩
 case round => (
 clear H'
 obtain ⟨a0, rfl, HA, j0, ⟨m1, rfl⟩⟩ := hrel
 cases gk with
 | zero => exact absurd HA.out (by simp [remap_row.l0])
 | succ k1 => (
 have H := HA.out
 clear HA
 simp only [remap_row.l0] at H
 replace H := id_ H
 rcases H with ⟨k0, H⟩ | ⟨k0, H⟩
 {
 replace H := gd_ H
 obtain ⟨p0, H⟩ := H
 replace H := gd_ H
 obtain ⟨q0, H⟩ := H
 obtain ⟨g0, A7, H⟩ := ob_ H
 (try dsimp only at H)
 replace H := ie_ H
 rcases H with ⟨m0, n0, H⟩ | ⟨c8, m0, n0, H⟩
 {
 have H' := a_ H
 clear H
 have b0 : 0 ≤ (a0 : Int) := dm_
 have d0 : a0 < (l0.length : Int) := dm_
 obtain ⟨h0, e0, f0⟩ := Kd.at_int i0.out a0 b0 d0
 cases e0
 replace b0 := eq_true b0
 replace d0 := eq_true d0
 go_wp2_with (first | ((with_reducible refine gate_callee (f := 73) rfl ?_); refine gL_ (some 19) Try.func73 #[.int .i64 (rd l0 a0), .int .i64 a1, .int .i64 a2] ?_; (with_reducible refine (num_Clamp.calls (rd l0 a0) a1 a2 g0 _ A7.out).mono ?_); rintro e w' ⟨rfl, ⟨nd, rfl⟩⟩; refine ⟨_, rfl, ?_⟩))
 go_roundg k1
 case measure => have := j0.out; omega
 case rel => exact ⟨(wrap64 (a0 + 1)), rs_, H', ⟨by have := j0.out; omega⟩, dr_⟩}
 {
 obtain rfl := Option.some.inj H
 have b0 : 0 ≤ (a0 : Int) := dm_
 have d0 : a0 < (l0.length : Int) := dm_
 obtain ⟨h0, e0, f0⟩ := Kd.at_int i0.out a0 b0 d0
 cases e0
 replace b0 := eq_true b0
 replace d0 := eq_true d0
 go_wp2_with (first | ((with_reducible refine gate_callee (f := 73) rfl ?_); refine gL_ (some 19) Try.func73 #[.int .i64 (rd l0 a0), .int .i64 a1, .int .i64 a2] ?_; (with_reducible refine (num_Clamp.calls (rd l0 a0) a1 a2 g0 _ A7.out).mono ?_); rintro e w' ⟨rfl, ⟨nd, rfl⟩⟩; refine ⟨_, rfl, ?_⟩))
 go_ret
 exact ⟨es_, dr_⟩}}
 {
 obtain rfl := Option.some.inj H
 go_wp2
 go_ret
 exact ⟨es_, dr_⟩}))
def num_size.f (a0 : Int) : Option (Int) := if a0 < 0 then (some (IntKind.u64.wrap (-(IntKind.u64.wrap (a0))))) else (some (IntKind.u64.wrap (a0)))
set_option maxHeartbeats 8000000 in
set_option maxRecDepth 100000 in
theorem num_size.calls (a0 : Int) (r : Int) (w : World) (h : num_size.f a0 = some r) :
    Calls Try.prog 114 #[.int .i64 a0] w fun e w' => e = .returned (.int .u64 r) ∧ Drawn0 w w' := by
 have H : (if a0 < 0 then (some (IntKind.u64.wrap (-(IntKind.u64.wrap (a0))))) else (some (IntKind.u64.wrap (a0)))) = some r := h
 clear h
 replace H := id_ H
 rcases H with ⟨b0, H⟩ | ⟨b0, H⟩
 {
 obtain rfl := Option.some.inj H
 go_enter Try.func114, Try.ntmps114
 go_wp2
 go_ret
 exact ⟨es_, dr_⟩}
 {
 obtain rfl := Option.some.inj H
 go_enter Try.func114, Try.ntmps114
 go_wp2
 go_ret
 exact ⟨es_, dr_⟩}
def num_Div.f (a0 : Int) (a1 : Int) : Option (Int × Int) := if a1 < 1 then (some (0, 1)) else ((num_size.f a0).bind fun b0 => (if (IntKind.u64.wrap (a1)) = 0 then (none) else (if (Int.tmod b0 (IntKind.u64.wrap (a1))) ≥ (IntKind.u64.wrap ((IntKind.u64.wrap (a1)) - (Int.tmod b0 (IntKind.u64.wrap (a1))))) then (if a0 < 0 then (some (wrap64 (IntKind.u64.wrap (-(IntKind.u64.wrap ((IntKind.u64.wrap (Int.tdiv b0 (IntKind.u64.wrap (a1)))) + 1)))), 0)) else (some (wrap64 (IntKind.u64.wrap ((IntKind.u64.wrap (Int.tdiv b0 (IntKind.u64.wrap (a1)))) + 1)), 0))) else (if a0 < 0 then (some (wrap64 (IntKind.u64.wrap (-(IntKind.u64.wrap (Int.tdiv b0 (IntKind.u64.wrap (a1)))))), 0)) else (some (wrap64 (IntKind.u64.wrap (Int.tdiv b0 (IntKind.u64.wrap (a1)))), 0))))))
set_option maxHeartbeats 8000000 in
set_option maxRecDepth 100000 in
theorem num_Div.calls (a0 : Int) (a1 : Int) (r1 : Int) (r2 : Int) (w : World) (h : num_Div.f a0 a1 = some (r1, r2)) :
    Calls Try.prog 99 #[.int .i64 a0, .int .i64 a1] w fun e w' => e = .returned (.tuple #[.int .i64 r1, .int .i64 r2]) ∧ Drawn0 w w' := by
 have H : (if a1 < 1 then (some (0, 1)) else ((num_size.f a0).bind fun b0 => (if (IntKind.u64.wrap (a1)) = 0 then (none) else (if (Int.tmod b0 (IntKind.u64.wrap (a1))) ≥ (IntKind.u64.wrap ((IntKind.u64.wrap (a1)) - (Int.tmod b0 (IntKind.u64.wrap (a1))))) then (if a0 < 0 then (some (wrap64 (IntKind.u64.wrap (-(IntKind.u64.wrap ((IntKind.u64.wrap (Int.tdiv b0 (IntKind.u64.wrap (a1)))) + 1)))), 0)) else (some (wrap64 (IntKind.u64.wrap ((IntKind.u64.wrap (Int.tdiv b0 (IntKind.u64.wrap (a1)))) + 1)), 0))) else (if a0 < 0 then (some (wrap64 (IntKind.u64.wrap (-(IntKind.u64.wrap (Int.tdiv b0 (IntKind.u64.wrap (a1)))))), 0)) else (some (wrap64 (IntKind.u64.wrap (Int.tdiv b0 (IntKind.u64.wrap (a1)))), 0))))))) = some (r1, r2) := h
 clear h
 replace H := id_ H
 rcases H with ⟨c0, H⟩ | ⟨c0, H⟩
 {
 simp only [Option.some.injEq, Prod.mk.injEq] at H
 obtain ⟨rfl, rfl⟩ := H
 go_enter Try.func99, Try.ntmps99
 go_wp2
 repeat (go_quiet (fail); try go_wp2)
 go_ret2
 exact ⟨es_, dr_⟩}
 {
 obtain ⟨b0, A4, H⟩ := ob_ H
 (try dsimp only at H)
 replace H := ii_ H
 rcases H with ⟨c5, H⟩ | ⟨c5, H⟩
 {
 exact absurd H (by simp)}
 {
 have g0 : ((IntKind.u64.wrap (a1)) == 0) = false := beq_eq_false_iff_ne.mpr c5
 have h0 : ((IntKind.u64.wrap (a1)) != 0) = true := bne_iff_ne.mpr c5
 replace H := ii_ H
 rcases H with ⟨c6, H⟩ | ⟨c6, H⟩
 {
 have d0 : decide ((IntKind.u64.wrap ((IntKind.u64.wrap (a1)) - (Int.tmod b0 (IntKind.u64.wrap (a1))))) ≤ (Int.tmod b0 (IntKind.u64.wrap (a1)))) = true := decide_eq_true c6
 clear c6
 replace H := id_ H
 rcases H with ⟨e0, H⟩ | ⟨e0, H⟩
 {
 simp only [Option.some.injEq, Prod.mk.injEq] at H
 obtain ⟨rfl, rfl⟩ := H
 go_enter Try.func99, Try.ntmps99
 go_wp2_with (first | (go_at_call 114; (with_reducible refine (num_size.calls a0 b0 _ A4.out).mono ?_); rintro e w' ⟨rfl, ⟨nd, rfl⟩⟩; (try first | exact ⟨rfl, _, World.drewN_drewN _ _ _⟩ | exact ⟨rfl, _, Eq.trans (World.drewN_drewN _ _ _) (congrArg (World.drewN _) (Nat.add_assoc _ _ _))⟩)))
 repeat (go_quiet (first | (go_at_call 114; (with_reducible refine (num_size.calls a0 b0 _ A4.out).mono ?_); rintro e w' ⟨rfl, ⟨nd, rfl⟩⟩; (try first | exact ⟨rfl, _, World.drewN_drewN _ _ _⟩ | exact ⟨rfl, _, Eq.trans (World.drewN_drewN _ _ _) (congrArg (World.drewN _) (Nat.add_assoc _ _ _))⟩))); try go_wp2_with (first | (go_at_call 114; (with_reducible refine (num_size.calls a0 b0 _ A4.out).mono ?_); rintro e w' ⟨rfl, ⟨nd, rfl⟩⟩; (try first | exact ⟨rfl, _, World.drewN_drewN _ _ _⟩ | exact ⟨rfl, _, Eq.trans (World.drewN_drewN _ _ _) (congrArg (World.drewN _) (Nat.add_assoc _ _ _))⟩))))
 go_ret2
 exact ⟨es_, dr_⟩}
 {
 simp only [Option.some.injEq, Prod.mk.injEq] at H
 obtain ⟨rfl, rfl⟩ := H
 go_enter Try.func99, Try.ntmps99
 go_wp2_with (first | (go_at_call 114; (with_reducible refine (num_size.calls a0 b0 _ A4.out).mono ?_); rintro e w' ⟨rfl, ⟨nd, rfl⟩⟩; (try first | exact ⟨rfl, _, World.drewN_drewN _ _ _⟩ | exact ⟨rfl, _, Eq.trans (World.drewN_drewN _ _ _) (congrArg (World.drewN _) (Nat.add_assoc _ _ _))⟩)))
 repeat (go_quiet (first | (go_at_call 114; (with_reducible refine (num_size.calls a0 b0 _ A4.out).mono ?_); rintro e w' ⟨rfl, ⟨nd, rfl⟩⟩; (try first | exact ⟨rfl, _, World.drewN_drewN _ _ _⟩ | exact ⟨rfl, _, Eq.trans (World.drewN_drewN _ _ _) (congrArg (World.drewN _) (Nat.add_assoc _ _ _))⟩))); try go_wp2_with (first | (go_at_call 114; (with_reducible refine (num_size.calls a0 b0 _ A4.out).mono ?_); rintro e w' ⟨rfl, ⟨nd, rfl⟩⟩; (try first | exact ⟨rfl, _, World.drewN_drewN _ _ _⟩ | exact ⟨rfl, _, Eq.trans (World.drewN_drewN _ _ _) (congrArg (World.drewN _) (Nat.add_assoc _ _ _))⟩))))
 go_ret2
 exact ⟨es_, dr_⟩}}
 {
 have d0 : decide ((IntKind.u64.wrap ((IntKind.u64.wrap (a1)) - (Int.tmod b0 (IntKind.u64.wrap (a1))))) ≤ (Int.tmod b0 (IntKind.u64.wrap (a1)))) = false := decide_eq_false c6
 clear c6
 replace H := id_ H
 rcases H with ⟨f0, H⟩ | ⟨f0, H⟩
 {
 simp only [Option.some.injEq, Prod.mk.injEq] at H
 obtain ⟨rfl, rfl⟩ := H
 go_enter Try.func99, Try.ntmps99
 go_wp2_with (first | (go_at_call 114; (with_reducible refine (num_size.calls a0 b0 _ A4.out).mono ?_); rintro e w' ⟨rfl, ⟨nd, rfl⟩⟩; (try first | exact ⟨rfl, _, World.drewN_drewN _ _ _⟩ | exact ⟨rfl, _, Eq.trans (World.drewN_drewN _ _ _) (congrArg (World.drewN _) (Nat.add_assoc _ _ _))⟩)))
 repeat (go_quiet (first | (go_at_call 114; (with_reducible refine (num_size.calls a0 b0 _ A4.out).mono ?_); rintro e w' ⟨rfl, ⟨nd, rfl⟩⟩; (try first | exact ⟨rfl, _, World.drewN_drewN _ _ _⟩ | exact ⟨rfl, _, Eq.trans (World.drewN_drewN _ _ _) (congrArg (World.drewN _) (Nat.add_assoc _ _ _))⟩))); try go_wp2_with (first | (go_at_call 114; (with_reducible refine (num_size.calls a0 b0 _ A4.out).mono ?_); rintro e w' ⟨rfl, ⟨nd, rfl⟩⟩; (try first | exact ⟨rfl, _, World.drewN_drewN _ _ _⟩ | exact ⟨rfl, _, Eq.trans (World.drewN_drewN _ _ _) (congrArg (World.drewN _) (Nat.add_assoc _ _ _))⟩))))
 go_ret2
 exact ⟨es_, dr_⟩}
 {
 simp only [Option.some.injEq, Prod.mk.injEq] at H
 obtain ⟨rfl, rfl⟩ := H
 go_enter Try.func99, Try.ntmps99
 go_wp2_with (first | (go_at_call 114; (with_reducible refine (num_size.calls a0 b0 _ A4.out).mono ?_); rintro e w' ⟨rfl, ⟨nd, rfl⟩⟩; (try first | exact ⟨rfl, _, World.drewN_drewN _ _ _⟩ | exact ⟨rfl, _, Eq.trans (World.drewN_drewN _ _ _) (congrArg (World.drewN _) (Nat.add_assoc _ _ _))⟩)))
 repeat (go_quiet (first | (go_at_call 114; (with_reducible refine (num_size.calls a0 b0 _ A4.out).mono ?_); rintro e w' ⟨rfl, ⟨nd, rfl⟩⟩; (try first | exact ⟨rfl, _, World.drewN_drewN _ _ _⟩ | exact ⟨rfl, _, Eq.trans (World.drewN_drewN _ _ _) (congrArg (World.drewN _) (Nat.add_assoc _ _ _))⟩))); try go_wp2_with (first | (go_at_call 114; (with_reducible refine (num_size.calls a0 b0 _ A4.out).mono ?_); rintro e w' ⟨rfl, ⟨nd, rfl⟩⟩; (try first | exact ⟨rfl, _, World.drewN_drewN _ _ _⟩ | exact ⟨rfl, _, Eq.trans (World.drewN_drewN _ _ _) (congrArg (World.drewN _) (Nat.add_assoc _ _ _))⟩))))
 go_ret2
 exact ⟨es_, dr_⟩}}}}
def remap_quantized.f (a0 : Int) (a1 : Int) : Option (Int) := (num_Div.f a0 a1).bind fun b0 => (some b0.1)
set_option maxHeartbeats 8000000 in
set_option maxRecDepth 100000 in
theorem remap_quantized.calls (a0 : Int) (a1 : Int) (r : Int) (w : World) (h : remap_quantized.f a0 a1 = some r) :
    Calls Try.prog 77 #[.int .i64 a0, .int .i64 a1] w fun e w' => e = .returned (.int .i64 r) ∧ Drawn0 w w' := by
 have H : ((num_Div.f a0 a1).bind fun c0 => (some c0.1)) = some r := h
 clear h
 replace H := Option.bind_eq_some_iff.mp H
 obtain ⟨⟨b0, e0⟩, d0, H⟩ := H
 replace H : (some b0) = some r := H
 have A3 := a_ d0
 clear d0
 obtain rfl := Option.some.inj H
 go_enter Try.func77, Try.ntmps77
 go_wp2_with (first | ((with_reducible refine gate_callee (f := 99) rfl ?_); refine gL_ (some 10) Try.func99 #[.int .i64 a0, .int .i64 a1] ?_; (with_reducible refine (num_Div.calls a0 a1 b0 e0 _ A3.out).mono ?_); rintro e w' ⟨rfl, ⟨nd, rfl⟩⟩; refine ⟨_, rfl, ?_⟩))
 go_ret
 exact ⟨es_, dr_⟩
def remap_over_int64_by_remap_quantized.l0 : Nat → List Int → List Int → List Int → Int → Int → Option (List Int)
  | 0, _, _, _, _, _ => none
  | k + 1, x1, x7, b0, c0, a0 => if a0 < c0 then (if 0 ≤ a0 then (if a0 < (b0.length : Int) then (if a0 < (x1.length : Int) then ((remap_quantized.f (rd b0 a0) (rd x1 a0)).bind fun d0 => (if x7.length < 17592186044416 then (remap_over_int64_by_remap_quantized.l0 k x1 (x7 ++ [d0]) b0 c0 (wrap64 (a0 + 1))) else (none))) else (none)) else (none)) else (none)) else (some x7)
def remap_over_int64_by_remap_quantized.f (k : Nat) (l0 : List Int) (l1 : List Int)  : Option (List Int) := remap_over_int64_by_remap_quantized.l0 k l1 ([] : List Int) l0 (l0.length : Int) 0
theorem remap_over_int64_by_remap_quantized.mono_l : ∀ k, (∀ y0 y1 y2 y3 y4, LeO (remap_over_int64_by_remap_quantized.l0 k y0 y1 y2 y3 y4) (remap_over_int64_by_remap_quantized.l0 (k + 1) y0 y1 y2 y3 y4))
  | 0 => fun _ _ _ _ _ r h => by simp [remap_over_int64_by_remap_quantized.l0] at h
  | k + 1 => by
    have a0 := remap_over_int64_by_remap_quantized.mono_l k
    · intro y0 y1 y2 y3 y4
      unfold remap_over_int64_by_remap_quantized.l0
      with_reducible repeat' first
   | apply a0
   | exact LeO.refl _
   | exact LeO.none _
   | refine LeO.ite ?_ ?_
   | refine LeO.bind ?_ (fun _ => ?_)
theorem remap_over_int64_by_remap_quantized.mono : ∀ a0 a1 k, LeO (remap_over_int64_by_remap_quantized.f k a0 a1) (remap_over_int64_by_remap_quantized.f (k + 1) a0 a1) := by
  intro a0 a1 k
  have b0 := remap_over_int64_by_remap_quantized.mono_l k
  unfold remap_over_int64_by_remap_quantized.f
  with_reducible repeat' first
   | apply b0
   | exact LeO.refl _
   | exact LeO.none _
   | refine LeO.ite ?_ ?_
   | refine LeO.bind ?_ (fun _ => ?_)
set_option maxHeartbeats 8000000 in
set_option maxRecDepth 100000 in
theorem remap_over_int64_by_remap_quantized.calls (k : Nat) (A0 : Option Addr) (c0 : Nat) (l0 : List Int) (A1 : Option Addr) (c1 : Nat) (l1 : List Int)  (r : List Int) (w : World) (hr0 : Kd.C (Kd.int .i64) w A0 l0.length l0) (hc0 : l0.length ≤ c0) (hr1 : Kd.C (Kd.int .i64) w A1 l1.length l1) (hc1 : l1.length ≤ c1) (h : remap_over_int64_by_remap_quantized.f k l0 l1 = some r) :
    Calls Try.prog 71 #[.slice A0 l0.length c0, .slice A1 l1.length c1, .func (.func 77) #[] #[]] w fun e w' => ∃ v0_ : Value, e = .returned (v0_) ∧ Kd.R (Kd.int .i64) 2 w' w.heap.size (fun _ => True) v0_ r ∧ Below w.heap.size w w' := by
 have y0 := a_ hr0
 have I0 := a_ hc0
 clear hr0 hc0
 have z0 := a_ hr1
 have J0 := a_ hc1
 clear hr1 hc1
 have HB := a_ (Below.refl w.heap.size w)
 have H : (remap_over_int64_by_remap_quantized.l0 k l1 ([] : List Int) l0 (l0.length : Int) 0) = some r := h
 clear h
 have H' := a_ H
 clear H
 go_enter Try.func71, Try.ntmps71
 go_wp2
 go_loopg [7, 12] k (fun kq v7 B0 w' => ∃ (d0 : List Int) (a0 : Int), B0 = .int .i64 a0 ∧ Aside0 (remap_over_int64_by_remap_quantized.l0 kq l1 d0 l0 (l0.length : Int) a0 = some r) ∧ Aside0 (kq ≤ k) ∧ Aside0 (Kd.R (Kd.int .i64) 2 w' w.heap.size (fun _ => True) v7 d0) ∧ Aside0 (Below w.heap.size w w'))
 case atStart => exact ⟨(([] : List Int)), (0), rs_, H', ⟨Nat.le_refl _⟩, ⟨kn_⟩, ⟨bl_ HB⟩⟩
 case round => (
 clear H'
 obtain ⟨d0, a0, rfl, HA, p0, h0, HB⟩ := hrel
 cases gk with
 | zero => exact absurd HA.out (by simp [remap_over_int64_by_remap_quantized.l0])
 | succ k1 => (
 have H := HA.out
 clear HA
 simp only [remap_over_int64_by_remap_quantized.l0] at H
 replace H := id_ H
 rcases H with ⟨q0, H⟩ | ⟨q0, H⟩
 {
 replace H := gd_ H
 obtain ⟨E0, H⟩ := H
 replace H := gd_ H
 obtain ⟨F0, H⟩ := H
 replace H := gd_ H
 obtain ⟨G0, H⟩ := H
 obtain ⟨g0, A8, H⟩ := ob_ H
 (try dsimp only at H)
 replace H := gt_ H
 obtain ⟨c9, H⟩ := H
 have r0 := a_ c9
 clear c9
 obtain ⟨s0, b0⟩ : ∃ y_ : List Int, y_ = (d0 ++ [g0]) := ⟨_, rfl⟩
 first | replace H := by_ H b0 | rw [← b0] at H
 have n0 := a_ b0
 clear b0
 have H' := a_ H
 clear H
 have i0 : 0 ≤ (a0 : Int) := dm_
 have j0 : a0 < (l0.length : Int) := dm_
 obtain ⟨C0, t0, e0⟩ := Kd.at_int y0.out a0 i0 j0
 cases t0
 replace e0 := hc_ HB e0
 replace i0 := eq_true i0
 replace j0 := eq_true j0
 have k0 : 0 ≤ (a0 : Int) := dm_
 have m0 : a0 < (l1.length : Int) := dm_
 obtain ⟨D0, v0, f0⟩ := Kd.at_int z0.out a0 k0 m0
 cases v0
 replace f0 := hc_ HB f0
 replace k0 := eq_true k0
 replace m0 := eq_true m0
 go_wp2_with (first | (go_at_call 77; (with_reducible refine (remap_quantized.calls (rd l0 a0) (rd l1 a0) g0 _ A8.out).mono ?_); rintro e w' ⟨rfl, ⟨nd, rfl⟩⟩) | ((with_reducible refine gate_builtin (b := .append) (xs := #[.tmp 17, .tmp 25]) rfl ?_); at_builtin; refine Kd.R_append (Kd.int .i64) (w0 := w) w.heap.size rfl (.tmp 17) (.tmp 25) 53 2 (.int .i64 0) 8 rfl Try.underlying53 info2 rfl (by decide) (by omega) u7 d0 g0 [.int .i64 g0] (fun _ => True) (fun _ => False) rfl rfl ?aP (fun _ hk => hk.elim) ?aF ?aO ?aB ?aS ?aL ?_; (case aP => exact rfl); (case aB => exact (bl_ HB)); (case aF => exact (fun _ _ => trivial)); (case aO => exact (kR_ h0)); (case aS => exact (bs_ HB)); (case aL => have := r0.out; omega); intro H0 K0 ho hb hg hat; rw [← n0.out] at ho; replace HB := a_ (hb); have o0 := a_ (ho); clear h0; clear ho hb hg hat))
 go_roundg k1
 case measure => have := p0.out; omega
 case rel => exact ⟨(s0), (wrap64 (a0 + 1)), rs_, H', ⟨by have := p0.out; omega⟩, ⟨kR_ o0⟩, ⟨bl_ HB⟩⟩}
 {
 obtain rfl := Option.some.inj H
 go_wp2
 go_ret
 exact ⟨_, er_, kR_ h0, bl_ HB⟩}))
def remap_Quantize.f (k : Nat) (l0 : List Int) (l1 : List Int) : Option (List Int × Int) := (remap_row.f k l0 (-1048576) 1048576).bind fun a0 => (if a0 = true then ((remap_row.f k l1 1 4194304).bind fun b0 => (if b0 = true then ((remap_over_int64_by_remap_quantized.f k l0 l1).bind fun c0 => (some (c0, 0))) else (some (([] : List Int), 1)))) else (some (([] : List Int), 1)))
theorem remap_Quantize.mono : ∀ a0 a1 k, LeO (remap_Quantize.f k a0 a1) (remap_Quantize.f (k + 1) a0 a1) := by
  intro a0 a1 k
  unfold remap_Quantize.f
  with_reducible repeat' first
   | apply remap_over_int64_by_remap_quantized.mono
   | apply remap_row.mono
   | exact LeO.refl _
   | exact LeO.none _
   | refine LeO.ite ?_ ?_
   | refine LeO.bind ?_ (fun _ => ?_)
set_option maxHeartbeats 8000000 in
set_option maxRecDepth 100000 in
theorem remap_Quantize.calls (k : Nat) (A0 : Option Addr) (c0 : Nat) (l0 : List Int) (A1 : Option Addr) (c1 : Nat) (l1 : List Int) (r1 : List Int) (r2 : Int) (w : World) (hr0 : Kd.C (Kd.int .i64) w A0 l0.length l0) (hc0 : l0.length ≤ c0) (hr1 : Kd.C (Kd.int .i64) w A1 l1.length l1) (hc1 : l1.length ≤ c1) (h : remap_Quantize.f k l0 l1 = some (r1, r2)) :
    Calls Try.prog 38 #[.slice A0 l0.length c0, .slice A1 l1.length c1] w fun e w' => ∃ v0_ : Value, e = .returned (.tuple #[v0_, .int .i64 r2]) ∧ Kd.R (Kd.int .i64) 2 w' w.heap.size (fun _ => True) v0_ r1 ∧ Below w.heap.size w w' := by
 have b0 := a_ hr0
 have d0 := a_ hc0
 clear hr0 hc0
 have e0 := a_ hr1
 have f0 := a_ hc1
 clear hr1 hc1
 have HB := a_ (Below.refl w.heap.size w)
 have H : ((remap_row.f k l0 (-1048576) 1048576).bind fun g0 => (if g0 = true then ((remap_row.f k l1 1 4194304).bind fun h0 => (if h0 = true then ((remap_over_int64_by_remap_quantized.f k l0 l1).bind fun a0 => (some (a0, 0))) else (some (([] : List Int), 1)))) else (some (([] : List Int), 1)))) = some (r1, r2) := h
 clear h
 obtain ⟨g0, A3, H⟩ := ob_ H
 (try dsimp only at H)
 replace H := ib_ H
 rcases H with ⟨rfl, H⟩ | ⟨rfl, H⟩
 {
 obtain ⟨h0, A5, H⟩ := ob_ H
 (try dsimp only at H)
 replace H := ib_ H
 rcases H with ⟨rfl, H⟩ | ⟨rfl, H⟩
 {
 obtain ⟨a0, A7, H⟩ := ob_ H
 (try dsimp only at H)
 simp only [Option.some.injEq, Prod.mk.injEq] at H
 obtain ⟨rfl, rfl⟩ := H
 go_enter Try.func38, Try.ntmps38
 go_wp2_with (first | ((with_reducible refine gate_callee (f := 70) rfl ?_); refine gL_ (some 7) Try.func70 #[.slice A0 l0.length c0, .int .i64 (-1048576), .int .i64 1048576] ?_; (with_reducible refine (remap_row.calls k _ _ l0 (-1048576) 1048576 true _ ?side1 ?side2 A3.out).mono ?_); (case side1 => repeat (first | exact b0.out | (with_reducible refine Kd.C_alloc ?_ _) | (with_reducible refine Kd.C_drewN ?_ _) | (with_reducible refine Kd.C_drew ?_))); (case side2 => exact d0.out); rintro e w' ⟨rfl, ⟨nd, rfl⟩⟩; refine ⟨_, rfl, ?_⟩) | (go_at_call 70; (with_reducible refine (remap_row.calls k _ _ l1 1 4194304 true _ ?side1 ?side2 A5.out).mono ?_); (case side1 => repeat (first | exact e0.out | (with_reducible refine Kd.C_alloc ?_ _) | (with_reducible refine Kd.C_drewN ?_ _) | (with_reducible refine Kd.C_drew ?_))); (case side2 => exact f0.out); rintro e w' ⟨rfl, ⟨nd, rfl⟩⟩) | ((with_reducible refine gate_callee (f := 71) rfl ?_); refine gL_ (some 16) Try.func71 #[.slice A0 l0.length c0, .slice A1 l1.length c1, .func (.func 77) #[] #[]] ?_; (with_reducible refine (remap_over_int64_by_remap_quantized.calls k _ _ l0 _ _ l1  a0 _ ?side1 ?side2 ?side3 ?side4 A7.out).mono ?_); (case side1 => repeat (first | exact b0.out | (with_reducible refine Kd.C_alloc ?_ _) | (with_reducible refine Kd.C_drewN ?_ _) | (with_reducible refine Kd.C_drew ?_))); (case side2 => exact d0.out); (case side3 => repeat (first | exact e0.out | (with_reducible refine Kd.C_alloc ?_ _) | (with_reducible refine Kd.C_drewN ?_ _) | (with_reducible refine Kd.C_drew ?_))); (case side4 => exact f0.out); rintro e w8 ⟨k0, rfl, j0, hb⟩; refine ⟨_, rfl, ?_⟩; have i0 := a_ (Kd.R_lower j0 (bs_ HB)); replace HB := BS_ HB hb; (try clear hb); (try clear j0)))
 go_ret2
 exact ⟨_, er_, kR_ i0, bl_ HB⟩}
 {
 simp only [Option.some.injEq, Prod.mk.injEq] at H
 obtain ⟨rfl, rfl⟩ := H
 go_enter Try.func38, Try.ntmps38
 go_wp2_with (first | ((with_reducible refine gate_callee (f := 70) rfl ?_); refine gL_ (some 7) Try.func70 #[.slice A0 l0.length c0, .int .i64 (-1048576), .int .i64 1048576] ?_; (with_reducible refine (remap_row.calls k _ _ l0 (-1048576) 1048576 true _ ?side1 ?side2 A3.out).mono ?_); (case side1 => repeat (first | exact b0.out | (with_reducible refine Kd.C_alloc ?_ _) | (with_reducible refine Kd.C_drewN ?_ _) | (with_reducible refine Kd.C_drew ?_))); (case side2 => exact d0.out); rintro e w' ⟨rfl, ⟨nd, rfl⟩⟩; refine ⟨_, rfl, ?_⟩) | (go_at_call 70; (with_reducible refine (remap_row.calls k _ _ l1 1 4194304 false _ ?side1 ?side2 A5.out).mono ?_); (case side1 => repeat (first | exact e0.out | (with_reducible refine Kd.C_alloc ?_ _) | (with_reducible refine Kd.C_drewN ?_ _) | (with_reducible refine Kd.C_drew ?_))); (case side2 => exact f0.out); rintro e w' ⟨rfl, ⟨nd, rfl⟩⟩))
 go_ret2
 exact ⟨_, er_, kn_, bl_ HB⟩}}
 {
 simp only [Option.some.injEq, Prod.mk.injEq] at H
 obtain ⟨rfl, rfl⟩ := H
 go_enter Try.func38, Try.ntmps38
 go_wp2_with (first | ((with_reducible refine gate_callee (f := 70) rfl ?_); refine gL_ (some 7) Try.func70 #[.slice A0 l0.length c0, .int .i64 (-1048576), .int .i64 1048576] ?_; (with_reducible refine (remap_row.calls k _ _ l0 (-1048576) 1048576 false _ ?side1 ?side2 A3.out).mono ?_); (case side1 => repeat (first | exact b0.out | (with_reducible refine Kd.C_alloc ?_ _) | (with_reducible refine Kd.C_drewN ?_ _) | (with_reducible refine Kd.C_drew ?_))); (case side2 => exact d0.out); rintro e w' ⟨rfl, ⟨nd, rfl⟩⟩; refine ⟨_, rfl, ?_⟩))
 go_ret2
 exact ⟨_, er_, kn_, bl_ HB⟩}
def vcodec_silent.l0 : Nat → List Int → Int → Int → Option (Bool)
  | 0, _, _, _ => none
  | k + 1, x5, x6, x7 => if x7 < x6 then (if 0 ≤ x7 then (if x7 < (x5.length : Int) then (if (rd x5 x7) = 0 then (vcodec_silent.l0 k x5 x6 (wrap64 (x7 + 1))) else (some false)) else (none)) else (none)) else (some true)
def vcodec_silent.f (k : Nat) (l0 : List Int) : Option (Bool) := vcodec_silent.l0 k l0 (l0.length : Int) 0
theorem vcodec_silent.mono_l : ∀ k, (∀ y0 y1 y2, LeO (vcodec_silent.l0 k y0 y1 y2) (vcodec_silent.l0 (k + 1) y0 y1 y2))
  | 0 => fun _ _ _ r h => by simp [vcodec_silent.l0] at h
  | k + 1 => by
    have a0 := vcodec_silent.mono_l k
    · intro y0 y1 y2
      unfold vcodec_silent.l0
      with_reducible repeat' first
   | apply a0
   | exact LeO.refl _
   | exact LeO.none _
   | refine LeO.ite ?_ ?_
   | refine LeO.bind ?_ (fun _ => ?_)
theorem vcodec_silent.mono : ∀ a0 k, LeO (vcodec_silent.f k a0) (vcodec_silent.f (k + 1) a0) := by
  intro a0 k
  have b0 := vcodec_silent.mono_l k
  unfold vcodec_silent.f
  with_reducible repeat' first
   | apply b0
   | exact LeO.refl _
   | exact LeO.none _
   | refine LeO.ite ?_ ?_
   | refine LeO.bind ?_ (fun _ => ?_)
set_option maxHeartbeats 8000000 in
set_option maxRecDepth 100000 in
theorem vcodec_silent.calls (k : Nat) (A0 : Option Addr) (c0 : Nat) (l0 : List Int) (r : Bool) (w : World) (hr0 : Kd.C (Kd.int .i64) w A0 l0.length l0) (hc0 : l0.length ≤ c0) (h : vcodec_silent.f k l0 = some r) :
    Calls Try.prog 39 #[.slice A0 l0.length c0] w fun e w' => e = .returned (.bool r) ∧ Drawn0 w w' := by
 have h0 := a_ hr0
 have p0 := a_ hc0
 clear hr0 hc0
 have H : (vcodec_silent.l0 k l0 (l0.length : Int) 0) = some r := h
 clear h
 have H' := a_ H
 clear H
 go_enter Try.func39, Try.ntmps39
 go_wp2
 go_loopg [7] k (fun kq v7 w' => ∃ (a0 : Int), v7 = .int .i64 a0 ∧ Aside0 (vcodec_silent.l0 kq l0 (l0.length : Int) a0 = some r) ∧ Aside0 (kq ≤ k) ∧ Drawn0 w w')
 case atStart => exact ⟨(0), rs_, H', ⟨Nat.le_refl _⟩, dr_⟩
 case round => (
 clear H'
 obtain ⟨a0, rfl, HA, i0, ⟨m1, rfl⟩⟩ := hrel
 cases gk with
 | zero => exact absurd HA.out (by simp [vcodec_silent.l0])
 | succ k1 => (
 have H := HA.out
 clear HA
 simp only [vcodec_silent.l0] at H
 replace H := id_ H
 rcases H with ⟨j0, H⟩ | ⟨j0, H⟩
 {
 replace H := gd_ H
 obtain ⟨n0, H⟩ := H
 replace H := gd_ H
 obtain ⟨o0, H⟩ := H
 replace H := ie_ H
 rcases H with ⟨k0, m0, H⟩ | ⟨c5, k0, m0, H⟩
 {
 have H' := a_ H
 clear H
 have b0 : 0 ≤ (a0 : Int) := dm_
 have d0 : a0 < (l0.length : Int) := dm_
 obtain ⟨g0, e0, f0⟩ := Kd.at_int h0.out a0 b0 d0
 cases e0
 replace b0 := eq_true b0
 replace d0 := eq_true d0
 go_wp2
 go_roundg k1
 case measure => have := i0.out; omega
 case rel => exact ⟨(wrap64 (a0 + 1)), rs_, H', ⟨by have := i0.out; omega⟩, dr_⟩}
 {
 obtain rfl := Option.some.inj H
 have b0 : 0 ≤ (a0 : Int) := dm_
 have d0 : a0 < (l0.length : Int) := dm_
 obtain ⟨g0, e0, f0⟩ := Kd.at_int h0.out a0 b0 d0
 cases e0
 replace b0 := eq_true b0
 replace d0 := eq_true d0
 go_wp2
 go_ret
 exact ⟨es_, dr_⟩}}
 {
 obtain rfl := Option.some.inj H
 go_wp2
 go_ret
 exact ⟨es_, dr_⟩}))
def couple_coupling.f  : Option (Int) := some 1099511627776
set_option maxHeartbeats 8000000 in
set_option maxRecDepth 100000 in
theorem couple_coupling.calls  (r : Int) (w : World) (h : couple_coupling.f  = some r) :
    Calls Try.prog 78 #[] w fun e w' => e = .returned (.agg #[.int .i64 r, .func (.func 100) #[] #[]]) ∧ Below w.heap.size w w' := by
 have h0 := Try.underlying101
 have HB := a_ (Below.refl w.heap.size w)
 have H : (some 1099511627776) = some r := h
 clear h
 obtain rfl := Option.some.inj H
 go_enter Try.func78, Try.ntmps78
 go_wp2_with (first | ((with_reducible refine gate_dst (N := 0) rfl ?_); refine bx_ HB 0 #[.int .i64 0, .nilFunc] 101 ?_; clear HB; intro b0 hg w1 hb a0 c0 HB; have i0 := c0; clear hb hg; obtain ⟨d0, e0, f0, g0⟩ := e2_ a0))
 refine bodyPost_ret (results_cell_row rfl _ _ b0 101 #[.int .i64 1099511627776, .func (.func 100) #[] #[]] (0, 0) _ rfl (bp_ a0) Try.underlying101 rfl kf_) rfl ?_
 exact ⟨er_, bl_ HB⟩
end Go.Proofs.Ytdajlfijkbafiaa.P
