/- Words, walks and what they compute, as the law's proof needs them. -/
import Derived.Test.YtdajlfijkbafiaaProg
import Derived.Below
import Derived.Deep.Draws
import Derived.Deep.AppendLies
import Derived.Maps.AppendAt
import Derived.OwnWalk
import Derived.Laws.BytesArg
import Derived.Laws.MakeOwn
import Derived.Laws.OwnMore
import Derived.Deep.OwnRows
import Derived.Tactics
import Derived.Lib.ConvBytes
import Derived.Laws.Slices
import Derived.WalkKit
import Derived.KernelRfl
import Derived.RowKit3
import Derived.Deep.LoopGhost
import Derived.Deep.QuietTactic
import Derived.BigQuiet
import Derived.WideLaws
import Derived.Deep.DeepCutAuto
import Derived.Deep.CutBlock
import Derived.Deep.RegionHeld3
import Derived.Laws.Rows
import Derived.Lib.AppendStr
import Derived.ArgAppend
import Derived.Laws.IdiomCopy
import Derived.OrdersHeld
import Derived.Laws.BitsLemmas
import Derived.RowKit
import Derived.Laws.EntriesVeiled
import Derived.Test.YtdajlfijkbafiaaN1
import Derived.Test.YtdajlfijkbafiaaN2
set_option linter.unusedVariables false
set_option linter.unusedSimpArgs false
namespace Go.Proofs.Ytdajlfijkbafiaa.P
open Go.RowKit Go.Proofs.YtdajlfijkbafiaaW.PrintWords Go.Proofs.YtdajlfijkbafiaaW.PrintLast Go.Proofs.YtdajlfijkbafiaaW.PrintMore
attribute [local go_sem] max2_int min2_int max_two min_two max_three min_three max_four min_four
def errW : Option Int → Value
  | none => .nilIface
  | some c => .iface 0 (.int .i64 c)
theorem errW_none : errW none = .nilIface := rfl
theorem errW_some (c : Int) : errW (some c) = .iface 0 (.int .i64 c) := rfl
theorem info2 : (Try.prog.info? 2).map (fun i => (i.zero, i.size, i.bytes)) = some (some (.int .i64 0), 1, 8) := by kernel_rfl
theorem info3 : (Try.prog.info? 3).map (fun i => (i.zero, i.size, i.bytes)) = some (some (.int .i64 0), 1, 8) := by kernel_rfl
theorem info22 : (Try.prog.info? 22).map (fun i => (i.zero, i.size, i.bytes)) = some (some (.slice none 0 0), 1, 24) := by kernel_rfl
theorem info53 : (Try.prog.info? 53).map (fun i => (i.zero, i.size, i.bytes)) = some (some (.slice none 0 0), 1, 24) := by kernel_rfl
def rd_L1 (xs : List (List Int)) (i : Int) : (List Int) := xs.getD i.toNat ([] : List Int)
theorem at_L1 {w : World} {A : Option Addr} {n : Nat} {xs : List (List Int)} (h : Kd.C (Kd.slice 3 (Kd.int .i64)) w A n xs) (i : Int) (h0 : 0 ≤ i) (h1 : i < n) : ∃ ad A0 c0, A = some ad ∧ w.cell? (ad.add i.toNat) = some (.slice A0 (rd_L1 xs i).length c0) ∧ (rd_L1 xs i).length ≤ c0 ∧ (Kd.int .i64).C w A0 (rd_L1 xs i).length (rd_L1 xs i) := by
  obtain ⟨ad, c, e, _, hK, hc0⟩ := Kd.C_get h ([] : List Int) i h0 h1
  have hc : ∀ j u, c[j]? = some u → w.cell? (ad.add (i.toNat * 1 + j)) = some u := hc0
  obtain ⟨A0, c0, rfl, l0, g0⟩ := hK
  exact ⟨ad, A0, c0, e, by have hq := hc 0 _ rfl; rwa [Nat.mul_one, Nat.add_zero] at hq, l0, g0⟩
def rd_L2 (xs : List (List Int)) (i : Int) : (List Int) := xs.getD i.toNat ([] : List Int)
theorem at_L2 {w : World} {A : Option Addr} {n : Nat} {xs : List (List Int)} (h : Kd.C (Kd.slice 2 (Kd.int .i64)) w A n xs) (i : Int) (h0 : 0 ≤ i) (h1 : i < n) : ∃ ad A0 c0, A = some ad ∧ w.cell? (ad.add i.toNat) = some (.slice A0 (rd_L2 xs i).length c0) ∧ (rd_L2 xs i).length ≤ c0 ∧ (Kd.int .i64).C w A0 (rd_L2 xs i).length (rd_L2 xs i) := by
  obtain ⟨ad, c, e, _, hK, hc0⟩ := Kd.C_get h ([] : List Int) i h0 h1
  have hc : ∀ j u, c[j]? = some u → w.cell? (ad.add (i.toNat * 1 + j)) = some u := hc0
  obtain ⟨A0, c0, rfl, l0, g0⟩ := hK
  exact ⟨ad, A0, c0, e, by have hq := hc 0 _ rfl; rwa [Nat.mul_one, Nat.add_zero] at hq, l0, g0⟩
end Go.Proofs.Ytdajlfijkbafiaa.P
namespace Go.Proofs.Ytdajlfijkbafiaa.P
open Go.RowKit Go.Proofs.YtdajlfijkbafiaaW.PrintWords Go.Proofs.YtdajlfijkbafiaaW.PrintLast Go.Proofs.YtdajlfijkbafiaaW.PrintMore
theorem bset_ {w W : World} {g j : Nat} {v : Value} (h : Below w.heap.size w W) (hg : Aside0 (w.heap.size ≤ g)) : Below w.heap.size w (W.setCell ⟨g, j, none⟩ v) := below_set h hg.out
theorem bfar_ {w : World} {g q j : Nat} {t : TypeId} {cs : Array Value} {u : Value} (h : w.heap[g]? = some (.cells cs t (0, 0))) (hp : Aside0 (g ≠ q)) : (w.setCell ⟨q, j, none⟩ u).heap[g]? = some (.cells cs t (0, 0)) := blk_far h hp.out u
theorem bl_ {w V W : World} (H : Aside0 (Below w.heap.size w V)) (c : Below w.heap.size w V → Below w.heap.size w W := by intro h_; repeat (first | (with_reducible first | exact h_ | apply below_alloc | apply pw_below_drewN | apply below_drew1 | refine bset_ ?_ (by assumption)) | exact h_)) : Below w.heap.size w W := c H.out
theorem bs_ {w V W : World} (H : Aside0 (Below w.heap.size w V)) (c : Below w.heap.size w V → Below w.heap.size w W := by intro h_; repeat (first | (with_reducible first | exact h_ | apply below_alloc | apply pw_below_drewN | apply below_drew1 | refine bset_ ?_ (by assumption)) | exact h_)) : w.heap.size ≤ W.heap.size := below_size (c H.out)
theorem BS_ {w V W w1 : World} (H : Aside0 (Below w.heap.size w V)) (hb : Below W.heap.size W w1) (c : Below w.heap.size w V → Below w.heap.size w W := by intro h_; repeat (first | (with_reducible first | exact h_ | apply below_alloc | apply pw_below_drewN | apply below_drew1 | refine bset_ ?_ (by assumption)) | exact h_)) : Aside0 (Below w.heap.size w w1) := ⟨below_step (c H.out) hb⟩
theorem GE_ {w V W : World} {g : Nat} (H : Aside0 (Below w.heap.size w V)) (hg : g = W.heap.size) (c : Below w.heap.size w V → Below w.heap.size w W := by intro h_; repeat (first | (with_reducible first | exact h_ | apply below_alloc | apply pw_below_drewN | apply below_drew1 | refine bset_ ?_ (by assumption)) | exact h_)) : Aside0 (w.heap.size ≤ g) := ⟨hg ▸ below_size (c H.out)⟩
theorem bk_ {w W : World} {g : Nat} {o : Obj} (h : Aside0 (w.heap[g]? = some o)) (c : w.heap[g]? = some o → W.heap[g]? = some o := by intro h_; (with_reducible repeat (first | refine blk_drewN ?_ _ | refine blk_drew ?_ | refine blk_alloc ?_ _ | refine bfar_ ?_ (by assumption))); exact h_) : W.heap[g]? = some o := c h.out
theorem FB_ {w W w1 : World} {g : Nat} {o : Obj} (h : Aside0 (w.heap[g]? = some o)) (hb : Below W.heap.size W w1) (c : w.heap[g]? = some o → W.heap[g]? = some o := by intro h_; (with_reducible repeat (first | refine blk_drewN ?_ _ | refine blk_drew ?_ | refine blk_alloc ?_ _ | refine bfar_ ?_ (by assumption))); exact h_) : Aside0 (w1.heap[g]? = some o) := ⟨blk_below (c h.out) hb⟩
theorem FG_ {w W w1 : World} {g : Nat} {o : Obj} {row : Option Nat} (h : Aside0 (w.heap[g]? = some o)) (hg : W.grownBy w1 row) (hne : some g ≠ row) (c : w.heap[g]? = some o → W.heap[g]? = some o := by intro h_; (with_reducible repeat (first | refine blk_drewN ?_ _ | refine blk_drew ?_ | refine blk_alloc ?_ _ | refine bfar_ ?_ (by assumption))); exact h_) : Aside0 (w1.heap[g]? = some o) := ⟨blk_grown (c h.out) hg hne⟩
theorem kR_ {α : Type} {d : Kd α} {e base : Nat} {w W : World} {ok : Nat → Prop} {v : Value} {xs : List α} (h : Aside0 (Kd.R d e w base ok v xs)) (c : Kd.R d e w base ok v xs → Kd.R d e W base ok v xs := by intro h_; (with_reducible repeat (first | apply Kd.R_alloc | apply Kd.R_drewN | apply Kd.R_drew)); exact h_) : Kd.R d e W base ok v xs := c h.out
theorem FR_ {α : Type} {d : Kd α} {e base : Nat} {w W w1 : World} {ok : Nat → Prop} {v : Value} {xs : List α} (h : Aside0 (Kd.R d e w base ok v xs)) (hb : Below W.heap.size W w1) (c : Kd.R d e w base ok v xs → Kd.R d e W base ok v xs := by intro h_; (with_reducible repeat (first | apply Kd.R_alloc | apply Kd.R_drewN | apply Kd.R_drew)); exact h_) : Aside0 (Kd.R d e w1 base ok v xs) := ⟨Kd.R_below (c h.out) hb⟩
theorem kN_ {α : Type} {d : Kd α} {e base : Nat} {w W : World} {ok : Nat → Prop} {v : Value} {xs : List α} (h : Aside0 (Kd.N d e w base ok v xs)) (c : Kd.N d e w base ok v xs → Kd.N d e W base ok v xs := by intro h_; (with_reducible repeat (first | apply Kd.N_alloc | apply Kd.N_drewN | apply Kd.N_drew)); exact h_) : Kd.N d e W base ok v xs := c h.out
theorem FN_ {α : Type} {d : Kd α} {e base : Nat} {w W w1 : World} {ok : Nat → Prop} {v : Value} {xs : List α} (h : Aside0 (Kd.N d e w base ok v xs)) (hb : Below W.heap.size W w1) (c : Kd.N d e w base ok v xs → Kd.N d e W base ok v xs := by intro h_; (with_reducible repeat (first | apply Kd.N_alloc | apply Kd.N_drewN | apply Kd.N_drew)); exact h_) : Aside0 (Kd.N d e w1 base ok v xs) := ⟨Kd.N_below (c h.out) hb⟩
theorem kV_ {α : Type} {d : Kd α} {e base : Nat} {w W : World} {ok : Nat → Prop} {v : Value} {xs : List α} (h : Aside0 (Kd.V d e w base ok v xs)) (c : Kd.V d e w base ok v xs → Kd.V d e W base ok v xs := by intro h_; (with_reducible repeat (first | apply Kd.V_alloc | apply Kd.V_drewN | apply Kd.V_drew)); exact h_) : Kd.V d e W base ok v xs := c h.out
theorem FV_ {α : Type} {d : Kd α} {e base : Nat} {w W w1 : World} {ok : Nat → Prop} {v : Value} {xs : List α} (h : Aside0 (Kd.V d e w base ok v xs)) (hb : Below W.heap.size W w1) (c : Kd.V d e w base ok v xs → Kd.V d e W base ok v xs := by intro h_; (with_reducible repeat (first | apply Kd.V_alloc | apply Kd.V_drewN | apply Kd.V_drew)); exact h_) : Aside0 (Kd.V d e w1 base ok v xs) := ⟨Kd.V_below (c h.out) hb⟩
theorem kC_ {α : Type} {d : Kd α} {n : Nat} {A : Option Addr} {w V W : World} {xs : List α} (h : Aside0 (Kd.C d w A n xs)) (H : Aside0 (Below w.heap.size w V)) (c : Kd.C d V A n xs → Kd.C d W A n xs := by intro h_; repeat (first | exact h_ | (with_reducible refine Kd.C_alloc ?_ _) | (with_reducible refine Kd.C_drewN ?_ _) | (with_reducible refine Kd.C_drew ?_))) : Kd.C d W A n xs := c (Kd.C_below h.out H.out)
theorem kCt_ {α : Type} {d : Kd α} {n : Nat} {A : Option Addr} {V W : World} {xs : List α} (h : Kd.C d V A n xs) (c : Kd.C d V A n xs → Kd.C d W A n xs := by intro h_; repeat (first | exact h_ | (with_reducible refine Kd.C_alloc ?_ _) | (with_reducible refine Kd.C_drewN ?_ _) | (with_reducible refine Kd.C_drew ?_))) : Kd.C d W A n xs := c h
theorem kbs_ {w W : World} {g j : Nat} {u : Value} (h : KeepBut w W g none) : KeepBut w (W.setCell ⟨g, j, none⟩ u) g none := h.set_ j u
theorem kba_ {w W : World} {g : Nat} {o : Obj} (h : KeepBut w W g none) : KeepBut w (W.alloc o) g none := h.trans (KeepBut.of_below (below_alloc (Below.refl _ _) o) g none) (Or.inl rfl)
theorem kbd_ {w W : World} {g : Nat} (h : KeepBut w W g none) : KeepBut w W.drew g none := h.trans (KeepBut.of_below (below_drew1 (Below.refl _ _)) g none) (Or.inl rfl)
theorem kbn_ {w W : World} {g n : Nat} (h : KeepBut w W g none) : KeepBut w (W.drewN n) g none := h.trans (KeepBut.of_below (pw_below_drewN (Below.refl _ _) n) g none) (Or.inl rfl)
theorem kRk_ {α : Type} {d : Kd α} {e base g t : Nat} {w W : World} {ok : Nat → Prop} {v : Value} {xs : List α} {cells : Array Value} (h : Aside0 (Kd.R d e w base ok v xs)) (b : Aside0 (w.heap[g]? = some (.cells cells t (0, 0)))) (ht : ∀ q, q ∈ e :: d.E → q ≠ t := by decide) (c : KeepBut w W g none := by with_reducible repeat (first | exact KeepBut.refl _ _ _ | refine kbs_ ?_ | refine kba_ ?_ | refine kbd_ ?_ | refine kbn_ ?_)) : Kd.R d e W base ok v xs := Kd.R_mono (Kd.R_keep (Kd.R_types h.out b.out ht) c (fun _ hk => hk.2)) (fun _ hk => hk.1)
theorem bp_ {w W : World} {g : Nat} {o o2 : Obj} (h : Aside0 (w.heap[g]? = some o)) (c : w.heap[g]? = some o → W.heap[g]? = some o2 := by intro h_; (with_reducible repeat (first | refine blk_drewN ?_ _ | refine blk_drew ?_ | refine blk_alloc ?_ _ | refine bfar_ ?_ (by assumption) | (refine blk_put (cs := ?_) ?_ _ _ ?_; rotate_left))); exact h_; all_goals first | (simp only [List.setIfInBounds_toArray, List.set_cons_zero, List.set_cons_succ]; rfl) | (simp only [List.setIfInBounds_toArray, List.set_cons_zero, List.set_cons_succ]; done) | rfl) : W.heap[g]? = some o2 := c h.out
theorem ce_ {w : World} {g : Nat} {t : TypeId} {cs : Array Value} {v : Value} (h : Aside0 (w.heap[g]? = some (.cells cs t (0, 0)))) (i : Nat) (e : cs[i]? = some v := by exact rfl) : w.cell? ⟨g, i, none⟩ = some v := (blk_cell h.out i).trans e
def B_ (n m : Nat) : Array Bool := ((List.range n).map fun i => m.testBit i).toArray
theorem fr_ {n : Nat} {P : Nat → Prop} (h : ∀ k, n ≤ k → P k) : P n := h n (Nat.le_refl n)
theorem ol_ {p : Prop} (c : p := by first | omega | exact Nat.le_refl _) : p := c
theorem kn_ {p : Prop} (c : p := by first | exact Kd.S_nil _ _ _ _ _ | exact Kd.N_nil _ _ _ _ _ | exact Kd.V_nil _ _ _ _ _ | exact Kd.Q_nil _ _ _ _ _ | exact Kd.R_nil _ _ _ _ _) : p := c
theorem pa_ {p : Prop} (c : p := by simp only [putAll, Act.put, List.setIfInBounds_toArray, List.set_cons_zero, List.set_cons_succ]) : p := c
theorem ob_ {α β : Type} {x : Option α} {f : α → Option β} {b : β} (h : x.bind f = some b) : ∃ a, Aside0 (x = some a) ∧ f a = some b := by
  obtain ⟨a, e, k⟩ := Option.bind_eq_some_iff.mp h
  exact ⟨a, ⟨e⟩, k⟩
theorem e1_ {w : World} {g : Nat} {t : TypeId} {x0 : Value} (h : Aside0 (w.heap[g]? = some (.cells #[x0] t (0, 0)))) : w.cell? ⟨g, 0, none⟩ = some x0 ∧ w.frozen? ⟨g, 0, none⟩ = false := ⟨(blk_cell h.out 0).trans rfl, blk_frozen h.out 0⟩
theorem e2_ {w : World} {g : Nat} {t : TypeId} {x0 x1 : Value} (h : Aside0 (w.heap[g]? = some (.cells #[x0, x1] t (0, 0)))) : w.cell? ⟨g, 0, none⟩ = some x0 ∧ w.cell? ⟨g, 1, none⟩ = some x1 ∧ w.frozen? ⟨g, 0, none⟩ = false ∧ w.frozen? ⟨g, 1, none⟩ = false := ⟨(blk_cell h.out 0).trans rfl, (blk_cell h.out 1).trans rfl, blk_frozen h.out 0, blk_frozen h.out 1⟩
theorem e4_ {w : World} {g : Nat} {t : TypeId} {x0 x1 x2 x3 : Value} (h : Aside0 (w.heap[g]? = some (.cells #[x0, x1, x2, x3] t (0, 0)))) : w.cell? ⟨g, 0, none⟩ = some x0 ∧ w.cell? ⟨g, 1, none⟩ = some x1 ∧ w.cell? ⟨g, 2, none⟩ = some x2 ∧ w.cell? ⟨g, 3, none⟩ = some x3 ∧ w.frozen? ⟨g, 0, none⟩ = false ∧ w.frozen? ⟨g, 1, none⟩ = false ∧ w.frozen? ⟨g, 2, none⟩ = false ∧ w.frozen? ⟨g, 3, none⟩ = false := ⟨(blk_cell h.out 0).trans rfl, (blk_cell h.out 1).trans rfl, (blk_cell h.out 2).trans rfl, (blk_cell h.out 3).trans rfl, blk_frozen h.out 0, blk_frozen h.out 1, blk_frozen h.out 2, blk_frozen h.out 3⟩
theorem NN_ {w W : World} {g g1 : Nat} {o : Obj} (h : Aside0 (w.heap[g]? = some o)) (hg : g1 = W.heap.size) (c : w.heap[g]? = some o → W.heap[g]? = some o := by intro h_; (with_reducible repeat (first | refine blk_drewN ?_ _ | refine blk_drew ?_ | refine blk_alloc ?_ _ | refine bfar_ ?_ (by assumption))); exact h_) : Aside0 (g ≠ g1) ∧ Aside0 (g1 ≠ g) := ⟨⟨hg ▸ Nat.ne_of_lt (blk_lt (c h.out))⟩, ⟨hg ▸ Nat.ne_of_gt (blk_lt (c h.out))⟩⟩
theorem NP_ {w W : World} {g g1 : Nat} {o : Obj} (o2e : Obj) (h : Aside0 (w.heap[g]? = some o)) (hg : g1 = W.heap.size) (c : w.heap[g]? = some o → W.heap[g]? = some o2e := by intro h_; (with_reducible repeat (first | refine blk_drewN ?_ _ | refine blk_drew ?_ | refine blk_alloc ?_ _ | refine bfar_ ?_ (by assumption) | (refine blk_put (cs := ?_) ?_ _ _ ?_; rotate_left))); exact h_; all_goals first | (simp only [List.setIfInBounds_toArray, List.set_cons_zero, List.set_cons_succ]; rfl) | (simp only [List.setIfInBounds_toArray, List.set_cons_zero, List.set_cons_succ]; done) | rfl) : Aside0 (g ≠ g1) ∧ Aside0 (g1 ≠ g) := ⟨⟨hg ▸ Nat.ne_of_lt (blk_lt (c h.out))⟩, ⟨hg ▸ Nat.ne_of_gt (blk_lt (c h.out))⟩⟩
theorem sp_ {p : Prop} (c : p := by simp only [Act.put, List.setIfInBounds_toArray, List.set_cons_zero, List.set_cons_succ, i64_w, i32_w]; rfl) : p := c
theorem ar_ {p : Prop} (c : p := by (try simp only [List.map_toArray, List.map_cons, List.map_nil]); first | done | rfl | (simp only [List.length_drop, List.length_take]; rfl)) : p := c
theorem kf_ {p : Prop} (c : p := by kernel_rfl) : p := c
theorem rs_ {p : Prop} (c : p := by first | rfl | (simp; done) | (simp [*]; done)) : p := c
theorem am_ {p : Prop} (c : p := by first | (with_reducible assumption) | assumption) : p := c
section
variable {P : Program} {md : Region.Mode} {ops : Array Oper} {Q : Exit → Act → World → Prop} {S : World → Prop} {ds : List Nat}
theorem pu_ {T : Bool × List (List Nat × List Nat)} {oi : Oper} {v : Value} {fuel : Nat} {l : Array Bool} {a a' : Act} {w : World} (i : Nat) (N : Option Tmp) (l' : Array Bool) (hT : Aside0 (rtab md ops = T)) (h : wpAnyLast P md ops Q S ds fuel l' a' w)
    (hi : ops[i]? = some oi := by exact rfl) (hN : oi.dst = N := by exact rfl) (hc : anyT T l.toList l'.toList i = true := by kernel_rfl) (hQ : ∀ c a w, Q (.panic c) (a.put oi.dst v) w → Q (.panic c) a w := by exact fun _ _ _ h => h)
    (hg : Region.wanted oi (yielded ops a.tmps) = true := by rfl) (hy : ∀ w', (execOp a.eval oi).run P w' = .ok (.value v) w' := by intro w'; go_simp; with_reducible rfl) (ha : a.put N v = a' := by simp only [Act.put, List.setIfInBounds_toArray, List.set_cons_zero, List.set_cons_succ, i64_w, i32_w]; rfl) : wpAnyLast P md ops Q S ds (fuel + 1) l a w :=
  pure_ l' hi hN (any_of hT.out hc) hQ (Or.inl ⟨hg, hy⟩) ha h
end
section
variable {P : Program} {ops : Array Oper} {Q : Exit → Act → World → Prop}
theorem gL_ {rest : List Oper} {oi : Oper} {a : Act} {w : World} (N : Option Tmp) {f : FuncId} {fn : Func} {ao : Array Operand} {ts : Array TypeId} (hf : P.funcs[f]? = some fn) (args : Array Value)
    (h : Calls P f args w fun e w' => ∃ v, e = .returned v ∧ wpList P ops Q rest (a.put N v) w')
    (hd : oi.dst = N := by exact rfl) (hg : oi.guard = none := by exact rfl) (hname : (fn.name == "runtime.NumGoroutine") = false := by kernel_rfl) (hb : fn.body.isSome = true := by exact rfl)
    (hop : oi.op = .call { callee := .value (.func f), args := ao, argTypes := ts } := by exact rfl) (hargs : ao.map a.eval = args := by (try simp only [List.map_toArray, List.map_cons, List.map_nil]); first | done | rfl | (simp only [List.length_drop, List.length_take]; rfl)) : wpList P ops Q (oi :: rest) a w :=
  goesL_ N hd hg hf hname hb args hop hargs h
theorem bx_ {rest : List Oper} {o : Oper} {a : Act} {w V W : World} (H : Aside0 (Below w.heap.size w V)) (N : Tmp) (cs : Array Value) (t : TypeId)
    (h : ∀ g, g = W.heap.size → ∀ w1, Below W.heap.size W w1 → Aside0 (w1.heap[g]? = some (.cells cs t (0, 0))) → Aside0 (w.heap.size ≤ g) → Aside0 (Below w.heap.size w w1) → wpList P ops Q rest (a.put o.dst (.pointer (some ⟨g, 0, none⟩))) w1)
    (hd : o.dst = some N := by exact rfl) (hgd : o.guard = none := by exact rfl)
    (hrun : (execOp a.eval o).run P W = .ok (.value (.pointer (some ⟨W.heap.size, 0, none⟩))) (W.alloc (.cells cs t (0, 0))) := by first | (go_simp; done) | (go_simp; rfl))
    (c : Below w.heap.size w V → Below w.heap.size w W := by intro h_; repeat (first | (with_reducible first | exact h_ | apply below_alloc | apply pw_below_drewN | apply below_drew1 | refine bset_ ?_ (by assumption)) | exact h_)) : wpList P ops Q (o :: rest) a W :=
  box_event hgd hd hrun fun g hg w1 hb hB => h g hg w1 hB ⟨hb⟩ ⟨hg ▸ below_size (c H.out)⟩ ⟨below_step (c H.out) hB⟩
theorem box_ {rest : List Oper} {o : Oper} {a : Act} {W : World} (N : Tmp) (cs : Array Value) (t : TypeId)
    (h : ∀ g, g = W.heap.size → ∀ w1, w1.heap[g]? = some (.cells cs t (0, 0)) → Below W.heap.size W w1 → wpList P ops Q rest (a.put o.dst (.pointer (some ⟨g, 0, none⟩))) w1)
    (hd : o.dst = some N := by exact rfl) (hgd : o.guard = none := by exact rfl)
    (hrun : (execOp a.eval o).run P W = .ok (.value (.pointer (some ⟨W.heap.size, 0, none⟩))) (W.alloc (.cells cs t (0, 0))) := by first | (go_simp; done) | (go_simp; rfl)) : wpList P ops Q (o :: rest) a W := box_event hgd hd hrun h
end
end Go.Proofs.Ytdajlfijkbafiaa.P
namespace Go.Proofs.Ytdajlfijkbafiaa.P
open Go.RowKit Go.Proofs.YtdajlfijkbafiaaW.PrintWords Go.Proofs.YtdajlfijkbafiaaW.PrintLast Go.Proofs.YtdajlfijkbafiaaW.PrintMore
attribute [local go_sem] max2_int min2_int max_two min_two max_three min_three max_four min_four
def psalterylaw16_As.f (a0_0 : Int) (a0_1 : Int) (l0_2 : List Int) (l0_3 : List Int) : Option (Int × Int) := some (a0_0, a0_1)
set_option maxHeartbeats 8000000 in
set_option maxRecDepth 100000 in
theorem psalterylaw16_As.calls (a0_0 : Int) (a0_1 : Int) (A0_2 : Option Addr) (c0_2 : Nat) (l0_2 : List Int) (A0_3 : Option Addr) (c0_3 : Nat) (l0_3 : List Int) (r1 : Int) (r2 : Int) (w : World) (hr0_2 : Kd.C (Kd.int .i64) w A0_2 l0_2.length l0_2) (hc0_2 : l0_2.length ≤ c0_2) (hr0_3 : Kd.C (Kd.int .i64) w A0_3 l0_3.length l0_3) (hc0_3 : l0_3.length ≤ c0_3) (h : psalterylaw16_As.f a0_0 a0_1 l0_2 l0_3 = some (r1, r2)) :
    Calls Try.prog 11 #[.agg #[.int .i64 a0_0, .int .i64 a0_1, .slice A0_2 l0_2.length c0_2, .slice A0_3 l0_3.length c0_3]] w fun e w' => e = .returned (.agg #[.int .i64 r1, .int .i64 r2, .slice A0_2 l0_2.length c0_2, .slice A0_3 l0_3.length c0_3]) ∧ Below w.heap.size w w' := by
 have hu24 := Try.underlying24
 have hu31 := Try.underlying31
 have HR0_2 := Aside0.mk hr0_2
 have HC0_2 := Aside0.mk hc0_2
 clear hr0_2 hc0_2
 have HR0_3 := Aside0.mk hr0_3
 have HC0_3 := Aside0.mk hc0_3
 clear hr0_3 hc0_3
 have HB := Aside0.mk (Below.refl w.heap.size w)
 have H : (some (a0_0, a0_1)) = some (r1, r2) := h
 clear h
 simp only [Option.some.injEq, Prod.mk.injEq] at H
 obtain ⟨rfl, rfl⟩ := H
 go_enter Try.func11, Try.ntmps11
 go_wp2_with (first | ((with_reducible refine gate_dst (N := 1) rfl ?_); refine bx_ HB 1 #[.int .i64 a0_0, .int .i64 a0_1, .slice A0_2 l0_2.length c0_2, .slice A0_3 l0_3.length c0_3] 24 ?_; clear HB; intro gb129 hg w2 hb BK129 GE129 HB; have GW129 := GE129; clear hb hg) | ((with_reducible refine gate_dst (N := 2) rfl ?_); refine bx_ HB 2 #[.int .i64 0, .int .i64 0, .slice none 0 0, .slice none 0 0] 31 ?_; clear HB; intro gb130 hg w3 hb BK130 GE130 HB; have GW130 := GE130; obtain ⟨NB129_130, NB130_129⟩ := NN_ BK129 hg; replace BK129 := FB_ BK129 hb; clear hb hg; have hnb4 := NB129_130.out; have hnc4 := NB130_129.out; obtain ⟨hcz5_0, hcz5_1, hcz5_2, hcz5_3, hfz5_0, hfz5_1, hfz5_2, hfz5_3⟩ := e4_ BK129; obtain ⟨hcz6_0, hcz6_1, hcz6_2, hcz6_3, hfz6_0, hfz6_1, hfz6_2, hfz6_3⟩ := e4_ BK130))
 refine bodyPost_ret (results_cell_row rfl _ _ gb130 31 #[.int .i64 a0_0, .int .i64 a0_1, .slice A0_2 l0_2.length c0_2, .slice A0_3 l0_3.length c0_3] (0, 0) _ rfl (bp_ BK130) Try.underlying31 rfl kf_) rfl ?_
 exact ⟨by first | rfl | (simp [errW_none, errW_some] <;> rfl) | (simp [*, errW_none, errW_some] <;> rfl), bl_ HB⟩
def huff_used.l0 : Nat → Int → List Int → Int → Int → Option (Int)
  | 0, _, _, _, _ => none
  | k + 1, x3, x6, x7, x8 => if x8 < x7 then (if 0 ≤ x8 then (if x8 < (x6.length : Int) then (if (rd x6 x8) > 0 then (huff_used.l0 k (wrap64 (x3 + 1)) x6 x7 (wrap64 (x8 + 1))) else (huff_used.l0 k x3 x6 x7 (wrap64 (x8 + 1)))) else (none)) else (none)) else (some x3)
def huff_used.f (k : Nat) (l0 : List Int) : Option (Int) := huff_used.l0 k 0 l0 (l0.length : Int) 0
theorem huff_used.mono_l : ∀ k, (∀ y0 y1 y2 y3, LeO (huff_used.l0 k y0 y1 y2 y3) (huff_used.l0 (k + 1) y0 y1 y2 y3))
  | 0 => fun _ _ _ _ r h => by simp [huff_used.l0] at h
  | k + 1 => by
    have ih0 := huff_used.mono_l k
    · intro y0 y1 y2 y3
      unfold huff_used.l0
      with_reducible repeat' first
   | exact ih0 _ _ _ _
   | exact LeO.refl _
   | exact LeO.none _
   | refine LeO.ite ?_ ?_
   | refine LeO.bind ?_ (fun _ => ?_)
theorem huff_used.mono : ∀ a0 k, LeO (huff_used.f k a0) (huff_used.f (k + 1) a0) := by
  intro a0 k
  have ih0 := huff_used.mono_l k
  unfold huff_used.f
  with_reducible repeat' first
   | exact ih0 _ _ _ _
   | exact LeO.refl _
   | exact LeO.none _
   | refine LeO.ite ?_ ?_
   | refine LeO.bind ?_ (fun _ => ?_)
set_option maxHeartbeats 8000000 in
set_option maxRecDepth 100000 in
theorem huff_used.calls (k : Nat) (A0 : Option Addr) (c0 : Nat) (l0 : List Int) (r : Int) (w : World) (hr0 : Kd.C (Kd.int .i64) w A0 l0.length l0) (hc0 : l0.length ≤ c0) (h : huff_used.f k l0 = some r) :
    Calls Try.prog 115 #[.slice A0 l0.length c0] w fun e w' => e = .returned (.int .i64 r) ∧ Drawn0 w w' := by
 have HR0 := Aside0.mk hr0
 have HC0 := Aside0.mk hc0
 clear hr0 hc0
 have H : (huff_used.l0 k 0 l0 (l0.length : Int) 0) = some r := h
 clear h
 have H' := Aside0.mk H
 clear H
 go_enter Try.func115, Try.ntmps115
 go_wp2
 go_loopg [3, 8] k (fun kq v3 v8 w' => ∃ (x3_1 : Int) (x8_1 : Int), v3 = .int .i64 x3_1 ∧ v8 = .int .i64 x8_1 ∧ Aside0 (huff_used.l0 kq x3_1 l0 (l0.length : Int) x8_1 = some r) ∧ Aside0 (kq ≤ k) ∧ Drawn0 w w')
 case atStart => exact ⟨(0), (0), rs_, rs_, H', ⟨Nat.le_refl _⟩, by repeat (first | exact Drawn0.refl _ | apply Drawn0.step)⟩
 case round => (
 clear H'
 obtain ⟨x3_1, x8_1, rfl, rfl, HA, HK1, ⟨m1, rfl⟩⟩ := hrel
 cases gk with
 | zero => exact absurd HA.out (by simp [huff_used.l0])
 | succ k1 => (
 have H := HA.out
 clear HA
 simp only [huff_used.l0] at H
 by_cases c2 : x8_1 < (l0.length : Int)
 {
 rw [if_pos c2] at H
 have c2b0 : decide (x8_1 < (l0.length : Int)) = true := decide_eq_true c2
 clear c2
 by_cases c3 : 0 ≤ x8_1
 {
 rw [if_pos c3] at H
 have c3b0 : decide (0 ≤ x8_1) = true := decide_eq_true c3
 clear c3
 by_cases c4 : x8_1 < (l0.length : Int)
 {
 rw [if_pos c4] at H
 have c4b0 : decide (x8_1 < (l0.length : Int)) = true := decide_eq_true c4
 clear c4
 by_cases c5 : (rd l0 x8_1) > 0
 {
 rw [if_pos c5] at H
 have c5b0 : decide (0 < (rd l0 x8_1)) = true := decide_eq_true c5
 clear c5
 have H' := Aside0.mk H
 clear H
 have p133 : 0 ≤ (x8_1 : Int) := of_decide_eq_true am_
 have q133 : x8_1 < (l0.length : Int) := of_decide_eq_true am_
 obtain ⟨ad133, e133, hx133_0⟩ := Kd.at_int HR0.out x8_1 p133 q133
 cases e133
 replace p133 := eq_true p133
 replace q133 := eq_true q133
 go_wp2
 go_roundg k1
 case measure => have := HK1.out; omega
 case rel => exact ⟨(wrap64 (x3_1 + 1)), (wrap64 (x8_1 + 1)), rs_, rs_, H', ⟨by have := HK1.out; omega⟩, by repeat (first | exact Drawn0.refl _ | apply Drawn0.step)⟩}
 {
 rw [if_neg c5] at H
 have c5b0 : decide (0 < (rd l0 x8_1)) = false := decide_eq_false c5
 clear c5
 have H' := Aside0.mk H
 clear H
 have p133 : 0 ≤ (x8_1 : Int) := of_decide_eq_true am_
 have q133 : x8_1 < (l0.length : Int) := of_decide_eq_true am_
 obtain ⟨ad133, e133, hx133_0⟩ := Kd.at_int HR0.out x8_1 p133 q133
 cases e133
 replace p133 := eq_true p133
 replace q133 := eq_true q133
 go_wp2
 go_roundg k1
 case measure => have := HK1.out; omega
 case rel => exact ⟨(x3_1), (wrap64 (x8_1 + 1)), rs_, rs_, H', ⟨by have := HK1.out; omega⟩, by repeat (first | exact Drawn0.refl _ | apply Drawn0.step)⟩}}
 {
 rw [if_neg c4] at H
 exact absurd H (by simp)}}
 {
 rw [if_neg c3] at H
 exact absurd H (by simp)}}
 {
 rw [if_neg c2] at H
 have c2b0 : decide (x8_1 < (l0.length : Int)) = false := decide_eq_false c2
 clear c2
 obtain rfl := Option.some.inj H
 go_wp2
 go_ret
 exact ⟨by first | rfl | (simp; done) | (simp [*]; done), by repeat (first | exact Drawn0.refl _ | apply Drawn0.step)⟩}))
mutual
def huff_Right.j0 : Nat → List Int → Bool → Option (Bool)
  | 0, _, _ => none
  | k + 1, x0, x13 => if x13 = true then (some false) else (huff_Right.l0 k x0 0 x0 (x0.length : Int) 0)
def huff_Right.l0 : Nat → List Int → Int → List Int → Int → Int → Option (Bool)
  | 0, _, _, _, _, _ => none
  | k + 1, x0, x3, x14, x15, x16 => if x16 < x15 then (if 0 ≤ x16 then (if x16 < (x14.length : Int) then (if (rd x14 x16) < 0 then (huff_Right.j2 k x0 x3 (rd x14 x16) x14 x15 x16 true) else (huff_Right.j2 k x0 x3 (rd x14 x16) x14 x15 x16 (decide ((rd x14 x16) > 16)))) else (none)) else (none)) else ((huff_used.f k x0).bind fun t134 => (if t134 = 1 then (some (x3 == 32768)) else (some (x3 == 65536))))
def huff_Right.j2 : Nat → List Int → Int → Int → List Int → Int → Int → Bool → Option (Bool)
  | 0, _, _, _, _, _, _, _ => none
  | k + 1, x0, x3, x5, x14, x15, x16, x25 => if x25 = true then (some false) else (if x5 > 0 then (if 0 ≤ (wrap64 (16 - x5)) then (huff_Right.l0 k x0 (wrap64 (x3 + (shl .i64 1 (wrap64 (16 - x5))))) x14 x15 (wrap64 (x16 + 1))) else (none)) else (huff_Right.l0 k x0 x3 x14 x15 (wrap64 (x16 + 1))))
end
def huff_Right.f (k : Nat) (l0 : List Int) : Option (Bool) := if (l0.length : Int) < 2 then (huff_Right.j0 k l0 true) else (huff_Right.j0 k l0 (decide ((l0.length : Int) > 64)))
theorem huff_Right.mono_l : ∀ k, (∀ y0 y1, LeO (huff_Right.j0 k y0 y1) (huff_Right.j0 (k + 1) y0 y1)) ∧ (∀ y0 y1 y2 y3 y4, LeO (huff_Right.l0 k y0 y1 y2 y3 y4) (huff_Right.l0 (k + 1) y0 y1 y2 y3 y4)) ∧ (∀ y0 y1 y2 y3 y4 y5 y6, LeO (huff_Right.j2 k y0 y1 y2 y3 y4 y5 y6) (huff_Right.j2 (k + 1) y0 y1 y2 y3 y4 y5 y6))
  | 0 => ⟨fun _ _ r h => by simp [huff_Right.j0] at h, fun _ _ _ _ _ r h => by simp [huff_Right.l0] at h, fun _ _ _ _ _ _ _ r h => by simp [huff_Right.j2] at h⟩
  | k + 1 => by
    obtain ⟨ih0, ih1, ih2⟩ := huff_Right.mono_l k
    refine ⟨?_, ?_, ?_⟩
    all_goals (intros; first | unfold huff_Right.j0 | unfold huff_Right.l0 | unfold huff_Right.j2)
    all_goals with_reducible repeat' first
     | exact ih0 _ _
     | exact ih1 _ _ _ _ _
     | exact ih2 _ _ _ _ _ _ _
     | exact huff_used.mono _ _
     | exact LeO.refl _
     | exact LeO.none _
     | refine LeO.ite ?_ ?_
     | refine LeO.bind ?_ (fun _ => ?_)
theorem huff_Right.mono : ∀ a0 k, LeO (huff_Right.f k a0) (huff_Right.f (k + 1) a0) := by
  intro a0 k
  obtain ⟨ih0, ih1, ih2⟩ := huff_Right.mono_l k
  unfold huff_Right.f
  with_reducible repeat' first
   | exact ih0 _ _
   | exact ih1 _ _ _ _ _
   | exact ih2 _ _ _ _ _ _ _
   | exact huff_used.mono _ _
   | exact LeO.refl _
   | exact LeO.none _
   | refine LeO.ite ?_ ?_
   | refine LeO.bind ?_ (fun _ => ?_)
set_option maxHeartbeats 8000000 in
set_option maxRecDepth 100000 in
theorem huff_Right.calls (k : Nat) (A0 : Option Addr) (c0 : Nat) (l0 : List Int) (r : Bool) (w : World) (hr0 : Kd.C (Kd.int .i64) w A0 l0.length l0) (hc0 : l0.length ≤ c0) (h : huff_Right.f k l0 = some r) :
    Calls Try.prog 101 #[.slice A0 l0.length c0] w fun e w' => e = .returned (.bool r) ∧ Drawn0 w w' := by
 have HR0 := Aside0.mk hr0
 have HC0 := Aside0.mk hc0
 clear hr0 hc0
 have H : (if (l0.length : Int) < 2 then (huff_Right.j0 k l0 true) else (huff_Right.j0 k l0 (decide ((l0.length : Int) > 64)))) = some r := h
 clear h
 have HC2 := Aside0.mk H
 clear H
 go_enter Try.func101, Try.ntmps101
 go_upto_region 1 with (fail)
 go_cut [13] (fun v13 wc => ∃ (kq : Nat) (x13_1 : Bool), v13 = .bool x13_1 ∧ Aside0 (huff_Right.j0 kq l0 x13_1 = some r) ∧ Aside0 (kq ≤ k) ∧ Drawn0 w wc)
 case first => (
 have H := HC2.out
 clear HC2
 by_cases c3 : (l0.length : Int) < 2
 {
 rw [if_pos c3] at H
 have c3b0 : decide ((l0.length : Int) < 2) = true := decide_eq_true c3
 have c3b1 : decide (l0.length < 2) = true := decide_eq_true (by omega)
 clear c3
 (first | rw [c3b0] | (simp only [i64_w, i32_w]; rw [c3b0]) | skip)
 have H' := Aside0.mk H
 clear H
 go_wp2
 go_meet
 case rel => exact ⟨_, (true), rs_, H', ⟨ol_⟩, by repeat (first | exact Drawn0.refl _ | apply Drawn0.step)⟩}
 {
 rw [if_neg c3] at H
 have c3b0 : decide ((l0.length : Int) < 2) = false := decide_eq_false c3
 have c3b1 : decide (l0.length < 2) = false := decide_eq_false (by omega)
 clear c3
 (first | rw [c3b0] | (simp only [i64_w, i32_w]; rw [c3b0]) | skip)
 have H' := Aside0.mk H
 clear H
 go_wp2
 go_meet
 case rel => exact ⟨_, (decide ((l0.length : Int) > 64)), rs_, H', ⟨ol_⟩, by repeat (first | exact Drawn0.refl _ | apply Drawn0.step)⟩})
 case rest => (
 clear HC2
 obtain ⟨kq, x13_1, rfl, HA, HJ1, ⟨mc1, rfl⟩⟩ := hcut
 cases kq with
 | zero => exact absurd HA.out (by simp [huff_Right.j0])
 | succ kj1 => (
 have H := HA.out
 clear HA
 simp only [huff_Right.j0] at H
 by_cases c4 : x13_1 = true
 {
 subst c4
 rw [if_pos rfl] at H
 obtain rfl := Option.some.inj H
 go_wp2
 go_ret
 exact ⟨by first | rfl | (simp; done) | (simp [*]; done), by repeat (first | exact Drawn0.refl _ | apply Drawn0.step)⟩}
 {
 replace c4 := Bool.eq_false_iff.mpr c4
 subst c4
 rw [if_neg (show ¬ (false = true) by decide)] at H
 have H' := Aside0.mk H
 clear H
 go_wp2
 go_loopg [3, 16] kj1 (fun kq v3 v16 w' => ∃ (x3_2 : Int) (x16_2 : Int), v3 = .int .i64 x3_2 ∧ v16 = .int .i64 x16_2 ∧ Aside0 (huff_Right.l0 kq l0 x3_2 l0 (l0.length : Int) x16_2 = some r) ∧ Aside0 (kq ≤ kj1) ∧ Drawn0 w w')
 case atStart => exact ⟨(0), (0), rs_, rs_, H', ⟨Nat.le_refl _⟩, by repeat (first | exact Drawn0.refl _ | apply Drawn0.step)⟩
 case round => (
 clear H'
 try clear c4
 obtain ⟨x3_2, x16_2, rfl, rfl, HA, HK2, ⟨m2, rfl⟩⟩ := hrel
 cases gk with
 | zero => exact absurd HA.out (by simp [huff_Right.l0])
 | succ k2 => (
 have H := HA.out
 clear HA
 simp only [huff_Right.l0] at H
 by_cases c5 : x16_2 < (l0.length : Int)
 {
 rw [if_pos c5] at H
 have c5b0 : decide (x16_2 < (l0.length : Int)) = true := decide_eq_true c5
 clear c5
 by_cases c6 : 0 ≤ x16_2
 {
 rw [if_pos c6] at H
 have c6b0 : decide (0 ≤ x16_2) = true := decide_eq_true c6
 clear c6
 by_cases c7 : x16_2 < (l0.length : Int)
 {
 rw [if_pos c7] at H
 have c7b0 : decide (x16_2 < (l0.length : Int)) = true := decide_eq_true c7
 clear c7
 have HC8 := Aside0.mk H
 clear H
 have p135 : 0 ≤ (x16_2 : Int) := of_decide_eq_true am_
 have q135 : x16_2 < (l0.length : Int) := of_decide_eq_true am_
 obtain ⟨ad135, e135, hx135_0⟩ := Kd.at_int HR0.out x16_2 p135 q135
 cases e135
 replace p135 := eq_true p135
 replace q135 := eq_true q135
 go_upto_region 7 with (fail)
 go_cut [25] (fun v25 wc => ∃ (kq : Nat) (x25_7 : Bool), v25 = .bool x25_7 ∧ Aside0 (huff_Right.j2 kq l0 x3_2 (rd l0 x16_2) l0 (l0.length : Int) x16_2 x25_7 = some r) ∧ Aside0 (kq ≤ k2) ∧ Drawn0 w wc)
 case first => (
 have H := HC8.out
 clear HC8
 by_cases c9 : (rd l0 x16_2) < 0
 {
 rw [if_pos c9] at H
 have c9b0 : decide ((rd l0 x16_2) < 0) = true := decide_eq_true c9
 clear c9
 (first | rw [c9b0] | (simp only [i64_w, i32_w]; rw [c9b0]) | skip)
 have H' := Aside0.mk H
 clear H
 go_wp2
 go_meet
 case rel => exact ⟨_, (true), rs_, H', ⟨by have := HJ1.out; have := HK2.out; first | omega | exact Nat.le_refl _⟩, by repeat (first | exact Drawn0.refl _ | apply Drawn0.step)⟩}
 {
 rw [if_neg c9] at H
 have c9b0 : decide ((rd l0 x16_2) < 0) = false := decide_eq_false c9
 clear c9
 (first | rw [c9b0] | (simp only [i64_w, i32_w]; rw [c9b0]) | skip)
 have H' := Aside0.mk H
 clear H
 go_wp2
 go_meet
 case rel => exact ⟨_, (decide ((rd l0 x16_2) > 16)), rs_, H', ⟨by have := HJ1.out; have := HK2.out; first | omega | exact Nat.le_refl _⟩, by repeat (first | exact Drawn0.refl _ | apply Drawn0.step)⟩})
 case rest => (
 clear HC8
 try clear c4
 try clear c5
 try clear c5b0
 try clear c6
 try clear c6b0
 try clear c7
 try clear c7b0
 try clear hx135_0
 try clear p135
 try clear q135
 obtain ⟨kq, x25_7, rfl, HA, HJ7, ⟨mc7, rfl⟩⟩ := hcut
 cases kq with
 | zero => exact absurd HA.out (by simp [huff_Right.j2])
 | succ kj7 => (
 have H := HA.out
 clear HA
 simp only [huff_Right.j2] at H
 by_cases c10 : x25_7 = true
 {
 subst c10
 rw [if_pos rfl] at H
 obtain rfl := Option.some.inj H
 go_wp2
 go_ret
 exact ⟨by first | rfl | (simp; done) | (simp [*]; done), by repeat (first | exact Drawn0.refl _ | apply Drawn0.step)⟩}
 {
 replace c10 := Bool.eq_false_iff.mpr c10
 subst c10
 rw [if_neg (show ¬ (false = true) by decide)] at H
 by_cases c11 : (rd l0 x16_2) > 0
 {
 rw [if_pos c11] at H
 have c11b0 : decide (0 < (rd l0 x16_2)) = true := decide_eq_true c11
 clear c11
 obtain ⟨ji12, hji12⟩ : ∃ j_ : Int, (wrap64 (16 - (rd l0 x16_2))) = j_ := ⟨_, rfl⟩
 replace H : (if 0 ≤ (ji12) then (huff_Right.l0 kj7 l0 (wrap64 (x3_2 + (shl .i64 1 (ji12)))) l0 (l0.length : Int) (wrap64 (x16_2 + 1))) else (none)) = some r := by first | (rw [hji12] at H; exact H) | (simp only [hji12] at H ⊢; exact H)
 have hji12w : (IntKind.i64.wrap (16 - (rd l0 x16_2))) = ji12 := (i64_w _).trans hji12
 by_cases c13 : 0 ≤ (ji12)
 {
 rw [if_pos c13] at H
 have c13b0 := eq_true c13
 have c13b1 : decide (0 ≤ (ji12)) = true := decide_eq_true c13
 clear c13
 obtain ⟨ji14, hji14⟩ : ∃ j_ : Int, (shl .i64 1 (ji12)) = j_ := ⟨_, rfl⟩
 replace H : (huff_Right.l0 kj7 l0 (wrap64 (x3_2 + (ji14))) l0 (l0.length : Int) (wrap64 (x16_2 + 1))) = some r := by first | (rw [hji14] at H; exact H) | (simp only [hji14] at H ⊢; exact H)
 have hji14_ : (IntKind.i64.wrap (1 * 2 ^ min (ji12).toNat 64)) = ji14 := hji14
 have hji14z : (ji12) ≤ 64 → (IntKind.i64.wrap (1 * 2 ^ (ji12).toNat)) = ji14 := shl_small hji14
 have hji14u : (IntKind.i64.wrap (2 ^ min (ji12).toNat 64)) = ji14 := by have h_ := hji14_; rw [Int.one_mul] at h_; exact h_
 have hji14v : (ji12) ≤ 64 → (IntKind.i64.wrap (2 ^ (ji12).toNat)) = ji14 := fun hle_ => by have h_ := hji14z hle_; rw [Int.one_mul] at h_; exact h_
 have hji14y : (wrap64 (1 * 2 ^ min (ji12).toNat 64)) = ji14 := (i64_w _).symm.trans hji14_
 have hji14x : (ji12) ≤ 64 → (wrap64 (1 * 2 ^ (ji12).toNat)) = ji14 := fun h_ => (i64_w _).symm.trans (hji14z h_)
 have H' := Aside0.mk H
 clear H
 (try subst hji12)
 go_wp2
 first | go_roundg kj7 | (subst hji12; go_roundg kj7)
 case measure => have := HJ1.out; have := HK2.out; have := HJ7.out; omega
 case rel => exact ⟨(wrap64 (x3_2 + (ji14))), (wrap64 (x16_2 + 1)), (by first | rfl | (simp; done) | (simp only [← hji14] <;> (first | rfl | simp)) | (simp [*]; done)), rs_, H', ⟨by have := HJ1.out; have := HK2.out; have := HJ7.out; omega⟩, by repeat (first | exact Drawn0.refl _ | apply Drawn0.step)⟩}
 {
 rw [if_neg c13] at H
 exact absurd H (by simp)}}
 {
 rw [if_neg c11] at H
 have c11b0 : decide (0 < (rd l0 x16_2)) = false := decide_eq_false c11
 clear c11
 have H' := Aside0.mk H
 clear H
 go_wp2
 go_roundg kj7
 case measure => have := HJ1.out; have := HK2.out; have := HJ7.out; omega
 case rel => exact ⟨(x3_2), (wrap64 (x16_2 + 1)), rs_, rs_, H', ⟨by have := HJ1.out; have := HK2.out; have := HJ7.out; omega⟩, by repeat (first | exact Drawn0.refl _ | apply Drawn0.step)⟩}}))}
 {
 rw [if_neg c7] at H
 exact absurd H (by simp)}}
 {
 rw [if_neg c6] at H
 exact absurd H (by simp)}}
 {
 rw [if_neg c5] at H
 have c5b0 : decide (x16_2 < (l0.length : Int)) = false := decide_eq_false c5
 clear c5
 obtain ⟨t134, A15, H⟩ := ob_ H
 (try dsimp only at H)
 by_cases c16 : t134 = 1
 {
 rw [if_pos c16] at H
 have c16b0 : (t134 == 1) = true := beq_iff_eq.mpr c16
 have c16b1 : (t134 != 1) = false := bne_eq_false_iff_eq.mpr c16
 clear c16
 obtain rfl := Option.some.inj H
 go_wp2_with (first | ((with_reducible refine gate_callee (f := 115) rfl ?_); refine gL_ (some 35) Try.func115 #[.slice A0 l0.length c0] ?_; (with_reducible refine (huff_used.calls k2 _ _ l0 t134 _ ?side1 ?side2 A15.out).mono ?_); (case side1 => repeat (first | exact HR0.out | (with_reducible refine Kd.C_alloc ?_ _) | (with_reducible refine Kd.C_drewN ?_ _) | (with_reducible refine Kd.C_drew ?_))); (case side2 => exact HC0.out); rintro e w' ⟨rfl, ⟨nd, rfl⟩⟩; refine ⟨_, rfl, ?_⟩))
 go_ret
 exact ⟨by first | rfl | (simp; done) | (simp [*]; done), by repeat (first | exact Drawn0.refl _ | apply Drawn0.step)⟩}
 {
 rw [if_neg c16] at H
 have c16b0 : (t134 == 1) = false := beq_eq_false_iff_ne.mpr c16
 have c16b1 : (t134 != 1) = true := bne_iff_ne.mpr c16
 obtain rfl := Option.some.inj H
 go_wp2_with (first | ((with_reducible refine gate_callee (f := 115) rfl ?_); refine gL_ (some 35) Try.func115 #[.slice A0 l0.length c0] ?_; (with_reducible refine (huff_used.calls k2 _ _ l0 t134 _ ?side1 ?side2 A15.out).mono ?_); (case side1 => repeat (first | exact HR0.out | (with_reducible refine Kd.C_alloc ?_ _) | (with_reducible refine Kd.C_drewN ?_ _) | (with_reducible refine Kd.C_drew ?_))); (case side2 => exact HC0.out); rintro e w' ⟨rfl, ⟨nd, rfl⟩⟩; refine ⟨_, rfl, ?_⟩))
 go_ret
 exact ⟨by first | rfl | (simp; done) | (simp [*]; done), by repeat (first | exact Drawn0.refl _ | apply Drawn0.step)⟩}}))}))
def vhead_book.f (k : Nat) (l0 : List Int) (a1 : Int) : Option (Bool) := if (l0.length : Int) = a1 then ((huff_Right.f k l0).bind fun t136 => (some t136)) else (some false)
theorem vhead_book.mono : ∀ a0 a1 k, LeO (vhead_book.f k a0 a1) (vhead_book.f (k + 1) a0 a1) := by
  intro a0 a1 k
  unfold vhead_book.f
  with_reducible repeat' first
   | exact huff_Right.mono _ _
   | exact LeO.refl _
   | exact LeO.none _
   | refine LeO.ite ?_ ?_
   | refine LeO.bind ?_ (fun _ => ?_)
set_option maxHeartbeats 8000000 in
set_option maxRecDepth 100000 in
theorem vhead_book.calls (k : Nat) (A0 : Option Addr) (c0 : Nat) (l0 : List Int) (a1 : Int) (r : Bool) (w : World) (hr0 : Kd.C (Kd.int .i64) w A0 l0.length l0) (hc0 : l0.length ≤ c0) (h : vhead_book.f k l0 a1 = some r) :
    Calls Try.prog 79 #[.slice A0 l0.length c0, .int .i64 a1] w fun e w' => e = .returned (.bool r) ∧ Drawn0 w w' := by
 have HR0 := Aside0.mk hr0
 have HC0 := Aside0.mk hc0
 clear hr0 hc0
 have H : (if (l0.length : Int) = a1 then ((huff_Right.f k l0).bind fun t136 => (some t136)) else (some false)) = some r := h
 clear h
 by_cases c3 : (l0.length : Int) = a1
 {
 rw [if_pos c3] at H
 have c3b0 : ((l0.length : Int) == a1) = true := beq_iff_eq.mpr c3
 have c3b1 : ((l0.length : Int) != a1) = false := bne_eq_false_iff_eq.mpr c3
 clear c3
 replace H := Option.bind_eq_some_iff.mp H
 obtain ⟨t136, A40, H⟩ := H
 replace H : (some t136) = some r := H
 have A4 := Aside0.mk A40
 clear A40
 obtain rfl := Option.some.inj H
 go_enter Try.func79, Try.ntmps79
 go_wp2_with (first | (go_at_call 101; (with_reducible refine (huff_Right.calls k _ _ l0 t136 _ ?side1 ?side2 A4.out).mono ?_); (case side1 => repeat (first | exact HR0.out | (with_reducible refine Kd.C_alloc ?_ _) | (with_reducible refine Kd.C_drewN ?_ _) | (with_reducible refine Kd.C_drew ?_))); (case side2 => exact HC0.out); rintro e w' ⟨rfl, ⟨nd, rfl⟩⟩))
 go_ret
 exact ⟨by first | rfl | (simp; done) | (simp [*]; done), by repeat (first | exact Drawn0.refl _ | apply Drawn0.step)⟩}
 {
 rw [if_neg c3] at H
 have c3b0 : ((l0.length : Int) == a1) = false := beq_eq_false_iff_ne.mpr c3
 have c3b1 : ((l0.length : Int) != a1) = true := bne_iff_ne.mpr c3
 obtain rfl := Option.some.inj H
 go_enter Try.func79, Try.ntmps79
 go_wp2
 go_ret
 exact ⟨by first | rfl | (simp; done) | (simp [*]; done), by repeat (first | exact Drawn0.refl _ | apply Drawn0.step)⟩}
def vhead_Right.f (k : Nat) (a0_0 : Int) (a0_1 : Int) (l0_2 : List Int) (l0_3 : List Int) : Option (Bool) := if a0_0 ≥ 1 then (if a0_0 ≤ 2 then (if a0_1 ≥ 0 then (if a0_1 ≤ 12 then ((vhead_book.f k l0_2 45).bind fun t138 => (if t138 = true then ((vhead_book.f k l0_3 16).bind fun t139 => (if t139 = true then (if 15 < (l0_3.length : Int) then (some (decide ((rd l0_3 15) > 0))) else (none)) else (some false))) else (some false))) else (some false)) else (some false)) else (some false)) else (some false)
theorem vhead_Right.mono : ∀ a0 a1 a2 a3 k, LeO (vhead_Right.f k a0 a1 a2 a3) (vhead_Right.f (k + 1) a0 a1 a2 a3) := by
  intro a0 a1 a2 a3 k
  unfold vhead_Right.f
  with_reducible repeat' first
   | exact vhead_book.mono _ _ _
   | exact LeO.refl _
   | exact LeO.none _
   | refine LeO.ite ?_ ?_
   | refine LeO.bind ?_ (fun _ => ?_)
set_option maxHeartbeats 8000000 in
set_option maxRecDepth 100000 in
theorem vhead_Right.calls (k : Nat) (a0_0 : Int) (a0_1 : Int) (A0_2 : Option Addr) (c0_2 : Nat) (l0_2 : List Int) (A0_3 : Option Addr) (c0_3 : Nat) (l0_3 : List Int) (r : Bool) (w : World) (hr0_2 : Kd.C (Kd.int .i64) w A0_2 l0_2.length l0_2) (hc0_2 : l0_2.length ≤ c0_2) (hr0_3 : Kd.C (Kd.int .i64) w A0_3 l0_3.length l0_3) (hc0_3 : l0_3.length ≤ c0_3) (h : vhead_Right.f k a0_0 a0_1 l0_2 l0_3 = some r) :
    Calls Try.prog 41 #[.agg #[.int .i64 a0_0, .int .i64 a0_1, .slice A0_2 l0_2.length c0_2, .slice A0_3 l0_3.length c0_3]] w fun e w' => e = .returned (.bool r) ∧ Below w.heap.size w w' := by
 have hu24 := Try.underlying24
 have HR0_2 := Aside0.mk hr0_2
 have HC0_2 := Aside0.mk hc0_2
 clear hr0_2 hc0_2
 have HR0_3 := Aside0.mk hr0_3
 have HC0_3 := Aside0.mk hc0_3
 clear hr0_3 hc0_3
 have HB := Aside0.mk (Below.refl w.heap.size w)
 have H : (if a0_0 ≥ 1 then (if a0_0 ≤ 2 then (if a0_1 ≥ 0 then (if a0_1 ≤ 12 then ((vhead_book.f k l0_2 45).bind fun t138 => (if t138 = true then ((vhead_book.f k l0_3 16).bind fun t139 => (if t139 = true then (if 15 < (l0_3.length : Int) then (some (decide ((rd l0_3 15) > 0))) else (none)) else (some false))) else (some false))) else (some false)) else (some false)) else (some false)) else (some false)) = some r := h
 clear h
 by_cases c2 : a0_0 ≥ 1
 {
 rw [if_pos c2] at H
 have c2b0 : decide (1 ≤ a0_0) = true := decide_eq_true c2
 clear c2
 by_cases c3 : a0_0 ≤ 2
 {
 rw [if_pos c3] at H
 have c3b0 : decide (a0_0 ≤ 2) = true := decide_eq_true c3
 clear c3
 by_cases c4 : a0_1 ≥ 0
 {
 rw [if_pos c4] at H
 have c4b0 : decide (0 ≤ a0_1) = true := decide_eq_true c4
 clear c4
 by_cases c5 : a0_1 ≤ 12
 {
 rw [if_pos c5] at H
 have c5b0 : decide (a0_1 ≤ 12) = true := decide_eq_true c5
 clear c5
 obtain ⟨t138, A6, H⟩ := ob_ H
 (try dsimp only at H)
 by_cases c7 : t138 = true
 {
 subst c7
 rw [if_pos rfl] at H
 obtain ⟨t139, A8, H⟩ := ob_ H
 (try dsimp only at H)
 by_cases c9 : t139 = true
 {
 subst c9
 rw [if_pos rfl] at H
 by_cases c10 : 15 < (l0_3.length : Int)
 {
 rw [if_pos c10] at H
 have c10b0 : decide (15 < (l0_3.length : Int)) = true := decide_eq_true c10
 have c10b1 : decide (15 < l0_3.length) = true := decide_eq_true (by omega)
 clear c10
 obtain rfl := Option.some.inj H
 go_enter Try.func41, Try.ntmps41
 go_wp2_with (first | ((with_reducible refine gate_dst (N := 1) rfl ?_); refine bx_ HB 1 #[.int .i64 a0_0, .int .i64 a0_1, .slice A0_2 l0_2.length c0_2, .slice A0_3 l0_3.length c0_3] 24 ?_; clear HB; intro gb137 hg w11 hb BK137 GE137 HB; have GW137 := GE137; clear hb hg; obtain ⟨hcz12_0, hcz12_1, hcz12_2, hcz12_3, hfz12_0, hfz12_1, hfz12_2, hfz12_3⟩ := e4_ BK137) | (go_at_call 79; (with_reducible refine (vhead_book.calls k _ _ l0_2 45 true _ ?side1 ?side2 A6.out).mono ?_); (case side1 => exact kC_ HR0_2 HB); (case side2 => exact HC0_2.out); rintro e w' ⟨rfl, ⟨nd, rfl⟩⟩) | (go_at_call 79; (with_reducible refine (vhead_book.calls k _ _ l0_3 16 true _ ?side1 ?side2 A8.out).mono ?_); (case side1 => repeat (first | exact (Kd.C_below HR0_3.out (bl_ HB)) | (with_reducible refine Kd.C_alloc ?_ _) | (with_reducible refine Kd.C_drewN ?_ _) | (with_reducible refine Kd.C_drew ?_))); (case side2 => exact HC0_3.out); rintro e w' ⟨rfl, ⟨nd, rfl⟩⟩; have p140 : 0 ≤ (15 : Int) := (by omega); have q140 : 15 < (l0_3.length : Int) := of_decide_eq_true am_; obtain ⟨ad140, e140, hx140_0⟩ := Kd.at_int HR0_3.out 15 p140 q140; cases e140; (try simp only [show (15 : Int).toNat = 15 from rfl, Nat.reduceMul, Nat.reduceEqDiff, Go.Addr.add, ↓reduceIte] at hx140_0); have qi140 : (15 < l0_3.length) = True := eq_true (by omega); (try rw [show ((15 : Int)).toNat = 15 from rfl] at hx140_0); replace hx140_0 := (HB.out.cell (World.block_lt_of_cell? w _ hx140_0)).trans hx140_0; replace p140 := eq_true p140; replace q140 := eq_true q140))
 go_ret
 exact ⟨by first | rfl | (simp [errW_none, errW_some] <;> rfl) | (simp [*, errW_none, errW_some] <;> rfl), bl_ HB⟩}
 {
 rw [if_neg c10] at H
 exact absurd H (by simp)}}
 {
 replace c9 := Bool.eq_false_iff.mpr c9
 subst c9
 rw [if_neg (show ¬ (false = true) by decide)] at H
 obtain rfl := Option.some.inj H
 go_enter Try.func41, Try.ntmps41
 go_wp2_with (first | ((with_reducible refine gate_dst (N := 1) rfl ?_); refine bx_ HB 1 #[.int .i64 a0_0, .int .i64 a0_1, .slice A0_2 l0_2.length c0_2, .slice A0_3 l0_3.length c0_3] 24 ?_; clear HB; intro gb137 hg w13 hb BK137 GE137 HB; have GW137 := GE137; clear hb hg; obtain ⟨hcz14_0, hcz14_1, hcz14_2, hcz14_3, hfz14_0, hfz14_1, hfz14_2, hfz14_3⟩ := e4_ BK137) | (go_at_call 79; (with_reducible refine (vhead_book.calls k _ _ l0_2 45 true _ ?side1 ?side2 A6.out).mono ?_); (case side1 => exact kC_ HR0_2 HB); (case side2 => exact HC0_2.out); rintro e w' ⟨rfl, ⟨nd, rfl⟩⟩) | (go_at_call 79; (with_reducible refine (vhead_book.calls k _ _ l0_3 16 false _ ?side1 ?side2 A8.out).mono ?_); (case side1 => repeat (first | exact (Kd.C_below HR0_3.out (bl_ HB)) | (with_reducible refine Kd.C_alloc ?_ _) | (with_reducible refine Kd.C_drewN ?_ _) | (with_reducible refine Kd.C_drew ?_))); (case side2 => exact HC0_3.out); rintro e w' ⟨rfl, ⟨nd, rfl⟩⟩))
 go_ret
 exact ⟨by first | rfl | (simp [errW_none, errW_some] <;> rfl) | (simp [*, errW_none, errW_some] <;> rfl), bl_ HB⟩}}
 {
 replace c7 := Bool.eq_false_iff.mpr c7
 subst c7
 rw [if_neg (show ¬ (false = true) by decide)] at H
 obtain rfl := Option.some.inj H
 go_enter Try.func41, Try.ntmps41
 go_wp2_with (first | ((with_reducible refine gate_dst (N := 1) rfl ?_); refine bx_ HB 1 #[.int .i64 a0_0, .int .i64 a0_1, .slice A0_2 l0_2.length c0_2, .slice A0_3 l0_3.length c0_3] 24 ?_; clear HB; intro gb137 hg w15 hb BK137 GE137 HB; have GW137 := GE137; clear hb hg; obtain ⟨hcz16_0, hcz16_1, hcz16_2, hcz16_3, hfz16_0, hfz16_1, hfz16_2, hfz16_3⟩ := e4_ BK137) | (go_at_call 79; (with_reducible refine (vhead_book.calls k _ _ l0_2 45 false _ ?side1 ?side2 A6.out).mono ?_); (case side1 => exact kC_ HR0_2 HB); (case side2 => exact HC0_2.out); rintro e w' ⟨rfl, ⟨nd, rfl⟩⟩))
 go_ret
 exact ⟨by first | rfl | (simp [errW_none, errW_some] <;> rfl) | (simp [*, errW_none, errW_some] <;> rfl), bl_ HB⟩}}
 {
 rw [if_neg c5] at H
 have c5b0 : decide (a0_1 ≤ 12) = false := decide_eq_false c5
 clear c5
 obtain rfl := Option.some.inj H
 go_enter Try.func41, Try.ntmps41
 go_wp2_with (first | ((with_reducible refine gate_dst (N := 1) rfl ?_); refine bx_ HB 1 #[.int .i64 a0_0, .int .i64 a0_1, .slice A0_2 l0_2.length c0_2, .slice A0_3 l0_3.length c0_3] 24 ?_; clear HB; intro gb137 hg w17 hb BK137 GE137 HB; have GW137 := GE137; clear hb hg; obtain ⟨hcz18_0, hcz18_1, hcz18_2, hcz18_3, hfz18_0, hfz18_1, hfz18_2, hfz18_3⟩ := e4_ BK137))
 go_ret
 exact ⟨by first | rfl | (simp [errW_none, errW_some] <;> rfl) | (simp [*, errW_none, errW_some] <;> rfl), bl_ HB⟩}}
 {
 rw [if_neg c4] at H
 have c4b0 : decide (0 ≤ a0_1) = false := decide_eq_false c4
 clear c4
 obtain rfl := Option.some.inj H
 go_enter Try.func41, Try.ntmps41
 go_wp2_with (first | ((with_reducible refine gate_dst (N := 1) rfl ?_); refine bx_ HB 1 #[.int .i64 a0_0, .int .i64 a0_1, .slice A0_2 l0_2.length c0_2, .slice A0_3 l0_3.length c0_3] 24 ?_; clear HB; intro gb137 hg w19 hb BK137 GE137 HB; have GW137 := GE137; clear hb hg; obtain ⟨hcz20_0, hcz20_1, hcz20_2, hcz20_3, hfz20_0, hfz20_1, hfz20_2, hfz20_3⟩ := e4_ BK137))
 go_ret
 exact ⟨by first | rfl | (simp [errW_none, errW_some] <;> rfl) | (simp [*, errW_none, errW_some] <;> rfl), bl_ HB⟩}}
 {
 rw [if_neg c3] at H
 have c3b0 : decide (a0_0 ≤ 2) = false := decide_eq_false c3
 clear c3
 obtain rfl := Option.some.inj H
 go_enter Try.func41, Try.ntmps41
 go_wp2_with (first | ((with_reducible refine gate_dst (N := 1) rfl ?_); refine bx_ HB 1 #[.int .i64 a0_0, .int .i64 a0_1, .slice A0_2 l0_2.length c0_2, .slice A0_3 l0_3.length c0_3] 24 ?_; clear HB; intro gb137 hg w21 hb BK137 GE137 HB; have GW137 := GE137; clear hb hg; obtain ⟨hcz22_0, hcz22_1, hcz22_2, hcz22_3, hfz22_0, hfz22_1, hfz22_2, hfz22_3⟩ := e4_ BK137))
 go_ret
 exact ⟨by first | rfl | (simp [errW_none, errW_some] <;> rfl) | (simp [*, errW_none, errW_some] <;> rfl), bl_ HB⟩}}
 {
 rw [if_neg c2] at H
 have c2b0 : decide (1 ≤ a0_0) = false := decide_eq_false c2
 clear c2
 obtain rfl := Option.some.inj H
 go_enter Try.func41, Try.ntmps41
 go_wp2_with (first | ((with_reducible refine gate_dst (N := 1) rfl ?_); refine bx_ HB 1 #[.int .i64 a0_0, .int .i64 a0_1, .slice A0_2 l0_2.length c0_2, .slice A0_3 l0_3.length c0_3] 24 ?_; clear HB; intro gb137 hg w23 hb BK137 GE137 HB; have GW137 := GE137; clear hb hg; obtain ⟨hcz24_0, hcz24_1, hcz24_2, hcz24_3, hfz24_0, hfz24_1, hfz24_2, hfz24_3⟩ := e4_ BK137))
 go_ret
 exact ⟨by first | rfl | (simp [errW_none, errW_some] <;> rfl) | (simp [*, errW_none, errW_some] <;> rfl), bl_ HB⟩}
def floor_gains.l0 : Nat → List Int → Int → List Int → Int → Int → Option (Bool)
  | 0, _, _, _, _, _ => none
  | k + 1, x0, x1, x7, x8, x9 => if x9 < x8 then (if 0 ≤ x9 then (if x9 < (x7.length : Int) then (if (rd x7 x9) < 0 then (some false) else (if (rd x7 x9) > 44 then (some false) else (floor_gains.l0 k x0 x1 x7 x8 (wrap64 (x9 + 1))))) else (none)) else (none)) else (some ((x0.length : Int) == x1))
def floor_gains.f (k : Nat) (l0 : List Int) (a1 : Int) : Option (Bool) := floor_gains.l0 k l0 a1 l0 (l0.length : Int) 0
theorem floor_gains.mono_l : ∀ k, (∀ y0 y1 y2 y3 y4, LeO (floor_gains.l0 k y0 y1 y2 y3 y4) (floor_gains.l0 (k + 1) y0 y1 y2 y3 y4))
  | 0 => fun _ _ _ _ _ r h => by simp [floor_gains.l0] at h
  | k + 1 => by
    have ih0 := floor_gains.mono_l k
    · intro y0 y1 y2 y3 y4
      unfold floor_gains.l0
      with_reducible repeat' first
   | exact ih0 _ _ _ _ _
   | exact LeO.refl _
   | exact LeO.none _
   | refine LeO.ite ?_ ?_
   | refine LeO.bind ?_ (fun _ => ?_)
theorem floor_gains.mono : ∀ a0 a1 k, LeO (floor_gains.f k a0 a1) (floor_gains.f (k + 1) a0 a1) := by
  intro a0 a1 k
  have ih0 := floor_gains.mono_l k
  unfold floor_gains.f
  with_reducible repeat' first
   | exact ih0 _ _ _ _ _
   | exact LeO.refl _
   | exact LeO.none _
   | refine LeO.ite ?_ ?_
   | refine LeO.bind ?_ (fun _ => ?_)
set_option maxHeartbeats 8000000 in
set_option maxRecDepth 100000 in
theorem floor_gains.calls (k : Nat) (A0 : Option Addr) (c0 : Nat) (l0 : List Int) (a1 : Int) (r : Bool) (w : World) (hr0 : Kd.C (Kd.int .i64) w A0 l0.length l0) (hc0 : l0.length ≤ c0) (h : floor_gains.f k l0 a1 = some r) :
    Calls Try.prog 98 #[.slice A0 l0.length c0, .int .i64 a1] w fun e w' => e = .returned (.bool r) ∧ Drawn0 w w' := by
 have HR0 := Aside0.mk hr0
 have HC0 := Aside0.mk hc0
 clear hr0 hc0
 have H : (floor_gains.l0 k l0 a1 l0 (l0.length : Int) 0) = some r := h
 clear h
 have H' := Aside0.mk H
 clear H
 go_enter Try.func98, Try.ntmps98
 go_wp2
 go_loopg [9] k (fun kq v9 w' => ∃ (x9_1 : Int), v9 = .int .i64 x9_1 ∧ Aside0 (floor_gains.l0 kq l0 a1 l0 (l0.length : Int) x9_1 = some r) ∧ Aside0 (kq ≤ k) ∧ Drawn0 w w')
 case atStart => exact ⟨(0), rs_, H', ⟨Nat.le_refl _⟩, by repeat (first | exact Drawn0.refl _ | apply Drawn0.step)⟩
 case round => (
 clear H'
 obtain ⟨x9_1, rfl, HA, HK1, ⟨m1, rfl⟩⟩ := hrel
 cases gk with
 | zero => exact absurd HA.out (by simp [floor_gains.l0])
 | succ k1 => (
 have H := HA.out
 clear HA
 simp only [floor_gains.l0] at H
 by_cases c3 : x9_1 < (l0.length : Int)
 {
 rw [if_pos c3] at H
 have c3b0 : decide (x9_1 < (l0.length : Int)) = true := decide_eq_true c3
 clear c3
 by_cases c4 : 0 ≤ x9_1
 {
 rw [if_pos c4] at H
 have c4b0 : decide (0 ≤ x9_1) = true := decide_eq_true c4
 clear c4
 by_cases c5 : x9_1 < (l0.length : Int)
 {
 rw [if_pos c5] at H
 have c5b0 : decide (x9_1 < (l0.length : Int)) = true := decide_eq_true c5
 clear c5
 by_cases c6 : (rd l0 x9_1) < 0
 {
 rw [if_pos c6] at H
 have c6b0 : decide ((rd l0 x9_1) < 0) = true := decide_eq_true c6
 clear c6
 obtain rfl := Option.some.inj H
 have p141 : 0 ≤ (x9_1 : Int) := of_decide_eq_true am_
 have q141 : x9_1 < (l0.length : Int) := of_decide_eq_true am_
 obtain ⟨ad141, e141, hx141_0⟩ := Kd.at_int HR0.out x9_1 p141 q141
 cases e141
 replace p141 := eq_true p141
 replace q141 := eq_true q141
 go_wp2
 go_ret
 exact ⟨by first | rfl | (simp; done) | (simp [*]; done), by repeat (first | exact Drawn0.refl _ | apply Drawn0.step)⟩}
 {
 rw [if_neg c6] at H
 have c6b0 : decide ((rd l0 x9_1) < 0) = false := decide_eq_false c6
 clear c6
 by_cases c7 : (rd l0 x9_1) > 44
 {
 rw [if_pos c7] at H
 have c7b0 : decide (44 < (rd l0 x9_1)) = true := decide_eq_true c7
 clear c7
 obtain rfl := Option.some.inj H
 have p141 : 0 ≤ (x9_1 : Int) := of_decide_eq_true am_
 have q141 : x9_1 < (l0.length : Int) := of_decide_eq_true am_
 obtain ⟨ad141, e141, hx141_0⟩ := Kd.at_int HR0.out x9_1 p141 q141
 cases e141
 replace p141 := eq_true p141
 replace q141 := eq_true q141
 go_wp2
 go_ret
 exact ⟨by first | rfl | (simp; done) | (simp [*]; done), by repeat (first | exact Drawn0.refl _ | apply Drawn0.step)⟩}
 {
 rw [if_neg c7] at H
 have c7b0 : decide (44 < (rd l0 x9_1)) = false := decide_eq_false c7
 clear c7
 have H' := Aside0.mk H
 clear H
 have p141 : 0 ≤ (x9_1 : Int) := of_decide_eq_true am_
 have q141 : x9_1 < (l0.length : Int) := of_decide_eq_true am_
 obtain ⟨ad141, e141, hx141_0⟩ := Kd.at_int HR0.out x9_1 p141 q141
 cases e141
 replace p141 := eq_true p141
 replace q141 := eq_true q141
 go_wp2
 go_roundg k1
 case measure => have := HK1.out; omega
 case rel => exact ⟨(wrap64 (x9_1 + 1)), rs_, H', ⟨by have := HK1.out; omega⟩, by repeat (first | exact Drawn0.refl _ | apply Drawn0.step)⟩}}}
 {
 rw [if_neg c5] at H
 exact absurd H (by simp)}}
 {
 rw [if_neg c4] at H
 exact absurd H (by simp)}}
 {
 rw [if_neg c3] at H
 have c3b0 : decide (x9_1 < (l0.length : Int)) = false := decide_eq_false c3
 clear c3
 obtain rfl := Option.some.inj H
 go_wp2
 go_ret
 exact ⟨by first | rfl | (simp; done) | (simp [*]; done), by repeat (first | exact Drawn0.refl _ | apply Drawn0.step)⟩}))
def floor_Right.f (k : Nat) (l0 : List Int) : Option (Bool) := (floor_gains.f k l0 6).bind fun t142 => (some t142)
theorem floor_Right.mono : ∀ a0 k, LeO (floor_Right.f k a0) (floor_Right.f (k + 1) a0) := by
  intro a0 k
  unfold floor_Right.f
  with_reducible repeat' first
   | exact floor_gains.mono _ _ _
   | exact LeO.refl _
   | exact LeO.none _
   | refine LeO.ite ?_ ?_
   | refine LeO.bind ?_ (fun _ => ?_)
set_option maxHeartbeats 8000000 in
set_option maxRecDepth 100000 in
theorem floor_Right.calls (k : Nat) (A0 : Option Addr) (c0 : Nat) (l0 : List Int) (r : Bool) (w : World) (hr0 : Kd.C (Kd.int .i64) w A0 l0.length l0) (hc0 : l0.length ≤ c0) (h : floor_Right.f k l0 = some r) :
    Calls Try.prog 86 #[.slice A0 l0.length c0] w fun e w' => e = .returned (.bool r) ∧ Drawn0 w w' := by
 have HR0 := Aside0.mk hr0
 have HC0 := Aside0.mk hc0
 clear hr0 hc0
 have H : ((floor_gains.f k l0 6).bind fun t142 => (some t142)) = some r := h
 clear h
 replace H := Option.bind_eq_some_iff.mp H
 obtain ⟨t142, A20, H⟩ := H
 replace H : (some t142) = some r := H
 have A2 := Aside0.mk A20
 clear A20
 obtain rfl := Option.some.inj H
 go_enter Try.func86, Try.ntmps86
 go_wp2_with (first | ((with_reducible refine gate_callee (f := 98) rfl ?_); refine gL_ (some 4) Try.func98 #[.slice A0 l0.length c0, .int .i64 6] ?_; (with_reducible refine (floor_gains.calls k _ _ l0 6 t142 _ ?side1 ?side2 A2.out).mono ?_); (case side1 => repeat (first | exact HR0.out | (with_reducible refine Kd.C_alloc ?_ _) | (with_reducible refine Kd.C_drewN ?_ _) | (with_reducible refine Kd.C_drew ?_))); (case side2 => exact HC0.out); rintro e w' ⟨rfl, ⟨nd, rfl⟩⟩; refine ⟨_, rfl, ?_⟩))
 go_ret
 exact ⟨by first | rfl | (simp; done) | (simp [*]; done), by repeat (first | exact Drawn0.refl _ | apply Drawn0.step)⟩
def vpack_posts.l0 : Nat → List Int → Int → Int → Int → Int → List Int → List Int → Option (Bool)
  | 0, _, _, _, _, _, _, _ => none
  | k + 1, x10, x11, x12, x144000, x144001, x144002, x144003 => if x12 < x11 then (if 0 ≤ x12 then (if x12 < (x10.length : Int) then (if 0 ≤ (rd x10 x12) then (if (rd x10 x12) < (x144002.length : Int) then (if (rd x144002 (rd x10 x12)) = 0 then (some false) else (vpack_posts.l0 k x10 x11 (wrap64 (x12 + 1)) x144000 x144001 x144002 x144003)) else (none)) else (none)) else (none)) else (none)) else (some true)
def vpack_posts.f (k : Nat) (a0_0 : Int) (a0_1 : Int) (l0_2 : List Int) (l0_3 : List Int) (l1 : List Int) : Option (Bool) := (floor_Right.f k l1).bind fun t144 => (if t144 = true then (vpack_posts.l0 k l1 (l1.length : Int) 0 a0_0 a0_1 l0_2 l0_3) else (some false))
theorem vpack_posts.mono_l : ∀ k, (∀ y0 y1 y2 y3 y4 y5 y6, LeO (vpack_posts.l0 k y0 y1 y2 y3 y4 y5 y6) (vpack_posts.l0 (k + 1) y0 y1 y2 y3 y4 y5 y6))
  | 0 => fun _ _ _ _ _ _ _ r h => by simp [vpack_posts.l0] at h
  | k + 1 => by
    have ih0 := vpack_posts.mono_l k
    · intro y0 y1 y2 y3 y4 y5 y6
      unfold vpack_posts.l0
      with_reducible repeat' first
   | exact ih0 _ _ _ _ _ _ _
   | exact floor_Right.mono _ _
   | exact LeO.refl _
   | exact LeO.none _
   | refine LeO.ite ?_ ?_
   | refine LeO.bind ?_ (fun _ => ?_)
theorem vpack_posts.mono : ∀ a0 a1 a2 a3 a4 k, LeO (vpack_posts.f k a0 a1 a2 a3 a4) (vpack_posts.f (k + 1) a0 a1 a2 a3 a4) := by
  intro a0 a1 a2 a3 a4 k
  have ih0 := vpack_posts.mono_l k
  unfold vpack_posts.f
  with_reducible repeat' first
   | exact ih0 _ _ _ _ _ _ _
   | exact floor_Right.mono _ _
   | exact LeO.refl _
   | exact LeO.none _
   | refine LeO.ite ?_ ?_
   | refine LeO.bind ?_ (fun _ => ?_)
set_option maxHeartbeats 8000000 in
set_option maxRecDepth 100000 in
theorem vpack_posts.calls (k : Nat) (a0_0 : Int) (a0_1 : Int) (A0_2 : Option Addr) (c0_2 : Nat) (l0_2 : List Int) (A0_3 : Option Addr) (c0_3 : Nat) (l0_3 : List Int) (A1 : Option Addr) (c1 : Nat) (l1 : List Int) (r : Bool) (w : World) (hr0_2 : Kd.C (Kd.int .i64) w A0_2 l0_2.length l0_2) (hc0_2 : l0_2.length ≤ c0_2) (hr0_3 : Kd.C (Kd.int .i64) w A0_3 l0_3.length l0_3) (hc0_3 : l0_3.length ≤ c0_3) (hr1 : Kd.C (Kd.int .i64) w A1 l1.length l1) (hc1 : l1.length ≤ c1) (h : vpack_posts.f k a0_0 a0_1 l0_2 l0_3 l1 = some r) :
    Calls Try.prog 51 #[.agg #[.int .i64 a0_0, .int .i64 a0_1, .slice A0_2 l0_2.length c0_2, .slice A0_3 l0_3.length c0_3], .slice A1 l1.length c1] w fun e w' => e = .returned (.bool r) ∧ Below w.heap.size w w' := by
 have hu24 := Try.underlying24
 have HR0_2 := Aside0.mk hr0_2
 have HC0_2 := Aside0.mk hc0_2
 clear hr0_2 hc0_2
 have HR0_3 := Aside0.mk hr0_3
 have HC0_3 := Aside0.mk hc0_3
 clear hr0_3 hc0_3
 have HR1 := Aside0.mk hr1
 have HC1 := Aside0.mk hc1
 clear hr1 hc1
 have HB := Aside0.mk (Below.refl w.heap.size w)
 have H : ((floor_Right.f k l1).bind fun t144 => (if t144 = true then (vpack_posts.l0 k l1 (l1.length : Int) 0 a0_0 a0_1 l0_2 l0_3) else (some false))) = some r := h
 clear h
 obtain ⟨t144, A3, H⟩ := ob_ H
 (try dsimp only at H)
 by_cases c4 : t144 = true
 {
 subst c4
 rw [if_pos rfl] at H
 have H' := Aside0.mk H
 clear H
 go_enter Try.func51, Try.ntmps51
 go_wp2_with (first | ((with_reducible refine gate_dst (N := 2) rfl ?_); refine bx_ HB 2 #[.int .i64 a0_0, .int .i64 a0_1, .slice A0_2 l0_2.length c0_2, .slice A0_3 l0_3.length c0_3] 24 ?_; clear HB; intro gb143 hg w5 hb BK143 GE143 HB; have GW143 := GE143; clear hb hg) | ((with_reducible refine gate_callee (f := 86) rfl ?_); refine gL_ (some 8) Try.func86 #[.slice A1 l1.length c1] ?_; (with_reducible refine (floor_Right.calls k _ _ l1 true _ ?side1 ?side2 A3.out).mono ?_); (case side1 => exact kC_ HR1 HB); (case side2 => exact HC1.out); rintro e w' ⟨rfl, ⟨nd, rfl⟩⟩; refine ⟨_, rfl, ?_⟩))
 go_loopg [12] k (fun kq v12 w' => ∃ (x12_1 : Int), v12 = .int .i64 x12_1 ∧ Aside0 (vpack_posts.l0 kq l1 (l1.length : Int) x12_1 a0_0 a0_1 l0_2 l0_3 = some r) ∧ Aside0 (kq ≤ k) ∧ Aside0 (w'.heap[gb143]? = some (.cells #[.int .i64 a0_0, .int .i64 a0_1, (.slice A0_2 l0_2.length c0_2), (.slice A0_3 l0_3.length c0_3)] 24 (0, 0))) ∧ Aside0 (Below w.heap.size w w'))
 case atStart => exact ⟨(0), rs_, H', ⟨Nat.le_refl _⟩, ⟨bk_ BK143⟩, ⟨bl_ HB⟩⟩
 case round => (
 clear H'
 try clear c1
 try clear c4
 obtain ⟨x12_1, rfl, HA, HK1, BK143, HB⟩ := hrel
 cases gk with
 | zero => exact absurd HA.out (by simp [vpack_posts.l0])
 | succ k1 => (
 have H := HA.out
 clear HA
 simp only [vpack_posts.l0] at H
 by_cases c6 : x12_1 < (l1.length : Int)
 {
 rw [if_pos c6] at H
 have c6b0 : decide (x12_1 < (l1.length : Int)) = true := decide_eq_true c6
 clear c6
 by_cases c7 : 0 ≤ x12_1
 {
 rw [if_pos c7] at H
 have c7b0 : decide (0 ≤ x12_1) = true := decide_eq_true c7
 clear c7
 by_cases c8 : x12_1 < (l1.length : Int)
 {
 rw [if_pos c8] at H
 have c8b0 : decide (x12_1 < (l1.length : Int)) = true := decide_eq_true c8
 clear c8
 by_cases c9 : 0 ≤ (rd l1 x12_1)
 {
 rw [if_pos c9] at H
 have c9b0 : decide (0 ≤ (rd l1 x12_1)) = true := decide_eq_true c9
 clear c9
 by_cases c10 : (rd l1 x12_1) < (l0_2.length : Int)
 {
 rw [if_pos c10] at H
 have c10b0 : decide ((rd l1 x12_1) < (l0_2.length : Int)) = true := decide_eq_true c10
 clear c10
 by_cases c11 : (rd l0_2 (rd l1 x12_1)) = 0
 {
 rw [if_pos c11] at H
 have c11b0 : ((rd l0_2 (rd l1 x12_1)) == 0) = true := beq_iff_eq.mpr c11
 have c11b1 : ((rd l0_2 (rd l1 x12_1)) != 0) = false := bne_eq_false_iff_eq.mpr c11
 clear c11
 obtain rfl := Option.some.inj H
 have p145 : 0 ≤ (x12_1 : Int) := of_decide_eq_true am_
 have q145 : x12_1 < (l1.length : Int) := of_decide_eq_true am_
 obtain ⟨ad145, e145, hx145_0⟩ := Kd.at_int HR1.out x12_1 p145 q145
 cases e145
 replace hx145_0 := (HB.out.cell (World.block_lt_of_cell? w _ hx145_0)).trans hx145_0
 replace p145 := eq_true p145
 replace q145 := eq_true q145
 obtain ⟨hcz12_0, hcz12_1, hcz12_2, hcz12_3, hfz12_0, hfz12_1, hfz12_2, hfz12_3⟩ := e4_ BK143
 have p146 : 0 ≤ ((rd l1 x12_1) : Int) := of_decide_eq_true am_
 have q146 : (rd l1 x12_1) < (l0_2.length : Int) := of_decide_eq_true am_
 obtain ⟨ad146, e146, hx146_0⟩ := Kd.at_int HR0_2.out (rd l1 x12_1) p146 q146
 cases e146
 replace hx146_0 := (HB.out.cell (World.block_lt_of_cell? w _ hx146_0)).trans hx146_0
 replace p146 := eq_true p146
 replace q146 := eq_true q146
 go_wp2
 go_ret
 exact ⟨by first | rfl | (simp [errW_none, errW_some] <;> rfl) | (simp [*, errW_none, errW_some] <;> rfl), bl_ HB⟩}
 {
 rw [if_neg c11] at H
 have c11b0 : ((rd l0_2 (rd l1 x12_1)) == 0) = false := beq_eq_false_iff_ne.mpr c11
 have c11b1 : ((rd l0_2 (rd l1 x12_1)) != 0) = true := bne_iff_ne.mpr c11
 have H' := Aside0.mk H
 clear H
 have p145 : 0 ≤ (x12_1 : Int) := of_decide_eq_true am_
 have q145 : x12_1 < (l1.length : Int) := of_decide_eq_true am_
 obtain ⟨ad145, e145, hx145_0⟩ := Kd.at_int HR1.out x12_1 p145 q145
 cases e145
 replace hx145_0 := (HB.out.cell (World.block_lt_of_cell? w _ hx145_0)).trans hx145_0
 replace p145 := eq_true p145
 replace q145 := eq_true q145
 obtain ⟨hcz13_0, hcz13_1, hcz13_2, hcz13_3, hfz13_0, hfz13_1, hfz13_2, hfz13_3⟩ := e4_ BK143
 have p146 : 0 ≤ ((rd l1 x12_1) : Int) := of_decide_eq_true am_
 have q146 : (rd l1 x12_1) < (l0_2.length : Int) := of_decide_eq_true am_
 obtain ⟨ad146, e146, hx146_0⟩ := Kd.at_int HR0_2.out (rd l1 x12_1) p146 q146
 cases e146
 replace hx146_0 := (HB.out.cell (World.block_lt_of_cell? w _ hx146_0)).trans hx146_0
 replace p146 := eq_true p146
 replace q146 := eq_true q146
 go_wp2
 go_roundg k1
 case measure => have := HK1.out; omega
 case rel => exact ⟨(wrap64 (x12_1 + 1)), rs_, H', ⟨by have := HK1.out; omega⟩, ⟨bk_ BK143⟩, ⟨bl_ HB⟩⟩}}
 {
 rw [if_neg c10] at H
 exact absurd H (by simp)}}
 {
 rw [if_neg c9] at H
 exact absurd H (by simp)}}
 {
 rw [if_neg c8] at H
 exact absurd H (by simp)}}
 {
 rw [if_neg c7] at H
 exact absurd H (by simp)}}
 {
 rw [if_neg c6] at H
 have c6b0 : decide (x12_1 < (l1.length : Int)) = false := decide_eq_false c6
 clear c6
 obtain rfl := Option.some.inj H
 go_wp2
 go_ret
 exact ⟨by first | rfl | (simp [errW_none, errW_some] <;> rfl) | (simp [*, errW_none, errW_some] <;> rfl), bl_ HB⟩}))}
 {
 replace c4 := Bool.eq_false_iff.mpr c4
 subst c4
 rw [if_neg (show ¬ (false = true) by decide)] at H
 obtain rfl := Option.some.inj H
 go_enter Try.func51, Try.ntmps51
 go_wp2_with (first | ((with_reducible refine gate_dst (N := 2) rfl ?_); refine bx_ HB 2 #[.int .i64 a0_0, .int .i64 a0_1, .slice A0_2 l0_2.length c0_2, .slice A0_3 l0_3.length c0_3] 24 ?_; clear HB; intro gb143 hg w14 hb BK143 GE143 HB; have GW143 := GE143; clear hb hg) | ((with_reducible refine gate_callee (f := 86) rfl ?_); refine gL_ (some 8) Try.func86 #[.slice A1 l1.length c1] ?_; (with_reducible refine (floor_Right.calls k _ _ l1 false _ ?side1 ?side2 A3.out).mono ?_); (case side1 => exact kC_ HR1 HB); (case side2 => exact HC1.out); rintro e w' ⟨rfl, ⟨nd, rfl⟩⟩; refine ⟨_, rfl, ?_⟩))
 go_ret
 exact ⟨by first | rfl | (simp [errW_none, errW_some] <;> rfl) | (simp [*, errW_none, errW_some] <;> rfl), bl_ HB⟩}
mutual
def vpack_Right.j0 : Nat → Bool → Int → Int → List Int → List Int → List (List Int) → List (List Int) → Option (Bool)
  | 0, _, _, _, _, _, _, _ => none
  | k + 1, x27, x148000, x148001, x148002, x148003, x149000, x149001 => if x27 = true then (some false) else (vpack_Right.l0 k x149000 (x149000.length : Int) 0 x148000 x148001 x148002 x148003 x149000 x149001)
def vpack_Right.l0 : Nat → List (List Int) → Int → Int → Int → Int → List Int → List Int → List (List Int) → List (List Int) → Option (Bool)
  | 0, _, _, _, _, _, _, _, _, _ => none
  | k + 1, x29, x30, x31, x148000, x148001, x148002, x148003, x149000, x149001 => if x31 < x30 then (if 0 ≤ x31 then (if x31 < (x29.length : Int) then (if ((rd_L1 x29 x31).length : Int) = 0 then (if x31 < (x149001.length : Int) then (vpack_Right.j2 k x31 (rd_L1 x29 x31) x29 x30 x31 (((rd_L2 x149001 x31).length : Int) == 0) x148000 x148001 x148002 x148003 x149000 x149001) else (none)) else (vpack_Right.j2 k x31 (rd_L1 x29 x31) x29 x30 x31 false x148000 x148001 x148002 x148003 x149000 x149001)) else (none)) else (none)) else (some true)
def vpack_Right.j2 : Nat → Int → List Int → List (List Int) → Int → Int → Bool → Int → Int → List Int → List Int → List (List Int) → List (List Int) → Option (Bool)
  | 0, _, _, _, _, _, _, _, _, _, _, _, _ => none
  | k + 1, x5, x6, x29, x30, x31, x47, x148000, x148001, x148002, x148003, x149000, x149001 => if x47 = true then (vpack_Right.l0 k x29 x30 (wrap64 (x31 + 1)) x148000 x148001 x148002 x148003 x149000 x149001) else ((vpack_posts.f k x148000 x148001 x148002 x148003 x6).bind fun t152 => (if t152 = true then (if 0 ≤ x5 then (if x5 < (x149001.length : Int) then (vpack_Right.j3 k x5 x29 x30 x31 (((rd_L2 x149001 x5).length : Int) != 16) x148000 x148001 x148002 x148003 x149000 x149001) else (none)) else (none)) else (vpack_Right.j3 k x5 x29 x30 x31 true x148000 x148001 x148002 x148003 x149000 x149001)))
def vpack_Right.j3 : Nat → Int → List (List Int) → Int → Int → Bool → Int → Int → List Int → List Int → List (List Int) → List (List Int) → Option (Bool)
  | 0, _, _, _, _, _, _, _, _, _, _, _ => none
  | k + 1, x5, x29, x30, x31, x60, x148000, x148001, x148002, x148003, x149000, x149001 => if x60 = true then (some false) else (if 0 ≤ x5 then (if x5 < (x149001.length : Int) then (vpack_Right.l1 k x29 x30 x31 (rd_L2 x149001 x5) ((rd_L2 x149001 x5).length : Int) 0 x148000 x148001 x148002 x148003 x149000 x149001) else (none)) else (none))
def vpack_Right.l1 : Nat → List (List Int) → Int → Int → List Int → Int → Int → Int → Int → List Int → List Int → List (List Int) → List (List Int) → Option (Bool)
  | 0, _, _, _, _, _, _, _, _, _, _, _, _ => none
  | k + 1, x29, x30, x31, x65, x66, x67, x148000, x148001, x148002, x148003, x149000, x149001 => if x67 < x66 then (if 0 ≤ x67 then (if x67 < (x65.length : Int) then (if (rd x65 x67) < (-4194303) then (some false) else (if (rd x65 x67) > 4194303 then (some false) else (vpack_Right.l1 k x29 x30 x31 x65 x66 (wrap64 (x67 + 1)) x148000 x148001 x148002 x148003 x149000 x149001))) else (none)) else (none)) else (vpack_Right.l0 k x29 x30 (wrap64 (x31 + 1)) x148000 x148001 x148002 x148003 x149000 x149001)
end
def vpack_Right.f (k : Nat) (a0_0 : Int) (a0_1 : Int) (l0_2 : List Int) (l0_3 : List Int) (l1_0 : List (List Int)) (l1_1 : List (List Int)) : Option (Bool) := (vhead_Right.f k a0_0 a0_1 l0_2 l0_3).bind fun t149 => (if t149 = true then (if (l1_0.length : Int) = a0_0 then (vpack_Right.j0 k ((l1_1.length : Int) != a0_0) a0_0 a0_1 l0_2 l0_3 l1_0 l1_1) else (vpack_Right.j0 k true a0_0 a0_1 l0_2 l0_3 l1_0 l1_1)) else (vpack_Right.j0 k true a0_0 a0_1 l0_2 l0_3 l1_0 l1_1))
theorem vpack_Right.mono_l : ∀ k, (∀ y0 y1 y2 y3 y4 y5 y6, LeO (vpack_Right.j0 k y0 y1 y2 y3 y4 y5 y6) (vpack_Right.j0 (k + 1) y0 y1 y2 y3 y4 y5 y6)) ∧ (∀ y0 y1 y2 y3 y4 y5 y6 y7 y8, LeO (vpack_Right.l0 k y0 y1 y2 y3 y4 y5 y6 y7 y8) (vpack_Right.l0 (k + 1) y0 y1 y2 y3 y4 y5 y6 y7 y8)) ∧ (∀ y0 y1 y2 y3 y4 y5 y6 y7 y8 y9 y10 y11, LeO (vpack_Right.j2 k y0 y1 y2 y3 y4 y5 y6 y7 y8 y9 y10 y11) (vpack_Right.j2 (k + 1) y0 y1 y2 y3 y4 y5 y6 y7 y8 y9 y10 y11)) ∧ (∀ y0 y1 y2 y3 y4 y5 y6 y7 y8 y9 y10, LeO (vpack_Right.j3 k y0 y1 y2 y3 y4 y5 y6 y7 y8 y9 y10) (vpack_Right.j3 (k + 1) y0 y1 y2 y3 y4 y5 y6 y7 y8 y9 y10)) ∧ (∀ y0 y1 y2 y3 y4 y5 y6 y7 y8 y9 y10 y11, LeO (vpack_Right.l1 k y0 y1 y2 y3 y4 y5 y6 y7 y8 y9 y10 y11) (vpack_Right.l1 (k + 1) y0 y1 y2 y3 y4 y5 y6 y7 y8 y9 y10 y11))
  | 0 => ⟨fun _ _ _ _ _ _ _ r h => by simp [vpack_Right.j0] at h, fun _ _ _ _ _ _ _ _ _ r h => by simp [vpack_Right.l0] at h, fun _ _ _ _ _ _ _ _ _ _ _ _ r h => by simp [vpack_Right.j2] at h, fun _ _ _ _ _ _ _ _ _ _ _ r h => by simp [vpack_Right.j3] at h, fun _ _ _ _ _ _ _ _ _ _ _ _ r h => by simp [vpack_Right.l1] at h⟩
  | k + 1 => by
    obtain ⟨ih0, ih1, ih2, ih3, ih4⟩ := vpack_Right.mono_l k
    refine ⟨?_, ?_, ?_, ?_, ?_⟩
    all_goals (intros; first | unfold vpack_Right.j0 | unfold vpack_Right.l0 | unfold vpack_Right.j2 | unfold vpack_Right.j3 | unfold vpack_Right.l1)
    all_goals with_reducible repeat' first
     | exact ih0 _ _ _ _ _ _ _
     | exact ih1 _ _ _ _ _ _ _ _ _
     | exact ih2 _ _ _ _ _ _ _ _ _ _ _ _
     | exact ih3 _ _ _ _ _ _ _ _ _ _ _
     | exact ih4 _ _ _ _ _ _ _ _ _ _ _ _
     | exact vhead_Right.mono _ _ _ _ _
     | exact vpack_posts.mono _ _ _ _ _ _
     | exact LeO.refl _
     | exact LeO.none _
     | refine LeO.ite ?_ ?_
     | refine LeO.bind ?_ (fun _ => ?_)
theorem vpack_Right.mono : ∀ a0 a1 a2 a3 a4 a5 k, LeO (vpack_Right.f k a0 a1 a2 a3 a4 a5) (vpack_Right.f (k + 1) a0 a1 a2 a3 a4 a5) := by
  intro a0 a1 a2 a3 a4 a5 k
  obtain ⟨ih0, ih1, ih2, ih3, ih4⟩ := vpack_Right.mono_l k
  unfold vpack_Right.f
  with_reducible repeat' first
   | exact ih0 _ _ _ _ _ _ _
   | exact ih1 _ _ _ _ _ _ _ _ _
   | exact ih2 _ _ _ _ _ _ _ _ _ _ _ _
   | exact ih3 _ _ _ _ _ _ _ _ _ _ _
   | exact ih4 _ _ _ _ _ _ _ _ _ _ _ _
   | exact vhead_Right.mono _ _ _ _ _
   | exact vpack_posts.mono _ _ _ _ _ _
   | exact LeO.refl _
   | exact LeO.none _
   | refine LeO.ite ?_ ?_
   | refine LeO.bind ?_ (fun _ => ?_)
set_option maxHeartbeats 8000000 in
set_option maxRecDepth 100000 in
theorem vpack_Right.calls (k : Nat) (a0_0 : Int) (a0_1 : Int) (A0_2 : Option Addr) (c0_2 : Nat) (l0_2 : List Int) (A0_3 : Option Addr) (c0_3 : Nat) (l0_3 : List Int) (A1_0 : Option Addr) (c1_0 : Nat) (l1_0 : List (List Int)) (A1_1 : Option Addr) (c1_1 : Nat) (l1_1 : List (List Int)) (r : Bool) (w : World) (hr0_2 : Kd.C (Kd.int .i64) w A0_2 l0_2.length l0_2) (hc0_2 : l0_2.length ≤ c0_2) (hr0_3 : Kd.C (Kd.int .i64) w A0_3 l0_3.length l0_3) (hc0_3 : l0_3.length ≤ c0_3) (hr1_0 : Kd.C (Kd.slice 3 (Kd.int .i64)) w A1_0 l1_0.length l1_0) (hc1_0 : l1_0.length ≤ c1_0) (hr1_1 : Kd.C (Kd.slice 2 (Kd.int .i64)) w A1_1 l1_1.length l1_1) (hc1_1 : l1_1.length ≤ c1_1) (h : vpack_Right.f k a0_0 a0_1 l0_2 l0_3 l1_0 l1_1 = some r) :
    Calls Try.prog 21 #[.agg #[.int .i64 a0_0, .int .i64 a0_1, .slice A0_2 l0_2.length c0_2, .slice A0_3 l0_3.length c0_3], .agg #[.slice A1_0 l1_0.length c1_0, .slice A1_1 l1_1.length c1_1]] w fun e w' => e = .returned (.bool r) ∧ Below w.heap.size w w' := by
 have hu24 := Try.underlying24
 have hu28 := Try.underlying28
 have HR0_2 := Aside0.mk hr0_2
 have HC0_2 := Aside0.mk hc0_2
 clear hr0_2 hc0_2
 have HR0_3 := Aside0.mk hr0_3
 have HC0_3 := Aside0.mk hc0_3
 clear hr0_3 hc0_3
 have HR1_0 := Aside0.mk hr1_0
 have HC1_0 := Aside0.mk hc1_0
 clear hr1_0 hc1_0
 have HR1_1 := Aside0.mk hr1_1
 have HC1_1 := Aside0.mk hc1_1
 clear hr1_1 hc1_1
 have HB := Aside0.mk (Below.refl w.heap.size w)
 have H : ((vhead_Right.f k a0_0 a0_1 l0_2 l0_3).bind fun t149 => (if t149 = true then (if (l1_0.length : Int) = a0_0 then (vpack_Right.j0 k ((l1_1.length : Int) != a0_0) a0_0 a0_1 l0_2 l0_3 l1_0 l1_1) else (vpack_Right.j0 k true a0_0 a0_1 l0_2 l0_3 l1_0 l1_1)) else (vpack_Right.j0 k true a0_0 a0_1 l0_2 l0_3 l1_0 l1_1))) = some r := h
 clear h
 have HC3 := Aside0.mk H
 clear H
 go_enter Try.func21, Try.ntmps21
 go_upto_region 1 with (first | ((with_reducible refine gate_dst (N := 2) rfl ?_); (try (refine gate_guard (by rfl) ?_; dsimp only)); refine bx_ HB 2 #[.int .i64 a0_0, .int .i64 a0_1, .slice A0_2 l0_2.length c0_2, .slice A0_3 l0_3.length c0_3] 24 ?_; clear HB; intro gb147 hg w4 hb BK147 GE147 HB; have GW147 := GE147; clear hb hg) | ((with_reducible refine gate_dst (N := 3) rfl ?_); (try (refine gate_guard (by rfl) ?_; dsimp only)); refine bx_ HB 3 #[.slice A1_0 l1_0.length c1_0, .slice A1_1 l1_1.length c1_1] 28 ?_; clear HB; intro gb148 hg w5 hb BK148 GE148 HB; have GW148 := GE148; obtain ⟨NB147_148, NB148_147⟩ := NN_ BK147 hg; replace BK147 := FB_ BK147 hb; clear hb hg))
 (try simp only [Act.put, List.setIfInBounds_toArray, List.set_cons_zero, List.set_cons_succ])
 go_cut [27] (fun v27 wc => ∃ (kq : Nat) (x27_2 : Bool), v27 = .bool x27_2 ∧ Aside0 (vpack_Right.j0 kq x27_2 a0_0 a0_1 l0_2 l0_3 l1_0 l1_1 = some r) ∧ Aside0 (kq ≤ k) ∧ Aside0 (wc.heap[gb147]? = some (.cells #[.int .i64 a0_0, .int .i64 a0_1, (.slice A0_2 l0_2.length c0_2), (.slice A0_3 l0_3.length c0_3)] 24 (0, 0))) ∧ Aside0 (wc.heap[gb148]? = some (.cells #[(.slice A1_0 l1_0.length c1_0), (.slice A1_1 l1_1.length c1_1)] 28 (0, 0))) ∧ Aside0 (Below w.heap.size w wc))
 case first => (
 have H := HC3.out
 clear HC3
 obtain ⟨t149, A6, H⟩ := ob_ H
 (try dsimp only at H)
 by_cases c7 : t149 = true
 {
 subst c7
 rw [if_pos rfl] at H
 by_cases c8 : (l1_0.length : Int) = a0_0
 {
 rw [if_pos c8] at H
 have c8b0 : ((l1_0.length : Int) == a0_0) = true := beq_iff_eq.mpr c8
 have c8b1 : ((l1_0.length : Int) != a0_0) = false := bne_eq_false_iff_eq.mpr c8
 clear c8
 (first | rw [c8b0] | (simp only [i64_w, i32_w]; rw [c8b0]) | skip)
 have H' := Aside0.mk H
 clear H
 have hnb9 := NB147_148.out
 have hnc9 := NB148_147.out
 obtain ⟨hcz10_0, hcz10_1, hcz10_2, hcz10_3, hfz10_0, hfz10_1, hfz10_2, hfz10_3⟩ := e4_ BK147
 go_wp2_with (first | ((with_reducible refine gate_callee (f := 41) rfl ?_); refine gL_ (some 10) Try.func41 #[.agg #[.int .i64 a0_0, .int .i64 a0_1, .slice A0_2 l0_2.length c0_2, .slice A0_3 l0_3.length c0_3]] ?_; (with_reducible refine (vhead_Right.calls k a0_0 a0_1 _ _ l0_2 _ _ l0_3 true _ ?side1 ?side2 ?side3 ?side4 A6.out).mono ?_); (case side1 => exact kC_ HR0_2 HB); (case side2 => exact HC0_2.out); (case side3 => exact kC_ HR0_3 HB); (case side4 => exact HC0_3.out); rintro e w11 ⟨rfl, hb⟩; refine ⟨_, rfl, ?_⟩; replace BK147 := FB_ BK147 hb; replace BK148 := FB_ BK148 hb; replace HB := BS_ HB hb; (try clear hb); obtain ⟨hcz12_0, hcz12_1, hfz12_0, hfz12_1⟩ := e2_ BK148; obtain ⟨hcz13_0, hcz13_1, hcz13_2, hcz13_3, hfz13_0, hfz13_1, hfz13_2, hfz13_3⟩ := e4_ BK147))
 go_meet
 case rel => exact ⟨_, (((l1_1.length : Int) != a0_0)), rs_, H', ⟨ol_⟩, ⟨bk_ BK147⟩, ⟨bk_ BK148⟩, ⟨bl_ HB⟩⟩}
 {
 rw [if_neg c8] at H
 have c8b0 : ((l1_0.length : Int) == a0_0) = false := beq_eq_false_iff_ne.mpr c8
 have c8b1 : ((l1_0.length : Int) != a0_0) = true := bne_iff_ne.mpr c8
 (first | rw [c8b0] | (simp only [i64_w, i32_w]; rw [c8b0]) | skip)
 have H' := Aside0.mk H
 clear H
 have hnb14 := NB147_148.out
 have hnc14 := NB148_147.out
 obtain ⟨hcz15_0, hcz15_1, hcz15_2, hcz15_3, hfz15_0, hfz15_1, hfz15_2, hfz15_3⟩ := e4_ BK147
 go_wp2_with (first | ((with_reducible refine gate_callee (f := 41) rfl ?_); refine gL_ (some 10) Try.func41 #[.agg #[.int .i64 a0_0, .int .i64 a0_1, .slice A0_2 l0_2.length c0_2, .slice A0_3 l0_3.length c0_3]] ?_; (with_reducible refine (vhead_Right.calls k a0_0 a0_1 _ _ l0_2 _ _ l0_3 true _ ?side1 ?side2 ?side3 ?side4 A6.out).mono ?_); (case side1 => exact kC_ HR0_2 HB); (case side2 => exact HC0_2.out); (case side3 => exact kC_ HR0_3 HB); (case side4 => exact HC0_3.out); rintro e w16 ⟨rfl, hb⟩; refine ⟨_, rfl, ?_⟩; replace BK147 := FB_ BK147 hb; replace BK148 := FB_ BK148 hb; replace HB := BS_ HB hb; (try clear hb); obtain ⟨hcz17_0, hcz17_1, hfz17_0, hfz17_1⟩ := e2_ BK148; obtain ⟨hcz18_0, hcz18_1, hcz18_2, hcz18_3, hfz18_0, hfz18_1, hfz18_2, hfz18_3⟩ := e4_ BK147))
 go_meet
 case rel => exact ⟨_, (true), rs_, H', ⟨ol_⟩, ⟨bk_ BK147⟩, ⟨bk_ BK148⟩, ⟨bl_ HB⟩⟩}}
 {
 replace c7 := Bool.eq_false_iff.mpr c7
 subst c7
 rw [if_neg (show ¬ (false = true) by decide)] at H
 have H' := Aside0.mk H
 clear H
 have hnb19 := NB147_148.out
 have hnc19 := NB148_147.out
 obtain ⟨hcz20_0, hcz20_1, hcz20_2, hcz20_3, hfz20_0, hfz20_1, hfz20_2, hfz20_3⟩ := e4_ BK147
 go_wp2_with (first | ((with_reducible refine gate_callee (f := 41) rfl ?_); refine gL_ (some 10) Try.func41 #[.agg #[.int .i64 a0_0, .int .i64 a0_1, .slice A0_2 l0_2.length c0_2, .slice A0_3 l0_3.length c0_3]] ?_; (with_reducible refine (vhead_Right.calls k a0_0 a0_1 _ _ l0_2 _ _ l0_3 false _ ?side1 ?side2 ?side3 ?side4 A6.out).mono ?_); (case side1 => exact kC_ HR0_2 HB); (case side2 => exact HC0_2.out); (case side3 => exact kC_ HR0_3 HB); (case side4 => exact HC0_3.out); rintro e w21 ⟨rfl, hb⟩; refine ⟨_, rfl, ?_⟩; replace BK147 := FB_ BK147 hb; replace BK148 := FB_ BK148 hb; replace HB := BS_ HB hb; (try clear hb)))
 go_meet
 case rel => exact ⟨_, (true), rs_, H', ⟨ol_⟩, ⟨bk_ BK147⟩, ⟨bk_ BK148⟩, ⟨bl_ HB⟩⟩})
 case rest => (
 clear HC3
 obtain ⟨kq, x27_2, rfl, HA, HJ2, BK147, BK148, HB⟩ := hcut
 cases kq with
 | zero => exact absurd HA.out (by simp [vpack_Right.j0])
 | succ kj2 => (
 have H := HA.out
 clear HA
 simp only [vpack_Right.j0] at H
 by_cases c22 : x27_2 = true
 {
 subst c22
 rw [if_pos rfl] at H
 obtain rfl := Option.some.inj H
 go_wp2
 go_ret
 exact ⟨by first | rfl | (simp [errW_none, errW_some] <;> rfl) | (simp [*, errW_none, errW_some] <;> rfl), bl_ HB⟩}
 {
 replace c22 := Bool.eq_false_iff.mpr c22
 subst c22
 rw [if_neg (show ¬ (false = true) by decide)] at H
 have H' := Aside0.mk H
 clear H
 have hnb23 := NB148_147.out
 have hnc23 := NB147_148.out
 obtain ⟨hcz24_0, hcz24_1, hfz24_0, hfz24_1⟩ := e2_ BK148
 go_wp2
 go_loopg [31] kj2 (fun kq v31 w' => ∃ (x31_2 : Int), v31 = .int .i64 x31_2 ∧ Aside0 (vpack_Right.l0 kq l1_0 (l1_0.length : Int) x31_2 a0_0 a0_1 l0_2 l0_3 l1_0 l1_1 = some r) ∧ Aside0 (kq ≤ kj2) ∧ Aside0 (w'.heap[gb147]? = some (.cells #[.int .i64 a0_0, .int .i64 a0_1, (.slice A0_2 l0_2.length c0_2), (.slice A0_3 l0_3.length c0_3)] 24 (0, 0))) ∧ Aside0 (w'.heap[gb148]? = some (.cells #[(.slice A1_0 l1_0.length c1_0), (.slice A1_1 l1_1.length c1_1)] 28 (0, 0))) ∧ Aside0 (Below w.heap.size w w'))
 case atStart => exact ⟨(0), rs_, H', ⟨Nat.le_refl _⟩, ⟨bk_ BK147⟩, ⟨bk_ BK148⟩, ⟨bl_ HB⟩⟩
 case round => (
 clear H'
 try clear c22
 try clear hcz24_0
 try clear hcz24_1
 try clear hfz24_0
 try clear hfz24_1
 obtain ⟨x31_2, rfl, HA, HK2, BK147, BK148, HB⟩ := hrel
 cases gk with
 | zero => exact absurd HA.out (by simp [vpack_Right.l0])
 | succ k2 => (
 have H := HA.out
 clear HA
 simp only [vpack_Right.l0] at H
 by_cases c25 : x31_2 < (l1_0.length : Int)
 {
 rw [if_pos c25] at H
 have c25b0 : decide (x31_2 < (l1_0.length : Int)) = true := decide_eq_true c25
 clear c25
 by_cases c26 : 0 ≤ x31_2
 {
 rw [if_pos c26] at H
 have c26b0 : decide (0 ≤ x31_2) = true := decide_eq_true c26
 clear c26
 by_cases c27 : x31_2 < (l1_0.length : Int)
 {
 rw [if_pos c27] at H
 have c27b0 : decide (x31_2 < (l1_0.length : Int)) = true := decide_eq_true c27
 clear c27
 have HC28 := Aside0.mk H
 clear H
 have p150 : 0 ≤ (x31_2 : Int) := of_decide_eq_true am_
 have q150 : x31_2 < (l1_0.length : Int) := of_decide_eq_true am_
 obtain ⟨ad150, A150_0, c150_0, e150, hx150_0, hl150_0, hi150_0⟩ := at_L1 HR1_0.out x31_2 p150 q150
 cases e150
 replace hx150_0 := (HB.out.cell (World.block_lt_of_cell? w _ hx150_0)).trans hx150_0
 have HR150_0 := Aside0.mk hi150_0
 have HC150_0 := Aside0.mk hl150_0
 clear hi150_0 hl150_0
 replace p150 := eq_true p150
 replace q150 := eq_true q150
 go_upto_region 6 with (fail)
 go_cut [47] (fun v47 wc => ∃ (kq : Nat) (x47_27 : Bool), v47 = .bool x47_27 ∧ Aside0 (vpack_Right.j2 kq x31_2 (rd_L1 l1_0 x31_2) l1_0 (l1_0.length : Int) x31_2 x47_27 a0_0 a0_1 l0_2 l0_3 l1_0 l1_1 = some r) ∧ Aside0 (kq ≤ k2) ∧ Aside0 (wc.heap[gb147]? = some (.cells #[.int .i64 a0_0, .int .i64 a0_1, (.slice A0_2 l0_2.length c0_2), (.slice A0_3 l0_3.length c0_3)] 24 (0, 0))) ∧ Aside0 (wc.heap[gb148]? = some (.cells #[(.slice (some ad150) l1_0.length c1_0), (.slice A1_1 l1_1.length c1_1)] 28 (0, 0))) ∧ Aside0 (Below w.heap.size w wc))
 case first => (
 have H := HC28.out
 clear HC28
 by_cases c29 : ((rd_L1 l1_0 x31_2).length : Int) = 0
 {
 rw [if_pos c29] at H
 have c29b0 : (((rd_L1 l1_0 x31_2).length : Int) == 0) = true := beq_iff_eq.mpr c29
 have c29b1 : (((rd_L1 l1_0 x31_2).length : Int) != 0) = false := bne_eq_false_iff_eq.mpr c29
 clear c29
 (first | rw [c29b0] | (simp only [i64_w, i32_w]; rw [c29b0]) | skip)
 by_cases c30 : x31_2 < (l1_1.length : Int)
 {
 rw [if_pos c30] at H
 have c30b0 : decide (x31_2 < (l1_1.length : Int)) = true := decide_eq_true c30
 clear c30
 have H' := Aside0.mk H
 clear H
 have hnb31 := NB148_147.out
 have hnc31 := NB147_148.out
 obtain ⟨hcz32_0, hcz32_1, hfz32_0, hfz32_1⟩ := e2_ BK148
 have p151 : 0 ≤ (x31_2 : Int) := of_decide_eq_true am_
 have q151 : x31_2 < (l1_1.length : Int) := of_decide_eq_true am_
 obtain ⟨ad151, A151_0, c151_0, e151, hx151_0, hl151_0, hi151_0⟩ := at_L2 HR1_1.out x31_2 p151 q151
 cases e151
 replace hx151_0 := (HB.out.cell (World.block_lt_of_cell? w _ hx151_0)).trans hx151_0
 have HR151_0 := Aside0.mk hi151_0
 have HC151_0 := Aside0.mk hl151_0
 clear hi151_0 hl151_0
 replace p151 := eq_true p151
 replace q151 := eq_true q151
 go_wp2
 go_meet
 case rel => exact ⟨_, ((((rd_L2 l1_1 x31_2).length : Int) == 0)), rs_, H', ⟨by have := HJ2.out; have := HK2.out; first | omega | exact Nat.le_refl _⟩, ⟨bk_ BK147⟩, ⟨bk_ BK148⟩, ⟨bl_ HB⟩⟩}
 {
 rw [if_neg c30] at H
 exact absurd H (by simp)}}
 {
 rw [if_neg c29] at H
 have c29b0 : (((rd_L1 l1_0 x31_2).length : Int) == 0) = false := beq_eq_false_iff_ne.mpr c29
 have c29b1 : (((rd_L1 l1_0 x31_2).length : Int) != 0) = true := bne_iff_ne.mpr c29
 have c29b2 : ¬ ((rd_L1 l1_0 x31_2) = []) := fun h_ => c29 (by rw [h_]; rfl)
 (first | rw [c29b0] | (simp only [i64_w, i32_w]; rw [c29b0]) | skip)
 have H' := Aside0.mk H
 clear H
 go_wp2
 go_meet
 case rel => exact ⟨_, (false), rs_, H', ⟨by have := HJ2.out; have := HK2.out; first | omega | exact Nat.le_refl _⟩, ⟨bk_ BK147⟩, ⟨bk_ BK148⟩, ⟨bl_ HB⟩⟩})
 case rest => (
 clear HC28
 try clear c22
 try clear c25
 try clear c25b0
 try clear c26
 try clear c26b0
 try clear c27
 try clear c27b0
 try clear hcz24_0
 try clear hcz24_1
 try clear hfz24_0
 try clear hfz24_1
 try clear hx150_0
 try clear p150
 try clear q150
 obtain ⟨kq, x47_27, rfl, HA, HJ27, BK147, BK148, HB⟩ := hcut
 cases kq with
 | zero => exact absurd HA.out (by simp [vpack_Right.j2])
 | succ kj27 => (
 have H := HA.out
 clear HA
 simp only [vpack_Right.j2] at H
 by_cases c33 : x47_27 = true
 {
 subst c33
 rw [if_pos rfl] at H
 have H' := Aside0.mk H
 clear H
 go_wp2
 go_roundg kj27
 case measure => have := HJ2.out; have := HK2.out; have := HJ27.out; omega
 case rel => exact ⟨(wrap64 (x31_2 + 1)), rs_, H', ⟨by have := HJ2.out; have := HK2.out; have := HJ27.out; omega⟩, ⟨bk_ BK147⟩, ⟨bk_ BK148⟩, ⟨bl_ HB⟩⟩}
 {
 replace c33 := Bool.eq_false_iff.mpr c33
 subst c33
 rw [if_neg (show ¬ (false = true) by decide)] at H
 have HC34 := Aside0.mk H
 clear H
 go_upto_region 7 with (fail)
 go_cut [60] (fun v60 wc => ∃ (kq : Nat) (x60_33 : Bool), v60 = .bool x60_33 ∧ Aside0 (vpack_Right.j3 kq x31_2 l1_0 (l1_0.length : Int) x31_2 x60_33 a0_0 a0_1 l0_2 l0_3 l1_0 l1_1 = some r) ∧ Aside0 (kq ≤ kj27) ∧ Aside0 (wc.heap[gb147]? = some (.cells #[.int .i64 a0_0, .int .i64 a0_1, (.slice A0_2 l0_2.length c0_2), (.slice A0_3 l0_3.length c0_3)] 24 (0, 0))) ∧ Aside0 (wc.heap[gb148]? = some (.cells #[(.slice (some ad150) l1_0.length c1_0), (.slice A1_1 l1_1.length c1_1)] 28 (0, 0))) ∧ Aside0 (Below w.heap.size w wc))
 case first => (
 have H := HC34.out
 clear HC34
 obtain ⟨t152, A35, H⟩ := ob_ H
 (try dsimp only at H)
 by_cases c36 : t152 = true
 {
 subst c36
 rw [if_pos rfl] at H
 by_cases c37 : 0 ≤ x31_2
 {
 rw [if_pos c37] at H
 have c37b0 : decide (0 ≤ x31_2) = true := decide_eq_true c37
 clear c37
 (first | rw [c37b0] | (simp only [i64_w, i32_w]; rw [c37b0]) | skip)
 by_cases c38 : x31_2 < (l1_1.length : Int)
 {
 rw [if_pos c38] at H
 have c38b0 : decide (x31_2 < (l1_1.length : Int)) = true := decide_eq_true c38
 clear c38
 have H' := Aside0.mk H
 clear H
 have hnb39 := NB147_148.out
 have hnc39 := NB148_147.out
 obtain ⟨hcz40_0, hcz40_1, hcz40_2, hcz40_3, hfz40_0, hfz40_1, hfz40_2, hfz40_3⟩ := e4_ BK147
 go_wp2_with (first | ((with_reducible refine gate_callee (f := 51) rfl ?_); refine gL_ (some 50) Try.func51 #[.agg #[.int .i64 a0_0, .int .i64 a0_1, .slice A0_2 l0_2.length c0_2, .slice A0_3 l0_3.length c0_3], .slice A150_0 (rd_L1 l1_0 x31_2).length c150_0] ?_; (with_reducible refine (vpack_posts.calls kj27 a0_0 a0_1 _ _ l0_2 _ _ l0_3 _ _ (rd_L1 l1_0 x31_2) true _ ?side1 ?side2 ?side3 ?side4 ?side5 ?side6 A35.out).mono ?_); (case side1 => exact kC_ HR0_2 HB); (case side2 => exact HC0_2.out); (case side3 => exact kC_ HR0_3 HB); (case side4 => exact HC0_3.out); (case side5 => exact kC_ HR150_0 HB); (case side6 => exact HC150_0.out); rintro e w41 ⟨rfl, hb⟩; refine ⟨_, rfl, ?_⟩; replace BK147 := FB_ BK147 hb; replace BK148 := FB_ BK148 hb; replace HB := BS_ HB hb; (try clear hb); obtain ⟨hcz42_0, hcz42_1, hfz42_0, hfz42_1⟩ := e2_ BK148; have p153 : 0 ≤ (x31_2 : Int) := of_decide_eq_true am_; have q153 : x31_2 < (l1_1.length : Int) := of_decide_eq_true am_; obtain ⟨ad153, A153_0, c153_0, e153, hx153_0, hl153_0, hi153_0⟩ := at_L2 HR1_1.out x31_2 p153 q153; cases e153; replace hx153_0 := (HB.out.cell (World.block_lt_of_cell? w _ hx153_0)).trans hx153_0; have HR153_0 := Aside0.mk hi153_0; have HC153_0 := Aside0.mk hl153_0; clear hi153_0 hl153_0; replace p153 := eq_true p153; replace q153 := eq_true q153))
 go_meet
 case rel => exact ⟨_, ((((rd_L2 l1_1 x31_2).length : Int) != 16)), rs_, H', ⟨by have := HJ2.out; have := HK2.out; have := HJ27.out; first | omega | exact Nat.le_refl _⟩, ⟨bk_ BK147⟩, ⟨bk_ BK148⟩, ⟨bl_ HB⟩⟩}
 {
 rw [if_neg c38] at H
 exact absurd H (by simp)}}
 {
 rw [if_neg c37] at H
 exact absurd H (by simp)}}
 {
 replace c36 := Bool.eq_false_iff.mpr c36
 subst c36
 rw [if_neg (show ¬ (false = true) by decide)] at H
 have H' := Aside0.mk H
 clear H
 have hnb43 := NB147_148.out
 have hnc43 := NB148_147.out
 obtain ⟨hcz44_0, hcz44_1, hcz44_2, hcz44_3, hfz44_0, hfz44_1, hfz44_2, hfz44_3⟩ := e4_ BK147
 go_wp2_with (first | ((with_reducible refine gate_callee (f := 51) rfl ?_); refine gL_ (some 50) Try.func51 #[.agg #[.int .i64 a0_0, .int .i64 a0_1, .slice A0_2 l0_2.length c0_2, .slice A0_3 l0_3.length c0_3], .slice A150_0 (rd_L1 l1_0 x31_2).length c150_0] ?_; (with_reducible refine (vpack_posts.calls kj27 a0_0 a0_1 _ _ l0_2 _ _ l0_3 _ _ (rd_L1 l1_0 x31_2) false _ ?side1 ?side2 ?side3 ?side4 ?side5 ?side6 A35.out).mono ?_); (case side1 => exact kC_ HR0_2 HB); (case side2 => exact HC0_2.out); (case side3 => exact kC_ HR0_3 HB); (case side4 => exact HC0_3.out); (case side5 => exact kC_ HR150_0 HB); (case side6 => exact HC150_0.out); rintro e w45 ⟨rfl, hb⟩; refine ⟨_, rfl, ?_⟩; replace BK147 := FB_ BK147 hb; replace BK148 := FB_ BK148 hb; replace HB := BS_ HB hb; (try clear hb)))
 go_meet
 case rel => exact ⟨_, (true), rs_, H', ⟨by have := HJ2.out; have := HK2.out; have := HJ27.out; first | omega | exact Nat.le_refl _⟩, ⟨bk_ BK147⟩, ⟨bk_ BK148⟩, ⟨bl_ HB⟩⟩})
 case rest => (
 clear HC34
 try clear c22
 try clear c25
 try clear c25b0
 try clear c26
 try clear c26b0
 try clear c27
 try clear c27b0
 try clear c33
 try clear hcz24_0
 try clear hcz24_1
 try clear hfz24_0
 try clear hfz24_1
 try clear hx150_0
 try clear p150
 try clear q150
 obtain ⟨kq, x60_33, rfl, HA, HJ33, BK147, BK148, HB⟩ := hcut
 cases kq with
 | zero => exact absurd HA.out (by simp [vpack_Right.j3])
 | succ kj33 => (
 have H := HA.out
 clear HA
 simp only [vpack_Right.j3] at H
 by_cases c46 : x60_33 = true
 {
 subst c46
 rw [if_pos rfl] at H
 obtain rfl := Option.some.inj H
 go_wp2
 go_ret
 exact ⟨by first | rfl | (simp [errW_none, errW_some] <;> rfl) | (simp [*, errW_none, errW_some] <;> rfl), bl_ HB⟩}
 {
 replace c46 := Bool.eq_false_iff.mpr c46
 subst c46
 rw [if_neg (show ¬ (false = true) by decide)] at H
 by_cases c47 : 0 ≤ x31_2
 {
 rw [if_pos c47] at H
 have c47b0 : decide (0 ≤ x31_2) = true := decide_eq_true c47
 clear c47
 by_cases c48 : x31_2 < (l1_1.length : Int)
 {
 rw [if_pos c48] at H
 have c48b0 : decide (x31_2 < (l1_1.length : Int)) = true := decide_eq_true c48
 clear c48
 have H' := Aside0.mk H
 clear H
 have hnb49 := NB148_147.out
 have hnc49 := NB147_148.out
 obtain ⟨hcz50_0, hcz50_1, hfz50_0, hfz50_1⟩ := e2_ BK148
 have p154 : 0 ≤ (x31_2 : Int) := of_decide_eq_true am_
 have q154 : x31_2 < (l1_1.length : Int) := of_decide_eq_true am_
 obtain ⟨ad154, A154_0, c154_0, e154, hx154_0, hl154_0, hi154_0⟩ := at_L2 HR1_1.out x31_2 p154 q154
 cases e154
 replace hx154_0 := (HB.out.cell (World.block_lt_of_cell? w _ hx154_0)).trans hx154_0
 have HR154_0 := Aside0.mk hi154_0
 have HC154_0 := Aside0.mk hl154_0
 clear hi154_0 hl154_0
 replace p154 := eq_true p154
 replace q154 := eq_true q154
 go_wp2
 go_loopg [67] kj33 (fun kq v67 w' => ∃ (x67_5 : Int), v67 = .int .i64 x67_5 ∧ Aside0 (vpack_Right.l1 kq l1_0 (l1_0.length : Int) x31_2 (rd_L2 l1_1 x31_2) ((rd_L2 l1_1 x31_2).length : Int) x67_5 a0_0 a0_1 l0_2 l0_3 l1_0 l1_1 = some r) ∧ Aside0 (kq ≤ kj33) ∧ Aside0 (w'.heap[gb147]? = some (.cells #[.int .i64 a0_0, .int .i64 a0_1, (.slice A0_2 l0_2.length c0_2), (.slice A0_3 l0_3.length c0_3)] 24 (0, 0))) ∧ Aside0 (w'.heap[gb148]? = some (.cells #[(.slice (some ad150) l1_0.length c1_0), (.slice (some ad154) l1_1.length c1_1)] 28 (0, 0))) ∧ Aside0 (Below w.heap.size w w'))
 case atStart => exact ⟨(0), rs_, H', ⟨Nat.le_refl _⟩, ⟨bk_ BK147⟩, ⟨bk_ BK148⟩, ⟨bl_ HB⟩⟩
 case round => (
 clear H'
 try clear c22
 try clear c25
 try clear c25b0
 try clear c26
 try clear c26b0
 try clear c27
 try clear c27b0
 try clear c33
 try clear c46
 try clear c47
 try clear c47b0
 try clear c48
 try clear c48b0
 try clear hcz24_0
 try clear hcz24_1
 try clear hcz50_0
 try clear hcz50_1
 try clear hfz24_0
 try clear hfz24_1
 try clear hfz50_0
 try clear hfz50_1
 try clear hx150_0
 try clear hx154_0
 try clear p150
 try clear p154
 try clear q150
 try clear q154
 obtain ⟨x67_5, rfl, HA, HK5, BK147, BK148, HB⟩ := hrel
 cases gk with
 | zero => exact absurd HA.out (by simp [vpack_Right.l1])
 | succ k5 => (
 have H := HA.out
 clear HA
 simp only [vpack_Right.l1] at H
 by_cases c51 : x67_5 < ((rd_L2 l1_1 x31_2).length : Int)
 {
 rw [if_pos c51] at H
 have c51b0 : decide (x67_5 < ((rd_L2 l1_1 x31_2).length : Int)) = true := decide_eq_true c51
 clear c51
 by_cases c52 : 0 ≤ x67_5
 {
 rw [if_pos c52] at H
 have c52b0 : decide (0 ≤ x67_5) = true := decide_eq_true c52
 clear c52
 by_cases c53 : x67_5 < ((rd_L2 l1_1 x31_2).length : Int)
 {
 rw [if_pos c53] at H
 have c53b0 : decide (x67_5 < ((rd_L2 l1_1 x31_2).length : Int)) = true := decide_eq_true c53
 clear c53
 by_cases c54 : (rd (rd_L2 l1_1 x31_2) x67_5) < (-4194303)
 {
 rw [if_pos c54] at H
 have c54b0 : decide ((rd (rd_L2 l1_1 x31_2) x67_5) < (-4194303)) = true := decide_eq_true c54
 clear c54
 obtain rfl := Option.some.inj H
 have p155 : 0 ≤ (x67_5 : Int) := of_decide_eq_true am_
 have q155 : x67_5 < ((rd_L2 l1_1 x31_2).length : Int) := of_decide_eq_true am_
 obtain ⟨ad155, e155, hx155_0⟩ := Kd.at_int HR154_0.out x67_5 p155 q155
 cases e155
 replace hx155_0 := (HB.out.cell (World.block_lt_of_cell? w _ hx155_0)).trans hx155_0
 replace p155 := eq_true p155
 replace q155 := eq_true q155
 go_wp2
 go_ret
 exact ⟨by first | rfl | (simp [errW_none, errW_some] <;> rfl) | (simp [*, errW_none, errW_some] <;> rfl), bl_ HB⟩}
 {
 rw [if_neg c54] at H
 have c54b0 : decide ((rd (rd_L2 l1_1 x31_2) x67_5) < (-4194303)) = false := decide_eq_false c54
 clear c54
 by_cases c55 : (rd (rd_L2 l1_1 x31_2) x67_5) > 4194303
 {
 rw [if_pos c55] at H
 have c55b0 : decide (4194303 < (rd (rd_L2 l1_1 x31_2) x67_5)) = true := decide_eq_true c55
 clear c55
 obtain rfl := Option.some.inj H
 have p155 : 0 ≤ (x67_5 : Int) := of_decide_eq_true am_
 have q155 : x67_5 < ((rd_L2 l1_1 x31_2).length : Int) := of_decide_eq_true am_
 obtain ⟨ad155, e155, hx155_0⟩ := Kd.at_int HR154_0.out x67_5 p155 q155
 cases e155
 replace hx155_0 := (HB.out.cell (World.block_lt_of_cell? w _ hx155_0)).trans hx155_0
 replace p155 := eq_true p155
 replace q155 := eq_true q155
 go_wp2
 go_ret
 exact ⟨by first | rfl | (simp [errW_none, errW_some] <;> rfl) | (simp [*, errW_none, errW_some] <;> rfl), bl_ HB⟩}
 {
 rw [if_neg c55] at H
 have c55b0 : decide (4194303 < (rd (rd_L2 l1_1 x31_2) x67_5)) = false := decide_eq_false c55
 clear c55
 have H' := Aside0.mk H
 clear H
 have p155 : 0 ≤ (x67_5 : Int) := of_decide_eq_true am_
 have q155 : x67_5 < ((rd_L2 l1_1 x31_2).length : Int) := of_decide_eq_true am_
 obtain ⟨ad155, e155, hx155_0⟩ := Kd.at_int HR154_0.out x67_5 p155 q155
 cases e155
 replace hx155_0 := (HB.out.cell (World.block_lt_of_cell? w _ hx155_0)).trans hx155_0
 replace p155 := eq_true p155
 replace q155 := eq_true q155
 go_wp2
 go_roundg k5
 case measure => have := HJ2.out; have := HK2.out; have := HJ27.out; have := HJ33.out; have := HK5.out; omega
 case rel => exact ⟨(wrap64 (x67_5 + 1)), rs_, H', ⟨by have := HJ2.out; have := HK2.out; have := HJ27.out; have := HJ33.out; have := HK5.out; omega⟩, ⟨bk_ BK147⟩, ⟨bk_ BK148⟩, ⟨bl_ HB⟩⟩}}}
 {
 rw [if_neg c53] at H
 exact absurd H (by simp)}}
 {
 rw [if_neg c52] at H
 exact absurd H (by simp)}}
 {
 rw [if_neg c51] at H
 have c51b0 : decide (x67_5 < ((rd_L2 l1_1 x31_2).length : Int)) = false := decide_eq_false c51
 clear c51
 have H' := Aside0.mk H
 clear H
 go_wp2
 go_roundg k5
 case measure => have := HJ2.out; have := HK2.out; have := HJ27.out; have := HJ33.out; have := HK5.out; omega
 case rel => exact ⟨(wrap64 (x31_2 + 1)), rs_, H', ⟨by have := HJ2.out; have := HK2.out; have := HJ27.out; have := HJ33.out; have := HK5.out; omega⟩, ⟨bk_ BK147⟩, ⟨bk_ BK148⟩, ⟨bl_ HB⟩⟩}))}
 {
 rw [if_neg c48] at H
 exact absurd H (by simp)}}
 {
 rw [if_neg c47] at H
 exact absurd H (by simp)}}))}))}
 {
 rw [if_neg c27] at H
 exact absurd H (by simp)}}
 {
 rw [if_neg c26] at H
 exact absurd H (by simp)}}
 {
 rw [if_neg c25] at H
 have c25b0 : decide (x31_2 < (l1_0.length : Int)) = false := decide_eq_false c25
 clear c25
 obtain rfl := Option.some.inj H
 go_wp2
 go_ret
 exact ⟨by first | rfl | (simp [errW_none, errW_some] <;> rfl) | (simp [*, errW_none, errW_some] <;> rfl), bl_ HB⟩}))}))
def vcodec_codec_both.f (a0_0 : Int) (a0_1 : Int) (l0_2 : List Int) (l0_3 : List Int) (l1 : List (List Int)) : Option (Bool) := if a0_0 = 2 then (if 0 < (l1.length : Int) then (if ((rd_L1 l1 0).length : Int) > 0 then (if 1 < (l1.length : Int) then (some (decide (((rd_L1 l1 1).length : Int) > 0))) else (none)) else (some false)) else (none)) else (some false)
set_option maxHeartbeats 8000000 in
set_option maxRecDepth 100000 in
theorem vcodec_codec_both.calls (a0_0 : Int) (a0_1 : Int) (A0_2 : Option Addr) (c0_2 : Nat) (l0_2 : List Int) (A0_3 : Option Addr) (c0_3 : Nat) (l0_3 : List Int) (A1 : Option Addr) (c1 : Nat) (l1 : List (List Int)) (r : Bool) (w : World) (hr0_2 : Kd.C (Kd.int .i64) w A0_2 l0_2.length l0_2) (hc0_2 : l0_2.length ≤ c0_2) (hr0_3 : Kd.C (Kd.int .i64) w A0_3 l0_3.length l0_3) (hc0_3 : l0_3.length ≤ c0_3) (hr1 : Kd.C (Kd.slice 3 (Kd.int .i64)) w A1 l1.length l1) (hc1 : l1.length ≤ c1) (h : vcodec_codec_both.f a0_0 a0_1 l0_2 l0_3 l1 = some r) :
    Calls Try.prog 32 #[.agg #[.int .i64 a0_0, .int .i64 a0_1, .slice A0_2 l0_2.length c0_2, .slice A0_3 l0_3.length c0_3], .slice A1 l1.length c1] w fun e w' => e = .returned (.bool r) ∧ Below w.heap.size w w' := by
 have hu61 := Try.underlying61
 have HR0_2 := Aside0.mk hr0_2
 have HC0_2 := Aside0.mk hc0_2
 clear hr0_2 hc0_2
 have HR0_3 := Aside0.mk hr0_3
 have HC0_3 := Aside0.mk hc0_3
 clear hr0_3 hc0_3
 have HR1 := Aside0.mk hr1
 have HC1 := Aside0.mk hc1
 clear hr1 hc1
 have HB := Aside0.mk (Below.refl w.heap.size w)
 have H : (if a0_0 = 2 then (if 0 < (l1.length : Int) then (if ((rd_L1 l1 0).length : Int) > 0 then (if 1 < (l1.length : Int) then (some (decide (((rd_L1 l1 1).length : Int) > 0))) else (none)) else (some false)) else (none)) else (some false)) = some r := h
 clear h
 by_cases c3 : a0_0 = 2
 {
 rw [if_pos c3] at H
 have c3b0 : (a0_0 == 2) = true := beq_iff_eq.mpr c3
 have c3b1 : (a0_0 != 2) = false := bne_eq_false_iff_eq.mpr c3
 clear c3
 by_cases c4 : 0 < (l1.length : Int)
 {
 rw [if_pos c4] at H
 have c4b0 : decide (0 < (l1.length : Int)) = true := decide_eq_true c4
 have c4b1 : decide (0 < l1.length) = true := decide_eq_true (by omega)
 clear c4
 by_cases c5 : ((rd_L1 l1 0).length : Int) > 0
 {
 rw [if_pos c5] at H
 have c5b0 : decide (0 < ((rd_L1 l1 0).length : Int)) = true := decide_eq_true c5
 have c5b1 : decide (0 < (rd_L1 l1 0).length) = true := decide_eq_true (by omega)
 clear c5
 by_cases c6 : 1 < (l1.length : Int)
 {
 rw [if_pos c6] at H
 have c6b0 : decide (1 < (l1.length : Int)) = true := decide_eq_true c6
 have c6b1 : decide (1 < l1.length) = true := decide_eq_true (by omega)
 clear c6
 obtain rfl := Option.some.inj H
 go_enter Try.func32, Try.ntmps32
 go_wp2_with (first | ((with_reducible refine gate_dst (N := 2) rfl ?_); (try (refine gate_guard (by rfl) ?_; dsimp only)); refine bx_ HB 2 #[.int .i64 a0_0, .int .i64 a0_1, .slice A0_2 l0_2.length c0_2, .slice A0_3 l0_3.length c0_3] 61 ?_; clear HB; intro gb156 hg w7 hb BK156 GE156 HB; have GW156 := GE156; clear hb hg; obtain ⟨hcz8_0, hcz8_1, hcz8_2, hcz8_3, hfz8_0, hfz8_1, hfz8_2, hfz8_3⟩ := e4_ BK156; have p157 : 0 ≤ (0 : Int) := (by omega); have q157 : 0 < (l1.length : Int) := of_decide_eq_true am_; obtain ⟨ad157, A157_0, c157_0, e157, hx157_0, hl157_0, hi157_0⟩ := at_L1 HR1.out 0 p157 q157; cases e157; have qi157 : (0 < l1.length) = True := eq_true (by omega); (try rw [show ((0 : Int)).toNat = 0 from rfl] at hx157_0); (try rw [Addr.add_zero'] at hx157_0); replace hx157_0 := (HB.out.cell (World.block_lt_of_cell? w _ hx157_0)).trans hx157_0; have HR157_0 := Aside0.mk hi157_0; have HC157_0 := Aside0.mk hl157_0; clear hi157_0 hl157_0; replace p157 := eq_true p157; replace q157 := eq_true q157; have p158 : 0 ≤ (1 : Int) := (by omega); have q158 : 1 < (l1.length : Int) := of_decide_eq_true am_; obtain ⟨ad158, A158_0, c158_0, e158, hx158_0, hl158_0, hi158_0⟩ := at_L1 HR1.out 1 p158 q158; obtain rfl : ad157 = ad158 := (by injection e158); (try simp only [show (1 : Int).toNat = 1 from rfl, Nat.reduceMul, Nat.reduceEqDiff, Go.Addr.add, ↓reduceIte] at hx158_0); have qi158 : (1 < l1.length) = True := eq_true (by omega); (try rw [show ((1 : Int)).toNat = 1 from rfl] at hx158_0); replace hx158_0 := (HB.out.cell (World.block_lt_of_cell? w _ hx158_0)).trans hx158_0; have HR158_0 := Aside0.mk hi158_0; have HC158_0 := Aside0.mk hl158_0; clear hi158_0 hl158_0; replace p158 := eq_true p158; replace q158 := eq_true q158))
 go_ret
 exact ⟨by first | rfl | (simp [errW_none, errW_some] <;> rfl) | (simp [*, errW_none, errW_some] <;> rfl), bl_ HB⟩}
 {
 rw [if_neg c6] at H
 exact absurd H (by simp)}}
 {
 rw [if_neg c5] at H
 have c5b0 : decide (0 < ((rd_L1 l1 0).length : Int)) = false := decide_eq_false c5
 have c5b1 : decide (0 < (rd_L1 l1 0).length) = false := decide_eq_false (by omega)
 clear c5
 obtain rfl := Option.some.inj H
 go_enter Try.func32, Try.ntmps32
 go_wp2_with (first | ((with_reducible refine gate_dst (N := 2) rfl ?_); (try (refine gate_guard (by rfl) ?_; dsimp only)); refine bx_ HB 2 #[.int .i64 a0_0, .int .i64 a0_1, .slice A0_2 l0_2.length c0_2, .slice A0_3 l0_3.length c0_3] 61 ?_; clear HB; intro gb156 hg w9 hb BK156 GE156 HB; have GW156 := GE156; clear hb hg; obtain ⟨hcz10_0, hcz10_1, hcz10_2, hcz10_3, hfz10_0, hfz10_1, hfz10_2, hfz10_3⟩ := e4_ BK156; have p157 : 0 ≤ (0 : Int) := (by omega); have q157 : 0 < (l1.length : Int) := of_decide_eq_true am_; obtain ⟨ad157, A157_0, c157_0, e157, hx157_0, hl157_0, hi157_0⟩ := at_L1 HR1.out 0 p157 q157; cases e157; have qi157 : (0 < l1.length) = True := eq_true (by omega); (try rw [show ((0 : Int)).toNat = 0 from rfl] at hx157_0); (try rw [Addr.add_zero'] at hx157_0); replace hx157_0 := (HB.out.cell (World.block_lt_of_cell? w _ hx157_0)).trans hx157_0; have HR157_0 := Aside0.mk hi157_0; have HC157_0 := Aside0.mk hl157_0; clear hi157_0 hl157_0; replace p157 := eq_true p157; replace q157 := eq_true q157))
 go_ret
 exact ⟨by first | rfl | (simp [errW_none, errW_some] <;> rfl) | (simp [*, errW_none, errW_some] <;> rfl), bl_ HB⟩}}
 {
 rw [if_neg c4] at H
 exact absurd H (by simp)}}
 {
 rw [if_neg c3] at H
 have c3b0 : (a0_0 == 2) = false := beq_eq_false_iff_ne.mpr c3
 have c3b1 : (a0_0 != 2) = true := bne_iff_ne.mpr c3
 obtain rfl := Option.some.inj H
 go_enter Try.func32, Try.ntmps32
 go_wp2_with (first | ((with_reducible refine gate_dst (N := 2) rfl ?_); (try (refine gate_guard (by rfl) ?_; dsimp only)); refine bx_ HB 2 #[.int .i64 a0_0, .int .i64 a0_1, .slice A0_2 l0_2.length c0_2, .slice A0_3 l0_3.length c0_3] 61 ?_; clear HB; intro gb156 hg w11 hb BK156 GE156 HB; have GW156 := GE156; clear hb hg; obtain ⟨hcz12_0, hcz12_1, hcz12_2, hcz12_3, hfz12_0, hfz12_1, hfz12_2, hfz12_3⟩ := e4_ BK156))
 go_ret
 exact ⟨by first | rfl | (simp [errW_none, errW_some] <;> rfl) | (simp [*, errW_none, errW_some] <;> rfl), bl_ HB⟩}
def couple_parting.f  : Option (Int) := some 4398046511104
set_option maxHeartbeats 8000000 in
set_option maxRecDepth 100000 in
theorem couple_parting.calls  (r : Int) (w : World) (h : couple_parting.f  = some r) :
    Calls Try.prog 66 #[] w fun e w' => e = .returned (.agg #[.int .i64 r, .func (.func 93) #[] #[]]) ∧ Below w.heap.size w w' := by
 have hu101 := Try.underlying101
 have HB := Aside0.mk (Below.refl w.heap.size w)
 have H : (some 4398046511104) = some r := h
 clear h
 obtain rfl := Option.some.inj H
 go_enter Try.func66, Try.ntmps66
 go_wp2_with (first | ((with_reducible refine gate_dst (N := 0) rfl ?_); refine bx_ HB 0 #[.int .i64 0, .nilFunc] 101 ?_; clear HB; intro gb159 hg w1 hb BK159 GE159 HB; have GW159 := GE159; clear hb hg; obtain ⟨hcz2_0, hcz2_1, hfz2_0, hfz2_1⟩ := e2_ BK159))
 refine bodyPost_ret (results_cell_row rfl _ _ gb159 101 #[.int .i64 4398046511104, .func (.func 93) #[] #[]] (0, 0) _ rfl (bp_ BK159) Try.underlying101 rfl kf_) rfl ?_
 exact ⟨by first | rfl | (simp [errW_none, errW_some] <;> rfl) | (simp [*, errW_none, errW_some] <;> rfl), bl_ HB⟩
def couple_part.f (a0 : Int) (a1 : Int) : Option (Int × Int) := if a0 > 0 then (if a1 > 0 then (some (a0, wrap64 (a0 + (wrap64 (-a1))))) else (some (wrap64 (a0 - (wrap64 (-a1))), a0))) else (if a1 > 0 then (some (a0, wrap64 (a0 + a1))) else (some (wrap64 (a0 - a1), a0)))
set_option maxHeartbeats 8000000 in
set_option maxRecDepth 100000 in
theorem couple_part.calls (a0 : Int) (a1 : Int) (r1 : Int) (r2 : Int) (w : World) (h : couple_part.f a0 a1 = some (r1, r2)) :
    Calls Try.prog 93 #[.int .i64 a0, .int .i64 a1] w fun e w' => e = .returned (.tuple #[.int .i64 r1, .int .i64 r2]) ∧ Drawn0 w w' := by
 have H : (if a0 > 0 then (if a1 > 0 then (some (a0, wrap64 (a0 + (wrap64 (-a1))))) else (some (wrap64 (a0 - (wrap64 (-a1))), a0))) else (if a1 > 0 then (some (a0, wrap64 (a0 + a1))) else (some (wrap64 (a0 - a1), a0)))) = some (r1, r2) := h
 clear h
 by_cases c3 : a0 > 0
 {
 rw [if_pos c3] at H
 have c3b0 : decide (0 < a0) = true := decide_eq_true c3
 clear c3
 by_cases c4 : a1 > 0
 {
 rw [if_pos c4] at H
 have c4b0 : decide (0 < a1) = true := decide_eq_true c4
 clear c4
 simp only [Option.some.injEq, Prod.mk.injEq] at H
 obtain ⟨rfl, rfl⟩ := H
 go_enter Try.func93, Try.ntmps93
 go_wp2
 go_ret2
 exact ⟨by first | rfl | (simp; done) | (simp [*]; done), by repeat (first | exact Drawn0.refl _ | apply Drawn0.step)⟩}
 {
 rw [if_neg c4] at H
 have c4b0 : decide (0 < a1) = false := decide_eq_false c4
 clear c4
 simp only [Option.some.injEq, Prod.mk.injEq] at H
 obtain ⟨rfl, rfl⟩ := H
 go_enter Try.func93, Try.ntmps93
 go_wp2
 go_ret2
 exact ⟨by first | rfl | (simp; done) | (simp [*]; done), by repeat (first | exact Drawn0.refl _ | apply Drawn0.step)⟩}}
 {
 rw [if_neg c3] at H
 have c3b0 : decide (0 < a0) = false := decide_eq_false c3
 clear c3
 by_cases c5 : a1 > 0
 {
 rw [if_pos c5] at H
 have c5b0 : decide (0 < a1) = true := decide_eq_true c5
 clear c5
 simp only [Option.some.injEq, Prod.mk.injEq] at H
 obtain ⟨rfl, rfl⟩ := H
 go_enter Try.func93, Try.ntmps93
 go_wp2
 go_ret2
 exact ⟨by first | rfl | (simp; done) | (simp [*]; done), by repeat (first | exact Drawn0.refl _ | apply Drawn0.step)⟩}
 {
 rw [if_neg c5] at H
 have c5b0 : decide (0 < a1) = false := decide_eq_false c5
 clear c5
 simp only [Option.some.injEq, Prod.mk.injEq] at H
 obtain ⟨rfl, rfl⟩ := H
 go_enter Try.func93, Try.ntmps93
 go_wp2
 go_ret2
 exact ⟨by first | rfl | (simp; done) | (simp [*]; done), by repeat (first | exact Drawn0.refl _ | apply Drawn0.step)⟩}}
def num_Clamp.f (a0 : Int) (a1 : Int) (a2 : Int) : Option (Int) := if a0 < a1 then (some a1) else (if a0 > a2 then (some a2) else (some a0))
set_option maxHeartbeats 8000000 in
set_option maxRecDepth 100000 in
theorem num_Clamp.calls (a0 : Int) (a1 : Int) (a2 : Int) (r : Int) (w : World) (h : num_Clamp.f a0 a1 a2 = some r) :
    Calls Try.prog 73 #[.int .i64 a0, .int .i64 a1, .int .i64 a2] w fun e w' => e = .returned (.int .i64 r) ∧ Drawn0 w w' := by
 have H : (if a0 < a1 then (some a1) else (if a0 > a2 then (some a2) else (some a0))) = some r := h
 clear h
 by_cases c4 : a0 < a1
 {
 rw [if_pos c4] at H
 have c4b0 : decide (a0 < a1) = true := decide_eq_true c4
 clear c4
 obtain rfl := Option.some.inj H
 go_enter Try.func73, Try.ntmps73
 go_wp2
 go_ret
 exact ⟨by first | rfl | (simp; done) | (simp [*]; done), by repeat (first | exact Drawn0.refl _ | apply Drawn0.step)⟩}
 {
 rw [if_neg c4] at H
 have c4b0 : decide (a0 < a1) = false := decide_eq_false c4
 clear c4
 by_cases c5 : a0 > a2
 {
 rw [if_pos c5] at H
 have c5b0 : decide (a2 < a0) = true := decide_eq_true c5
 clear c5
 obtain rfl := Option.some.inj H
 go_enter Try.func73, Try.ntmps73
 go_wp2
 go_ret
 exact ⟨by first | rfl | (simp; done) | (simp [*]; done), by repeat (first | exact Drawn0.refl _ | apply Drawn0.step)⟩}
 {
 rw [if_neg c5] at H
 have c5b0 : decide (a2 < a0) = false := decide_eq_false c5
 clear c5
 obtain rfl := Option.some.inj H
 go_enter Try.func73, Try.ntmps73
 go_wp2
 go_ret
 exact ⟨by first | rfl | (simp; done) | (simp [*]; done), by repeat (first | exact Drawn0.refl _ | apply Drawn0.step)⟩}}
def couple_within.l0 : Nat → Int → List Int → Int → Int → Option (Bool)
  | 0, _, _, _, _ => none
  | k + 1, x0, x7, x8, x9 => if x9 < x8 then (if 0 ≤ x9 then (if x9 < (x7.length : Int) then ((num_Clamp.f (rd x7 x9) (wrap64 (-x0)) x0).bind fun t161 => (if (rd x7 x9) = t161 then (couple_within.l0 k x0 x7 x8 (wrap64 (x9 + 1))) else (some false))) else (none)) else (none)) else (some true)
def couple_within.f (k : Nat) (a0 : Int) (l1 : List Int) : Option (Bool) := couple_within.l0 k a0 l1 (l1.length : Int) 0
theorem couple_within.mono_l : ∀ k, (∀ y0 y1 y2 y3, LeO (couple_within.l0 k y0 y1 y2 y3) (couple_within.l0 (k + 1) y0 y1 y2 y3))
  | 0 => fun _ _ _ _ r h => by simp [couple_within.l0] at h
  | k + 1 => by
    have ih0 := couple_within.mono_l k
    · intro y0 y1 y2 y3
      unfold couple_within.l0
      with_reducible repeat' first
   | exact ih0 _ _ _ _
   | exact LeO.refl _
   | exact LeO.none _
   | refine LeO.ite ?_ ?_
   | refine LeO.bind ?_ (fun _ => ?_)
theorem couple_within.mono : ∀ a0 a1 k, LeO (couple_within.f k a0 a1) (couple_within.f (k + 1) a0 a1) := by
  intro a0 a1 k
  have ih0 := couple_within.mono_l k
  unfold couple_within.f
  with_reducible repeat' first
   | exact ih0 _ _ _ _
   | exact LeO.refl _
   | exact LeO.none _
   | refine LeO.ite ?_ ?_
   | refine LeO.bind ?_ (fun _ => ?_)
set_option maxHeartbeats 8000000 in
set_option maxRecDepth 100000 in
theorem couple_within.calls (k : Nat) (a0 : Int) (A1 : Option Addr) (c1 : Nat) (l1 : List Int) (r : Bool) (w : World) (hr1 : Kd.C (Kd.int .i64) w A1 l1.length l1) (hc1 : l1.length ≤ c1) (h : couple_within.f k a0 l1 = some r) :
    Calls Try.prog 111 #[.int .i64 a0, .slice A1 l1.length c1] w fun e w' => e = .returned (.bool r) ∧ Drawn0 w w' := by
 have HR1 := Aside0.mk hr1
 have HC1 := Aside0.mk hc1
 clear hr1 hc1
 have H : (couple_within.l0 k a0 l1 (l1.length : Int) 0) = some r := h
 clear h
 have H' := Aside0.mk H
 clear H
 go_enter Try.func111, Try.ntmps111
 go_wp2
 go_loopg [9] k (fun kq v9 w' => ∃ (x9_1 : Int), v9 = .int .i64 x9_1 ∧ Aside0 (couple_within.l0 kq a0 l1 (l1.length : Int) x9_1 = some r) ∧ Aside0 (kq ≤ k) ∧ Drawn0 w w')
 case atStart => exact ⟨(0), rs_, H', ⟨Nat.le_refl _⟩, by repeat (first | exact Drawn0.refl _ | apply Drawn0.step)⟩
 case round => (
 clear H'
 obtain ⟨x9_1, rfl, HA, HK1, ⟨m1, rfl⟩⟩ := hrel
 cases gk with
 | zero => exact absurd HA.out (by simp [couple_within.l0])
 | succ k1 => (
 have H := HA.out
 clear HA
 simp only [couple_within.l0] at H
 by_cases c3 : x9_1 < (l1.length : Int)
 {
 rw [if_pos c3] at H
 have c3b0 : decide (x9_1 < (l1.length : Int)) = true := decide_eq_true c3
 clear c3
 by_cases c4 : 0 ≤ x9_1
 {
 rw [if_pos c4] at H
 have c4b0 : decide (0 ≤ x9_1) = true := decide_eq_true c4
 clear c4
 by_cases c5 : x9_1 < (l1.length : Int)
 {
 rw [if_pos c5] at H
 have c5b0 : decide (x9_1 < (l1.length : Int)) = true := decide_eq_true c5
 clear c5
 obtain ⟨t161, A6, H⟩ := ob_ H
 (try dsimp only at H)
 by_cases c7 : (rd l1 x9_1) = t161
 {
 rw [if_pos c7] at H
 have c7b0 : ((rd l1 x9_1) == t161) = true := beq_iff_eq.mpr c7
 have c7b1 : ((rd l1 x9_1) != t161) = false := bne_eq_false_iff_eq.mpr c7
 clear c7
 have H' := Aside0.mk H
 clear H
 have p160 : 0 ≤ (x9_1 : Int) := of_decide_eq_true am_
 have q160 : x9_1 < (l1.length : Int) := of_decide_eq_true am_
 obtain ⟨ad160, e160, hx160_0⟩ := Kd.at_int HR1.out x9_1 p160 q160
 cases e160
 replace p160 := eq_true p160
 replace q160 := eq_true q160
 go_wp2_with (first | ((with_reducible refine gate_callee (f := 73) rfl ?_); refine gL_ (some 18) Try.func73 #[.int .i64 (rd l1 x9_1), .int .i64 (wrap64 (-a0)), .int .i64 a0] ?_; (with_reducible refine (num_Clamp.calls (rd l1 x9_1) (wrap64 (-a0)) a0 t161 _ A6.out).mono ?_); rintro e w' ⟨rfl, ⟨nd, rfl⟩⟩; refine ⟨_, rfl, ?_⟩))
 go_roundg k1
 case measure => have := HK1.out; omega
 case rel => exact ⟨(wrap64 (x9_1 + 1)), rs_, H', ⟨by have := HK1.out; omega⟩, by repeat (first | exact Drawn0.refl _ | apply Drawn0.step)⟩}
 {
 rw [if_neg c7] at H
 have c7b0 : ((rd l1 x9_1) == t161) = false := beq_eq_false_iff_ne.mpr c7
 have c7b1 : ((rd l1 x9_1) != t161) = true := bne_iff_ne.mpr c7
 obtain rfl := Option.some.inj H
 have p160 : 0 ≤ (x9_1 : Int) := of_decide_eq_true am_
 have q160 : x9_1 < (l1.length : Int) := of_decide_eq_true am_
 obtain ⟨ad160, e160, hx160_0⟩ := Kd.at_int HR1.out x9_1 p160 q160
 cases e160
 replace p160 := eq_true p160
 replace q160 := eq_true q160
 go_wp2_with (first | ((with_reducible refine gate_callee (f := 73) rfl ?_); refine gL_ (some 18) Try.func73 #[.int .i64 (rd l1 x9_1), .int .i64 (wrap64 (-a0)), .int .i64 a0] ?_; (with_reducible refine (num_Clamp.calls (rd l1 x9_1) (wrap64 (-a0)) a0 t161 _ A6.out).mono ?_); rintro e w' ⟨rfl, ⟨nd, rfl⟩⟩; refine ⟨_, rfl, ?_⟩))
 go_ret
 exact ⟨by first | rfl | (simp; done) | (simp [*]; done), by repeat (first | exact Drawn0.refl _ | apply Drawn0.step)⟩}}
 {
 rw [if_neg c5] at H
 exact absurd H (by simp)}}
 {
 rw [if_neg c4] at H
 exact absurd H (by simp)}}
 {
 rw [if_neg c3] at H
 have c3b0 : decide (x9_1 < (l1.length : Int)) = false := decide_eq_false c3
 clear c3
 obtain rfl := Option.some.inj H
 go_wp2
 go_ret
 exact ⟨by first | rfl | (simp; done) | (simp [*]; done), by repeat (first | exact Drawn0.refl _ | apply Drawn0.step)⟩}))
def couple_way_one_by_couple_part.f (k : Nat) (a0_0 : Int) (a1 : Int) (a2 : Int) : Option (Int × Int × Int) := (couple_within.f k a0_0 (([a1, a2] : List Int))).bind fun t166 => (if t166 = true then ((couple_part.f a1 a2).bind fun bt167 => (some (bt167.1, bt167.2, 0))) else (some (0, 0, 1)))
theorem couple_way_one_by_couple_part.mono : ∀ a0 a1 a2 k, LeO (couple_way_one_by_couple_part.f k a0 a1 a2) (couple_way_one_by_couple_part.f (k + 1) a0 a1 a2) := by
  intro a0 a1 a2 k
  unfold couple_way_one_by_couple_part.f
  with_reducible repeat' first
   | exact couple_within.mono _ _ _
   | exact LeO.refl _
   | exact LeO.none _
   | refine LeO.ite ?_ ?_
   | refine LeO.bind ?_ (fun _ => ?_)
set_option maxHeartbeats 8000000 in
set_option maxRecDepth 100000 in
theorem couple_way_one_by_couple_part.calls (k : Nat) (a0_0 : Int) (a1 : Int) (a2 : Int) (r1 : Int) (r2 : Int) (r3 : Int) (w : World) (h : couple_way_one_by_couple_part.f k a0_0 a1 a2 = some (r1, r2, r3)) :
    Calls Try.prog 94 #[.agg #[.int .i64 a0_0, .func (.func 93) #[] #[]], .int .i64 a1, .int .i64 a2] w fun e w' => e = .returned (.tuple #[.int .i64 r1, .int .i64 r2, .int .i64 r3]) ∧ Below w.heap.size w w' := by
 have hu101 := Try.underlying101
 have HB := Aside0.mk (Below.refl w.heap.size w)
 have H : ((couple_within.f k a0_0 (([a1, a2] : List Int))).bind fun t166 => (if t166 = true then ((couple_part.f a1 a2).bind fun bt167 => (some (bt167.1, bt167.2, 0))) else (some (0, 0, 1)))) = some (r1, r2, r3) := h
 clear h
 obtain ⟨y163, hy163⟩ : ∃ y_ : List Int, y_ = (([a1, a2] : List Int)) := ⟨_, rfl⟩
 replace H : ((couple_within.f k a0_0 y163).bind fun t166 => (if t166 = true then ((couple_part.f a1 a2).bind fun bt167 => (some (bt167.1, bt167.2, 0))) else (some (0, 0, 1)))) = some (r1, r2, r3) := by first | (rw [hy163]; with_reducible exact H) | (have H2_ := (Option.bind_some _ _).symm.trans H; rw [hy163]; with_reducible exact H2_) | (have H2_ := (Option.bind_some _ _).symm.trans H; with_reducible exact H2_) | with_reducible exact H | (rw [hy163]; exact H) | exact H
 have Ny163 := Aside0.mk hy163
 clear hy163
 obtain ⟨t166, A4, H⟩ := ob_ H
 (try dsimp only at H)
 by_cases c5 : t166 = true
 {
 subst c5
 rw [if_pos rfl] at H
 obtain ⟨⟨t167, t168⟩, A6, H⟩ := ob_ H
 (try dsimp only at H)
 simp only [Option.some.injEq, Prod.mk.injEq] at H
 obtain ⟨rfl, rfl, rfl⟩ := H
 go_enter Try.func94, Try.ntmps94
 go_wp2_with (first | ((with_reducible refine gate_dst (N := 3) rfl ?_); refine bx_ HB 3 #[.int .i64 a0_0, .func (.func 93) #[] #[]] 101 ?_; clear HB; intro gb162 hg w7 hb BK162 GE162 HB; have GW162 := GE162; clear hb hg; obtain ⟨hcz8_0, hcz8_1, hfz8_0, hfz8_1⟩ := e2_ BK162) | ((with_reducible refine gate_dst (N := 15) rfl ?_); refine Kd.R_lit (Kd.int .i64) _ 2 ?hg (N := 15) ?hd (xs := ([a1, a2] : List Int)) (inner := [.int .i64 a1, .int .i64 a2]) (ok := fun _ => True) (okp := fun _ => True) ?hr ?hp (fun _ hk => hk) trivial (Below.refl _ _) (Nat.le_refl _) (by simp) ?_; (case hd => rfl); (case hg => rfl); (case hr => first | (go_simp; done) | (go_simp; rfl)); (case hp => exact (Reps.one (show Kd.M (Kd.int .i64) _ _ _ a1 [.int .i64 a1] from rfl) (Reps.one (show Kd.M (Kd.int .i64) _ _ _ a2 [.int .i64 a2] from rfl) (Reps.none _ _)))); intro v164 w9 ho10 hb hg_ hnew_; clear hg_ hnew_; (first | rw [← Ny163.out] at ho10 | (simp only [Int.reduceToNat] at ho10; rw [← Ny163.out] at ho10)); have HO165 := Aside0.mk (Kd.R_lower ho10 (bs_ HB)); replace BK162 := FB_ BK162 hb; replace HB := BS_ HB hb; clear hb ho10; obtain ⟨Ao11, co11, eo11⟩ := Kd.R_slice HO165.out; subst eo11) | ((with_reducible refine gate_callee (f := 111) rfl ?_); refine gL_ (some 16) Try.func111 #[.int .i64 a0_0, .slice Ao11 y163.length co11] ?_; (with_reducible refine (couple_within.calls k a0_0 _ _ y163 true _ ?side1 ?side2 A4.out).mono ?_); (case side1 => exact kCt_ (Kd.R_reads' HO165.out).2.2); (case side2 => exact (Kd.R_reads' HO165.out).2.1); rintro e w' ⟨rfl, ⟨nd, rfl⟩⟩; refine ⟨_, rfl, ?_⟩; obtain ⟨hcz12_0, hcz12_1, hfz12_0, hfz12_1⟩ := e2_ BK162) | (go_at_call 93; (with_reducible refine (couple_part.calls a1 a2 t167 t168 _ A6.out).mono ?_); rintro e w' ⟨rfl, ⟨nd, rfl⟩⟩))
 go_ret3
 exact ⟨by first | rfl | (simp [errW_none, errW_some] <;> rfl) | (simp [*, errW_none, errW_some] <;> rfl), bl_ HB⟩}
 {
 replace c5 := Bool.eq_false_iff.mpr c5
 subst c5
 rw [if_neg (show ¬ (false = true) by decide)] at H
 simp only [Option.some.injEq, Prod.mk.injEq] at H
 obtain ⟨rfl, rfl, rfl⟩ := H
 go_enter Try.func94, Try.ntmps94
 go_wp2_with (first | ((with_reducible refine gate_dst (N := 3) rfl ?_); refine bx_ HB 3 #[.int .i64 a0_0, .func (.func 93) #[] #[]] 101 ?_; clear HB; intro gb162 hg w13 hb BK162 GE162 HB; have GW162 := GE162; clear hb hg; obtain ⟨hcz14_0, hcz14_1, hfz14_0, hfz14_1⟩ := e2_ BK162) | ((with_reducible refine gate_dst (N := 15) rfl ?_); refine Kd.R_lit (Kd.int .i64) _ 2 ?hg (N := 15) ?hd (xs := ([a1, a2] : List Int)) (inner := [.int .i64 a1, .int .i64 a2]) (ok := fun _ => True) (okp := fun _ => True) ?hr ?hp (fun _ hk => hk) trivial (Below.refl _ _) (Nat.le_refl _) (by simp) ?_; (case hd => rfl); (case hg => rfl); (case hr => first | (go_simp; done) | (go_simp; rfl)); (case hp => exact (Reps.one (show Kd.M (Kd.int .i64) _ _ _ a1 [.int .i64 a1] from rfl) (Reps.one (show Kd.M (Kd.int .i64) _ _ _ a2 [.int .i64 a2] from rfl) (Reps.none _ _)))); intro v164 w15 ho16 hb hg_ hnew_; clear hg_ hnew_; (first | rw [← Ny163.out] at ho16 | (simp only [Int.reduceToNat] at ho16; rw [← Ny163.out] at ho16)); have HO165 := Aside0.mk (Kd.R_lower ho16 (bs_ HB)); replace BK162 := FB_ BK162 hb; replace HB := BS_ HB hb; clear hb ho16; obtain ⟨Ao17, co17, eo17⟩ := Kd.R_slice HO165.out; subst eo17) | ((with_reducible refine gate_callee (f := 111) rfl ?_); refine gL_ (some 16) Try.func111 #[.int .i64 a0_0, .slice Ao17 y163.length co17] ?_; (with_reducible refine (couple_within.calls k a0_0 _ _ y163 false _ ?side1 ?side2 A4.out).mono ?_); (case side1 => exact kCt_ (Kd.R_reads' HO165.out).2.2); (case side2 => exact (Kd.R_reads' HO165.out).2.1); rintro e w' ⟨rfl, ⟨nd, rfl⟩⟩; refine ⟨_, rfl, ?_⟩))
 go_ret3
 exact ⟨by first | rfl | (simp [errW_none, errW_some] <;> rfl) | (simp [*, errW_none, errW_some] <;> rfl), bl_ HB⟩}
def couple_way_all_by_couple_part.l0 : Nat → List Int → List Int → List Int → List Int → Int → Int → Int → Option (List Int × List Int × Int)
  | 0, _, _, _, _, _, _, _ => none
  | k + 1, x1, x2, x9, x10, x21, x22, x170000 => if x22 < x21 then (if 0 ≤ x22 then (if x22 < (x1.length : Int) then (if x22 < (x2.length : Int) then ((couple_way_one_by_couple_part.f k x170000 (rd x1 x22) (rd x2 x22)).bind fun bt172 => (if bt172.2.2 = 0 then (if x9.length < 17592186044416 then (if x10.length < 17592186044416 then (couple_way_all_by_couple_part.l0 k x1 x2 (x9 ++ [bt172.1]) (x10 ++ [bt172.2.1]) x21 (wrap64 (x22 + 1)) x170000) else (none)) else (none)) else (some (([] : List Int), ([] : List Int), bt172.2.2)))) else (none)) else (none)) else (none)) else (some (x9, x10, 0))
def couple_way_all_by_couple_part.f (k : Nat) (a0_0 : Int) (l1 : List Int) (l2 : List Int) : Option (List Int × List Int × Int) := if (l1.length : Int) = (l2.length : Int) then (couple_way_all_by_couple_part.l0 k l1 l2 ([] : List Int) ([] : List Int) (l1.length : Int) 0 a0_0) else (some (([] : List Int), ([] : List Int), 1))
theorem couple_way_all_by_couple_part.mono_l : ∀ k, (∀ y0 y1 y2 y3 y4 y5 y6, LeO (couple_way_all_by_couple_part.l0 k y0 y1 y2 y3 y4 y5 y6) (couple_way_all_by_couple_part.l0 (k + 1) y0 y1 y2 y3 y4 y5 y6))
  | 0 => fun _ _ _ _ _ _ _ r h => by simp [couple_way_all_by_couple_part.l0] at h
  | k + 1 => by
    have ih0 := couple_way_all_by_couple_part.mono_l k
    · intro y0 y1 y2 y3 y4 y5 y6
      unfold couple_way_all_by_couple_part.l0
      with_reducible repeat' first
   | exact ih0 _ _ _ _ _ _ _
   | exact couple_way_one_by_couple_part.mono _ _ _ _
   | exact LeO.refl _
   | exact LeO.none _
   | refine LeO.ite ?_ ?_
   | refine LeO.bind ?_ (fun _ => ?_)
theorem couple_way_all_by_couple_part.mono : ∀ a0 a1 a2 k, LeO (couple_way_all_by_couple_part.f k a0 a1 a2) (couple_way_all_by_couple_part.f (k + 1) a0 a1 a2) := by
  intro a0 a1 a2 k
  have ih0 := couple_way_all_by_couple_part.mono_l k
  unfold couple_way_all_by_couple_part.f
  with_reducible repeat' first
   | exact ih0 _ _ _ _ _ _ _
   | exact couple_way_one_by_couple_part.mono _ _ _ _
   | exact LeO.refl _
   | exact LeO.none _
   | refine LeO.ite ?_ ?_
   | refine LeO.bind ?_ (fun _ => ?_)
def couple_way_all_by_couple_part.T7 : Bool × List (List Nat × List Nat) := (true, [([], []), ([], []), ([], []), ([1, 2], [1, 2]), ([3], [3]), ([], []), ([], []), ([5, 6], [5, 6]), ([7], [7]), ([0, 4, 8], [0, 4, 8]), ([9], [9]), ([10], [10]), ([10], [10]), ([10], [10]), ([11, 9, 0, 1, 2, 3, 4, 5, 6, 7, 8, 9, 10, 11], [11]), ([12, 14, 0, 1, 2, 3, 4, 5, 6, 7, 8, 9, 10, 11, 12, 14], [12]), ([13, 15, 0, 1, 2, 3, 4, 5, 6, 7, 8, 9, 10, 11, 12, 13, 14, 15], [13])])
def couple_way_all_by_couple_part.B7 : List Nat := [0, 0, 0, 6, 14, 0, 0, 96, 224, 511, 1023, 2047, 2047, 2047, 4095, 24575, 65535]
theorem couple_way_all_by_couple_part.tab7 : rtab .any (opsOf Try.f67 7) = couple_way_all_by_couple_part.T7 := by kernel_rfl
theorem couple_way_all_by_couple_part.bits7 : waitsOk couple_way_all_by_couple_part.T7.2 couple_way_all_by_couple_part.B7 = true := by kernel_rfl
set_option maxHeartbeats 8000000 in
set_option maxRecDepth 100000 in
theorem couple_way_all_by_couple_part.calls (k : Nat) (a0_0 : Int) (A1 : Option Addr) (c1 : Nat) (l1 : List Int) (A2 : Option Addr) (c2 : Nat) (l2 : List Int) (r1 : List Int) (r2 : List Int) (r3 : Int) (w : World) (hr1 : Kd.C (Kd.int .i64) w A1 l1.length l1) (hc1 : l1.length ≤ c1) (hr2 : Kd.C (Kd.int .i64) w A2 l2.length l2) (hc2 : l2.length ≤ c2) (h : couple_way_all_by_couple_part.f k a0_0 l1 l2 = some (r1, r2, r3)) :
    Calls Try.prog 67 #[.agg #[.int .i64 a0_0, .func (.func 93) #[] #[]], .slice A1 l1.length c1, .slice A2 l2.length c2] w fun e w' => ∃ v0_ v1_ : Value, e = .returned (.tuple #[v0_, v1_, .int .i64 r3]) ∧ Kd.R (Kd.int .i64) 2 w' w.heap.size (fun k_ => some k_ ≠ (v1_ : Value).ownBlock) v0_ r1 ∧ Kd.R (Kd.int .i64) 2 w' w.heap.size (fun k_ => some k_ ≠ (v0_ : Value).ownBlock) v1_ r2 ∧ Below w.heap.size w w' := by
 have hu101 := Try.underlying101
 have HR1 := Aside0.mk hr1
 have HC1 := Aside0.mk hc1
 clear hr1 hc1
 have HR2 := Aside0.mk hr2
 have HC2 := Aside0.mk hc2
 clear hr2 hc2
 have HB := Aside0.mk (Below.refl w.heap.size w)
 have H : (if (l1.length : Int) = (l2.length : Int) then (couple_way_all_by_couple_part.l0 k l1 l2 ([] : List Int) ([] : List Int) (l1.length : Int) 0 a0_0) else (some (([] : List Int), ([] : List Int), 1))) = some (r1, r2, r3) := h
 clear h
 by_cases c4 : (l1.length : Int) = (l2.length : Int)
 {
 rw [if_pos c4] at H
 have c4b0 : ((l1.length : Int) == (l2.length : Int)) = true := beq_iff_eq.mpr c4
 have c4b1 : ((l1.length : Int) != (l2.length : Int)) = false := bne_eq_false_iff_eq.mpr c4
 have c4b2 : (l1.length == l2.length) = true := by first | simpa using c4 | (simp at c4 ⊢; omega)
 clear c4
 have H' := Aside0.mk H
 clear H
 go_enter Try.func67, Try.ntmps67
 go_wp2_with (first | ((with_reducible refine gate_dst (N := 3) rfl ?_); refine bx_ HB 3 #[.int .i64 a0_0, .func (.func 93) #[] #[]] 101 ?_; clear HB; intro gb169 hg w5 hb BK169 GE169 HB; have GW169 := GE169; clear hb hg))
 go_loopg [9, 10, 22] k (fun kq v9 v10 v22 w' => ∃ (x9_1 : List Int) (x10_1 : List Int) (x22_1 : Int), v22 = .int .i64 x22_1 ∧ Aside0 (couple_way_all_by_couple_part.l0 kq l1 l2 x9_1 x10_1 (l1.length : Int) x22_1 a0_0 = some (r1, r2, r3)) ∧ Aside0 (kq ≤ k) ∧ Aside0 (Kd.R (Kd.int .i64) 2 w' w.heap.size (fun k_ => some k_ ≠ (v10 : Value).ownBlock) v9 x9_1) ∧ Aside0 (Kd.R (Kd.int .i64) 2 w' w.heap.size (fun k_ => some k_ ≠ (v9 : Value).ownBlock) v10 x10_1) ∧ Aside0 (w'.heap[gb169]? = some (.cells #[.int .i64 a0_0, .func (.func 93) #[] #[]] 101 (0, 0))) ∧ Aside0 (Below w.heap.size w w'))
 case atStart => exact ⟨(([] : List Int)), (([] : List Int)), (0), rs_, H', ⟨Nat.le_refl _⟩, ⟨by first | exact Kd.R_nil _ _ _ _ _ | exact Kd.N_nil _ _ _ _ _ | exact Kd.V_nil _ _ _ _ _ | exact Kd.Q_nil _ _ _ _ _ | exact Kd.S_nil _ _ _ _ _⟩, ⟨by first | exact Kd.R_nil _ _ _ _ _ | exact Kd.N_nil _ _ _ _ _ | exact Kd.V_nil _ _ _ _ _ | exact Kd.Q_nil _ _ _ _ _ | exact Kd.S_nil _ _ _ _ _⟩, ⟨bk_ BK169⟩, ⟨bl_ HB⟩⟩
 case round => (
 clear H'
 try clear c4
 try clear c4b0
 try clear c4b1
 try clear c4b2
 obtain ⟨x9_1, x10_1, x22_1, rfl, HA, HK1, HO_9, HO_10, BK169, HB⟩ := hrel
 cases gk with
 | zero => exact absurd HA.out (by simp [couple_way_all_by_couple_part.l0])
 | succ k1 => (
 have H := HA.out
 clear HA
 simp only [couple_way_all_by_couple_part.l0] at H
 by_cases c6 : x22_1 < (l1.length : Int)
 {
 rw [if_pos c6] at H
 have c6b0 : decide (x22_1 < (l1.length : Int)) = true := decide_eq_true c6
 clear c6
 by_cases c7 : 0 ≤ x22_1
 {
 rw [if_pos c7] at H
 have c7b0 : decide (0 ≤ x22_1) = true := decide_eq_true c7
 clear c7
 by_cases c8 : x22_1 < (l1.length : Int)
 {
 rw [if_pos c8] at H
 have c8b0 : decide (x22_1 < (l1.length : Int)) = true := decide_eq_true c8
 clear c8
 by_cases c9 : x22_1 < (l2.length : Int)
 {
 rw [if_pos c9] at H
 have c9b0 : decide (x22_1 < (l2.length : Int)) = true := decide_eq_true c9
 clear c9
 obtain ⟨⟨t172, t173, t174⟩, A10, H⟩ := ob_ H
 (try dsimp only at H)
 by_cases c11 : t174 = 0
 {
 rw [if_pos c11] at H
 have c11b0 : (t174 == 0) = true := beq_iff_eq.mpr c11
 have c11b1 : (t174 != 0) = false := bne_eq_false_iff_eq.mpr c11
 clear c11
 by_cases c12 : x9_1.length < 17592186044416
 {
 rw [if_pos c12] at H
 have LMc12 := Aside0.mk c12
 clear c12
 obtain ⟨y175, hy175⟩ : ∃ y_ : List Int, y_ = (x9_1 ++ [t172]) := ⟨_, rfl⟩
 replace H : (if x10_1.length < 17592186044416 then (couple_way_all_by_couple_part.l0 k1 l1 l2 y175 (x10_1 ++ [t173]) (l1.length : Int) (wrap64 (x22_1 + 1)) a0_0) else (none)) = some (r1, r2, r3) := by first | (rw [hy175]; with_reducible exact H) | (have H2_ := (Option.bind_some _ _).symm.trans H; rw [hy175]; with_reducible exact H2_) | (have H2_ := (Option.bind_some _ _).symm.trans H; with_reducible exact H2_) | with_reducible exact H | (rw [hy175]; exact H) | exact H
 have Ny175 := Aside0.mk hy175
 clear hy175
 by_cases c13 : x10_1.length < 17592186044416
 {
 rw [if_pos c13] at H
 have LMc13 := Aside0.mk c13
 clear c13
 obtain ⟨y178, hy178⟩ : ∃ y_ : List Int, y_ = (x10_1 ++ [t173]) := ⟨_, rfl⟩
 replace H : (couple_way_all_by_couple_part.l0 k1 l1 l2 y175 y178 (l1.length : Int) (wrap64 (x22_1 + 1)) a0_0) = some (r1, r2, r3) := by first | (rw [hy178]; with_reducible exact H) | (have H2_ := (Option.bind_some _ _).symm.trans H; rw [hy178]; with_reducible exact H2_) | (have H2_ := (Option.bind_some _ _).symm.trans H; with_reducible exact H2_) | with_reducible exact H | (rw [hy178]; exact H) | exact H
 have Ny178 := Aside0.mk hy178
 clear hy178
 have H' := Aside0.mk H
 clear H
 try go_wp2
 replace HO_9 := Aside0.mk (Kd.R_drew HO_9.out)
 replace HO_10 := Aside0.mk (Kd.R_drew HO_10.out)
 replace BK169 := Aside0.mk (blk_drew BK169.out)
 replace HB := Aside0.mk (below_drew1 HB.out)
 have p170 : 0 ≤ (x22_1 : Int) := of_decide_eq_true am_
 have q170 : x22_1 < (l1.length : Int) := of_decide_eq_true am_
 obtain ⟨ad170, e170, hx170_0⟩ := Kd.at_int HR1.out x22_1 p170 q170
 have hw170_0 := hx170_0
 cases e170
 replace hx170_0 := (HB.out.cell (World.block_lt_of_cell? w _ hx170_0)).trans hx170_0
 replace p170 := eq_true p170
 replace q170 := eq_true q170
 have p171 : 0 ≤ (x22_1 : Int) := of_decide_eq_true am_
 have q171 : x22_1 < (l2.length : Int) := of_decide_eq_true am_
 obtain ⟨ad171, e171, hx171_0⟩ := Kd.at_int HR2.out x22_1 p171 q171
 have hw171_0 := hx171_0
 cases e171
 replace hx171_0 := (HB.out.cell (World.block_lt_of_cell? w _ hx171_0)).trans hx171_0
 replace p171 := eq_true p171
 replace q171 := eq_true q171
 refine start_ (n := 17) (S := fun w' => w'.cell? ⟨gb169, 0, none⟩ = some (.int .i64 a0_0) ∧ w'.cell? ⟨gb169, 1, none⟩ = some (.func (.func 93) #[] #[]) ∧ w'.cell? (ad170.add (x22_1).toNat) = some (.int .i64 (rd l1 x22_1)) ∧ w'.cell? (ad171.add (x22_1).toNat) = some (.int .i64 (rd l2 x22_1))) (ds := []) (B_ 17 0) kf_ rfl rfl ⟨ce_ BK169 0, ce_ BK169 1, ((HB.out.cell (World.block_lt_of_cell? w _ hw170_0)).trans hw170_0), ((HB.out.cell (World.block_lt_of_cell? w _ hw171_0)).trans hw171_0)⟩ (fun hHeld => ?_); refine with_tabW couple_way_all_by_couple_part.tab7 couple_way_all_by_couple_part.bits7 (fun HT_ HW_ => ?_)
 generalize wr.drew = w14 at HO_9 HO_10 BK169 HB hx170_0 hx171_0 hHeld ⊢
 refine pu_ 1 (some 27) (B_ 17 2) HT_ ?_
 refine pu_ 2 (some 28) (B_ 17 6) HT_ ?_
 refine pu_ 3 (some 29) (B_ 17 14) HT_ ?_
 refine pu_ 5 (some 31) (B_ 17 46) HT_ ?_
 refine pu_ 6 (some 32) (B_ 17 110) HT_ ?_
 refine pu_ 7 (some 33) (B_ 17 238) HT_ ?_
 refine take_ (i := 0) (N := some 26) (v := ?_) (a' := ?_) (B_ 17 239) rfl rfl (take_ofW HT_.out HW_.out kf_) (fun _ _ _ h => h) (Or.inl ⟨by rfl, ?_⟩) hHeld ?_ ?_
 rotate_left
 {
 rintro w' ⟨s0, s1, s2, s3⟩
 go_simp
 with_reducible rfl}
 rotate_left
 {
 exact sp_}
 refine take_ (i := 4) (N := some 30) (v := ?_) (a' := ?_) (B_ 17 255) rfl rfl (take_ofW HT_.out HW_.out kf_) (fun _ _ _ h => h) (Or.inl ⟨by rfl, ?_⟩) hHeld ?_ ?_
 rotate_left
 {
 rintro w' ⟨s0, s1, s2, s3⟩
 go_simp
 with_reducible rfl}
 rotate_left
 {
 exact sp_}
 refine take_ (i := 8) (N := some 34) (v := ?_) (a' := ?_) (B_ 17 511) rfl rfl (take_ofW HT_.out HW_.out kf_) (fun _ _ _ h => h) (Or.inl ⟨by rfl, ?_⟩) hHeld ?_ ?_
 rotate_left
 {
 rintro w' ⟨s0, s1, s2, s3⟩
 go_simp
 with_reducible rfl}
 rotate_left
 {
 exact sp_}
 refine one_ (i := 9) (N := some 35) (B_ 17 1023) rfl rfl (one_of HT_.out kf_) (by decide) (fun K hK => ?_)
 refine goes_ Try.func94 kf_ rfl #[.agg #[.int .i64 a0_0, .func (.func 93) #[] #[]], .int .i64 (rd l1 x22_1), .int .i64 (rd l2 x22_1)] (by rfl) rfl rfl ar_ ?_
 with_reducible refine (couple_way_one_by_couple_part.calls k1 a0_0 (rd l1 x22_1) (rd l2 x22_1) t172 t173 t174 _ A10.out).mono ?_
 rintro e w15 ⟨rfl, hb⟩
 refine ⟨_, rfl, ?_⟩
 replace HO_9 := FR_ HO_9 hb
 replace HO_10 := FR_ HO_10 hb
 replace BK169 := FB_ BK169 hb
 replace HB := BS_ HB hb
 (try clear hb)
 refine hK.out _ _ ⟨ce_ BK169 0, ce_ BK169 1, ((HB.out.cell (World.block_lt_of_cell? w _ hw170_0)).trans hw170_0), ((HB.out.cell (World.block_lt_of_cell? w _ hw171_0)).trans hw171_0)⟩ (fun hHeld => ?_)
 clear hK K
 refine norm_ (a' := ?_) ?_ ?_
 rotate_left
 {
 show Act.put _ (some 35) _ = _
 exact sp_}
 refine pu_ 10 (some 25) (B_ 17 2047) HT_ ?_
 refine pu_ 11 (some 36) (B_ 17 4095) HT_ ?_
 refine pu_ 12 (some 37) (B_ 17 8191) HT_ ?_
 refine pu_ 13 (some 38) (B_ 17 16383) HT_ ?_
 refine pu_ 14 (some 12) (B_ 17 32767) HT_ ?_
 refine pu_ 15 (some 13) (B_ 17 65535) HT_ ?_
 refine pu_ 16 (some 14) (B_ 17 131071) HT_ ?_
 refine done_ (done_of HT_.out kf_) ?_
 try go_wp2_with (first | ((with_reducible refine gate_builtin (b := .append) (xs := #[.tmp 42, .tmp 44]) rfl ?_); at_builtin; refine Kd.R_append (Kd.int .i64) (w0 := w) w.heap.size rfl (.tmp 42) (.tmp 44) 53 2 (.int .i64 0) 8 rfl Try.underlying53 info2 rfl (by decide) (by omega) u9 x9_1 t172 [.int .i64 t172] (fun k_ => some k_ ≠ (u10 : Value).ownBlock) (fun _ => False) rfl rfl ?aP (fun _ hk => hk.elim) ?aF ?aO ?aB ?aS ?aL ?_; (case aP => exact rfl); (case aB => exact (bl_ HB)); (case aF => exact (fun k_ hk => Kd.fresh' (Kd.R_lt (kR_ HO_10)) k_ hk)); (case aO => exact (kR_ HO_9)); (case aS => exact (bs_ HB)); (case aL => have := LMc12.out; omega); intro v176 w16 ho hb hg hat; rw [← Ny175.out] at ho; replace HO_10 := Aside0.mk (Kd.R_after (ok := (fun _ => True)) (by (with_reducible repeat (first | apply Kd.R_alloc | apply Kd.R_drewN | apply Kd.R_drew)); exact Kd.R_mono HO_10.out (fun _ hk => ⟨trivial, hk⟩)) hg hat); replace BK169 := (FG_ BK169 hg (Kd.R_ne HO_9.out BK169.out (by decide))); replace HB := Aside0.mk (hb); have HO177 := Aside0.mk (ho); clear HO_9; clear ho hb hg hat) | ((with_reducible refine gate_builtin (b := .append) (xs := #[.tmp 46, .tmp 48]) rfl ?_); at_builtin; refine Kd.R_append (Kd.int .i64) (w0 := w) w.heap.size rfl (.tmp 46) (.tmp 48) 53 2 (.int .i64 0) 8 rfl Try.underlying53 info2 rfl (by decide) (by omega) u10 x10_1 t173 [.int .i64 t173] (fun k_ => some k_ ≠ (v176 : Value).ownBlock) (fun _ => False) rfl rfl ?aP (fun _ hk => hk.elim) ?aF ?aO ?aB ?aS ?aL ?_; (case aP => exact rfl); (case aB => exact (bl_ HB)); (case aF => exact (fun k_ hk => Kd.fresh' (Kd.R_lt (kR_ HO177)) k_ hk)); (case aO => exact (by (with_reducible repeat (first | apply Kd.R_alloc | apply Kd.R_drewN | apply Kd.R_drew)); exact Kd.R_mono HO_10.out (fun _ hk => hk.2))); (case aS => exact (bs_ HB)); (case aL => have := LMc13.out; omega); intro v179 w17 ho hb hg hat; rw [← Ny178.out] at ho; replace BK169 := (FG_ BK169 hg (Kd.R_ne HO_10.out BK169.out (by decide))); replace HO177 := Aside0.mk (Kd.R_after (ok := (fun _ => True)) (by (with_reducible repeat (first | apply Kd.R_alloc | apply Kd.R_drewN | apply Kd.R_drew)); exact Kd.R_mono HO177.out (fun _ hk => ⟨trivial, hk⟩)) hg hat); replace HB := Aside0.mk (hb); have HO180 := Aside0.mk (ho); clear HO_10; clear ho hb hg hat))
 go_roundg k1
 case measure => have := HK1.out; omega
 case rel => exact ⟨(y175), (y178), (wrap64 (x22_1 + 1)), rs_, H', ⟨by have := HK1.out; omega⟩, ⟨by (with_reducible repeat (first | apply Kd.R_alloc | apply Kd.R_drewN | apply Kd.R_drew)); exact Kd.R_mono HO177.out (fun _ hk => hk.2)⟩, ⟨kR_ HO180⟩, ⟨bk_ BK169⟩, ⟨bl_ HB⟩⟩}
 {
 rw [if_neg c13] at H
 exact absurd H (by simp)}}
 {
 rw [if_neg c12] at H
 exact absurd H (by simp)}}
 {
 rw [if_neg c11] at H
 have c11b0 : (t174 == 0) = false := beq_eq_false_iff_ne.mpr c11
 have c11b1 : (t174 != 0) = true := bne_iff_ne.mpr c11
 simp only [Option.some.injEq, Prod.mk.injEq] at H
 obtain ⟨rfl, rfl, rfl⟩ := H
 try go_wp2
 replace HO_9 := Aside0.mk (Kd.R_drew HO_9.out)
 replace HO_10 := Aside0.mk (Kd.R_drew HO_10.out)
 replace BK169 := Aside0.mk (blk_drew BK169.out)
 replace HB := Aside0.mk (below_drew1 HB.out)
 have p170 : 0 ≤ (x22_1 : Int) := of_decide_eq_true am_
 have q170 : x22_1 < (l1.length : Int) := of_decide_eq_true am_
 obtain ⟨ad170, e170, hx170_0⟩ := Kd.at_int HR1.out x22_1 p170 q170
 have hw170_0 := hx170_0
 cases e170
 replace hx170_0 := (HB.out.cell (World.block_lt_of_cell? w _ hx170_0)).trans hx170_0
 replace p170 := eq_true p170
 replace q170 := eq_true q170
 have p171 : 0 ≤ (x22_1 : Int) := of_decide_eq_true am_
 have q171 : x22_1 < (l2.length : Int) := of_decide_eq_true am_
 obtain ⟨ad171, e171, hx171_0⟩ := Kd.at_int HR2.out x22_1 p171 q171
 have hw171_0 := hx171_0
 cases e171
 replace hx171_0 := (HB.out.cell (World.block_lt_of_cell? w _ hx171_0)).trans hx171_0
 replace p171 := eq_true p171
 replace q171 := eq_true q171
 refine start_ (n := 17) (S := fun w' => w'.cell? ⟨gb169, 0, none⟩ = some (.int .i64 a0_0) ∧ w'.cell? ⟨gb169, 1, none⟩ = some (.func (.func 93) #[] #[]) ∧ w'.cell? (ad170.add (x22_1).toNat) = some (.int .i64 (rd l1 x22_1)) ∧ w'.cell? (ad171.add (x22_1).toNat) = some (.int .i64 (rd l2 x22_1))) (ds := []) (B_ 17 0) kf_ rfl rfl ⟨ce_ BK169 0, ce_ BK169 1, ((HB.out.cell (World.block_lt_of_cell? w _ hw170_0)).trans hw170_0), ((HB.out.cell (World.block_lt_of_cell? w _ hw171_0)).trans hw171_0)⟩ (fun hHeld => ?_); refine with_tabW couple_way_all_by_couple_part.tab7 couple_way_all_by_couple_part.bits7 (fun HT_ HW_ => ?_)
 generalize wr.drew = w18 at HO_9 HO_10 BK169 HB hx170_0 hx171_0 hHeld ⊢
 refine pu_ 1 (some 27) (B_ 17 2) HT_ ?_
 refine pu_ 2 (some 28) (B_ 17 6) HT_ ?_
 refine pu_ 3 (some 29) (B_ 17 14) HT_ ?_
 refine pu_ 5 (some 31) (B_ 17 46) HT_ ?_
 refine pu_ 6 (some 32) (B_ 17 110) HT_ ?_
 refine pu_ 7 (some 33) (B_ 17 238) HT_ ?_
 refine take_ (i := 0) (N := some 26) (v := ?_) (a' := ?_) (B_ 17 239) rfl rfl (take_ofW HT_.out HW_.out kf_) (fun _ _ _ h => h) (Or.inl ⟨by rfl, ?_⟩) hHeld ?_ ?_
 rotate_left
 {
 rintro w' ⟨s0, s1, s2, s3⟩
 go_simp
 with_reducible rfl}
 rotate_left
 {
 exact sp_}
 refine take_ (i := 4) (N := some 30) (v := ?_) (a' := ?_) (B_ 17 255) rfl rfl (take_ofW HT_.out HW_.out kf_) (fun _ _ _ h => h) (Or.inl ⟨by rfl, ?_⟩) hHeld ?_ ?_
 rotate_left
 {
 rintro w' ⟨s0, s1, s2, s3⟩
 go_simp
 with_reducible rfl}
 rotate_left
 {
 exact sp_}
 refine take_ (i := 8) (N := some 34) (v := ?_) (a' := ?_) (B_ 17 511) rfl rfl (take_ofW HT_.out HW_.out kf_) (fun _ _ _ h => h) (Or.inl ⟨by rfl, ?_⟩) hHeld ?_ ?_
 rotate_left
 {
 rintro w' ⟨s0, s1, s2, s3⟩
 go_simp
 with_reducible rfl}
 rotate_left
 {
 exact sp_}
 refine one_ (i := 9) (N := some 35) (B_ 17 1023) rfl rfl (one_of HT_.out kf_) (by decide) (fun K hK => ?_)
 refine goes_ Try.func94 kf_ rfl #[.agg #[.int .i64 a0_0, .func (.func 93) #[] #[]], .int .i64 (rd l1 x22_1), .int .i64 (rd l2 x22_1)] (by rfl) rfl rfl ar_ ?_
 with_reducible refine (couple_way_one_by_couple_part.calls k1 a0_0 (rd l1 x22_1) (rd l2 x22_1) t172 t173 t174 _ A10.out).mono ?_
 rintro e w19 ⟨rfl, hb⟩
 refine ⟨_, rfl, ?_⟩
 replace HO_9 := FR_ HO_9 hb
 replace HO_10 := FR_ HO_10 hb
 replace BK169 := FB_ BK169 hb
 replace HB := BS_ HB hb
 (try clear hb)
 refine hK.out _ _ ⟨ce_ BK169 0, ce_ BK169 1, ((HB.out.cell (World.block_lt_of_cell? w _ hw170_0)).trans hw170_0), ((HB.out.cell (World.block_lt_of_cell? w _ hw171_0)).trans hw171_0)⟩ (fun hHeld => ?_)
 clear hK K
 refine norm_ (a' := ?_) ?_ ?_
 rotate_left
 {
 show Act.put _ (some 35) _ = _
 exact sp_}
 refine pu_ 10 (some 25) (B_ 17 2047) HT_ ?_
 refine pu_ 11 (some 36) (B_ 17 4095) HT_ ?_
 refine pu_ 12 (some 37) (B_ 17 8191) HT_ ?_
 refine pu_ 13 (some 38) (B_ 17 16383) HT_ ?_
 refine pu_ 14 (some 12) (B_ 17 32767) HT_ ?_
 refine pu_ 15 (some 13) (B_ 17 65535) HT_ ?_
 refine pu_ 16 (some 14) (B_ 17 131071) HT_ ?_
 refine done_ (done_of HT_.out kf_) ?_
 try go_wp2
 go_ret3
 exact ⟨_, _, by first | rfl | (simp [errW_none, errW_some] <;> rfl) | (simp [*, errW_none, errW_some] <;> rfl), by first | exact Kd.R_nil _ _ _ _ _ | exact Kd.N_nil _ _ _ _ _ | exact Kd.V_nil _ _ _ _ _ | exact Kd.Q_nil _ _ _ _ _ | exact Kd.S_nil _ _ _ _ _, by first | exact Kd.R_nil _ _ _ _ _ | exact Kd.N_nil _ _ _ _ _ | exact Kd.V_nil _ _ _ _ _ | exact Kd.Q_nil _ _ _ _ _ | exact Kd.S_nil _ _ _ _ _, bl_ HB⟩}}
 {
 rw [if_neg c9] at H
 exact absurd H (by simp)}}
 {
 rw [if_neg c8] at H
 exact absurd H (by simp)}}
 {
 rw [if_neg c7] at H
 exact absurd H (by simp)}}
 {
 rw [if_neg c6] at H
 have c6b0 : decide (x22_1 < (l1.length : Int)) = false := decide_eq_false c6
 clear c6
 simp only [Option.some.injEq, Prod.mk.injEq] at H
 obtain ⟨rfl, rfl, rfl⟩ := H
 go_wp2
 go_ret3
 exact ⟨_, _, by first | rfl | (simp [errW_none, errW_some] <;> rfl) | (simp [*, errW_none, errW_some] <;> rfl), by (with_reducible repeat (first | apply Kd.R_alloc | apply Kd.R_drewN | apply Kd.R_drew)); exact HO_9.out, by (with_reducible repeat (first | apply Kd.R_alloc | apply Kd.R_drewN | apply Kd.R_drew)); exact HO_10.out, bl_ HB⟩}))}
 {
 rw [if_neg c4] at H
 have c4b0 : ((l1.length : Int) == (l2.length : Int)) = false := beq_eq_false_iff_ne.mpr c4
 have c4b1 : ((l1.length : Int) != (l2.length : Int)) = true := bne_iff_ne.mpr c4
 have c4b2 : (l1.length == l2.length) = false := by first | simpa using c4 | (simp at c4 ⊢; omega)
 simp only [Option.some.injEq, Prod.mk.injEq] at H
 obtain ⟨rfl, rfl, rfl⟩ := H
 go_enter Try.func67, Try.ntmps67
 go_wp2_with (first | ((with_reducible refine gate_dst (N := 3) rfl ?_); refine bx_ HB 3 #[.int .i64 a0_0, .func (.func 93) #[] #[]] 101 ?_; clear HB; intro gb169 hg w20 hb BK169 GE169 HB; have GW169 := GE169; clear hb hg))
 go_ret3
 exact ⟨_, _, by first | rfl | (simp [errW_none, errW_some] <;> rfl) | (simp [*, errW_none, errW_some] <;> rfl), by first | exact Kd.R_nil _ _ _ _ _ | exact Kd.N_nil _ _ _ _ _ | exact Kd.V_nil _ _ _ _ _ | exact Kd.Q_nil _ _ _ _ _ | exact Kd.S_nil _ _ _ _ _, by first | exact Kd.R_nil _ _ _ _ _ | exact Kd.N_nil _ _ _ _ _ | exact Kd.V_nil _ _ _ _ _ | exact Kd.Q_nil _ _ _ _ _ | exact Kd.S_nil _ _ _ _ _, bl_ HB⟩}
def couple_PartAll.f (k : Nat) (l0 : List Int) (l1 : List Int) : Option (List Int × List Int × Int) := (couple_parting.f).bind fun t181 => ((couple_way_all_by_couple_part.f k t181 l0 l1).bind fun bt182 => (some (bt182.1, bt182.2.1, bt182.2.2)))
theorem couple_PartAll.mono : ∀ a0 a1 k, LeO (couple_PartAll.f k a0 a1) (couple_PartAll.f (k + 1) a0 a1) := by
  intro a0 a1 k
  unfold couple_PartAll.f
  with_reducible repeat' first
   | exact couple_way_all_by_couple_part.mono _ _ _ _
   | exact LeO.refl _
   | exact LeO.none _
   | refine LeO.ite ?_ ?_
   | refine LeO.bind ?_ (fun _ => ?_)
set_option maxHeartbeats 8000000 in
set_option maxRecDepth 100000 in
theorem couple_PartAll.calls (k : Nat) (A0 : Option Addr) (c0 : Nat) (l0 : List Int) (A1 : Option Addr) (c1 : Nat) (l1 : List Int) (r1 : List Int) (r2 : List Int) (r3 : Int) (w : World) (hr0 : Kd.C (Kd.int .i64) w A0 l0.length l0) (hc0 : l0.length ≤ c0) (hr1 : Kd.C (Kd.int .i64) w A1 l1.length l1) (hc1 : l1.length ≤ c1) (h : couple_PartAll.f k l0 l1 = some (r1, r2, r3)) :
    Calls Try.prog 33 #[.slice A0 l0.length c0, .slice A1 l1.length c1] w fun e w' => ∃ v0_ v1_ : Value, e = .returned (.tuple #[v0_, v1_, .int .i64 r3]) ∧ Kd.R (Kd.int .i64) 2 w' w.heap.size (fun k_ => some k_ ≠ (v1_ : Value).ownBlock) v0_ r1 ∧ Kd.R (Kd.int .i64) 2 w' w.heap.size (fun k_ => some k_ ≠ (v0_ : Value).ownBlock) v1_ r2 ∧ Below w.heap.size w w' := by
 have HR0 := Aside0.mk hr0
 have HC0 := Aside0.mk hc0
 clear hr0 hc0
 have HR1 := Aside0.mk hr1
 have HC1 := Aside0.mk hc1
 clear hr1 hc1
 have HB := Aside0.mk (Below.refl w.heap.size w)
 have H : ((couple_parting.f).bind fun t181 => ((couple_way_all_by_couple_part.f k t181 l0 l1).bind fun bt182 => (some (bt182.1, bt182.2.1, bt182.2.2)))) = some (r1, r2, r3) := h
 clear h
 obtain ⟨t181, A3, H⟩ := ob_ H
 (try dsimp only at H)
 obtain ⟨⟨t182, t185, t188⟩, A4, H⟩ := ob_ H
 (try dsimp only at H)
 simp only [Option.some.injEq, Prod.mk.injEq] at H
 obtain ⟨rfl, rfl, rfl⟩ := H
 go_enter Try.func33, Try.ntmps33
 go_wp2_with (first | ((with_reducible refine gate_callee (f := 66) rfl ?_); refine gL_ (some 7) Try.func66 #[] ?_; (with_reducible refine (couple_parting.calls  t181 _ A3.out).mono ?_); rintro e w5 ⟨rfl, hb⟩; refine ⟨_, rfl, ?_⟩; replace HB := BS_ HB hb; (try clear hb)) | ((with_reducible refine gate_callee (f := 67) rfl ?_); refine gL_ (some 10) Try.func67 #[.agg #[.int .i64 t181, .func (.func 93) #[] #[]], .slice A0 l0.length c0, .slice A1 l1.length c1] ?_; (with_reducible refine (couple_way_all_by_couple_part.calls k t181 _ _ l0 _ _ l1 t182 t185 t188 _ ?side1 ?side2 ?side3 ?side4 A4.out).mono ?_); (case side1 => exact kC_ HR0 HB); (case side2 => exact HC0.out); (case side3 => exact kC_ HR1 HB); (case side4 => exact HC1.out); rintro e w6 ⟨v183, v186, rfl, ho0, ho1, hb⟩; refine ⟨_, rfl, ?_⟩; have HO184 := Aside0.mk (Kd.R_lower ho0 (bs_ HB)); have HO187 := Aside0.mk (Kd.R_lower ho1 (bs_ HB)); replace HB := BS_ HB hb; (try clear hb); (try clear ho0); (try clear ho1)))
 go_ret3
 exact ⟨_, _, by first | rfl | (simp [errW_none, errW_some] <;> rfl) | (simp [*, errW_none, errW_some] <;> rfl), by (with_reducible repeat (first | apply Kd.R_alloc | apply Kd.R_drewN | apply Kd.R_drew)); exact HO184.out, by (with_reducible repeat (first | apply Kd.R_alloc | apply Kd.R_drewN | apply Kd.R_drew)); exact HO187.out, bl_ HB⟩
def floor_At.f (a0 : Int) : Option (Int) := some (if a0 = 0 then 0 else if a0 = 1 then 1 else if a0 = 2 then 2 else if a0 = 3 then 4 else if a0 = 4 then 8 else if a0 = 5 then 15 else -1)
set_option maxHeartbeats 4000000 in
set_option maxRecDepth 100000 in
theorem floor_At.low (a0 : Int) (w : World) (h : a0 < 0) : Calls Try.prog 95 #[.int .i64 a0] w fun e w' => e = .returned (.int .i64 (-1)) ∧ Below w.heap.size w w' := by
  go_enter Try.func95, Try.ntmps95
  go_wp2
  go_ret
  exact ⟨rfl, by repeat (first | exact Below.refl _ _ | apply below_alloc | apply pw_below_drewN | apply below_drew1)⟩
set_option maxHeartbeats 4000000 in
set_option maxRecDepth 100000 in
theorem floor_At.high (a0 : Int) (w : World) (h : 6 ≤ a0) : Calls Try.prog 95 #[.int .i64 a0] w fun e w' => e = .returned (.int .i64 (-1)) ∧ Below w.heap.size w w' := by
  have h0 : ¬ a0 < 0 := by omega
  go_enter Try.func95, Try.ntmps95
  go_wp2
  go_ret
  exact ⟨rfl, by repeat (first | exact Below.refl _ _ | apply below_alloc | apply pw_below_drewN | apply below_drew1)⟩
set_option maxHeartbeats 4000000 in
set_option maxRecDepth 100000 in
theorem floor_At.mid (a0 r : Int) (w : World) (h : (a0 = 0 ∧ r = 0) ∨ (a0 = 1 ∧ r = 1) ∨ (a0 = 2 ∧ r = 2) ∨ (a0 = 3 ∧ r = 4) ∨ (a0 = 4 ∧ r = 8) ∨ (a0 = 5 ∧ r = 15)) : Calls Try.prog 95 #[.int .i64 a0] w fun e w' => e = .returned (.int .i64 r) ∧ Below w.heap.size w w' := by
  rcases h with ⟨rfl, rfl⟩ | ⟨rfl, rfl⟩ | ⟨rfl, rfl⟩ | ⟨rfl, rfl⟩ | ⟨rfl, rfl⟩ | ⟨rfl, rfl⟩
  all_goals
    go_enter Try.func95, Try.ntmps95
    go_wp2
    (try simp only [Exit.inBlock, Exit.then])
    refine bodyPost_ret (v := .agg #[.int .i64 0, .int .i64 1, .int .i64 2, .int .i64 4, .int .i64 8, .int .i64 15]) ?_ rfl ?_
    · exact results_cell_row rfl _ _ w.heap.size 139 _ (0, 0) _ (by rfl) (heap_alloc_new w _) Try.underlying139 rfl (by rfl)
    simp only []
    go_at_K
    go_wp2
    go_ret
    exact ⟨rfl, by repeat (first | exact Below.refl _ _ | apply below_alloc | apply pw_below_drewN | apply below_drew1)⟩
theorem floor_At.calls (a0 : Int) (r : Int) (w : World) (h : floor_At.f a0 = some r) : Calls Try.prog 95 #[.int .i64 a0] w fun e w' => e = .returned (.int .i64 r) ∧ Below w.heap.size w w' := by
 have e := Option.some.inj h
 by_cases h0 : a0 < 0
 {
 obtain rfl : r = -1 := by rw [← e]; repeat (rw [if_neg (by omega)])
 exact floor_At.low a0 w h0}
 by_cases h6 : 6 ≤ a0
 {
 obtain rfl : r = -1 := by rw [← e]; repeat (rw [if_neg (by omega)])
 exact floor_At.high a0 w h6}
 refine floor_At.mid a0 r w ?_
 have : a0 = 0 ∨ a0 = 1 ∨ a0 = 2 ∨ a0 = 3 ∨ a0 = 4 ∨ a0 = 5 := by omega
 rcases this with h | h | h | h | h | h <;> subst h <;> simp at e <;> omega
mutual
def floor_Line.l0 : Nat → List Int → List Int → Int → Option (List Int × Int)
  | 0, _, _, _ => none
  | k + 1, x0, x4, x13 => if x13 < 5 then ((floor_At.f x13).bind fun t193 => ((floor_At.f (wrap64 (x13 + 1))).bind fun t194 => (floor_Line.l1 k x0 x4 x13 t193 t194 t193 x13))) else (some (x4, 0))
def floor_Line.l1 : Nat → List Int → List Int → Int → Int → Int → Int → Int → Option (List Int × Int)
  | 0, _, _, _, _, _, _, _ => none
  | k + 1, x0, x4, x5, x6, x7, x8, x13 => if x8 ≤ x7 then (if 0 ≤ x5 then (if x5 < (x0.length : Int) then (if 0 ≤ (wrap64 (x5 + 1)) then (if (wrap64 (x5 + 1)) < (x0.length : Int) then (if (wrap64 (x7 - x6)) = 0 then (none) else (if 0 ≤ x8 then (if x8 < (x4.length : Int) then (floor_Line.l1 k x0 (x4.set (x8 : Int).toNat (wrap64 ((rd x0 x5) + (wrap64 (Int.tdiv (wrap64 ((wrap64 ((rd x0 (wrap64 (x5 + 1))) - (rd x0 x5))) * (wrap64 (x8 - x6)))) (wrap64 (x7 - x6))))))) x5 x6 x7 (wrap64 (x8 + 1)) x13) else (none)) else (none))) else (none)) else (none)) else (none)) else (none)) else (floor_Line.l0 k x0 x4 (wrap64 (x13 + 1)))
end
def floor_Line.f (k : Nat) (l0 : List Int) : Option (List Int × Int) := (floor_Right.f k l0).bind fun t189 => (if t189 = true then (if 16 ≤ 35184372088832 then (floor_Line.l0 k l0 (List.replicate 16 0) 0) else (none)) else (some (([] : List Int), 1)))
theorem floor_Line.mono_l : ∀ k, (∀ y0 y1 y2, LeO (floor_Line.l0 k y0 y1 y2) (floor_Line.l0 (k + 1) y0 y1 y2)) ∧ (∀ y0 y1 y2 y3 y4 y5 y6, LeO (floor_Line.l1 k y0 y1 y2 y3 y4 y5 y6) (floor_Line.l1 (k + 1) y0 y1 y2 y3 y4 y5 y6))
  | 0 => ⟨fun _ _ _ r h => by simp [floor_Line.l0] at h, fun _ _ _ _ _ _ _ r h => by simp [floor_Line.l1] at h⟩
  | k + 1 => by
    obtain ⟨ih0, ih1⟩ := floor_Line.mono_l k
    refine ⟨?_, ?_⟩
    all_goals (intros; first | unfold floor_Line.l0 | unfold floor_Line.l1)
    all_goals with_reducible repeat' first
     | exact ih0 _ _ _
     | exact ih1 _ _ _ _ _ _ _
     | exact floor_Right.mono _ _
     | exact LeO.refl _
     | exact LeO.none _
     | refine LeO.ite ?_ ?_
     | refine LeO.bind ?_ (fun _ => ?_)
theorem floor_Line.mono : ∀ a0 k, LeO (floor_Line.f k a0) (floor_Line.f (k + 1) a0) := by
  intro a0 k
  obtain ⟨ih0, ih1⟩ := floor_Line.mono_l k
  unfold floor_Line.f
  with_reducible repeat' first
   | exact ih0 _ _ _
   | exact ih1 _ _ _ _ _ _ _
   | exact floor_Right.mono _ _
   | exact LeO.refl _
   | exact LeO.none _
   | refine LeO.ite ?_ ?_
   | refine LeO.bind ?_ (fun _ => ?_)
def floor_Line.T11 : Bool × List (List Nat × List Nat) := (true, [([], []), ([], []), ([], []), ([], []), ([2, 3], [2, 3]), ([4], [4]), ([], []), ([], []), ([7], [7]), ([6, 8], [6, 8]), ([9], [9]), ([], []), ([], []), ([11, 12], [11, 12]), ([13], [13]), ([10, 14], [10, 14]), ([], []), ([], []), ([16, 17], [16, 17]), ([15, 18], [15, 18]), ([], []), ([], []), ([20, 21], [20, 21]), ([19, 22], [19, 22]), ([5, 23], [5, 23]), ([0, 1, 0, 1, 2, 3, 4, 5, 6, 7, 8, 9, 10, 11, 12, 13, 14, 15, 16, 17, 18, 19, 20, 21, 22, 23, 24], [0, 1]), ([25, 24, 0, 1, 2, 3, 4, 5, 6, 7, 8, 9, 10, 11, 12, 13, 14, 15, 16, 17, 18, 19, 20, 21, 22, 23, 24], [24, 25])])
def floor_Line.B11 : List Nat := [0, 0, 0, 0, 12, 28, 0, 0, 128, 448, 960, 0, 0, 6144, 14336, 32704, 0, 0, 196608, 524224, 0, 0, 3145728, 8388544, 16777212, 33554431, 67108863]
theorem floor_Line.tab11 : rtab .any (opsOf Try.f68 11) = floor_Line.T11 := by kernel_rfl
theorem floor_Line.bits11 : waitsOk floor_Line.T11.2 floor_Line.B11 = true := by kernel_rfl
set_option maxHeartbeats 8000000 in
set_option maxRecDepth 100000 in
theorem floor_Line.calls (k : Nat) (A0 : Option Addr) (c0 : Nat) (l0 : List Int) (r1 : List Int) (r2 : Int) (w : World) (hr0 : Kd.C (Kd.int .i64) w A0 l0.length l0) (hc0 : l0.length ≤ c0) (h : floor_Line.f k l0 = some (r1, r2)) :
    Calls Try.prog 68 #[.slice A0 l0.length c0] w fun e w' => ∃ v0_ : Value, e = .returned (.tuple #[v0_, .int .i64 r2]) ∧ Kd.R (Kd.int .i64) 3 w' w.heap.size (fun _ => True) v0_ r1 ∧ Below w.heap.size w w' := by
 have HR0 := Aside0.mk hr0
 have HC0 := Aside0.mk hc0
 clear hr0 hc0
 have HB := Aside0.mk (Below.refl w.heap.size w)
 have H : ((floor_Right.f k l0).bind fun t189 => (if t189 = true then (if 16 ≤ 35184372088832 then (floor_Line.l0 k l0 (List.replicate 16 0) 0) else (none)) else (some (([] : List Int), 1)))) = some (r1, r2) := h
 clear h
 obtain ⟨t189, A2, H⟩ := ob_ H
 (try dsimp only at H)
 by_cases c3 : t189 = true
 {
 subst c3
 rw [if_pos rfl] at H
 by_cases c4 : 16 ≤ 35184372088832
 {
 rw [if_pos c4] at H
 have c4b0 := eq_true c4
 have c4b1 : decide (16 ≤ 35184372088832) = true := decide_eq_true c4
 clear c4
 obtain ⟨y190, hy190⟩ : ∃ y_ : List Int, y_ = (List.replicate 16 0) := ⟨_, rfl⟩
 replace H : (floor_Line.l0 k l0 y190 0) = some (r1, r2) := by first | (rw [hy190]; with_reducible exact H) | (have H2_ := (Option.bind_some _ _).symm.trans H; rw [hy190]; with_reducible exact H2_) | (have H2_ := (Option.bind_some _ _).symm.trans H; with_reducible exact H2_) | with_reducible exact H | (rw [hy190]; exact H) | exact H
 have Ny190 := Aside0.mk hy190
 clear hy190
 have H' := Aside0.mk H
 clear H
 go_enter Try.func68, Try.ntmps68
 go_wp2_with (first | ((with_reducible refine gate_callee (f := 86) rfl ?_); refine gL_ (some 10) Try.func86 #[.slice A0 l0.length c0] ?_; (with_reducible refine (floor_Right.calls k _ _ l0 true _ ?side1 ?side2 A2.out).mono ?_); (case side1 => repeat (first | exact HR0.out | (with_reducible refine Kd.C_alloc ?_ _) | (with_reducible refine Kd.C_drewN ?_ _) | (with_reducible refine Kd.C_drew ?_))); (case side2 => exact HC0.out); rintro e w' ⟨rfl, ⟨nd, rfl⟩⟩; refine ⟨_, rfl, ?_⟩) | ((with_reducible refine gate_dst (N := 12) rfl ?_); refine Kd.R_make (Kd.int .i64) _ 3 rfl (N := 12) rfl 22 _ _ rfl 16 rfl rfl Try.underlying22 (.int .i64 0) 8 info3 rfl (by decide) (by omega) 0 (ok := fun _ => True) (okp := fun _ => True) rfl (fun _ hk => hk) trivial (by omega) (by omega) (Below.refl _ _) (Nat.le_refl _) ?_; intro v191 w5 ho6 hb hg_ hnew_; clear hg_ hnew_; (first | rw [← Ny190.out] at ho6 | (simp only [Int.reduceToNat] at ho6; rw [← Ny190.out] at ho6)); have HO192 := Aside0.mk (Kd.R_lower ho6 (bs_ HB)); replace HB := BS_ HB hb; clear hb ho6))
 go_loopg [13] k (fun kq v13 w' => ∃ (x4_1 : List Int) (x13_1 : Int), v13 = .int .i64 x13_1 ∧ Aside0 (floor_Line.l0 kq l0 x4_1 x13_1 = some (r1, r2)) ∧ Aside0 (kq ≤ k) ∧ Aside0 (Kd.R (Kd.int .i64) 3 w' w.heap.size (fun _ => True) v191 x4_1) ∧ Aside0 (Below w.heap.size w w'))
 case atStart => exact ⟨(y190), (0), rs_, H', ⟨Nat.le_refl _⟩, ⟨kR_ HO192⟩, ⟨bl_ HB⟩⟩
 case round => (
 clear H'
 try clear c3
 try clear c4
 try clear c4b0
 try clear c4b1
 obtain ⟨x4_1, x13_1, rfl, HA, HK1, HO_4, HB⟩ := hrel
 cases gk with
 | zero => exact absurd HA.out (by simp [floor_Line.l0])
 | succ k1 => (
 have H := HA.out
 clear HA
 simp only [floor_Line.l0] at H
 by_cases c7 : x13_1 < 5
 {
 rw [if_pos c7] at H
 have c7b0 : decide (x13_1 < 5) = true := decide_eq_true c7
 clear c7
 obtain ⟨t193, A8, H⟩ := ob_ H
 (try dsimp only at H)
 obtain ⟨t194, A9, H⟩ := ob_ H
 (try dsimp only at H)
 have H' := Aside0.mk H
 clear H
 go_wp2_with (first | ((with_reducible refine gate_callee (f := 95) rfl ?_); refine gL_ (some 17) Try.func95 #[.int .i64 x13_1] ?_; (with_reducible refine (floor_At.calls x13_1 t193 _ A8.out).mono ?_); rintro e w10 ⟨rfl, hb⟩; refine ⟨_, rfl, ?_⟩; replace HO_4 := FR_ HO_4 hb; replace HB := BS_ HB hb; (try clear hb)) | ((with_reducible refine gate_callee (f := 95) rfl ?_); refine gL_ (some 20) Try.func95 #[.int .i64 (wrap64 (x13_1 + 1))] ?_; (with_reducible refine (floor_At.calls (wrap64 (x13_1 + 1)) t194 _ A9.out).mono ?_); rintro e w11 ⟨rfl, hb⟩; refine ⟨_, rfl, ?_⟩; replace HO_4 := FR_ HO_4 hb; replace HB := BS_ HB hb; (try clear hb)))
 go_loopg [8] k1 (fun kq v8 w' => ∃ (x4_2 : List Int) (x8_2 : Int), v8 = .int .i64 x8_2 ∧ Aside0 (floor_Line.l1 kq l0 x4_2 x13_1 t193 t194 x8_2 x13_1 = some (r1, r2)) ∧ Aside0 (kq ≤ k1) ∧ Aside0 (Kd.R (Kd.int .i64) 3 w' w.heap.size (fun _ => True) v191 x4_2) ∧ Aside0 (Below w.heap.size w w'))
 case atStart => exact ⟨(x4_1), (t193), rs_, H', ⟨Nat.le_refl _⟩, ⟨kR_ HO_4⟩, ⟨bl_ HB⟩⟩
 case round => (
 clear H'
 try clear c3
 try clear c4
 try clear c4b0
 try clear c4b1
 try clear c7
 try clear c7b0
 obtain ⟨x4_2, x8_2, rfl, HA, HK2, HO_4, HB⟩ := hrel
 cases gk with
 | zero => exact absurd HA.out (by simp [floor_Line.l1])
 | succ k2 => (
 have H := HA.out
 clear HA
 simp only [floor_Line.l1] at H
 by_cases c12 : x8_2 ≤ t194
 {
 rw [if_pos c12] at H
 have c12b0 : decide (x8_2 ≤ t194) = true := decide_eq_true c12
 clear c12
 by_cases c13 : 0 ≤ x13_1
 {
 rw [if_pos c13] at H
 have c13b0 : decide (0 ≤ x13_1) = true := decide_eq_true c13
 clear c13
 by_cases c14 : x13_1 < (l0.length : Int)
 {
 rw [if_pos c14] at H
 have c14b0 : decide (x13_1 < (l0.length : Int)) = true := decide_eq_true c14
 clear c14
 obtain ⟨ji15, hji15⟩ : ∃ j_ : Int, (wrap64 (x13_1 + 1)) = j_ := ⟨_, rfl⟩
 replace H : (if 0 ≤ (ji15) then (if (ji15) < (l0.length : Int) then (if (wrap64 (t194 - t193)) = 0 then (none) else (if 0 ≤ x8_2 then (if x8_2 < (x4_2.length : Int) then (floor_Line.l1 k2 l0 (x4_2.set (x8_2 : Int).toNat (wrap64 ((rd l0 x13_1) + (wrap64 (Int.tdiv (wrap64 ((wrap64 ((rd l0 (ji15)) - (rd l0 x13_1))) * (wrap64 (x8_2 - t193)))) (wrap64 (t194 - t193))))))) x13_1 t193 t194 (wrap64 (x8_2 + 1)) x13_1) else (none)) else (none))) else (none)) else (none)) = some (r1, r2) := by first | (rw [hji15] at H; exact H) | (simp only [hji15] at H ⊢; exact H)
 have hji15w : (IntKind.i64.wrap (x13_1 + 1)) = ji15 := (i64_w _).trans hji15
 by_cases c16 : 0 ≤ (ji15)
 {
 rw [if_pos c16] at H
 have c16b0 : decide (0 ≤ (ji15)) = true := decide_eq_true c16
 clear c16
 by_cases c17 : (ji15) < (l0.length : Int)
 {
 rw [if_pos c17] at H
 have c17b0 : decide ((ji15) < (l0.length : Int)) = true := decide_eq_true c17
 clear c17
 by_cases c18 : (wrap64 (t194 - t193)) = 0
 {
 rw [if_pos c18] at H
 exact absurd H (by simp)}
 {
 rw [if_neg c18] at H
 have c18b0 : ((wrap64 (t194 - t193)) == 0) = false := beq_eq_false_iff_ne.mpr c18
 have c18b1 : ((wrap64 (t194 - t193)) != 0) = true := bne_iff_ne.mpr c18
 by_cases c19 : 0 ≤ x8_2
 {
 rw [if_pos c19] at H
 have c19b0 : decide (0 ≤ x8_2) = true := decide_eq_true c19
 clear c19
 by_cases c20 : x8_2 < (x4_2.length : Int)
 {
 rw [if_pos c20] at H
 have c20b0 : decide (x8_2 < (x4_2.length : Int)) = true := decide_eq_true c20
 clear c20
 obtain ⟨y198, hy198⟩ : ∃ y_ : List Int, y_ = (x4_2.set (x8_2 : Int).toNat (wrap64 ((rd l0 x13_1) + (wrap64 (Int.tdiv (wrap64 ((wrap64 ((rd l0 (ji15)) - (rd l0 x13_1))) * (wrap64 (x8_2 - t193)))) (wrap64 (t194 - t193))))))) := ⟨_, rfl⟩
 replace H : (floor_Line.l1 k2 l0 y198 x13_1 t193 t194 (wrap64 (x8_2 + 1)) x13_1) = some (r1, r2) := by first | (rw [hy198]; with_reducible exact H) | (have H2_ := (Option.bind_some _ _).symm.trans H; rw [hy198]; with_reducible exact H2_) | (have H2_ := (Option.bind_some _ _).symm.trans H; with_reducible exact H2_) | with_reducible exact H | (rw [hy198]; exact H) | exact H
 have Ny198 := Aside0.mk hy198
 clear hy198
 have H' := Aside0.mk H
 clear H
 try go_wp2
 replace HO_4 := Aside0.mk (Kd.R_drew HO_4.out)
 replace HB := Aside0.mk (below_drew1 HB.out)
 have p195 : 0 ≤ (x13_1 : Int) := of_decide_eq_true am_
 have q195 : x13_1 < (l0.length : Int) := of_decide_eq_true am_
 obtain ⟨ad195, e195, hx195_0⟩ := Kd.at_int HR0.out x13_1 p195 q195
 have hw195_0 := hx195_0
 cases e195
 replace hx195_0 := (HB.out.cell (World.block_lt_of_cell? w _ hx195_0)).trans hx195_0
 replace p195 := eq_true p195
 replace q195 := eq_true q195
 have p196 : 0 ≤ ((ji15) : Int) := of_decide_eq_true am_
 have q196 : (ji15) < (l0.length : Int) := of_decide_eq_true am_
 obtain ⟨ad196, e196, hx196_0⟩ := Kd.at_int HR0.out (ji15) p196 q196
 have hw196_0 := hx196_0
 obtain rfl : ad195 = ad196 := (by injection e196)
 replace hx196_0 := (HB.out.cell (World.block_lt_of_cell? w _ hx196_0)).trans hx196_0
 replace p196 := eq_true p196
 replace q196 := eq_true q196
 have p197 : 0 ≤ (x13_1 : Int) := of_decide_eq_true am_
 have q197 : x13_1 < (l0.length : Int) := of_decide_eq_true am_
 obtain ⟨ad197, e197, hx197_0⟩ := Kd.at_int HR0.out x13_1 p197 q197
 have hw197_0 := hx197_0
 obtain rfl : ad195 = ad197 := (by injection e197)
 replace hx197_0 := (HB.out.cell (World.block_lt_of_cell? w _ hx197_0)).trans hx197_0
 replace p197 := eq_true p197
 replace q197 := eq_true q197
 have p21 : 0 ≤ (x8_2 : Int) := of_decide_eq_true am_
 have q21 : (x8_2 : Int) < ((x4_2.length : Int) : Int) := of_decide_eq_true am_
 obtain ⟨go21, co21, eo21, gb21, gl21, cl21, HG21⟩ := Kd.R_form HO_4.out (by omega)
 (first | cases eo21 | (injection eo21 with ea_ en_ ec_; (first | subst ea_ | (injection ea_ with ea_; subst ea_)); subst ec_; clear en_))
 have GB21 := Aside0.mk gb21
 have GG21 := Aside0.mk HG21
 clear gb21 gl21 HG21
 obtain ⟨hx21_0, hf21_0⟩ := Kd.R_celln 0 HO_4.out (x8_2 : Int) p21 q21
 replace p21 := eq_true p21
 replace q21 := eq_true q21
 have HP23 := Kd.R_putn HO_4.out (x8_2 : Int) (wrap64 ((rd l0 x13_1) + (wrap64 (Int.tdiv (wrap64 ((wrap64 ((rd l0 (ji15)) - (rd l0 x13_1))) * (wrap64 (x8_2 - t193)))) (wrap64 (t194 - t193))))))
 rw [← Ny198.out] at HP23
 have HQ23 := Aside0.mk HP23
 clear HP23
 refine start_ (n := 27) (S := fun w' => w'.cell? (ad195.add (x13_1).toNat) = some (.int .i64 (rd l0 x13_1)) ∧ w'.cell? (ad195.add ((ji15)).toNat) = some (.int .i64 (rd l0 (ji15))) ∧ w'.cell? (ad195.add (x13_1).toNat) = some (.int .i64 (rd l0 x13_1))) (ds := [26]) (B_ 27 0) kf_ rfl rfl ⟨((HB.out.cell (World.block_lt_of_cell? w _ hw195_0)).trans hw195_0), ((HB.out.cell (World.block_lt_of_cell? w _ hw196_0)).trans hw196_0), ((HB.out.cell (World.block_lt_of_cell? w _ hw197_0)).trans hw197_0)⟩ (fun hHeld => ?_); refine with_tabW floor_Line.tab11 floor_Line.bits11 (fun HT_ HW_ => ?_)
 generalize wr.drew = w22 at HO_4 HB GG21 HQ23 hf21_0 hx195_0 hx196_0 hx197_0 hx21_0 hHeld ⊢
 refine pu_ 0 (some 27) (B_ 27 1) HT_ ?_
 refine pu_ 1 (some 28) (B_ 27 3) HT_ ?_
 refine pu_ 2 (some 29) (B_ 27 7) HT_ ?_
 refine pu_ 3 (some 30) (B_ 27 15) HT_ ?_
 refine pu_ 4 (some 31) (B_ 27 31) HT_ ?_
 refine pu_ 6 (some 33) (B_ 27 95) HT_ ?_
 refine pu_ 7 (some 34) (B_ 27 223) HT_ ?_
 refine pu_ 8 (some 35) (B_ 27 479) HT_ ?_
 refine pu_ 9 (some 36) (B_ 27 991) HT_ ?_
 refine pu_ 11 (some 38) (B_ 27 3039) HT_ ?_
 refine pu_ 12 (some 39) (B_ 27 7135) HT_ ?_
 refine pu_ 13 (some 40) (B_ 27 15327) HT_ ?_
 refine pu_ 16 (some 43) (B_ 27 80863) HT_ ?_
 refine pu_ 17 (some 44) (B_ 27 211935) HT_ ?_
 refine pu_ 18 (some 45) (B_ 27 474079) HT_ ?_
 refine pu_ 20 (some 47) (B_ 27 1522655) HT_ ?_
 refine pu_ 21 (some 48) (B_ 27 3619807) HT_ ?_
 refine pu_ 22 (some 49) (B_ 27 7814111) HT_ ?_
 refine take_ (i := 5) (N := some 32) (v := ?_) (a' := ?_) (B_ 27 7814143) rfl rfl (take_ofW HT_.out HW_.out kf_) (fun _ _ _ h => h) (Or.inl ⟨by rfl, ?_⟩) hHeld ?_ ?_
 rotate_left
 {
 rintro w' ⟨s0, s1, s2⟩
 go_simp
 with_reducible rfl}
 rotate_left
 {
 exact sp_}
 refine take_ (i := 10) (N := some 37) (v := ?_) (a' := ?_) (B_ 27 7815167) rfl rfl (take_ofW HT_.out HW_.out kf_) (fun _ _ _ h => h) (Or.inl ⟨by rfl, ?_⟩) hHeld ?_ ?_
 rotate_left
 {
 rintro w' ⟨s0, s1, s2⟩
 go_simp
 with_reducible rfl}
 rotate_left
 {
 exact sp_}
 refine take_ (i := 14) (N := some 41) (v := ?_) (a' := ?_) (B_ 27 7831551) rfl rfl (take_ofW HT_.out HW_.out kf_) (fun _ _ _ h => h) (Or.inl ⟨by rfl, ?_⟩) hHeld ?_ ?_
 rotate_left
 {
 rintro w' ⟨s0, s1, s2⟩
 go_simp
 with_reducible rfl}
 rotate_left
 {
 exact sp_}
 refine pu_ 15 (some 42) (B_ 27 7864319) HT_ ?_
 refine pu_ 19 (some 46) (B_ 27 8388607) HT_ ?_
 refine pu_ 23 (some 50) (B_ 27 16777215) HT_ ?_
 refine pu_ 24 (some 51) (B_ 27 33554431) HT_ ?_
 refine pu_ 25 (some 52) (B_ 27 67108863) HT_ ?_
 refine last_ (i := 26) (N := none) (B_ 27 134217727) rfl rfl (one_of HT_.out kf_) (by decide) (fun K hK => ?_)
 refine skip_ (w1 := ?_) (by rfl) rfl ?_ ?_
 rotate_left
 {
 go_simp
 rfl}
 refine hK.out _ _ ?_
 clear hK K
 refine done_ (done_of HT_.out kf_) ?_
 try go_wp2
 first | go_roundg k2 | (subst hji15; go_roundg k2)
 case measure => have := HK1.out; have := HK2.out; omega
 case rel => exact ⟨(y198), (wrap64 (x8_2 + 1)), rs_, H', ⟨by have := HK1.out; have := HK2.out; omega⟩, ⟨kR_ HQ23⟩, ⟨by repeat (first | (with_reducible first | exact HB.out | apply below_alloc | apply pw_below_drewN | apply below_drew1 | refine below_set ?_ GB21.out) | exact HB.out)⟩⟩}
 {
 rw [if_neg c20] at H
 exact absurd H (by simp)}}
 {
 rw [if_neg c19] at H
 exact absurd H (by simp)}}}
 {
 rw [if_neg c17] at H
 exact absurd H (by simp)}}
 {
 rw [if_neg c16] at H
 exact absurd H (by simp)}}
 {
 rw [if_neg c14] at H
 exact absurd H (by simp)}}
 {
 rw [if_neg c13] at H
 exact absurd H (by simp)}}
 {
 rw [if_neg c12] at H
 have c12b0 : decide (x8_2 ≤ t194) = false := decide_eq_false c12
 clear c12
 have H' := Aside0.mk H
 clear H
 go_wp2
 go_roundg k2
 case measure => have := HK1.out; have := HK2.out; omega
 case rel => exact ⟨(x4_2), (wrap64 (x13_1 + 1)), rs_, H', ⟨by have := HK1.out; have := HK2.out; omega⟩, ⟨kR_ HO_4⟩, ⟨bl_ HB⟩⟩}))}
 {
 rw [if_neg c7] at H
 have c7b0 : decide (x13_1 < 5) = false := decide_eq_false c7
 clear c7
 simp only [Option.some.injEq, Prod.mk.injEq] at H
 obtain ⟨rfl, rfl⟩ := H
 go_wp2
 go_ret2
 exact ⟨_, by first | rfl | (simp [errW_none, errW_some] <;> rfl) | (simp [*, errW_none, errW_some] <;> rfl), by (with_reducible repeat (first | apply Kd.R_alloc | apply Kd.R_drewN | apply Kd.R_drew)); exact HO_4.out, bl_ HB⟩}))}
 {
 rw [if_neg c4] at H
 exact absurd H (by simp)}}
 {
 replace c3 := Bool.eq_false_iff.mpr c3
 subst c3
 rw [if_neg (show ¬ (false = true) by decide)] at H
 simp only [Option.some.injEq, Prod.mk.injEq] at H
 obtain ⟨rfl, rfl⟩ := H
 go_enter Try.func68, Try.ntmps68
 go_wp2_with (first | ((with_reducible refine gate_callee (f := 86) rfl ?_); refine gL_ (some 10) Try.func86 #[.slice A0 l0.length c0] ?_; (with_reducible refine (floor_Right.calls k _ _ l0 false _ ?side1 ?side2 A2.out).mono ?_); (case side1 => repeat (first | exact HR0.out | (with_reducible refine Kd.C_alloc ?_ _) | (with_reducible refine Kd.C_drewN ?_ _) | (with_reducible refine Kd.C_drew ?_))); (case side2 => exact HC0.out); rintro e w' ⟨rfl, ⟨nd, rfl⟩⟩; refine ⟨_, rfl, ?_⟩))
 go_ret2
 exact ⟨_, by first | rfl | (simp [errW_none, errW_some] <;> rfl) | (simp [*, errW_none, errW_some] <;> rfl), by first | exact Kd.R_nil _ _ _ _ _ | exact Kd.N_nil _ _ _ _ _ | exact Kd.V_nil _ _ _ _ _ | exact Kd.Q_nil _ _ _ _ _ | exact Kd.S_nil _ _ _ _ _, bl_ HB⟩}
def num_Sqrt.l0 : Nat → Int → Int → Int → Option (Int)
  | 0, _, _, _ => none
  | k + 1, x0, x3, x4 => if x4 > 0 then (if (Go.bits .or .u64 x3 x4) = 0 then (none) else (if (Go.bits .or .u64 x3 x4) ≤ (IntKind.u64.wrap (Int.tdiv x0 (Go.bits .or .u64 x3 x4))) then (num_Sqrt.l0 k x0 (Go.bits .or .u64 x3 x4) (x4 / 2)) else (num_Sqrt.l0 k x0 x3 (x4 / 2)))) else (some x3)
def num_Sqrt.f (k : Nat) (a0 : Int) : Option (Int) := num_Sqrt.l0 k a0 0 2147483648
theorem num_Sqrt.mono_l : ∀ k, (∀ y0 y1 y2, LeO (num_Sqrt.l0 k y0 y1 y2) (num_Sqrt.l0 (k + 1) y0 y1 y2))
  | 0 => fun _ _ _ r h => by simp [num_Sqrt.l0] at h
  | k + 1 => by
    have ih0 := num_Sqrt.mono_l k
    · intro y0 y1 y2
      unfold num_Sqrt.l0
      with_reducible repeat' first
   | exact ih0 _ _ _
   | exact LeO.refl _
   | exact LeO.none _
   | refine LeO.ite ?_ ?_
   | refine LeO.bind ?_ (fun _ => ?_)
theorem num_Sqrt.mono : ∀ a0 k, LeO (num_Sqrt.f k a0) (num_Sqrt.f (k + 1) a0) := by
  intro a0 k
  have ih0 := num_Sqrt.mono_l k
  unfold num_Sqrt.f
  with_reducible repeat' first
   | exact ih0 _ _ _
   | exact LeO.refl _
   | exact LeO.none _
   | refine LeO.ite ?_ ?_
   | refine LeO.bind ?_ (fun _ => ?_)
set_option maxHeartbeats 8000000 in
set_option maxRecDepth 100000 in
theorem num_Sqrt.calls (k : Nat) (a0 : Int) (r : Int) (w : World) (h : num_Sqrt.f k a0 = some r) :
    Calls Try.prog 96 #[.int .u64 a0] w fun e w' => e = .returned (.int .u64 r) ∧ Drawn0 w w' := by
 have H : (num_Sqrt.l0 k a0 0 2147483648) = some r := h
 clear h
 have H' := Aside0.mk H
 clear H
 go_enter Try.func96, Try.ntmps96
 go_wp2
 go_loopg [3, 4] k (fun kq v3 v4 w' => ∃ (x3_1 : Int) (x4_1 : Int), v3 = .int .u64 x3_1 ∧ v4 = .int .u64 x4_1 ∧ Aside0 (num_Sqrt.l0 kq a0 x3_1 x4_1 = some r) ∧ Aside0 (kq ≤ k) ∧ Drawn0 w w')
 case atStart => exact ⟨(0), (2147483648), rs_, rs_, H', ⟨Nat.le_refl _⟩, by repeat (first | exact Drawn0.refl _ | apply Drawn0.step)⟩
 case round => (
 clear H'
 obtain ⟨x3_1, x4_1, rfl, rfl, HA, HK1, ⟨m1, rfl⟩⟩ := hrel
 cases gk with
 | zero => exact absurd HA.out (by simp [num_Sqrt.l0])
 | succ k1 => (
 have H := HA.out
 clear HA
 simp only [num_Sqrt.l0] at H
 by_cases c2 : x4_1 > 0
 {
 rw [if_pos c2] at H
 have c2b0 : decide (0 < x4_1) = true := decide_eq_true c2
 clear c2
 by_cases c3 : (Go.bits .or .u64 x3_1 x4_1) = 0
 {
 rw [if_pos c3] at H
 exact absurd H (by simp)}
 {
 rw [if_neg c3] at H
 have c3b0 : ((Go.bits .or .u64 x3_1 x4_1) == 0) = false := beq_eq_false_iff_ne.mpr c3
 have c3b1 : ((Go.bits .or .u64 x3_1 x4_1) != 0) = true := bne_iff_ne.mpr c3
 by_cases c4 : (Go.bits .or .u64 x3_1 x4_1) ≤ (IntKind.u64.wrap (Int.tdiv a0 (Go.bits .or .u64 x3_1 x4_1)))
 {
 rw [if_pos c4] at H
 have c4b0 : decide ((Go.bits .or .u64 x3_1 x4_1) ≤ (IntKind.u64.wrap (Int.tdiv a0 (Go.bits .or .u64 x3_1 x4_1)))) = true := decide_eq_true c4
 clear c4
 have H' := Aside0.mk H
 clear H
 go_wp2
 go_roundg k1
 case measure => have := HK1.out; omega
 case rel => exact ⟨(Go.bits .or .u64 x3_1 x4_1), (x4_1 / 2), rs_, rs_, H', ⟨by have := HK1.out; omega⟩, by repeat (first | exact Drawn0.refl _ | apply Drawn0.step)⟩}
 {
 rw [if_neg c4] at H
 have c4b0 : decide ((Go.bits .or .u64 x3_1 x4_1) ≤ (IntKind.u64.wrap (Int.tdiv a0 (Go.bits .or .u64 x3_1 x4_1)))) = false := decide_eq_false c4
 clear c4
 have H' := Aside0.mk H
 clear H
 go_wp2
 go_roundg k1
 case measure => have := HK1.out; omega
 case rel => exact ⟨(x3_1), (x4_1 / 2), rs_, rs_, H', ⟨by have := HK1.out; omega⟩, by repeat (first | exact Drawn0.refl _ | apply Drawn0.step)⟩}}}
 {
 rw [if_neg c2] at H
 have c2b0 : decide (0 < x4_1) = false := decide_eq_false c2
 clear c2
 obtain rfl := Option.some.inj H
 go_wp2
 go_ret
 exact ⟨by first | rfl | (simp; done) | (simp [*]; done), by repeat (first | exact Drawn0.refl _ | apply Drawn0.step)⟩}))
def band_Value.f (k : Nat) (a0 : Int) : Option (Int) := if a0 < 1 then (some 0) else (if a0 > 44 then (some 0) else (if 0 ≤ (wrap64 (a0 - 1)) then ((num_Sqrt.f k (shl .u64 1 (wrap64 (a0 - 1)))).bind fun t199 => (some (wrap64 (t199)))) else (none)))
theorem band_Value.mono : ∀ a0 k, LeO (band_Value.f k a0) (band_Value.f (k + 1) a0) := by
  intro a0 k
  unfold band_Value.f
  with_reducible repeat' first
   | exact num_Sqrt.mono _ _
   | exact LeO.refl _
   | exact LeO.none _
   | refine LeO.ite ?_ ?_
   | refine LeO.bind ?_ (fun _ => ?_)
set_option maxHeartbeats 8000000 in
set_option maxRecDepth 100000 in
theorem band_Value.calls (k : Nat) (a0 : Int) (r : Int) (w : World) (h : band_Value.f k a0 = some r) :
    Calls Try.prog 69 #[.int .i64 a0] w fun e w' => e = .returned (.int .i64 r) ∧ Drawn0 w w' := by
 have H : (if a0 < 1 then (some 0) else (if a0 > 44 then (some 0) else (if 0 ≤ (wrap64 (a0 - 1)) then ((num_Sqrt.f k (shl .u64 1 (wrap64 (a0 - 1)))).bind fun t199 => (some (wrap64 (t199)))) else (none)))) = some r := h
 clear h
 by_cases c2 : a0 < 1
 {
 rw [if_pos c2] at H
 have c2b0 : decide (a0 < 1) = true := decide_eq_true c2
 clear c2
 obtain rfl := Option.some.inj H
 go_enter Try.func69, Try.ntmps69
 go_wp2
 go_ret
 exact ⟨by first | rfl | (simp; done) | (simp [*]; done), by repeat (first | exact Drawn0.refl _ | apply Drawn0.step)⟩}
 {
 rw [if_neg c2] at H
 have c2b0 : decide (a0 < 1) = false := decide_eq_false c2
 clear c2
 by_cases c3 : a0 > 44
 {
 rw [if_pos c3] at H
 have c3b0 : decide (44 < a0) = true := decide_eq_true c3
 clear c3
 obtain rfl := Option.some.inj H
 go_enter Try.func69, Try.ntmps69
 go_wp2
 go_ret
 exact ⟨by first | rfl | (simp; done) | (simp [*]; done), by repeat (first | exact Drawn0.refl _ | apply Drawn0.step)⟩}
 {
 rw [if_neg c3] at H
 have c3b0 : decide (44 < a0) = false := decide_eq_false c3
 clear c3
 obtain ⟨ji4, hji4⟩ : ∃ j_ : Int, (wrap64 (a0 - 1)) = j_ := ⟨_, rfl⟩
 replace H : (if 0 ≤ (ji4) then ((num_Sqrt.f k (shl .u64 1 (ji4))).bind fun t199 => (some (wrap64 (t199)))) else (none)) = some r := by first | (rw [hji4] at H; exact H) | (simp only [hji4] at H ⊢; exact H)
 have hji4w : (IntKind.i64.wrap (a0 - 1)) = ji4 := (i64_w _).trans hji4
 by_cases c5 : 0 ≤ (ji4)
 {
 rw [if_pos c5] at H
 have c5b0 := eq_true c5
 have c5b1 : decide (0 ≤ (ji4)) = true := decide_eq_true c5
 clear c5
 obtain ⟨ji6, hji6⟩ : ∃ j_ : Int, (shl .u64 1 (ji4)) = j_ := ⟨_, rfl⟩
 replace H : ((num_Sqrt.f k (ji6)).bind fun t199 => (some (wrap64 (t199)))) = some r := by first | (rw [hji6] at H; exact H) | (simp only [hji6] at H ⊢; exact H)
 have hji6_ : (IntKind.u64.wrap (1 * 2 ^ min (ji4).toNat 64)) = ji6 := hji6
 have hji6z : (ji4) ≤ 64 → (IntKind.u64.wrap (1 * 2 ^ (ji4).toNat)) = ji6 := shl_small hji6
 have hji6u : (IntKind.u64.wrap (2 ^ min (ji4).toNat 64)) = ji6 := by have h_ := hji6_; rw [Int.one_mul] at h_; exact h_
 have hji6v : (ji4) ≤ 64 → (IntKind.u64.wrap (2 ^ (ji4).toNat)) = ji6 := fun hle_ => by have h_ := hji6z hle_; rw [Int.one_mul] at h_; exact h_
 obtain ⟨t199, A7, H⟩ := ob_ H
 (try dsimp only at H)
 obtain rfl := Option.some.inj H
 go_enter Try.func69, Try.ntmps69
 go_wp2_with (first | ((with_reducible refine gate_callee (f := 96) rfl ?_); refine goesL_ (some 12) rfl rfl Try.func96 kf_ rfl #[.int .u64 ji6] rfl (by (try simp only [List.map_toArray, List.map_cons, List.map_nil]); first | done | (simp only [hji6]; rfl) | rfl | (simp only [List.length_drop, List.length_take]; rfl)) ?_; (with_reducible refine (num_Sqrt.calls k ji6 t199 _ A7.out).mono ?_); rintro e w' ⟨rfl, ⟨nd, rfl⟩⟩; refine ⟨_, rfl, ?_⟩))
 go_ret
 exact ⟨by first | rfl | (simp; done) | (simp only [← hji4, ← hji6] <;> (first | rfl | simp)) | (simp [*]; done), by repeat (first | exact Drawn0.refl _ | apply Drawn0.step)⟩}
 {
 rw [if_neg c5] at H
 exact absurd H (by simp)}}}
def floor_Floor.l0 : Nat → List Int → List Int → Int → Int → Option (List Int × Int)
  | 0, _, _, _, _ => none
  | k + 1, x6, x17, x18, x19 => if x19 < x18 then (if 0 ≤ x19 then (if x19 < (x17.length : Int) then ((band_Value.f k (rd x17 x19)).bind fun t205 => (if x6.length < 17592186044416 then (floor_Floor.l0 k (x6 ++ [mx 1 t205]) x17 x18 (wrap64 (x19 + 1))) else (none))) else (none)) else (none)) else (some (x6, 0))
def floor_Floor.f (k : Nat) (l0 : List Int) : Option (List Int × Int) := (floor_Line.f k l0).bind fun bt200 => (if bt200.2 = 0 then (floor_Floor.l0 k ([] : List Int) bt200.1 (bt200.1.length : Int) 0) else (some (([] : List Int), bt200.2)))
theorem floor_Floor.mono_l : ∀ k, (∀ y0 y1 y2 y3, LeO (floor_Floor.l0 k y0 y1 y2 y3) (floor_Floor.l0 (k + 1) y0 y1 y2 y3))
  | 0 => fun _ _ _ _ r h => by simp [floor_Floor.l0] at h
  | k + 1 => by
    have ih0 := floor_Floor.mono_l k
    · intro y0 y1 y2 y3
      unfold floor_Floor.l0
      with_reducible repeat' first
   | exact ih0 _ _ _ _
   | exact band_Value.mono _ _
   | exact floor_Line.mono _ _
   | exact LeO.refl _
   | exact LeO.none _
   | refine LeO.ite ?_ ?_
   | refine LeO.bind ?_ (fun _ => ?_)
theorem floor_Floor.mono : ∀ a0 k, LeO (floor_Floor.f k a0) (floor_Floor.f (k + 1) a0) := by
  intro a0 k
  have ih0 := floor_Floor.mono_l k
  unfold floor_Floor.f
  with_reducible repeat' first
   | exact ih0 _ _ _ _
   | exact band_Value.mono _ _
   | exact floor_Line.mono _ _
   | exact LeO.refl _
   | exact LeO.none _
   | refine LeO.ite ?_ ?_
   | refine LeO.bind ?_ (fun _ => ?_)
set_option maxHeartbeats 8000000 in
set_option maxRecDepth 100000 in
theorem floor_Floor.calls (k : Nat) (A0 : Option Addr) (c0 : Nat) (l0 : List Int) (r1 : List Int) (r2 : Int) (w : World) (hr0 : Kd.C (Kd.int .i64) w A0 l0.length l0) (hc0 : l0.length ≤ c0) (h : floor_Floor.f k l0 = some (r1, r2)) :
    Calls Try.prog 34 #[.slice A0 l0.length c0] w fun e w' => ∃ v0_ : Value, e = .returned (.tuple #[v0_, .int .i64 r2]) ∧ Kd.R (Kd.int .i64) 2 w' w.heap.size (fun _ => True) v0_ r1 ∧ Below w.heap.size w w' := by
 have HR0 := Aside0.mk hr0
 have HC0 := Aside0.mk hc0
 clear hr0 hc0
 have HB := Aside0.mk (Below.refl w.heap.size w)
 have H : ((floor_Line.f k l0).bind fun bt200 => (if bt200.2 = 0 then (floor_Floor.l0 k ([] : List Int) bt200.1 (bt200.1.length : Int) 0) else (some (([] : List Int), bt200.2)))) = some (r1, r2) := h
 clear h
 obtain ⟨⟨t200, t201⟩, A2, H⟩ := ob_ H
 (try dsimp only at H)
 by_cases c3 : t201 = 0
 {
 rw [if_pos c3] at H
 have c3b0 : (t201 == 0) = true := beq_iff_eq.mpr c3
 have c3b1 : (t201 != 0) = false := bne_eq_false_iff_eq.mpr c3
 clear c3
 have H' := Aside0.mk H
 clear H
 go_enter Try.func34, Try.ntmps34
 go_wp2_with (first | ((with_reducible refine gate_callee (f := 68) rfl ?_); refine gL_ (some 11) Try.func68 #[.slice A0 l0.length c0] ?_; (with_reducible refine (floor_Line.calls k _ _ l0 t200 t201 _ ?side1 ?side2 A2.out).mono ?_); (case side1 => repeat (first | exact HR0.out | (with_reducible refine Kd.C_alloc ?_ _) | (with_reducible refine Kd.C_drewN ?_ _) | (with_reducible refine Kd.C_drew ?_))); (case side2 => exact HC0.out); rintro e w4 ⟨v202, rfl, ho0, hb⟩; refine ⟨_, rfl, ?_⟩; have HO203 := Aside0.mk (Kd.R_lower ho0 (bs_ HB)); replace HB := BS_ HB hb; (try clear hb); (try clear ho0); obtain ⟨Ao5, co5, eo5⟩ := Kd.R_slice HO203.out; subst eo5))
 go_loopg [6, 19] k (fun kq v6 v19 w' => ∃ (x6_1 : List Int) (x19_1 : Int), v19 = .int .i64 x19_1 ∧ Aside0 (floor_Floor.l0 kq x6_1 t200 (t200.length : Int) x19_1 = some (r1, r2)) ∧ Aside0 (kq ≤ k) ∧ Aside0 (Kd.R (Kd.int .i64) 2 w' w.heap.size (fun _ => True) v6 x6_1) ∧ Aside0 (Kd.R (Kd.int .i64) 3 w' w.heap.size (fun _ => True) (.slice Ao5 t200.length co5) t200) ∧ Aside0 (Below w.heap.size w w'))
 case atStart => exact ⟨(([] : List Int)), (0), rs_, H', ⟨Nat.le_refl _⟩, ⟨by first | exact Kd.R_nil _ _ _ _ _ | exact Kd.N_nil _ _ _ _ _ | exact Kd.V_nil _ _ _ _ _ | exact Kd.Q_nil _ _ _ _ _ | exact Kd.S_nil _ _ _ _ _⟩, ⟨kR_ HO203⟩, ⟨bl_ HB⟩⟩
 case round => (
 clear H'
 try clear c3
 try clear c3b0
 try clear c3b1
 obtain ⟨x6_1, x19_1, rfl, HA, HK1, HO_6, HO_17, HB⟩ := hrel
 cases gk with
 | zero => exact absurd HA.out (by simp [floor_Floor.l0])
 | succ k1 => (
 have H := HA.out
 clear HA
 simp only [floor_Floor.l0] at H
 by_cases c6 : x19_1 < (t200.length : Int)
 {
 rw [if_pos c6] at H
 have c6b0 : decide (x19_1 < (t200.length : Int)) = true := decide_eq_true c6
 clear c6
 by_cases c7 : 0 ≤ x19_1
 {
 rw [if_pos c7] at H
 have c7b0 : decide (0 ≤ x19_1) = true := decide_eq_true c7
 clear c7
 by_cases c8 : x19_1 < (t200.length : Int)
 {
 rw [if_pos c8] at H
 have c8b0 : decide (x19_1 < (t200.length : Int)) = true := decide_eq_true c8
 clear c8
 obtain ⟨t205, A9, H⟩ := ob_ H
 (try dsimp only at H)
 obtain ⟨ji10, hji10⟩ : ∃ j_ : Int, (mx 1 t205) = j_ := ⟨_, rfl⟩
 replace H : (if x6_1.length < 17592186044416 then (floor_Floor.l0 k1 (x6_1 ++ [ji10]) t200 (t200.length : Int) (wrap64 (x19_1 + 1))) else (none)) = some (r1, r2) := by first | (rw [hji10] at H; exact H) | (simp only [hji10] at H ⊢; exact H)
 (try rw [hji10] at A9)
 (try (have hji10l : 1 ≤ ji10 := by (rw [← hji10]; unfold mx; (repeat' split) <;> omega)))
 (try (have hji10m : 0 ≤ ji10 := by omega))
 have hji10_ : (if 1 < t205 then t205 else 1) = ji10 := hji10
 by_cases c11 : x6_1.length < 17592186044416
 {
 rw [if_pos c11] at H
 have LMc11 := Aside0.mk c11
 clear c11
 obtain ⟨y206, hy206⟩ : ∃ y_ : List Int, y_ = (x6_1 ++ [ji10]) := ⟨_, rfl⟩
 replace H : (floor_Floor.l0 k1 y206 t200 (t200.length : Int) (wrap64 (x19_1 + 1))) = some (r1, r2) := by first | (rw [hy206]; with_reducible exact H) | (have H2_ := (Option.bind_some _ _).symm.trans H; rw [hy206]; with_reducible exact H2_) | (have H2_ := (Option.bind_some _ _).symm.trans H; with_reducible exact H2_) | with_reducible exact H | (rw [hy206]; exact H) | exact H
 have Ny206 := Aside0.mk hy206
 clear hy206
 have H' := Aside0.mk H
 clear H
 have p204 : 0 ≤ (x19_1 : Int) := of_decide_eq_true am_
 have q204 : x19_1 < (t200.length : Int) := of_decide_eq_true am_
 obtain ⟨ad204, e204, hx204_0⟩ := Kd.at_int (Kd.R_reads' HO_17.out).2.2 x19_1 p204 q204
 cases e204
 replace p204 := eq_true p204
 replace q204 := eq_true q204
 go_wp2_with (first | ((with_reducible refine gate_callee (f := 69) rfl ?_); refine gL_ (some 25) Try.func69 #[.int .i64 (rd t200 x19_1)] ?_; (with_reducible refine (band_Value.calls k1 (rd t200 x19_1) t205 _ A9.out).mono ?_); rintro e w' ⟨rfl, ⟨nd, rfl⟩⟩; refine ⟨_, rfl, ?_⟩) | ((with_reducible refine gate_builtin (b := .append) (xs := #[.tmp 23, .tmp 27]) rfl ?_); at_builtin; refine Kd.R_append (Kd.int .i64) (w0 := w) w.heap.size rfl (.tmp 23) (.tmp 27) 53 2 (.int .i64 0) 8 rfl Try.underlying53 info2 rfl (by decide) (by omega) u6 x6_1 ji10 [.int .i64 ji10] (fun _ => True) (fun _ => False) rfl rfl ?aP (fun _ hk => hk.elim) ?aF ?aO ?aB ?aS ?aL ?_; (case aP => exact rfl); (case aB => exact (bl_ HB)); (case aF => exact (fun _ _ => trivial)); (case aO => exact (kR_ HO_6)); (case aS => exact (bs_ HB)); (case aL => have := LMc11.out; omega); intro v207 w12 ho hb hg hat; rw [← Ny206.out] at ho; replace HO_17 := Aside0.mk (Kd.R_over' (kR_ HO_17) (Kd.R_typed (kR_ HO_6)) (by decide) hg); replace HB := Aside0.mk (hb); have HO208 := Aside0.mk (ho); clear HO_6; clear ho hb hg hat))
 go_roundg k1
 case measure => have := HK1.out; omega
 case rel => exact ⟨(y206), (wrap64 (x19_1 + 1)), rs_, H', ⟨by have := HK1.out; omega⟩, ⟨kR_ HO208⟩, ⟨kR_ HO_17⟩, ⟨bl_ HB⟩⟩}
 {
 rw [if_neg c11] at H
 exact absurd H (by simp)}}
 {
 rw [if_neg c8] at H
 exact absurd H (by simp)}}
 {
 rw [if_neg c7] at H
 exact absurd H (by simp)}}
 {
 rw [if_neg c6] at H
 have c6b0 : decide (x19_1 < (t200.length : Int)) = false := decide_eq_false c6
 clear c6
 simp only [Option.some.injEq, Prod.mk.injEq] at H
 obtain ⟨rfl, rfl⟩ := H
 go_wp2
 go_ret2
 exact ⟨_, by first | rfl | (simp [errW_none, errW_some] <;> rfl) | (simp [*, errW_none, errW_some] <;> rfl), by (with_reducible repeat (first | apply Kd.R_alloc | apply Kd.R_drewN | apply Kd.R_drew)); exact HO_6.out, bl_ HB⟩}))}
 {
 rw [if_neg c3] at H
 have c3b0 : (t201 == 0) = false := beq_eq_false_iff_ne.mpr c3
 have c3b1 : (t201 != 0) = true := bne_iff_ne.mpr c3
 simp only [Option.some.injEq, Prod.mk.injEq] at H
 obtain ⟨rfl, rfl⟩ := H
 go_enter Try.func34, Try.ntmps34
 go_wp2_with (first | ((with_reducible refine gate_callee (f := 68) rfl ?_); refine gL_ (some 11) Try.func68 #[.slice A0 l0.length c0] ?_; (with_reducible refine (floor_Line.calls k _ _ l0 t200 t201 _ ?side1 ?side2 A2.out).mono ?_); (case side1 => repeat (first | exact HR0.out | (with_reducible refine Kd.C_alloc ?_ _) | (with_reducible refine Kd.C_drewN ?_ _) | (with_reducible refine Kd.C_drew ?_))); (case side2 => exact HC0.out); rintro e w13 ⟨v202, rfl, ho0, hb⟩; refine ⟨_, rfl, ?_⟩; have HO203 := Aside0.mk (Kd.R_lower ho0 (bs_ HB)); replace HB := BS_ HB hb; (try clear hb); (try clear ho0)))
 go_ret2
 exact ⟨_, by first | rfl | (simp [errW_none, errW_some] <;> rfl) | (simp [*, errW_none, errW_some] <;> rfl), by first | exact Kd.R_nil _ _ _ _ _ | exact Kd.N_nil _ _ _ _ _ | exact Kd.V_nil _ _ _ _ _ | exact Kd.Q_nil _ _ _ _ _ | exact Kd.S_nil _ _ _ _ _, bl_ HB⟩}
def remap_row.l0 : Nat → List Int → Int → Int → List Int → Int → Int → Option (Bool)
  | 0, _, _, _, _, _, _ => none
  | k + 1, x0, x1, x2, x9, x10, x11 => if x11 < x10 then (if 0 ≤ x11 then (if x11 < (x9.length : Int) then ((num_Clamp.f (rd x9 x11) x1 x2).bind fun t210 => (if (rd x9 x11) = t210 then (remap_row.l0 k x0 x1 x2 x9 x10 (wrap64 (x11 + 1))) else (some false))) else (none)) else (none)) else (some ((x0.length : Int) == 16))
def remap_row.f (k : Nat) (l0 : List Int) (a1 : Int) (a2 : Int) : Option (Bool) := remap_row.l0 k l0 a1 a2 l0 (l0.length : Int) 0
theorem remap_row.mono_l : ∀ k, (∀ y0 y1 y2 y3 y4 y5, LeO (remap_row.l0 k y0 y1 y2 y3 y4 y5) (remap_row.l0 (k + 1) y0 y1 y2 y3 y4 y5))
  | 0 => fun _ _ _ _ _ _ r h => by simp [remap_row.l0] at h
  | k + 1 => by
    have ih0 := remap_row.mono_l k
    · intro y0 y1 y2 y3 y4 y5
      unfold remap_row.l0
      with_reducible repeat' first
   | exact ih0 _ _ _ _ _ _
   | exact LeO.refl _
   | exact LeO.none _
   | refine LeO.ite ?_ ?_
   | refine LeO.bind ?_ (fun _ => ?_)
theorem remap_row.mono : ∀ a0 a1 a2 k, LeO (remap_row.f k a0 a1 a2) (remap_row.f (k + 1) a0 a1 a2) := by
  intro a0 a1 a2 k
  have ih0 := remap_row.mono_l k
  unfold remap_row.f
  with_reducible repeat' first
   | exact ih0 _ _ _ _ _ _
   | exact LeO.refl _
   | exact LeO.none _
   | refine LeO.ite ?_ ?_
   | refine LeO.bind ?_ (fun _ => ?_)
set_option maxHeartbeats 8000000 in
set_option maxRecDepth 100000 in
theorem remap_row.calls (k : Nat) (A0 : Option Addr) (c0 : Nat) (l0 : List Int) (a1 : Int) (a2 : Int) (r : Bool) (w : World) (hr0 : Kd.C (Kd.int .i64) w A0 l0.length l0) (hc0 : l0.length ≤ c0) (h : remap_row.f k l0 a1 a2 = some r) :
    Calls Try.prog 70 #[.slice A0 l0.length c0, .int .i64 a1, .int .i64 a2] w fun e w' => e = .returned (.bool r) ∧ Drawn0 w w' := by
 have HR0 := Aside0.mk hr0
 have HC0 := Aside0.mk hc0
 clear hr0 hc0
 have H : (remap_row.l0 k l0 a1 a2 l0 (l0.length : Int) 0) = some r := h
 clear h
 have H' := Aside0.mk H
 clear H
 go_enter Try.func70, Try.ntmps70
 go_wp2
 go_loopg [11] k (fun kq v11 w' => ∃ (x11_1 : Int), v11 = .int .i64 x11_1 ∧ Aside0 (remap_row.l0 kq l0 a1 a2 l0 (l0.length : Int) x11_1 = some r) ∧ Aside0 (kq ≤ k) ∧ Drawn0 w w')
 case atStart => exact ⟨(0), rs_, H', ⟨Nat.le_refl _⟩, by repeat (first | exact Drawn0.refl _ | apply Drawn0.step)⟩
 case round => (
 clear H'
 obtain ⟨x11_1, rfl, HA, HK1, ⟨m1, rfl⟩⟩ := hrel
 cases gk with
 | zero => exact absurd HA.out (by simp [remap_row.l0])
 | succ k1 => (
 have H := HA.out
 clear HA
 simp only [remap_row.l0] at H
 by_cases c4 : x11_1 < (l0.length : Int)
 {
 rw [if_pos c4] at H
 have c4b0 : decide (x11_1 < (l0.length : Int)) = true := decide_eq_true c4
 clear c4
 by_cases c5 : 0 ≤ x11_1
 {
 rw [if_pos c5] at H
 have c5b0 : decide (0 ≤ x11_1) = true := decide_eq_true c5
 clear c5
 by_cases c6 : x11_1 < (l0.length : Int)
 {
 rw [if_pos c6] at H
 have c6b0 : decide (x11_1 < (l0.length : Int)) = true := decide_eq_true c6
 clear c6
 obtain ⟨t210, A7, H⟩ := ob_ H
 (try dsimp only at H)
 by_cases c8 : (rd l0 x11_1) = t210
 {
 rw [if_pos c8] at H
 have c8b0 : ((rd l0 x11_1) == t210) = true := beq_iff_eq.mpr c8
 have c8b1 : ((rd l0 x11_1) != t210) = false := bne_eq_false_iff_eq.mpr c8
 clear c8
 have H' := Aside0.mk H
 clear H
 have p209 : 0 ≤ (x11_1 : Int) := of_decide_eq_true am_
 have q209 : x11_1 < (l0.length : Int) := of_decide_eq_true am_
 obtain ⟨ad209, e209, hx209_0⟩ := Kd.at_int HR0.out x11_1 p209 q209
 cases e209
 replace p209 := eq_true p209
 replace q209 := eq_true q209
 go_wp2_with (first | ((with_reducible refine gate_callee (f := 73) rfl ?_); refine gL_ (some 19) Try.func73 #[.int .i64 (rd l0 x11_1), .int .i64 a1, .int .i64 a2] ?_; (with_reducible refine (num_Clamp.calls (rd l0 x11_1) a1 a2 t210 _ A7.out).mono ?_); rintro e w' ⟨rfl, ⟨nd, rfl⟩⟩; refine ⟨_, rfl, ?_⟩))
 go_roundg k1
 case measure => have := HK1.out; omega
 case rel => exact ⟨(wrap64 (x11_1 + 1)), rs_, H', ⟨by have := HK1.out; omega⟩, by repeat (first | exact Drawn0.refl _ | apply Drawn0.step)⟩}
 {
 rw [if_neg c8] at H
 have c8b0 : ((rd l0 x11_1) == t210) = false := beq_eq_false_iff_ne.mpr c8
 have c8b1 : ((rd l0 x11_1) != t210) = true := bne_iff_ne.mpr c8
 obtain rfl := Option.some.inj H
 have p209 : 0 ≤ (x11_1 : Int) := of_decide_eq_true am_
 have q209 : x11_1 < (l0.length : Int) := of_decide_eq_true am_
 obtain ⟨ad209, e209, hx209_0⟩ := Kd.at_int HR0.out x11_1 p209 q209
 cases e209
 replace p209 := eq_true p209
 replace q209 := eq_true q209
 go_wp2_with (first | ((with_reducible refine gate_callee (f := 73) rfl ?_); refine gL_ (some 19) Try.func73 #[.int .i64 (rd l0 x11_1), .int .i64 a1, .int .i64 a2] ?_; (with_reducible refine (num_Clamp.calls (rd l0 x11_1) a1 a2 t210 _ A7.out).mono ?_); rintro e w' ⟨rfl, ⟨nd, rfl⟩⟩; refine ⟨_, rfl, ?_⟩))
 go_ret
 exact ⟨by first | rfl | (simp; done) | (simp [*]; done), by repeat (first | exact Drawn0.refl _ | apply Drawn0.step)⟩}}
 {
 rw [if_neg c6] at H
 exact absurd H (by simp)}}
 {
 rw [if_neg c5] at H
 exact absurd H (by simp)}}
 {
 rw [if_neg c4] at H
 have c4b0 : decide (x11_1 < (l0.length : Int)) = false := decide_eq_false c4
 clear c4
 obtain rfl := Option.some.inj H
 go_wp2
 go_ret
 exact ⟨by first | rfl | (simp; done) | (simp [*]; done), by repeat (first | exact Drawn0.refl _ | apply Drawn0.step)⟩}))
def remap_restored.f (a0 : Int) (a1 : Int) : Option (Int) := (num_Clamp.f (wrap64 (a0 * a1)) (-1048576) 1048576).bind fun t211 => (some t211)
set_option maxHeartbeats 8000000 in
set_option maxRecDepth 100000 in
theorem remap_restored.calls (a0 : Int) (a1 : Int) (r : Int) (w : World) (h : remap_restored.f a0 a1 = some r) :
    Calls Try.prog 72 #[.int .i64 a0, .int .i64 a1] w fun e w' => e = .returned (.int .i64 r) ∧ Drawn0 w w' := by
 have H : ((num_Clamp.f (wrap64 (a0 * a1)) (-1048576) 1048576).bind fun t211 => (some t211)) = some r := h
 clear h
 replace H := Option.bind_eq_some_iff.mp H
 obtain ⟨t211, A30, H⟩ := H
 replace H : (some t211) = some r := H
 have A3 := Aside0.mk A30
 clear A30
 obtain rfl := Option.some.inj H
 go_enter Try.func72, Try.ntmps72
 go_wp2_with (first | ((with_reducible refine gate_callee (f := 73) rfl ?_); refine gL_ (some 8) Try.func73 #[.int .i64 (wrap64 (a0 * a1)), .int .i64 (-1048576), .int .i64 1048576] ?_; (with_reducible refine (num_Clamp.calls (wrap64 (a0 * a1)) (-1048576) 1048576 t211 _ A3.out).mono ?_); rintro e w' ⟨rfl, ⟨nd, rfl⟩⟩; refine ⟨_, rfl, ?_⟩))
 go_ret
 exact ⟨by first | rfl | (simp; done) | (simp [*]; done), by repeat (first | exact Drawn0.refl _ | apply Drawn0.step)⟩
def remap_over_int64_by_remap_restored.l0 : Nat → List Int → List Int → List Int → Int → Int → Option (List Int)
  | 0, _, _, _, _, _ => none
  | k + 1, x1, x7, x10, x11, x12 => if x12 < x11 then (if 0 ≤ x12 then (if x12 < (x10.length : Int) then (if x12 < (x1.length : Int) then ((remap_restored.f (rd x10 x12) (rd x1 x12)).bind fun t214 => (if x7.length < 17592186044416 then (remap_over_int64_by_remap_restored.l0 k x1 (x7 ++ [t214]) x10 x11 (wrap64 (x12 + 1))) else (none))) else (none)) else (none)) else (none)) else (some x7)
def remap_over_int64_by_remap_restored.f (k : Nat) (l0 : List Int) (l1 : List Int)  : Option (List Int) := remap_over_int64_by_remap_restored.l0 k l1 ([] : List Int) l0 (l0.length : Int) 0
theorem remap_over_int64_by_remap_restored.mono_l : ∀ k, (∀ y0 y1 y2 y3 y4, LeO (remap_over_int64_by_remap_restored.l0 k y0 y1 y2 y3 y4) (remap_over_int64_by_remap_restored.l0 (k + 1) y0 y1 y2 y3 y4))
  | 0 => fun _ _ _ _ _ r h => by simp [remap_over_int64_by_remap_restored.l0] at h
  | k + 1 => by
    have ih0 := remap_over_int64_by_remap_restored.mono_l k
    · intro y0 y1 y2 y3 y4
      unfold remap_over_int64_by_remap_restored.l0
      with_reducible repeat' first
   | exact ih0 _ _ _ _ _
   | exact LeO.refl _
   | exact LeO.none _
   | refine LeO.ite ?_ ?_
   | refine LeO.bind ?_ (fun _ => ?_)
theorem remap_over_int64_by_remap_restored.mono : ∀ a0 a1 k, LeO (remap_over_int64_by_remap_restored.f k a0 a1) (remap_over_int64_by_remap_restored.f (k + 1) a0 a1) := by
  intro a0 a1 k
  have ih0 := remap_over_int64_by_remap_restored.mono_l k
  unfold remap_over_int64_by_remap_restored.f
  with_reducible repeat' first
   | exact ih0 _ _ _ _ _
   | exact LeO.refl _
   | exact LeO.none _
   | refine LeO.ite ?_ ?_
   | refine LeO.bind ?_ (fun _ => ?_)
set_option maxHeartbeats 8000000 in
set_option maxRecDepth 100000 in
theorem remap_over_int64_by_remap_restored.calls (k : Nat) (A0 : Option Addr) (c0 : Nat) (l0 : List Int) (A1 : Option Addr) (c1 : Nat) (l1 : List Int)  (r : List Int) (w : World) (hr0 : Kd.C (Kd.int .i64) w A0 l0.length l0) (hc0 : l0.length ≤ c0) (hr1 : Kd.C (Kd.int .i64) w A1 l1.length l1) (hc1 : l1.length ≤ c1) (h : remap_over_int64_by_remap_restored.f k l0 l1 = some r) :
    Calls Try.prog 71 #[.slice A0 l0.length c0, .slice A1 l1.length c1, .func (.func 72) #[] #[]] w fun e w' => ∃ v0_ : Value, e = .returned (v0_) ∧ Kd.R (Kd.int .i64) 2 w' w.heap.size (fun _ => True) v0_ r ∧ Below w.heap.size w w' := by
 have HR0 := Aside0.mk hr0
 have HC0 := Aside0.mk hc0
 clear hr0 hc0
 have HR1 := Aside0.mk hr1
 have HC1 := Aside0.mk hc1
 clear hr1 hc1
 have HB := Aside0.mk (Below.refl w.heap.size w)
 have H : (remap_over_int64_by_remap_restored.l0 k l1 ([] : List Int) l0 (l0.length : Int) 0) = some r := h
 clear h
 have H' := Aside0.mk H
 clear H
 go_enter Try.func71, Try.ntmps71
 go_wp2
 go_loopg [7, 12] k (fun kq v7 v12 w' => ∃ (x7_1 : List Int) (x12_1 : Int), v12 = .int .i64 x12_1 ∧ Aside0 (remap_over_int64_by_remap_restored.l0 kq l1 x7_1 l0 (l0.length : Int) x12_1 = some r) ∧ Aside0 (kq ≤ k) ∧ Aside0 (Kd.R (Kd.int .i64) 2 w' w.heap.size (fun _ => True) v7 x7_1) ∧ Aside0 (Below w.heap.size w w'))
 case atStart => exact ⟨(([] : List Int)), (0), rs_, H', ⟨Nat.le_refl _⟩, ⟨by first | exact Kd.R_nil _ _ _ _ _ | exact Kd.N_nil _ _ _ _ _ | exact Kd.V_nil _ _ _ _ _ | exact Kd.Q_nil _ _ _ _ _ | exact Kd.S_nil _ _ _ _ _⟩, ⟨bl_ HB⟩⟩
 case round => (
 clear H'
 obtain ⟨x7_1, x12_1, rfl, HA, HK1, HO_7, HB⟩ := hrel
 cases gk with
 | zero => exact absurd HA.out (by simp [remap_over_int64_by_remap_restored.l0])
 | succ k1 => (
 have H := HA.out
 clear HA
 simp only [remap_over_int64_by_remap_restored.l0] at H
 by_cases c4 : x12_1 < (l0.length : Int)
 {
 rw [if_pos c4] at H
 have c4b0 : decide (x12_1 < (l0.length : Int)) = true := decide_eq_true c4
 clear c4
 by_cases c5 : 0 ≤ x12_1
 {
 rw [if_pos c5] at H
 have c5b0 : decide (0 ≤ x12_1) = true := decide_eq_true c5
 clear c5
 by_cases c6 : x12_1 < (l0.length : Int)
 {
 rw [if_pos c6] at H
 have c6b0 : decide (x12_1 < (l0.length : Int)) = true := decide_eq_true c6
 clear c6
 by_cases c7 : x12_1 < (l1.length : Int)
 {
 rw [if_pos c7] at H
 have c7b0 : decide (x12_1 < (l1.length : Int)) = true := decide_eq_true c7
 clear c7
 obtain ⟨t214, A8, H⟩ := ob_ H
 (try dsimp only at H)
 by_cases c9 : x7_1.length < 17592186044416
 {
 rw [if_pos c9] at H
 have LMc9 := Aside0.mk c9
 clear c9
 obtain ⟨y215, hy215⟩ : ∃ y_ : List Int, y_ = (x7_1 ++ [t214]) := ⟨_, rfl⟩
 replace H : (remap_over_int64_by_remap_restored.l0 k1 l1 y215 l0 (l0.length : Int) (wrap64 (x12_1 + 1))) = some r := by first | (rw [hy215]; with_reducible exact H) | (have H2_ := (Option.bind_some _ _).symm.trans H; rw [hy215]; with_reducible exact H2_) | (have H2_ := (Option.bind_some _ _).symm.trans H; with_reducible exact H2_) | with_reducible exact H | (rw [hy215]; exact H) | exact H
 have Ny215 := Aside0.mk hy215
 clear hy215
 have H' := Aside0.mk H
 clear H
 have p212 : 0 ≤ (x12_1 : Int) := of_decide_eq_true am_
 have q212 : x12_1 < (l0.length : Int) := of_decide_eq_true am_
 obtain ⟨ad212, e212, hx212_0⟩ := Kd.at_int HR0.out x12_1 p212 q212
 cases e212
 replace hx212_0 := (HB.out.cell (World.block_lt_of_cell? w _ hx212_0)).trans hx212_0
 replace p212 := eq_true p212
 replace q212 := eq_true q212
 have p213 : 0 ≤ (x12_1 : Int) := of_decide_eq_true am_
 have q213 : x12_1 < (l1.length : Int) := of_decide_eq_true am_
 obtain ⟨ad213, e213, hx213_0⟩ := Kd.at_int HR1.out x12_1 p213 q213
 cases e213
 replace hx213_0 := (HB.out.cell (World.block_lt_of_cell? w _ hx213_0)).trans hx213_0
 replace p213 := eq_true p213
 replace q213 := eq_true q213
 go_wp2_with (first | (go_at_call 72; (with_reducible refine (remap_restored.calls (rd l0 x12_1) (rd l1 x12_1) t214 _ A8.out).mono ?_); rintro e w' ⟨rfl, ⟨nd, rfl⟩⟩) | ((with_reducible refine gate_builtin (b := .append) (xs := #[.tmp 17, .tmp 25]) rfl ?_); at_builtin; refine Kd.R_append (Kd.int .i64) (w0 := w) w.heap.size rfl (.tmp 17) (.tmp 25) 53 2 (.int .i64 0) 8 rfl Try.underlying53 info2 rfl (by decide) (by omega) u7 x7_1 t214 [.int .i64 t214] (fun _ => True) (fun _ => False) rfl rfl ?aP (fun _ hk => hk.elim) ?aF ?aO ?aB ?aS ?aL ?_; (case aP => exact rfl); (case aB => exact (bl_ HB)); (case aF => exact (fun _ _ => trivial)); (case aO => exact (kR_ HO_7)); (case aS => exact (bs_ HB)); (case aL => have := LMc9.out; omega); intro v216 w10 ho hb hg hat; rw [← Ny215.out] at ho; replace HB := Aside0.mk (hb); have HO217 := Aside0.mk (ho); clear HO_7; clear ho hb hg hat))
 go_roundg k1
 case measure => have := HK1.out; omega
 case rel => exact ⟨(y215), (wrap64 (x12_1 + 1)), rs_, H', ⟨by have := HK1.out; omega⟩, ⟨kR_ HO217⟩, ⟨bl_ HB⟩⟩}
 {
 rw [if_neg c9] at H
 exact absurd H (by simp)}}
 {
 rw [if_neg c7] at H
 exact absurd H (by simp)}}
 {
 rw [if_neg c6] at H
 exact absurd H (by simp)}}
 {
 rw [if_neg c5] at H
 exact absurd H (by simp)}}
 {
 rw [if_neg c4] at H
 have c4b0 : decide (x12_1 < (l0.length : Int)) = false := decide_eq_false c4
 clear c4
 obtain rfl := Option.some.inj H
 go_wp2
 go_ret
 exact ⟨_, by first | rfl | (simp [errW_none, errW_some] <;> rfl) | (simp [*, errW_none, errW_some] <;> rfl), by (with_reducible repeat (first | apply Kd.R_alloc | apply Kd.R_drewN | apply Kd.R_drew)); exact HO_7.out, bl_ HB⟩}))
def remap_Restore.f (k : Nat) (l0 : List Int) (l1 : List Int) : Option (List Int × Int) := (remap_row.f k l0 (-8388608) 8388608).bind fun t218 => (if t218 = true then ((remap_row.f k l1 1 4194304).bind fun t219 => (if t219 = true then ((remap_over_int64_by_remap_restored.f k l0 l1).bind fun t220 => (some (t220, 0))) else (some (([] : List Int), 1)))) else (some (([] : List Int), 1)))
theorem remap_Restore.mono : ∀ a0 a1 k, LeO (remap_Restore.f k a0 a1) (remap_Restore.f (k + 1) a0 a1) := by
  intro a0 a1 k
  unfold remap_Restore.f
  with_reducible repeat' first
   | exact remap_over_int64_by_remap_restored.mono _ _ _
   | exact remap_row.mono _ _ _ _
   | exact LeO.refl _
   | exact LeO.none _
   | refine LeO.ite ?_ ?_
   | refine LeO.bind ?_ (fun _ => ?_)
set_option maxHeartbeats 8000000 in
set_option maxRecDepth 100000 in
theorem remap_Restore.calls (k : Nat) (A0 : Option Addr) (c0 : Nat) (l0 : List Int) (A1 : Option Addr) (c1 : Nat) (l1 : List Int) (r1 : List Int) (r2 : Int) (w : World) (hr0 : Kd.C (Kd.int .i64) w A0 l0.length l0) (hc0 : l0.length ≤ c0) (hr1 : Kd.C (Kd.int .i64) w A1 l1.length l1) (hc1 : l1.length ≤ c1) (h : remap_Restore.f k l0 l1 = some (r1, r2)) :
    Calls Try.prog 35 #[.slice A0 l0.length c0, .slice A1 l1.length c1] w fun e w' => ∃ v0_ : Value, e = .returned (.tuple #[v0_, .int .i64 r2]) ∧ Kd.R (Kd.int .i64) 2 w' w.heap.size (fun _ => True) v0_ r1 ∧ Below w.heap.size w w' := by
 have HR0 := Aside0.mk hr0
 have HC0 := Aside0.mk hc0
 clear hr0 hc0
 have HR1 := Aside0.mk hr1
 have HC1 := Aside0.mk hc1
 clear hr1 hc1
 have HB := Aside0.mk (Below.refl w.heap.size w)
 have H : ((remap_row.f k l0 (-8388608) 8388608).bind fun t218 => (if t218 = true then ((remap_row.f k l1 1 4194304).bind fun t219 => (if t219 = true then ((remap_over_int64_by_remap_restored.f k l0 l1).bind fun t220 => (some (t220, 0))) else (some (([] : List Int), 1)))) else (some (([] : List Int), 1)))) = some (r1, r2) := h
 clear h
 obtain ⟨t218, A3, H⟩ := ob_ H
 (try dsimp only at H)
 by_cases c4 : t218 = true
 {
 subst c4
 rw [if_pos rfl] at H
 obtain ⟨t219, A5, H⟩ := ob_ H
 (try dsimp only at H)
 by_cases c6 : t219 = true
 {
 subst c6
 rw [if_pos rfl] at H
 obtain ⟨t220, A7, H⟩ := ob_ H
 (try dsimp only at H)
 simp only [Option.some.injEq, Prod.mk.injEq] at H
 obtain ⟨rfl, rfl⟩ := H
 go_enter Try.func35, Try.ntmps35
 go_wp2_with (first | ((with_reducible refine gate_callee (f := 70) rfl ?_); refine gL_ (some 7) Try.func70 #[.slice A0 l0.length c0, .int .i64 (-8388608), .int .i64 8388608] ?_; (with_reducible refine (remap_row.calls k _ _ l0 (-8388608) 8388608 true _ ?side1 ?side2 A3.out).mono ?_); (case side1 => repeat (first | exact HR0.out | (with_reducible refine Kd.C_alloc ?_ _) | (with_reducible refine Kd.C_drewN ?_ _) | (with_reducible refine Kd.C_drew ?_))); (case side2 => exact HC0.out); rintro e w' ⟨rfl, ⟨nd, rfl⟩⟩; refine ⟨_, rfl, ?_⟩) | (go_at_call 70; (with_reducible refine (remap_row.calls k _ _ l1 1 4194304 true _ ?side1 ?side2 A5.out).mono ?_); (case side1 => repeat (first | exact HR1.out | (with_reducible refine Kd.C_alloc ?_ _) | (with_reducible refine Kd.C_drewN ?_ _) | (with_reducible refine Kd.C_drew ?_))); (case side2 => exact HC1.out); rintro e w' ⟨rfl, ⟨nd, rfl⟩⟩) | ((with_reducible refine gate_callee (f := 71) rfl ?_); refine gL_ (some 16) Try.func71 #[.slice A0 l0.length c0, .slice A1 l1.length c1, .func (.func 72) #[] #[]] ?_; (with_reducible refine (remap_over_int64_by_remap_restored.calls k _ _ l0 _ _ l1  t220 _ ?side1 ?side2 ?side3 ?side4 A7.out).mono ?_); (case side1 => repeat (first | exact HR0.out | (with_reducible refine Kd.C_alloc ?_ _) | (with_reducible refine Kd.C_drewN ?_ _) | (with_reducible refine Kd.C_drew ?_))); (case side2 => exact HC0.out); (case side3 => repeat (first | exact HR1.out | (with_reducible refine Kd.C_alloc ?_ _) | (with_reducible refine Kd.C_drewN ?_ _) | (with_reducible refine Kd.C_drew ?_))); (case side4 => exact HC1.out); rintro e w8 ⟨v221, rfl, ho0, hb⟩; refine ⟨_, rfl, ?_⟩; have HO222 := Aside0.mk (Kd.R_lower ho0 (bs_ HB)); replace HB := BS_ HB hb; (try clear hb); (try clear ho0)))
 go_ret2
 exact ⟨_, by first | rfl | (simp [errW_none, errW_some] <;> rfl) | (simp [*, errW_none, errW_some] <;> rfl), by (with_reducible repeat (first | apply Kd.R_alloc | apply Kd.R_drewN | apply Kd.R_drew)); exact HO222.out, bl_ HB⟩}
 {
 replace c6 := Bool.eq_false_iff.mpr c6
 subst c6
 rw [if_neg (show ¬ (false = true) by decide)] at H
 simp only [Option.some.injEq, Prod.mk.injEq] at H
 obtain ⟨rfl, rfl⟩ := H
 go_enter Try.func35, Try.ntmps35
 go_wp2_with (first | ((with_reducible refine gate_callee (f := 70) rfl ?_); refine gL_ (some 7) Try.func70 #[.slice A0 l0.length c0, .int .i64 (-8388608), .int .i64 8388608] ?_; (with_reducible refine (remap_row.calls k _ _ l0 (-8388608) 8388608 true _ ?side1 ?side2 A3.out).mono ?_); (case side1 => repeat (first | exact HR0.out | (with_reducible refine Kd.C_alloc ?_ _) | (with_reducible refine Kd.C_drewN ?_ _) | (with_reducible refine Kd.C_drew ?_))); (case side2 => exact HC0.out); rintro e w' ⟨rfl, ⟨nd, rfl⟩⟩; refine ⟨_, rfl, ?_⟩) | (go_at_call 70; (with_reducible refine (remap_row.calls k _ _ l1 1 4194304 false _ ?side1 ?side2 A5.out).mono ?_); (case side1 => repeat (first | exact HR1.out | (with_reducible refine Kd.C_alloc ?_ _) | (with_reducible refine Kd.C_drewN ?_ _) | (with_reducible refine Kd.C_drew ?_))); (case side2 => exact HC1.out); rintro e w' ⟨rfl, ⟨nd, rfl⟩⟩))
 go_ret2
 exact ⟨_, by first | rfl | (simp [errW_none, errW_some] <;> rfl) | (simp [*, errW_none, errW_some] <;> rfl), by first | exact Kd.R_nil _ _ _ _ _ | exact Kd.N_nil _ _ _ _ _ | exact Kd.V_nil _ _ _ _ _ | exact Kd.Q_nil _ _ _ _ _ | exact Kd.S_nil _ _ _ _ _, bl_ HB⟩}}
 {
 replace c4 := Bool.eq_false_iff.mpr c4
 subst c4
 rw [if_neg (show ¬ (false = true) by decide)] at H
 simp only [Option.some.injEq, Prod.mk.injEq] at H
 obtain ⟨rfl, rfl⟩ := H
 go_enter Try.func35, Try.ntmps35
 go_wp2_with (first | ((with_reducible refine gate_callee (f := 70) rfl ?_); refine gL_ (some 7) Try.func70 #[.slice A0 l0.length c0, .int .i64 (-8388608), .int .i64 8388608] ?_; (with_reducible refine (remap_row.calls k _ _ l0 (-8388608) 8388608 false _ ?side1 ?side2 A3.out).mono ?_); (case side1 => repeat (first | exact HR0.out | (with_reducible refine Kd.C_alloc ?_ _) | (with_reducible refine Kd.C_drewN ?_ _) | (with_reducible refine Kd.C_drew ?_))); (case side2 => exact HC0.out); rintro e w' ⟨rfl, ⟨nd, rfl⟩⟩; refine ⟨_, rfl, ?_⟩))
 go_ret2
 exact ⟨_, by first | rfl | (simp [errW_none, errW_some] <;> rfl) | (simp [*, errW_none, errW_some] <;> rfl), by first | exact Kd.R_nil _ _ _ _ _ | exact Kd.N_nil _ _ _ _ _ | exact Kd.V_nil _ _ _ _ _ | exact Kd.Q_nil _ _ _ _ _ | exact Kd.S_nil _ _ _ _ _, bl_ HB⟩}
def vcodec_near.l0 : Nat → List Int → List Int → Int → Int → Option (List Int)
  | 0, _, _, _, _ => none
  | k + 1, x3, x6, x7, x8 => if x8 < x7 then (if 0 ≤ x8 then (if x8 < (x6.length : Int) then ((num_Clamp.f (rd x6 x8) (-8388608) 8388608).bind fun t224 => (if x3.length < 17592186044416 then (vcodec_near.l0 k (x3 ++ [t224]) x6 x7 (wrap64 (x8 + 1))) else (none))) else (none)) else (none)) else (some x3)
def vcodec_near.f (k : Nat) (l0 : List Int) : Option (List Int) := vcodec_near.l0 k ([] : List Int) l0 (l0.length : Int) 0
theorem vcodec_near.mono_l : ∀ k, (∀ y0 y1 y2 y3, LeO (vcodec_near.l0 k y0 y1 y2 y3) (vcodec_near.l0 (k + 1) y0 y1 y2 y3))
  | 0 => fun _ _ _ _ r h => by simp [vcodec_near.l0] at h
  | k + 1 => by
    have ih0 := vcodec_near.mono_l k
    · intro y0 y1 y2 y3
      unfold vcodec_near.l0
      with_reducible repeat' first
   | exact ih0 _ _ _ _
   | exact LeO.refl _
   | exact LeO.none _
   | refine LeO.ite ?_ ?_
   | refine LeO.bind ?_ (fun _ => ?_)
theorem vcodec_near.mono : ∀ a0 k, LeO (vcodec_near.f k a0) (vcodec_near.f (k + 1) a0) := by
  intro a0 k
  have ih0 := vcodec_near.mono_l k
  unfold vcodec_near.f
  with_reducible repeat' first
   | exact ih0 _ _ _ _
   | exact LeO.refl _
   | exact LeO.none _
   | refine LeO.ite ?_ ?_
   | refine LeO.bind ?_ (fun _ => ?_)
set_option maxHeartbeats 8000000 in
set_option maxRecDepth 100000 in
theorem vcodec_near.calls (k : Nat) (A0 : Option Addr) (c0 : Nat) (l0 : List Int) (r : List Int) (w : World) (hr0 : Kd.C (Kd.int .i64) w A0 l0.length l0) (hc0 : l0.length ≤ c0) (h : vcodec_near.f k l0 = some r) :
    Calls Try.prog 36 #[.slice A0 l0.length c0] w fun e w' => ∃ v0_ : Value, e = .returned (v0_) ∧ Kd.R (Kd.int .i64) 2 w' w.heap.size (fun _ => True) v0_ r ∧ Below w.heap.size w w' := by
 have HR0 := Aside0.mk hr0
 have HC0 := Aside0.mk hc0
 clear hr0 hc0
 have HB := Aside0.mk (Below.refl w.heap.size w)
 have H : (vcodec_near.l0 k ([] : List Int) l0 (l0.length : Int) 0) = some r := h
 clear h
 have H' := Aside0.mk H
 clear H
 go_enter Try.func36, Try.ntmps36
 go_wp2
 go_loopg [3, 8] k (fun kq v3 v8 w' => ∃ (x3_1 : List Int) (x8_1 : Int), v8 = .int .i64 x8_1 ∧ Aside0 (vcodec_near.l0 kq x3_1 l0 (l0.length : Int) x8_1 = some r) ∧ Aside0 (kq ≤ k) ∧ Aside0 (Kd.R (Kd.int .i64) 2 w' w.heap.size (fun _ => True) v3 x3_1) ∧ Aside0 (Below w.heap.size w w'))
 case atStart => exact ⟨(([] : List Int)), (0), rs_, H', ⟨Nat.le_refl _⟩, ⟨by first | exact Kd.R_nil _ _ _ _ _ | exact Kd.N_nil _ _ _ _ _ | exact Kd.V_nil _ _ _ _ _ | exact Kd.Q_nil _ _ _ _ _ | exact Kd.S_nil _ _ _ _ _⟩, ⟨bl_ HB⟩⟩
 case round => (
 clear H'
 obtain ⟨x3_1, x8_1, rfl, HA, HK1, HO_3, HB⟩ := hrel
 cases gk with
 | zero => exact absurd HA.out (by simp [vcodec_near.l0])
 | succ k1 => (
 have H := HA.out
 clear HA
 simp only [vcodec_near.l0] at H
 by_cases c2 : x8_1 < (l0.length : Int)
 {
 rw [if_pos c2] at H
 have c2b0 : decide (x8_1 < (l0.length : Int)) = true := decide_eq_true c2
 clear c2
 by_cases c3 : 0 ≤ x8_1
 {
 rw [if_pos c3] at H
 have c3b0 : decide (0 ≤ x8_1) = true := decide_eq_true c3
 clear c3
 by_cases c4 : x8_1 < (l0.length : Int)
 {
 rw [if_pos c4] at H
 have c4b0 : decide (x8_1 < (l0.length : Int)) = true := decide_eq_true c4
 clear c4
 obtain ⟨t224, A5, H⟩ := ob_ H
 (try dsimp only at H)
 by_cases c6 : x3_1.length < 17592186044416
 {
 rw [if_pos c6] at H
 have LMc6 := Aside0.mk c6
 clear c6
 obtain ⟨y225, hy225⟩ : ∃ y_ : List Int, y_ = (x3_1 ++ [t224]) := ⟨_, rfl⟩
 replace H : (vcodec_near.l0 k1 y225 l0 (l0.length : Int) (wrap64 (x8_1 + 1))) = some r := by first | (rw [hy225]; with_reducible exact H) | (have H2_ := (Option.bind_some _ _).symm.trans H; rw [hy225]; with_reducible exact H2_) | (have H2_ := (Option.bind_some _ _).symm.trans H; with_reducible exact H2_) | with_reducible exact H | (rw [hy225]; exact H) | exact H
 have Ny225 := Aside0.mk hy225
 clear hy225
 have H' := Aside0.mk H
 clear H
 have p223 : 0 ≤ (x8_1 : Int) := of_decide_eq_true am_
 have q223 : x8_1 < (l0.length : Int) := of_decide_eq_true am_
 obtain ⟨ad223, e223, hx223_0⟩ := Kd.at_int HR0.out x8_1 p223 q223
 cases e223
 replace hx223_0 := (HB.out.cell (World.block_lt_of_cell? w _ hx223_0)).trans hx223_0
 replace p223 := eq_true p223
 replace q223 := eq_true q223
 go_wp2_with (first | ((with_reducible refine gate_callee (f := 73) rfl ?_); refine gL_ (some 14) Try.func73 #[.int .i64 (rd l0 x8_1), .int .i64 (-8388608), .int .i64 8388608] ?_; (with_reducible refine (num_Clamp.calls (rd l0 x8_1) (-8388608) 8388608 t224 _ A5.out).mono ?_); rintro e w' ⟨rfl, ⟨nd, rfl⟩⟩; refine ⟨_, rfl, ?_⟩) | ((with_reducible refine gate_builtin (b := .append) (xs := #[.tmp 12, .tmp 15]) rfl ?_); at_builtin; refine Kd.R_append (Kd.int .i64) (w0 := w) w.heap.size rfl (.tmp 12) (.tmp 15) 53 2 (.int .i64 0) 8 rfl Try.underlying53 info2 rfl (by decide) (by omega) u3 x3_1 t224 [.int .i64 t224] (fun _ => True) (fun _ => False) rfl rfl ?aP (fun _ hk => hk.elim) ?aF ?aO ?aB ?aS ?aL ?_; (case aP => exact rfl); (case aB => exact (bl_ HB)); (case aF => exact (fun _ _ => trivial)); (case aO => exact (kR_ HO_3)); (case aS => exact (bs_ HB)); (case aL => have := LMc6.out; omega); intro v226 w7 ho hb hg hat; rw [← Ny225.out] at ho; replace HB := Aside0.mk (hb); have HO227 := Aside0.mk (ho); clear HO_3; clear ho hb hg hat))
 go_roundg k1
 case measure => have := HK1.out; omega
 case rel => exact ⟨(y225), (wrap64 (x8_1 + 1)), rs_, H', ⟨by have := HK1.out; omega⟩, ⟨kR_ HO227⟩, ⟨bl_ HB⟩⟩}
 {
 rw [if_neg c6] at H
 exact absurd H (by simp)}}
 {
 rw [if_neg c4] at H
 exact absurd H (by simp)}}
 {
 rw [if_neg c3] at H
 exact absurd H (by simp)}}
 {
 rw [if_neg c2] at H
 have c2b0 : decide (x8_1 < (l0.length : Int)) = false := decide_eq_false c2
 clear c2
 obtain rfl := Option.some.inj H
 go_wp2
 go_ret
 exact ⟨_, by first | rfl | (simp [errW_none, errW_some] <;> rfl) | (simp [*, errW_none, errW_some] <;> rfl), by (with_reducible repeat (first | apply Kd.R_alloc | apply Kd.R_drewN | apply Kd.R_drew)); exact HO_3.out, bl_ HB⟩}))
end Go.Proofs.Ytdajlfijkbafiaa.P
