/- Words, walks and what they compute, as the law's proof needs them. -/
import Derived.Test.YtdajlfijkbafiaaProg
import Derived.Below
import Derived.Deep.Draws
import Derived.Deep.AppendLies
import Derived.Maps.AppendAt
import Derived.OwnWalk
import Derived.Laws.BytesArg
import Derived.Laws.MakeOwn
import Derived.Laws.OwnMore
import Derived.Deep.OwnRows
import Derived.Tactics
import Derived.Lib.ConvBytes
import Derived.Laws.Slices
import Derived.WalkKit
import Derived.KernelRfl
import Derived.RowKit3
import Derived.Deep.LoopGhost
import Derived.Deep.QuietTactic
import Derived.BigQuiet
import Derived.WideLaws
import Derived.Deep.DeepCutAuto
import Derived.Deep.CutBlock
import Derived.Deep.RegionHeld3
import Derived.Laws.Rows
import Derived.Lib.AppendStr
import Derived.ArgAppend
import Derived.Laws.IdiomCopy
import Derived.OrdersHeld
import Derived.Laws.BitsLemmas
import Derived.RowKit
import Derived.Laws.EntriesVeiled
import Derived.Test.YtdajlfijkbafiaaD1
import Derived.Test.YtdajlfijkbafiaaD2
set_option linter.unusedVariables false
set_option linter.unusedSimpArgs false
namespace Go.Proofs.Ytdajlfijkbafiaa.P
open Go.RowKit Go.Proofs.YtdajlfijkbafiaaW.PrintWords Go.Proofs.YtdajlfijkbafiaaW.PrintLast Go.Proofs.YtdajlfijkbafiaaW.PrintMore
attribute [local go_sem] max2_int min2_int max_two min_two max_three min_three max_four min_four
def errW : Option Int → Value
  | none => .nilIface
  | some c => .iface 0 (.int .i64 c)
theorem errW_none : errW none = .nilIface := rfl
theorem errW_some (c : Int) : errW (some c) = .iface 0 (.int .i64 c) := rfl
theorem info2 : (Try.prog.info? 2).map (fun i => (i.zero, i.size, i.bytes)) = some (some (.int .i64 0), 1, 8) := by kernel_rfl
theorem info3 : (Try.prog.info? 3).map (fun i => (i.zero, i.size, i.bytes)) = some (some (.int .i64 0), 1, 8) := by kernel_rfl
theorem info22 : (Try.prog.info? 22).map (fun i => (i.zero, i.size, i.bytes)) = some (some (.slice none 0 0), 1, 24) := by kernel_rfl
theorem info53 : (Try.prog.info? 53).map (fun i => (i.zero, i.size, i.bytes)) = some (some (.slice none 0 0), 1, 24) := by kernel_rfl
def rd_L1 (xs : List (List Int)) (i : Int) : (List Int) := xs.getD i.toNat ([] : List Int)
theorem at_L1 {w : World} {A : Option Addr} {n : Nat} {xs : List (List Int)} (h : Kd.C (Kd.slice 3 (Kd.int .i64)) w A n xs) (i : Int) (h0 : 0 ≤ i) (h1 : i < n) : ∃ ad A0 c0, A = some ad ∧ w.cell? (ad.add i.toNat) = some (.slice A0 (rd_L1 xs i).length c0) ∧ (rd_L1 xs i).length ≤ c0 ∧ (Kd.int .i64).C w A0 (rd_L1 xs i).length (rd_L1 xs i) := by
  obtain ⟨ad, c, e, _, hK, hc0⟩ := Kd.C_get h ([] : List Int) i h0 h1
  have hc : ∀ j u, c[j]? = some u → w.cell? (ad.add (i.toNat * 1 + j)) = some u := hc0
  obtain ⟨A0, c0, rfl, l0, g0⟩ := hK
  exact ⟨ad, A0, c0, e, by have hq := hc 0 _ rfl; rwa [Nat.mul_one, Nat.add_zero] at hq, l0, g0⟩
def rd_L2 (xs : List (List Int)) (i : Int) : (List Int) := xs.getD i.toNat ([] : List Int)
theorem at_L2 {w : World} {A : Option Addr} {n : Nat} {xs : List (List Int)} (h : Kd.C (Kd.slice 2 (Kd.int .i64)) w A n xs) (i : Int) (h0 : 0 ≤ i) (h1 : i < n) : ∃ ad A0 c0, A = some ad ∧ w.cell? (ad.add i.toNat) = some (.slice A0 (rd_L2 xs i).length c0) ∧ (rd_L2 xs i).length ≤ c0 ∧ (Kd.int .i64).C w A0 (rd_L2 xs i).length (rd_L2 xs i) := by
  obtain ⟨ad, c, e, _, hK, hc0⟩ := Kd.C_get h ([] : List Int) i h0 h1
  have hc : ∀ j u, c[j]? = some u → w.cell? (ad.add (i.toNat * 1 + j)) = some u := hc0
  obtain ⟨A0, c0, rfl, l0, g0⟩ := hK
  exact ⟨ad, A0, c0, e, by have hq := hc 0 _ rfl; rwa [Nat.mul_one, Nat.add_zero] at hq, l0, g0⟩
end Go.Proofs.Ytdajlfijkbafiaa.P
namespace Go.Proofs.Ytdajlfijkbafiaa.P
open Go.RowKit Go.Proofs.YtdajlfijkbafiaaW.PrintWords Go.Proofs.YtdajlfijkbafiaaW.PrintLast Go.Proofs.YtdajlfijkbafiaaW.PrintMore
theorem bset_ {w W : World} {g j : Nat} {v : Value} (h : Below w.heap.size w W) (hg : Aside0 (w.heap.size ≤ g)) : Below w.heap.size w (W.setCell ⟨g, j, none⟩ v) := below_set h hg.out
theorem bfar_ {w : World} {g q j : Nat} {t : TypeId} {cs : Array Value} {u : Value} (h : w.heap[g]? = some (.cells cs t (0, 0))) (hp : Aside0 (g ≠ q)) : (w.setCell ⟨q, j, none⟩ u).heap[g]? = some (.cells cs t (0, 0)) := blk_far h hp.out u
theorem bl_ {w V W : World} (H : Aside0 (Below w.heap.size w V)) (c : Below w.heap.size w V → Below w.heap.size w W := by intro h_; repeat (first | (with_reducible first | exact h_ | apply below_alloc | apply pw_below_drewN | apply below_drew1 | refine bset_ ?_ (by assumption)) | exact h_)) : Below w.heap.size w W := c H.out
theorem bs_ {w V W : World} (H : Aside0 (Below w.heap.size w V)) (c : Below w.heap.size w V → Below w.heap.size w W := by intro h_; repeat (first | (with_reducible first | exact h_ | apply below_alloc | apply pw_below_drewN | apply below_drew1 | refine bset_ ?_ (by assumption)) | exact h_)) : w.heap.size ≤ W.heap.size := below_size (c H.out)
theorem BS_ {w V W w1 : World} (H : Aside0 (Below w.heap.size w V)) (hb : Below W.heap.size W w1) (c : Below w.heap.size w V → Below w.heap.size w W := by intro h_; repeat (first | (with_reducible first | exact h_ | apply below_alloc | apply pw_below_drewN | apply below_drew1 | refine bset_ ?_ (by assumption)) | exact h_)) : Aside0 (Below w.heap.size w w1) := ⟨below_step (c H.out) hb⟩
theorem GE_ {w V W : World} {g : Nat} (H : Aside0 (Below w.heap.size w V)) (hg : g = W.heap.size) (c : Below w.heap.size w V → Below w.heap.size w W := by intro h_; repeat (first | (with_reducible first | exact h_ | apply below_alloc | apply pw_below_drewN | apply below_drew1 | refine bset_ ?_ (by assumption)) | exact h_)) : Aside0 (w.heap.size ≤ g) := ⟨hg ▸ below_size (c H.out)⟩
theorem bk_ {w W : World} {g : Nat} {o : Obj} (h : Aside0 (w.heap[g]? = some o)) (c : w.heap[g]? = some o → W.heap[g]? = some o := by intro h_; (with_reducible repeat (first | refine blk_drewN ?_ _ | refine blk_drew ?_ | refine blk_alloc ?_ _ | refine bfar_ ?_ (by assumption))); exact h_) : W.heap[g]? = some o := c h.out
theorem FB_ {w W w1 : World} {g : Nat} {o : Obj} (h : Aside0 (w.heap[g]? = some o)) (hb : Below W.heap.size W w1) (c : w.heap[g]? = some o → W.heap[g]? = some o := by intro h_; (with_reducible repeat (first | refine blk_drewN ?_ _ | refine blk_drew ?_ | refine blk_alloc ?_ _ | refine bfar_ ?_ (by assumption))); exact h_) : Aside0 (w1.heap[g]? = some o) := ⟨blk_below (c h.out) hb⟩
theorem FG_ {w W w1 : World} {g : Nat} {o : Obj} {row : Option Nat} (h : Aside0 (w.heap[g]? = some o)) (hg : W.grownBy w1 row) (hne : some g ≠ row) (c : w.heap[g]? = some o → W.heap[g]? = some o := by intro h_; (with_reducible repeat (first | refine blk_drewN ?_ _ | refine blk_drew ?_ | refine blk_alloc ?_ _ | refine bfar_ ?_ (by assumption))); exact h_) : Aside0 (w1.heap[g]? = some o) := ⟨blk_grown (c h.out) hg hne⟩
theorem kR_ {α : Type} {d : Kd α} {e base : Nat} {w W : World} {ok : Nat → Prop} {v : Value} {xs : List α} (h : Aside0 (Kd.R d e w base ok v xs)) (c : Kd.R d e w base ok v xs → Kd.R d e W base ok v xs := by intro h_; (with_reducible repeat (first | apply Kd.R_alloc | apply Kd.R_drewN | apply Kd.R_drew)); exact h_) : Kd.R d e W base ok v xs := c h.out
theorem FR_ {α : Type} {d : Kd α} {e base : Nat} {w W w1 : World} {ok : Nat → Prop} {v : Value} {xs : List α} (h : Aside0 (Kd.R d e w base ok v xs)) (hb : Below W.heap.size W w1) (c : Kd.R d e w base ok v xs → Kd.R d e W base ok v xs := by intro h_; (with_reducible repeat (first | apply Kd.R_alloc | apply Kd.R_drewN | apply Kd.R_drew)); exact h_) : Aside0 (Kd.R d e w1 base ok v xs) := ⟨Kd.R_below (c h.out) hb⟩
theorem kS_ {α : Type} {d : Kd α} {e base : Nat} {w W : World} {ok : Nat → Prop} {v : Value} {xs : List α} (h : Aside0 (Kd.S d e w base ok v xs)) (c : Kd.S d e w base ok v xs → Kd.S d e W base ok v xs := by intro h_; (with_reducible repeat (first | apply Kd.S_alloc | apply Kd.S_drewN | apply Kd.S_drew)); exact h_) : Kd.S d e W base ok v xs := c h.out
theorem kN_ {α : Type} {d : Kd α} {e base : Nat} {w W : World} {ok : Nat → Prop} {v : Value} {xs : List α} (h : Aside0 (Kd.N d e w base ok v xs)) (c : Kd.N d e w base ok v xs → Kd.N d e W base ok v xs := by intro h_; (with_reducible repeat (first | apply Kd.N_alloc | apply Kd.N_drewN | apply Kd.N_drew)); exact h_) : Kd.N d e W base ok v xs := c h.out
theorem FN_ {α : Type} {d : Kd α} {e base : Nat} {w W w1 : World} {ok : Nat → Prop} {v : Value} {xs : List α} (h : Aside0 (Kd.N d e w base ok v xs)) (hb : Below W.heap.size W w1) (c : Kd.N d e w base ok v xs → Kd.N d e W base ok v xs := by intro h_; (with_reducible repeat (first | apply Kd.N_alloc | apply Kd.N_drewN | apply Kd.N_drew)); exact h_) : Aside0 (Kd.N d e w1 base ok v xs) := ⟨Kd.N_below (c h.out) hb⟩
theorem kV_ {α : Type} {d : Kd α} {e base : Nat} {w W : World} {ok : Nat → Prop} {v : Value} {xs : List α} (h : Aside0 (Kd.V d e w base ok v xs)) (c : Kd.V d e w base ok v xs → Kd.V d e W base ok v xs := by intro h_; (with_reducible repeat (first | apply Kd.V_alloc | apply Kd.V_drewN | apply Kd.V_drew)); exact h_) : Kd.V d e W base ok v xs := c h.out
theorem FV_ {α : Type} {d : Kd α} {e base : Nat} {w W w1 : World} {ok : Nat → Prop} {v : Value} {xs : List α} (h : Aside0 (Kd.V d e w base ok v xs)) (hb : Below W.heap.size W w1) (c : Kd.V d e w base ok v xs → Kd.V d e W base ok v xs := by intro h_; (with_reducible repeat (first | apply Kd.V_alloc | apply Kd.V_drewN | apply Kd.V_drew)); exact h_) : Aside0 (Kd.V d e w1 base ok v xs) := ⟨Kd.V_below (c h.out) hb⟩
theorem kC_ {α : Type} {d : Kd α} {n : Nat} {A : Option Addr} {w V W : World} {xs : List α} (h : Aside0 (Kd.C d w A n xs)) (H : Aside0 (Below w.heap.size w V)) (c : Kd.C d V A n xs → Kd.C d W A n xs := by intro h_; repeat (first | exact h_ | (with_reducible refine Kd.C_alloc ?_ _) | (with_reducible refine Kd.C_drewN ?_ _) | (with_reducible refine Kd.C_drew ?_))) : Kd.C d W A n xs := c (Kd.C_below h.out H.out)
theorem kCt_ {α : Type} {d : Kd α} {n : Nat} {A : Option Addr} {V W : World} {xs : List α} (h : Kd.C d V A n xs) (c : Kd.C d V A n xs → Kd.C d W A n xs := by intro h_; repeat (first | exact h_ | (with_reducible refine Kd.C_alloc ?_ _) | (with_reducible refine Kd.C_drewN ?_ _) | (with_reducible refine Kd.C_drew ?_))) : Kd.C d W A n xs := c h
theorem kbs_ {w W : World} {g j : Nat} {u : Value} (h : KeepBut w W g none) : KeepBut w (W.setCell ⟨g, j, none⟩ u) g none := h.set_ j u
theorem kba_ {w W : World} {g : Nat} {o : Obj} (h : KeepBut w W g none) : KeepBut w (W.alloc o) g none := h.trans (KeepBut.of_below (below_alloc (Below.refl _ _) o) g none) (Or.inl rfl)
theorem kbd_ {w W : World} {g : Nat} (h : KeepBut w W g none) : KeepBut w W.drew g none := h.trans (KeepBut.of_below (below_drew1 (Below.refl _ _)) g none) (Or.inl rfl)
theorem kbn_ {w W : World} {g n : Nat} (h : KeepBut w W g none) : KeepBut w (W.drewN n) g none := h.trans (KeepBut.of_below (pw_below_drewN (Below.refl _ _) n) g none) (Or.inl rfl)
theorem kRk_ {α : Type} {d : Kd α} {e base g t : Nat} {w W : World} {ok : Nat → Prop} {v : Value} {xs : List α} {cells : Array Value} (h : Aside0 (Kd.R d e w base ok v xs)) (b : Aside0 (w.heap[g]? = some (.cells cells t (0, 0)))) (ht : ∀ q, q ∈ e :: d.E → q ≠ t := by decide) (c : KeepBut w W g none := by with_reducible repeat (first | exact KeepBut.refl _ _ _ | refine kbs_ ?_ | refine kba_ ?_ | refine kbd_ ?_ | refine kbn_ ?_)) : Kd.R d e W base ok v xs := Kd.R_mono (Kd.R_keep (Kd.R_types h.out b.out ht) c (fun _ hk => hk.2)) (fun _ hk => hk.1)
theorem bp_ {w W : World} {g : Nat} {o o2 : Obj} (h : Aside0 (w.heap[g]? = some o)) (c : w.heap[g]? = some o → W.heap[g]? = some o2 := by intro h_; (with_reducible repeat (first | refine blk_drewN ?_ _ | refine blk_drew ?_ | refine blk_alloc ?_ _ | refine bfar_ ?_ (by assumption) | (refine blk_put (cs := ?_) ?_ _ _ ?_; rotate_left))); exact h_; all_goals first | (simp only [List.setIfInBounds_toArray, List.set_cons_zero, List.set_cons_succ]; rfl) | (simp only [List.setIfInBounds_toArray, List.set_cons_zero, List.set_cons_succ]; done) | rfl) : W.heap[g]? = some o2 := c h.out
theorem ce_ {w : World} {g : Nat} {t : TypeId} {cs : Array Value} {v : Value} (h : Aside0 (w.heap[g]? = some (.cells cs t (0, 0)))) (i : Nat) (e : cs[i]? = some v := by exact rfl) : w.cell? ⟨g, i, none⟩ = some v := (blk_cell h.out i).trans e
def B_ (n m : Nat) : Array Bool := ((List.range n).map fun i => m.testBit i).toArray
theorem fr_ {n : Nat} {P : Nat → Prop} (h : ∀ k, n ≤ k → P k) : P n := h n (Nat.le_refl n)
theorem ol_ {p : Prop} (c : p := by first | omega | exact Nat.le_refl _) : p := c
theorem kn_ {p : Prop} (c : p := by first | exact Kd.S_nil _ _ _ _ _ | exact Kd.N_nil _ _ _ _ _ | exact Kd.V_nil _ _ _ _ _ | exact Kd.Q_nil _ _ _ _ _ | exact Kd.R_nil _ _ _ _ _) : p := c
theorem pa_ {p : Prop} (c : p := by simp only [putAll, Act.put, List.setIfInBounds_toArray, List.set_cons_zero, List.set_cons_succ]) : p := c
theorem ob_ {α β : Type} {x : Option α} {f : α → Option β} {b : β} (h : x.bind f = some b) : ∃ a, Aside0 (x = some a) ∧ f a = some b := by
  obtain ⟨a, e, k⟩ := Option.bind_eq_some_iff.mp h
  exact ⟨a, ⟨e⟩, k⟩
theorem e1_ {w : World} {g : Nat} {t : TypeId} {x0 : Value} (h : Aside0 (w.heap[g]? = some (.cells #[x0] t (0, 0)))) : w.cell? ⟨g, 0, none⟩ = some x0 ∧ w.frozen? ⟨g, 0, none⟩ = false := ⟨(blk_cell h.out 0).trans rfl, blk_frozen h.out 0⟩
theorem e2_ {w : World} {g : Nat} {t : TypeId} {x0 x1 : Value} (h : Aside0 (w.heap[g]? = some (.cells #[x0, x1] t (0, 0)))) : w.cell? ⟨g, 0, none⟩ = some x0 ∧ w.cell? ⟨g, 1, none⟩ = some x1 ∧ w.frozen? ⟨g, 0, none⟩ = false ∧ w.frozen? ⟨g, 1, none⟩ = false := ⟨(blk_cell h.out 0).trans rfl, (blk_cell h.out 1).trans rfl, blk_frozen h.out 0, blk_frozen h.out 1⟩
theorem e4_ {w : World} {g : Nat} {t : TypeId} {x0 x1 x2 x3 : Value} (h : Aside0 (w.heap[g]? = some (.cells #[x0, x1, x2, x3] t (0, 0)))) : w.cell? ⟨g, 0, none⟩ = some x0 ∧ w.cell? ⟨g, 1, none⟩ = some x1 ∧ w.cell? ⟨g, 2, none⟩ = some x2 ∧ w.cell? ⟨g, 3, none⟩ = some x3 ∧ w.frozen? ⟨g, 0, none⟩ = false ∧ w.frozen? ⟨g, 1, none⟩ = false ∧ w.frozen? ⟨g, 2, none⟩ = false ∧ w.frozen? ⟨g, 3, none⟩ = false := ⟨(blk_cell h.out 0).trans rfl, (blk_cell h.out 1).trans rfl, (blk_cell h.out 2).trans rfl, (blk_cell h.out 3).trans rfl, blk_frozen h.out 0, blk_frozen h.out 1, blk_frozen h.out 2, blk_frozen h.out 3⟩
theorem NN_ {w W : World} {g g1 : Nat} {o : Obj} (h : Aside0 (w.heap[g]? = some o)) (hg : g1 = W.heap.size) (c : w.heap[g]? = some o → W.heap[g]? = some o := by intro h_; (with_reducible repeat (first | refine blk_drewN ?_ _ | refine blk_drew ?_ | refine blk_alloc ?_ _ | refine bfar_ ?_ (by assumption))); exact h_) : Aside0 (g ≠ g1) ∧ Aside0 (g1 ≠ g) := ⟨⟨hg ▸ Nat.ne_of_lt (blk_lt (c h.out))⟩, ⟨hg ▸ Nat.ne_of_gt (blk_lt (c h.out))⟩⟩
theorem NP_ {w W : World} {g g1 : Nat} {o : Obj} (o2e : Obj) (h : Aside0 (w.heap[g]? = some o)) (hg : g1 = W.heap.size) (c : w.heap[g]? = some o → W.heap[g]? = some o2e := by intro h_; (with_reducible repeat (first | refine blk_drewN ?_ _ | refine blk_drew ?_ | refine blk_alloc ?_ _ | refine bfar_ ?_ (by assumption) | (refine blk_put (cs := ?_) ?_ _ _ ?_; rotate_left))); exact h_; all_goals first | (simp only [List.setIfInBounds_toArray, List.set_cons_zero, List.set_cons_succ]; rfl) | (simp only [List.setIfInBounds_toArray, List.set_cons_zero, List.set_cons_succ]; done) | rfl) : Aside0 (g ≠ g1) ∧ Aside0 (g1 ≠ g) := ⟨⟨hg ▸ Nat.ne_of_lt (blk_lt (c h.out))⟩, ⟨hg ▸ Nat.ne_of_gt (blk_lt (c h.out))⟩⟩
theorem sp_ {p : Prop} (c : p := by simp only [Act.put, List.setIfInBounds_toArray, List.set_cons_zero, List.set_cons_succ, i64_w, i32_w]; rfl) : p := c
theorem ar_ {p : Prop} (c : p := by (try simp only [List.map_toArray, List.map_cons, List.map_nil]); first | done | rfl | (simp only [List.length_drop, List.length_take]; rfl)) : p := c
theorem kf_ {p : Prop} (c : p := by kernel_rfl) : p := c
theorem rs_ {p : Prop} (c : p := by first | rfl | (simp; done) | (simp [*]; done)) : p := c
theorem am_ {p : Prop} (c : p := by first | (with_reducible assumption) | assumption) : p := c
section
variable {P : Program} {md : Region.Mode} {ops : Array Oper} {Q : Exit → Act → World → Prop} {S : World → Prop} {ds : List Nat}
theorem pu_ {T : Bool × List (List Nat × List Nat)} {oi : Oper} {v : Value} {fuel : Nat} {l : Array Bool} {a a' : Act} {w : World} (i : Nat) (N : Option Tmp) (l' : Array Bool) (hT : Aside0 (rtab md ops = T)) (h : wpAnyLast P md ops Q S ds fuel l' a' w)
    (hi : ops[i]? = some oi := by exact rfl) (hN : oi.dst = N := by exact rfl) (hc : anyT T l.toList l'.toList i = true := by kernel_rfl) (hQ : ∀ c a w, Q (.panic c) (a.put oi.dst v) w → Q (.panic c) a w := by exact fun _ _ _ h => h)
    (hg : Region.wanted oi (yielded ops a.tmps) = true := by rfl) (hy : ∀ w', (execOp a.eval oi).run P w' = .ok (.value v) w' := by intro w'; go_simp; with_reducible rfl) (ha : a.put N v = a' := by simp only [Act.put, List.setIfInBounds_toArray, List.set_cons_zero, List.set_cons_succ, i64_w, i32_w]; rfl) : wpAnyLast P md ops Q S ds (fuel + 1) l a w :=
  pure_ l' hi hN (any_of hT.out hc) hQ (Or.inl ⟨hg, hy⟩) ha h
end
section
variable {P : Program} {ops : Array Oper} {Q : Exit → Act → World → Prop}
theorem gL_ {rest : List Oper} {oi : Oper} {a : Act} {w : World} (N : Option Tmp) {f : FuncId} {fn : Func} {ao : Array Operand} {ts : Array TypeId} (hf : P.funcs[f]? = some fn) (args : Array Value)
    (h : Calls P f args w fun e w' => ∃ v, e = .returned v ∧ wpList P ops Q rest (a.put N v) w')
    (hd : oi.dst = N := by exact rfl) (hg : oi.guard = none := by exact rfl) (hname : (fn.name == "runtime.NumGoroutine") = false := by kernel_rfl) (hb : fn.body.isSome = true := by exact rfl)
    (hop : oi.op = .call { callee := .value (.func f), args := ao, argTypes := ts } := by exact rfl) (hargs : ao.map a.eval = args := by (try simp only [List.map_toArray, List.map_cons, List.map_nil]); first | done | rfl | (simp only [List.length_drop, List.length_take]; rfl)) : wpList P ops Q (oi :: rest) a w :=
  goesL_ N hd hg hf hname hb args hop hargs h
theorem bx_ {rest : List Oper} {o : Oper} {a : Act} {w V W : World} (H : Aside0 (Below w.heap.size w V)) (N : Tmp) (cs : Array Value) (t : TypeId)
    (h : ∀ g, g = W.heap.size → ∀ w1, Below W.heap.size W w1 → Aside0 (w1.heap[g]? = some (.cells cs t (0, 0))) → Aside0 (w.heap.size ≤ g) → Aside0 (Below w.heap.size w w1) → wpList P ops Q rest (a.put o.dst (.pointer (some ⟨g, 0, none⟩))) w1)
    (hd : o.dst = some N := by exact rfl) (hgd : o.guard = none := by exact rfl)
    (hrun : (execOp a.eval o).run P W = .ok (.value (.pointer (some ⟨W.heap.size, 0, none⟩))) (W.alloc (.cells cs t (0, 0))) := by first | (go_simp; done) | (go_simp; rfl))
    (c : Below w.heap.size w V → Below w.heap.size w W := by intro h_; repeat (first | (with_reducible first | exact h_ | apply below_alloc | apply pw_below_drewN | apply below_drew1 | refine bset_ ?_ (by assumption)) | exact h_)) : wpList P ops Q (o :: rest) a W :=
  box_event hgd hd hrun fun g hg w1 hb hB => h g hg w1 hB ⟨hb⟩ ⟨hg ▸ below_size (c H.out)⟩ ⟨below_step (c H.out) hB⟩
theorem box_ {rest : List Oper} {o : Oper} {a : Act} {W : World} (N : Tmp) (cs : Array Value) (t : TypeId)
    (h : ∀ g, g = W.heap.size → ∀ w1, w1.heap[g]? = some (.cells cs t (0, 0)) → Below W.heap.size W w1 → wpList P ops Q rest (a.put o.dst (.pointer (some ⟨g, 0, none⟩))) w1)
    (hd : o.dst = some N := by exact rfl) (hgd : o.guard = none := by exact rfl)
    (hrun : (execOp a.eval o).run P W = .ok (.value (.pointer (some ⟨W.heap.size, 0, none⟩))) (W.alloc (.cells cs t (0, 0))) := by first | (go_simp; done) | (go_simp; rfl)) : wpList P ops Q (o :: rest) a W := box_event hgd hd hrun h
end
theorem er_ {p : Prop} (c : p := by first | rfl | (simp [errW_none, errW_some] <;> rfl) | (simp [*, errW_none, errW_some] <;> rfl)) : p := c
theorem es_ {p : Prop} (c : p := by first | rfl | (simp; done) | (simp [*]; done)) : p := c
theorem dr_ {p : Prop} (c : p := by repeat (first | exact Drawn0.refl _ | apply Drawn0.step)) : p := c
theorem gt_ {p : Prop} [Decidable p] {β : Type} {a : Option β} {r : β} (H : (if p then a else none) = some r) : p ∧ a = some r := by
  by_cases c : p
  · rw [if_pos c] at H; exact ⟨c, H⟩
  · rw [if_neg c] at H; cases H
theorem gd_ {p : Prop} [Decidable p] {β : Type} {a : Option β} {r : β} (H : (if p then a else none) = some r) : decide p = true ∧ a = some r := ⟨decide_eq_true (gt_ H).1, (gt_ H).2⟩
theorem ii_ {p : Prop} [Decidable p] {α : Type} {a b r : α} (H : (if p then a else b) = r) : (p ∧ a = r) ∨ (¬p ∧ b = r) := by
  by_cases c : p
  · rw [if_pos c] at H; exact .inl ⟨c, H⟩
  · rw [if_neg c] at H; exact .inr ⟨c, H⟩
theorem id_ {p : Prop} [Decidable p] {α : Type} {a b r : α} (H : (if p then a else b) = r) : (decide p = true ∧ a = r) ∨ (decide p = false ∧ b = r) := (ii_ H).imp (fun h => ⟨decide_eq_true h.1, h.2⟩) (fun h => ⟨decide_eq_false h.1, h.2⟩)
theorem ib_ {t : Bool} {α : Type} {a b r : α} (H : (if t = true then a else b) = r) : (t = true ∧ a = r) ∨ (t = false ∧ b = r) := (ii_ H).imp id (fun h => ⟨Bool.eq_false_iff.mpr h.1, h.2⟩)
theorem ie_ {β : Type} [BEq β] [LawfulBEq β] {x y : β} [Decidable (x = y)] {α : Type} {a b r : α} (H : (if x = y then a else b) = r) : ((x == y) = true ∧ (x != y) = false ∧ a = r) ∨ (¬x = y ∧ (x == y) = false ∧ (x != y) = true ∧ b = r) := (ii_ H).imp (fun h => ⟨beq_iff_eq.mpr h.1, bne_eq_false_iff_eq.mpr h.1, h.2⟩) (fun h => ⟨h.1, beq_eq_false_iff_ne.mpr h.1, bne_iff_ne.mpr h.1, h.2⟩)
theorem by_ {α β : Type} {e y : α} {f : α → Option β} {r : Option β} (H : (some e).bind f = r) (hy : y = e) : f y = r := by subst hy; exact H
theorem dm_ {p : Prop} [Decidable p] (h : decide p = true := by first | (with_reducible assumption) | assumption) : p := of_decide_eq_true h
theorem hc_ {w W : World} (HB : Aside0 (Below w.heap.size w W)) {p : Addr} {v : Value} (hx : w.cell? p = some v) : W.cell? p = some v := (HB.out.cell (World.block_lt_of_cell? w _ hx)).trans hx
theorem cj_ {p : Prop} (c : p := by intro k_ hk; revert hk; try simp only [and_imp]; intros; (repeat' with_reducible apply And.intro) <;> first | (with_reducible assumption) | assumption) : p := c
theorem a_ {p : Prop} (h : p) : Aside0 p := ⟨h⟩
end Go.Proofs.Ytdajlfijkbafiaa.P
namespace Go.Proofs.Ytdajlfijkbafiaa.P
open Go.RowKit Go.Proofs.YtdajlfijkbafiaaW.PrintWords Go.Proofs.YtdajlfijkbafiaaW.PrintLast Go.Proofs.YtdajlfijkbafiaaW.PrintMore
attribute [local go_sem] max2_int min2_int max_two min_two max_three min_three max_four min_four
def psalterylaw16_Great.f (c0 : Int) (d0 : Int) (a0 : List Int) (b0 : List Int) : Option (Bool) := if (a0.length : Int) > 200 then (some true) else (some (decide ((b0.length : Int) > 200)))
set_option maxHeartbeats 8000000 in
set_option maxRecDepth 100000 in
theorem psalterylaw16_Great.calls (c0 : Int) (d0 : Int) (e0 : Option Addr) (f0 : Nat) (a0 : List Int) (g0 : Option Addr) (h0 : Nat) (b0 : List Int) (r : Bool) (w : World) (hr0_2 : Kd.C (Kd.int .i64) w e0 a0.length a0) (hc0_2 : a0.length ≤ f0) (hr0_3 : Kd.C (Kd.int .i64) w g0 b0.length b0) (hc0_3 : b0.length ≤ h0) (h : psalterylaw16_Great.f c0 d0 a0 b0 = some r) :
    Calls Try.prog 29 #[.agg #[.int .i64 c0, .int .i64 d0, .slice e0 a0.length f0, .slice g0 b0.length h0]] w fun e w' => e = .returned (.bool r) ∧ Below w.heap.size w w' := by
 have K0 := Try.underlying24
 have G0 := a_ hr0_2
 have H0 := a_ hc0_2
 clear hr0_2 hc0_2
 have I0 := a_ hr0_3
 have J0 := a_ hc0_3
 clear hr0_3 hc0_3
 have HB := a_ (Below.refl w.heap.size w)
 have H : (if (a0.length : Int) > 200 then (some true) else (some (decide ((b0.length : Int) > 200)))) = some r := h
 clear h
 replace H := ii_ H
 rcases H with ⟨c2, H⟩ | ⟨c2, H⟩
 {
 have m0 : decide (200 < (a0.length : Int)) = true := decide_eq_true c2
 have n0 : decide (200 < a0.length) = true := decide_eq_true (by omega)
 clear c2
 obtain rfl := Option.some.inj H
 go_enter Try.func29, Try.ntmps29
 go_wp2_with (first | ((with_reducible refine gate_dst (N := 1) rfl ?_); (try (refine gate_guard (by rfl) ?_; dsimp only)); refine bx_ HB 1 #[.int .i64 c0, .int .i64 d0, .slice e0 a0.length f0, .slice g0 b0.length h0] 24 ?_; clear HB; intro k0 hg w3 hb i0 j0 HB; have l0 := j0; clear hb hg; obtain ⟨o0, p0, q0, r0, s0, t0, v0, w0⟩ := e4_ i0))
 go_ret
 exact ⟨er_, bl_ HB⟩}
 {
 have m0 : decide (200 < (a0.length : Int)) = false := decide_eq_false c2
 have n0 : decide (200 < a0.length) = false := decide_eq_false (by omega)
 clear c2
 obtain rfl := Option.some.inj H
 go_enter Try.func29, Try.ntmps29
 go_wp2_with (first | ((with_reducible refine gate_dst (N := 1) rfl ?_); (try (refine gate_guard (by rfl) ?_; dsimp only)); refine bx_ HB 1 #[.int .i64 c0, .int .i64 d0, .slice e0 a0.length f0, .slice g0 b0.length h0] 24 ?_; clear HB; intro k0 hg w5 hb i0 j0 HB; have l0 := j0; clear hb hg; obtain ⟨y0, z0, A0, B0, C0, D0, E0, F0⟩ := e4_ i0))
 go_ret
 exact ⟨er_, bl_ HB⟩}
mutual
def psalterylaw22_wide.l0 : Nat → Int → Int → Int → List Int → List Int → List (List Int) → List (List Int) → Option (Bool)
  | 0, _, _, _, _, _, _, _ => none
  | k + 1, x5, b0, c0, d0, e0, a0, f0 => if x5 < (a0.length : Int) then (if 0 ≤ x5 then (if ((rd_L1 a0 x5).length : Int) > 100 then (some true) else (psalterylaw22_wide.l0 k (wrap64 (x5 + 1)) b0 c0 d0 e0 a0 f0)) else (none)) else (psalterylaw22_wide.l1 k 0 b0 c0 d0 e0 a0 f0)
def psalterylaw22_wide.l1 : Nat → Int → Int → Int → List Int → List Int → List (List Int) → List (List Int) → Option (Bool)
  | 0, _, _, _, _, _, _, _ => none
  | k + 1, x6, b0, c0, d0, e0, f0, a0 => if x6 < (a0.length : Int) then (if 0 ≤ x6 then (if ((rd_L2 a0 x6).length : Int) > 100 then (some true) else (psalterylaw22_wide.l1 k (wrap64 (x6 + 1)) b0 c0 d0 e0 f0 a0)) else (none)) else ((psalterylaw16_Great.f b0 c0 d0 e0).bind fun g0 => (if g0 = true then (some true) else (if (f0.length : Int) > 10 then (some true) else (some (decide ((a0.length : Int) > 10))))))
end
def psalterylaw22_wide.f (k : Nat) (a0 : Int) (b0 : Int) (c0 : List Int) (d0 : List Int) (e0 : List (List Int)) (f0 : List (List Int)) : Option (Bool) := psalterylaw22_wide.l0 k 0 a0 b0 c0 d0 e0 f0
theorem psalterylaw22_wide.mono_l : ∀ k, (∀ y0 y1 y2 y3 y4 y5 y6, LeO (psalterylaw22_wide.l0 k y0 y1 y2 y3 y4 y5 y6) (psalterylaw22_wide.l0 (k + 1) y0 y1 y2 y3 y4 y5 y6)) ∧ (∀ y0 y1 y2 y3 y4 y5 y6, LeO (psalterylaw22_wide.l1 k y0 y1 y2 y3 y4 y5 y6) (psalterylaw22_wide.l1 (k + 1) y0 y1 y2 y3 y4 y5 y6))
  | 0 => ⟨fun _ _ _ _ _ _ _ r h => by simp [psalterylaw22_wide.l0] at h, fun _ _ _ _ _ _ _ r h => by simp [psalterylaw22_wide.l1] at h⟩
  | k + 1 => by
    obtain ⟨a0, b0⟩ := psalterylaw22_wide.mono_l k
    refine ⟨?_, ?_⟩
    all_goals (intros; first | unfold psalterylaw22_wide.l0 | unfold psalterylaw22_wide.l1)
    all_goals with_reducible repeat' first
     | exact a0 _ _ _ _ _ _ _
     | exact b0 _ _ _ _ _ _ _
     | exact LeO.refl _
     | exact LeO.none _
     | refine LeO.ite ?_ ?_
     | refine LeO.bind ?_ (fun _ => ?_)
theorem psalterylaw22_wide.mono : ∀ a0 a1 a2 a3 a4 a5 k, LeO (psalterylaw22_wide.f k a0 a1 a2 a3 a4 a5) (psalterylaw22_wide.f (k + 1) a0 a1 a2 a3 a4 a5) := by
  intro a0 a1 a2 a3 a4 a5 k
  obtain ⟨b0, c0⟩ := psalterylaw22_wide.mono_l k
  unfold psalterylaw22_wide.f
  with_reducible repeat' first
   | exact b0 _ _ _ _ _ _ _
   | exact c0 _ _ _ _ _ _ _
   | exact LeO.refl _
   | exact LeO.none _
   | refine LeO.ite ?_ ?_
   | refine LeO.bind ?_ (fun _ => ?_)
set_option maxHeartbeats 8000000 in
set_option maxRecDepth 100000 in
theorem psalterylaw22_wide.calls (k : Nat) (i0 : Int) (j0 : Int) (t0 : Option Addr) (v0 : Nat) (f0 : List Int) (w0 : Option Addr) (y0 : Nat) (g0 : List Int) (D0 : Option Addr) (E0 : Nat) (c0 : List (List Int)) (F0 : Option Addr) (G0 : Nat) (h0 : List (List Int)) (r : Bool) (w : World) (hr0_2 : Kd.C (Kd.int .i64) w t0 f0.length f0) (hc0_2 : f0.length ≤ v0) (hr0_3 : Kd.C (Kd.int .i64) w w0 g0.length g0) (hc0_3 : g0.length ≤ y0) (hr1_0 : Kd.C (Kd.slice 3 (Kd.int .i64)) w D0 c0.length c0) (hc1_0 : c0.length ≤ E0) (hr1_1 : Kd.C (Kd.slice 2 (Kd.int .i64)) w F0 h0.length h0) (hc1_1 : h0.length ≤ G0) (h : psalterylaw22_wide.f k i0 j0 f0 g0 c0 h0 = some r) :
    Calls Try.prog 9 #[.agg #[.int .i64 i0, .int .i64 j0, .slice t0 f0.length v0, .slice w0 g0.length y0], .agg #[.slice D0 c0.length E0, .slice F0 h0.length G0]] w fun e w' => e = .returned (.bool r) ∧ Below w.heap.size w w' := by
 have f3 := Try.underlying24
 have g3 := Try.underlying28
 have H0 := a_ hr0_2
 have I0 := a_ hc0_2
 clear hr0_2 hc0_2
 have J0 := a_ hr0_3
 have K0 := a_ hc0_3
 clear hr0_3 hc0_3
 have P0 := a_ hr1_0
 have M2 := a_ hc1_0
 clear hr1_0 hc1_0
 have Q0 := a_ hr1_1
 have N2 := a_ hc1_1
 clear hr1_1 hc1_1
 have HB := a_ (Below.refl w.heap.size w)
 have H : (psalterylaw22_wide.l0 k 0 i0 j0 f0 g0 c0 h0) = some r := h
 clear h
 have H' := a_ H
 clear H
 go_enter Try.func9, Try.ntmps9
 go_wp2_with (first | ((with_reducible refine gate_dst (N := 2) rfl ?_); (try (refine gate_guard (by rfl) ?_; dsimp only)); refine bx_ HB 2 #[.int .i64 i0, .int .i64 j0, .slice t0 f0.length v0, .slice w0 g0.length y0] 24 ?_; clear HB; intro R0 hg w3 hb b0 j1 HB; have O2 := j1; clear hb hg) | ((with_reducible refine gate_dst (N := 3) rfl ?_); (try (refine gate_guard (by rfl) ?_; dsimp only)); refine bx_ HB 3 #[.slice D0 c0.length E0, .slice F0 h0.length G0] 28 ?_; clear HB; intro S0 hg w4 hb a0 m1 HB; have P2 := m1; obtain ⟨d0, e0⟩ := NN_ b0 hg; replace b0 := FB_ b0 hb; clear hb hg))
 go_loopg [5] k (fun kq v5 w' => ∃ (k0 : Int), v5 = .int .i64 k0 ∧ Aside0 (psalterylaw22_wide.l0 kq k0 i0 j0 f0 g0 c0 h0 = some r) ∧ Aside0 (kq ≤ k) ∧ Aside0 (w'.heap[R0]? = some (.cells #[.int .i64 i0, .int .i64 j0, (.slice t0 f0.length v0), (.slice w0 g0.length y0)] 24 (0, 0))) ∧ Aside0 (w'.heap[S0]? = some (.cells #[(.slice D0 c0.length E0), (.slice F0 h0.length G0)] 28 (0, 0))) ∧ Aside0 (Below w.heap.size w w'))
 case atStart => exact ⟨(0), rs_, H', ⟨Nat.le_refl _⟩, ⟨bk_ b0⟩, ⟨bk_ a0⟩, ⟨bl_ HB⟩⟩
 case round => (
 clear H'
 obtain ⟨k0, rfl, HA, T0, b0, a0, HB⟩ := hrel
 cases gk with
 | zero => exact absurd HA.out (by simp [psalterylaw22_wide.l0])
 | succ k1 => (
 have H := HA.out
 clear HA
 simp only [psalterylaw22_wide.l0] at H
 replace H := id_ H
 rcases H with ⟨c1, H⟩ | ⟨c1, H⟩
 {
 replace H := gd_ H
 obtain ⟨h3, H⟩ := H
 replace H := ii_ H
 rcases H with ⟨c7, H⟩ | ⟨c7, H⟩
 {
 have y1 : decide (100 < ((rd_L1 c0 k0).length : Int)) = true := decide_eq_true c7
 have z1 : decide (100 < (rd_L1 c0 k0).length) = true := decide_eq_true (by omega)
 clear c7
 obtain rfl := Option.some.inj H
 have i3 := e0.out
 have j3 := d0.out
 obtain ⟨I2, J2, K2, L2⟩ := e2_ a0
 have z0 : 0 ≤ (k0 : Int) := dm_
 have A0 : k0 < (c0.length : Int) := dm_
 obtain ⟨n1, d1, e1, N0, n0, o0, p0⟩ := at_L1 P0.out k0 z0 A0
 cases N0
 replace n0 := hc_ HB n0
 have U0 := a_ p0
 have V0 := a_ o0
 clear p0 o0
 replace z0 := eq_true z0
 replace A0 := eq_true A0
 go_wp2
 go_ret
 exact ⟨er_, bl_ HB⟩}
 {
 have y1 : decide (100 < ((rd_L1 c0 k0).length : Int)) = false := decide_eq_false c7
 have z1 : decide (100 < (rd_L1 c0 k0).length) = false := decide_eq_false (by omega)
 clear c7
 have H' := a_ H
 clear H
 have Q2 := e0.out
 have R2 := d0.out
 obtain ⟨A1, B1, C1, D1⟩ := e2_ a0
 have z0 : 0 ≤ (k0 : Int) := dm_
 have A0 : k0 < (c0.length : Int) := dm_
 obtain ⟨n1, d1, e1, N0, n0, o0, p0⟩ := at_L1 P0.out k0 z0 A0
 cases N0
 replace n0 := hc_ HB n0
 have U0 := a_ p0
 have V0 := a_ o0
 clear p0 o0
 replace z0 := eq_true z0
 replace A0 := eq_true A0
 go_wp2
 go_roundg k1
 case measure => have := T0.out; omega
 case rel => exact ⟨(wrap64 (k0 + 1)), rs_, H', ⟨by have := T0.out; omega⟩, ⟨bk_ b0⟩, ⟨bk_ a0⟩, ⟨bl_ HB⟩⟩}}
 {
 have H' := a_ H
 clear H
 have S2 := e0.out
 have T2 := d0.out
 obtain ⟨W0, X0, Y0, Z0⟩ := e2_ a0
 go_wp2
 go_loopg [6] k1 (fun kq v6 w' => ∃ (m0 : Int), v6 = .int .i64 m0 ∧ Aside0 (psalterylaw22_wide.l1 kq m0 i0 j0 f0 g0 c0 h0 = some r) ∧ Aside0 (kq ≤ k1) ∧ Aside0 (w'.heap[R0]? = some (.cells #[.int .i64 i0, .int .i64 j0, (.slice t0 f0.length v0), (.slice w0 g0.length y0)] 24 (0, 0))) ∧ Aside0 (w'.heap[S0]? = some (.cells #[(.slice D0 c0.length E0), (.slice F0 h0.length G0)] 28 (0, 0))) ∧ Aside0 (Below w.heap.size w w'))
 case atStart => exact ⟨(0), rs_, H', ⟨Nat.le_refl _⟩, ⟨bk_ b0⟩, ⟨bk_ a0⟩, ⟨bl_ HB⟩⟩
 case round => (
 clear H'
 try clear c5
 try clear c1
 try clear W0 X0 Y0 Z0
 obtain ⟨m0, rfl, HA, v1, b0, a0, HB⟩ := hrel
 cases gk with
 | zero => exact absurd HA.out (by simp [psalterylaw22_wide.l1])
 | succ k2 => (
 have H := HA.out
 clear HA
 simp only [psalterylaw22_wide.l1] at H
 replace H := id_ H
 rcases H with ⟨o1, H⟩ | ⟨o1, H⟩
 {
 replace H := gd_ H
 obtain ⟨U2, H⟩ := H
 replace H := ii_ H
 rcases H with ⟨L0, H⟩ | ⟨L0, H⟩
 {
 have p1 : decide (100 < ((rd_L2 h0 m0).length : Int)) = true := decide_eq_true L0
 have q1 : decide (100 < (rd_L2 h0 m0).length) = true := decide_eq_true (by omega)
 clear L0
 obtain rfl := Option.some.inj H
 have V2 := e0.out
 have W2 := d0.out
 obtain ⟨E1, F1, G1, H1⟩ := e2_ a0
 have B0 : 0 ≤ (m0 : Int) := dm_
 have C0 : m0 < (h0.length : Int) := dm_
 obtain ⟨r1, f1, h1, O0, q0, r0, s0⟩ := at_L2 Q0.out m0 B0 C0
 cases O0
 replace q0 := hc_ HB q0
 have a1 := a_ s0
 have b1 := a_ r0
 clear s0 r0
 replace B0 := eq_true B0
 replace C0 := eq_true C0
 go_wp2
 go_ret
 exact ⟨er_, bl_ HB⟩}
 {
 have p1 : decide (100 < ((rd_L2 h0 m0).length : Int)) = false := decide_eq_false L0
 have q1 : decide (100 < (rd_L2 h0 m0).length) = false := decide_eq_false (by omega)
 clear L0
 have H' := a_ H
 clear H
 have X2 := e0.out
 have Y2 := d0.out
 obtain ⟨I1, J1, K1, L1⟩ := e2_ a0
 have B0 : 0 ≤ (m0 : Int) := dm_
 have C0 : m0 < (h0.length : Int) := dm_
 obtain ⟨r1, f1, h1, O0, q0, r0, s0⟩ := at_L2 Q0.out m0 B0 C0
 cases O0
 replace q0 := hc_ HB q0
 have a1 := a_ s0
 have b1 := a_ r0
 clear s0 r0
 replace B0 := eq_true B0
 replace C0 := eq_true C0
 go_wp2
 go_roundg k2
 case measure => have := T0.out; have := v1.out; omega
 case rel => exact ⟨(wrap64 (m0 + 1)), rs_, H', ⟨by have := T0.out; have := v1.out; omega⟩, ⟨bk_ b0⟩, ⟨bk_ a0⟩, ⟨bl_ HB⟩⟩}}
 {
 obtain ⟨k3, i1, H⟩ := ob_ H
 (try dsimp only at H)
 replace H := ib_ H
 rcases H with ⟨rfl, H⟩ | ⟨rfl, H⟩
 {
 obtain rfl := Option.some.inj H
 have Z2 := e0.out
 have a3 := d0.out
 obtain ⟨M1, N1, O1, P1⟩ := e2_ a0
 obtain ⟨Q1, R1, S1, T1, U1, V1, W1, X1⟩ := e4_ b0
 go_wp2_with (first | ((with_reducible refine gate_callee (f := 29) rfl ?_); refine gL_ (some 36) Try.func29 #[.agg #[.int .i64 i0, .int .i64 j0, .slice t0 f0.length v0, .slice w0 g0.length y0]] ?_; (with_reducible refine (psalterylaw16_Great.calls i0 j0 _ _ f0 _ _ g0 true _ ?side1 ?side2 ?side3 ?side4 i1.out).mono ?_); (case side1 => exact kC_ H0 HB); (case side2 => exact I0.out); (case side3 => exact kC_ J0 HB); (case side4 => exact K0.out); rintro e l3 ⟨rfl, hb⟩; refine ⟨_, rfl, ?_⟩; replace b0 := FB_ b0 hb; replace a0 := FB_ a0 hb; replace HB := BS_ HB hb; (try clear hb)))
 go_ret
 exact ⟨er_, bl_ HB⟩}
 {
 replace H := ii_ H
 rcases H with ⟨M0, H⟩ | ⟨M0, H⟩
 {
 have s1 : decide (10 < (c0.length : Int)) = true := decide_eq_true M0
 have t1 : decide (10 < c0.length) = true := decide_eq_true (by omega)
 clear M0
 obtain rfl := Option.some.inj H
 have b3 := e0.out
 have c3 := d0.out
 obtain ⟨Y1, Z1, a2, b2⟩ := e2_ a0
 obtain ⟨c2, d2, e2, f2, g2, h2, i2, j2⟩ := e4_ b0
 go_wp2_with (first | ((with_reducible refine gate_callee (f := 29) rfl ?_); refine gL_ (some 36) Try.func29 #[.agg #[.int .i64 i0, .int .i64 j0, .slice t0 f0.length v0, .slice w0 g0.length y0]] ?_; (with_reducible refine (psalterylaw16_Great.calls i0 j0 _ _ f0 _ _ g0 false _ ?side1 ?side2 ?side3 ?side4 i1.out).mono ?_); (case side1 => exact kC_ H0 HB); (case side2 => exact I0.out); (case side3 => exact kC_ J0 HB); (case side4 => exact K0.out); rintro e m3 ⟨rfl, hb⟩; refine ⟨_, rfl, ?_⟩; replace b0 := FB_ b0 hb; replace a0 := FB_ a0 hb; replace HB := BS_ HB hb; (try clear hb); obtain ⟨l2, m2, n2, p2⟩ := e2_ a0))
 go_ret
 exact ⟨er_, bl_ HB⟩}
 {
 have s1 : decide (10 < (c0.length : Int)) = false := decide_eq_false M0
 have t1 : decide (10 < c0.length) = false := decide_eq_false (by omega)
 clear M0
 obtain rfl := Option.some.inj H
 have d3 := e0.out
 have e3 := d0.out
 obtain ⟨q2, r2, s2, t2⟩ := e2_ a0
 obtain ⟨v2, w2, y2, z2, A2, B2, C2, D2⟩ := e4_ b0
 go_wp2_with (first | ((with_reducible refine gate_callee (f := 29) rfl ?_); refine gL_ (some 36) Try.func29 #[.agg #[.int .i64 i0, .int .i64 j0, .slice t0 f0.length v0, .slice w0 g0.length y0]] ?_; (with_reducible refine (psalterylaw16_Great.calls i0 j0 _ _ f0 _ _ g0 false _ ?side1 ?side2 ?side3 ?side4 i1.out).mono ?_); (case side1 => exact kC_ H0 HB); (case side2 => exact I0.out); (case side3 => exact kC_ J0 HB); (case side4 => exact K0.out); rintro e n3 ⟨rfl, hb⟩; refine ⟨_, rfl, ?_⟩; replace b0 := FB_ b0 hb; replace a0 := FB_ a0 hb; replace HB := BS_ HB hb; (try clear hb); obtain ⟨E2, F2, G2, H2⟩ := e2_ a0))
 go_ret
 exact ⟨er_, bl_ HB⟩}}}))}))
mutual
def psalteryref04_Right.j0 : Nat → List Int → Bool → Option (Bool)
  | 0, _, _ => none
  | k + 1, x0, a0 => if a0 = true then (some false) else (psalteryref04_Right.l0 k x0 0 0 0)
def psalteryref04_Right.l0 : Nat → List Int → Int → Int → Int → Option (Bool)
  | 0, _, _, _, _ => none
  | k + 1, x0, x3, x4, x5 => if x5 < (x0.length : Int) then (if 0 ≤ x5 then (if (rd x0 x5) < 0 then (psalteryref04_Right.j2 k x0 x3 x4 x5 true) else (psalteryref04_Right.j2 k x0 x3 x4 x5 (decide ((rd x0 x5) > 16)))) else (none)) else (if x4 = 1 then (some (x3 == 32768)) else (if x4 > 1 then (some (x3 == 65536)) else (some false)))
def psalteryref04_Right.j2 : Nat → List Int → Int → Int → Int → Bool → Option (Bool)
  | 0, _, _, _, _, _ => none
  | k + 1, x0, x3, x4, x5, a0 => if a0 = true then (some false) else (if 0 ≤ x5 then (if x5 < (x0.length : Int) then (if (rd x0 x5) > 0 then (psalteryref04_Right.l1 k x0 x3 (wrap64 (x4 + 1)) x5 65536 0) else (psalteryref04_Right.l0 k x0 x3 x4 (wrap64 (x5 + 1)))) else (none)) else (none))
def psalteryref04_Right.l1 : Nat → List Int → Int → Int → Int → Int → Int → Option (Bool)
  | 0, _, _, _, _, _, _ => none
  | k + 1, x0, x3, x4, x5, x6, x7 => if 0 ≤ x5 then (if x5 < (x0.length : Int) then (if x7 < (rd x0 x5) then (psalteryref04_Right.l1 k x0 x3 x4 x5 (wrap64 (Int.tdiv x6 2)) (wrap64 (x7 + 1))) else (psalteryref04_Right.l0 k x0 (wrap64 (x3 + x6)) x4 (wrap64 (x5 + 1)))) else (none)) else (none)
end
def psalteryref04_Right.f (k : Nat) (l0 : List Int) : Option (Bool) := if (l0.length : Int) < 2 then (psalteryref04_Right.j0 k l0 true) else (psalteryref04_Right.j0 k l0 (decide ((l0.length : Int) > 64)))
theorem psalteryref04_Right.mono_l : ∀ k, (∀ y0 y1, LeO (psalteryref04_Right.j0 k y0 y1) (psalteryref04_Right.j0 (k + 1) y0 y1)) ∧ (∀ y0 y1 y2 y3, LeO (psalteryref04_Right.l0 k y0 y1 y2 y3) (psalteryref04_Right.l0 (k + 1) y0 y1 y2 y3)) ∧ (∀ y0 y1 y2 y3 y4, LeO (psalteryref04_Right.j2 k y0 y1 y2 y3 y4) (psalteryref04_Right.j2 (k + 1) y0 y1 y2 y3 y4)) ∧ (∀ y0 y1 y2 y3 y4 y5, LeO (psalteryref04_Right.l1 k y0 y1 y2 y3 y4 y5) (psalteryref04_Right.l1 (k + 1) y0 y1 y2 y3 y4 y5))
  | 0 => ⟨fun _ _ r h => by simp [psalteryref04_Right.j0] at h, fun _ _ _ _ r h => by simp [psalteryref04_Right.l0] at h, fun _ _ _ _ _ r h => by simp [psalteryref04_Right.j2] at h, fun _ _ _ _ _ _ r h => by simp [psalteryref04_Right.l1] at h⟩
  | k + 1 => by
    obtain ⟨a0, b0, c0, d0⟩ := psalteryref04_Right.mono_l k
    refine ⟨?_, ?_, ?_, ?_⟩
    all_goals (intros; first | unfold psalteryref04_Right.j0 | unfold psalteryref04_Right.l0 | unfold psalteryref04_Right.j2 | unfold psalteryref04_Right.l1)
    all_goals with_reducible repeat' first
     | exact a0 _ _
     | exact b0 _ _ _ _
     | exact c0 _ _ _ _ _
     | exact d0 _ _ _ _ _ _
     | exact LeO.refl _
     | exact LeO.none _
     | refine LeO.ite ?_ ?_
     | refine LeO.bind ?_ (fun _ => ?_)
theorem psalteryref04_Right.mono : ∀ a0 k, LeO (psalteryref04_Right.f k a0) (psalteryref04_Right.f (k + 1) a0) := by
  intro a0 k
  obtain ⟨b0, c0, d0, e0⟩ := psalteryref04_Right.mono_l k
  unfold psalteryref04_Right.f
  with_reducible repeat' first
   | exact b0 _ _
   | exact c0 _ _ _ _
   | exact d0 _ _ _ _ _
   | exact e0 _ _ _ _ _ _
   | exact LeO.refl _
   | exact LeO.none _
   | refine LeO.ite ?_ ?_
   | refine LeO.bind ?_ (fun _ => ?_)
set_option maxHeartbeats 8000000 in
set_option maxRecDepth 100000 in
theorem psalteryref04_Right.calls (k : Nat) (A0 : Option Addr) (c0 : Nat) (l0 : List Int) (r : Bool) (w : World) (hr0 : Kd.C (Kd.int .i64) w A0 l0.length l0) (hc0 : l0.length ≤ c0) (h : psalteryref04_Right.f k l0 = some r) :
    Calls Try.prog 64 #[.slice A0 l0.length c0] w fun e w' => e = .returned (.bool r) ∧ Drawn0 w w' := by
 have n0 := a_ hr0
 have e1 := a_ hc0
 clear hr0 hc0
 have H : (if (l0.length : Int) < 2 then (psalteryref04_Right.j0 k l0 true) else (psalteryref04_Right.j0 k l0 (decide ((l0.length : Int) > 64)))) = some r := h
 clear h
 have M0 := a_ H
 clear H
 go_enter Try.func64, Try.ntmps64
 go_upto_region 1 with (fail)
 go_cut [15] (fun a1 wc => ∃ (kq : Nat) (s0 : Bool), a1 = .bool s0 ∧ Aside0 (psalteryref04_Right.j0 kq l0 s0 = some r) ∧ Aside0 (kq ≤ k) ∧ Drawn0 w wc)
 case first => (
 have H := M0.out
 clear M0
 replace H := ii_ H
 rcases H with ⟨c3, H⟩ | ⟨c3, H⟩
 {
 have o0 : decide ((l0.length : Int) < 2) = true := decide_eq_true c3
 have W0 : decide (l0.length < 2) = true := decide_eq_true (by omega)
 clear c3
 (first | rw [o0] | (simp only [i64_w, i32_w]; rw [o0]) | skip)
 have H' := a_ H
 clear H
 go_wp2
 go_meet
 case rel => exact ⟨_, (true), rs_, H', ⟨ol_⟩, dr_⟩}
 {
 have o0 : decide ((l0.length : Int) < 2) = false := decide_eq_false c3
 have W0 : decide (l0.length < 2) = false := decide_eq_false (by omega)
 clear c3
 (first | rw [o0] | (simp only [i64_w, i32_w]; rw [o0]) | skip)
 have H' := a_ H
 clear H
 go_wp2
 go_meet
 case rel => exact ⟨_, (decide ((l0.length : Int) > 64)), rs_, H', ⟨ol_⟩, dr_⟩})
 case rest => (
 clear M0
 obtain ⟨kq, s0, rfl, HA, HJ1, ⟨mc1, rfl⟩⟩ := hcut
 cases kq with
 | zero => exact absurd HA.out (by simp [psalteryref04_Right.j0])
 | succ kj1 => (
 have H := HA.out
 clear HA
 simp only [psalteryref04_Right.j0] at H
 replace H := ib_ H
 rcases H with ⟨rfl, H⟩ | ⟨rfl, H⟩
 {
 obtain rfl := Option.some.inj H
 go_wp2
 go_ret
 exact ⟨es_, dr_⟩}
 {
 have H' := a_ H
 clear H
 go_wp2
 go_loopg [3, 4, 5] kj1 (fun kq v3 v4 v5 w' => ∃ (f0 : Int) (b0 : Int) (a0 : Int), v3 = .int .i64 f0 ∧ v4 = .int .i64 b0 ∧ v5 = .int .i64 a0 ∧ Aside0 (psalteryref04_Right.l0 kq l0 f0 b0 a0 = some r) ∧ Aside0 (kq ≤ kj1) ∧ Drawn0 w w')
 case atStart => exact ⟨(0), (0), (0), rs_, rs_, rs_, H', ⟨Nat.le_refl _⟩, dr_⟩
 case round => (
 clear H'
 try clear c4
 obtain ⟨f0, b0, a0, rfl, rfl, rfl, HA, m0, ⟨m2, rfl⟩⟩ := hrel
 cases gk with
 | zero => exact absurd HA.out (by simp [psalteryref04_Right.l0])
 | succ k2 => (
 have H := HA.out
 clear HA
 simp only [psalteryref04_Right.l0] at H
 replace H := id_ H
 rcases H with ⟨B0, H⟩ | ⟨B0, H⟩
 {
 have N0 := a_ H
 clear H
 go_upto_region 8 with (fail)
 go_cut [33] (fun b1 wc => ∃ (kq : Nat) (t0 : Bool), b1 = .bool t0 ∧ Aside0 (psalteryref04_Right.j2 kq l0 f0 b0 a0 t0 = some r) ∧ Aside0 (kq ≤ k2) ∧ Drawn0 w wc)
 case first => (
 have H := N0.out
 clear N0
 replace H := gd_ H
 obtain ⟨O0, H⟩ := H
 (first | rw [O0] | (simp only [i64_w, i32_w]; rw [O0]) | skip)
 replace H := id_ H
 rcases H with ⟨X0, H⟩ | ⟨X0, H⟩
 {
 have H' := a_ H
 clear H
 have g0 : 0 ≤ (a0 : Int) := dm_
 have h0 : a0 < (l0.length : Int) := dm_
 obtain ⟨H0, C0, K0⟩ := Kd.at_int n0.out a0 g0 h0
 cases C0
 replace g0 := eq_true g0
 replace h0 := eq_true h0
 go_wp2
 go_meet
 case rel => exact ⟨_, (true), rs_, H', ⟨by have := HJ1.out; have := m0.out; first | omega | exact Nat.le_refl _⟩, dr_⟩}
 {
 have H' := a_ H
 clear H
 have g0 : 0 ≤ (a0 : Int) := dm_
 have h0 : a0 < (l0.length : Int) := dm_
 obtain ⟨H0, C0, K0⟩ := Kd.at_int n0.out a0 g0 h0
 cases C0
 replace g0 := eq_true g0
 replace h0 := eq_true h0
 have D0 : 0 ≤ (a0 : Int) := dm_
 have E0 : a0 < (l0.length : Int) := dm_
 obtain ⟨P0, Y0, Z0⟩ := Kd.at_int n0.out a0 D0 E0
 obtain rfl : H0 = P0 := (by injection Y0)
 replace D0 := eq_true D0
 replace E0 := eq_true E0
 go_wp2
 go_meet
 case rel => exact ⟨_, (decide ((rd l0 a0) > 16)), rs_, H', ⟨by have := HJ1.out; have := m0.out; first | omega | exact Nat.le_refl _⟩, dr_⟩})
 case rest => (
 clear N0
 try clear c4
 try clear c5
 try clear B0
 obtain ⟨kq, t0, rfl, HA, HJ5, ⟨mc5, rfl⟩⟩ := hcut
 cases kq with
 | zero => exact absurd HA.out (by simp [psalteryref04_Right.j2])
 | succ kj5 => (
 have H := HA.out
 clear HA
 simp only [psalteryref04_Right.j2] at H
 replace H := ib_ H
 rcases H with ⟨rfl, H⟩ | ⟨rfl, H⟩
 {
 obtain rfl := Option.some.inj H
 go_wp2
 go_ret
 exact ⟨es_, dr_⟩}
 {
 replace H := gd_ H
 obtain ⟨Q0, H⟩ := H
 replace H := gd_ H
 obtain ⟨R0, H⟩ := H
 replace H := ii_ H
 rcases H with ⟨q0, H⟩ | ⟨q0, H⟩
 {
 have I0 : decide (0 < (rd l0 a0)) = true := decide_eq_true q0
 clear q0
 have H' := a_ H
 clear H
 have d0 : 0 ≤ (a0 : Int) := dm_
 have e0 : a0 < (l0.length : Int) := dm_
 obtain ⟨v0, F0, r0⟩ := Kd.at_int n0.out a0 d0 e0
 cases F0
 replace d0 := eq_true d0
 replace e0 := eq_true e0
 go_wp2
 go_loopg [6, 7] kj5 (fun kq v6 v7 w' => ∃ (p0 : Int) (w0 : Int), v6 = .int .i64 p0 ∧ v7 = .int .i64 w0 ∧ Aside0 (psalteryref04_Right.l1 kq l0 f0 (wrap64 (b0 + 1)) a0 p0 w0 = some r) ∧ Aside0 (kq ≤ kj5) ∧ Drawn0 w w')
 case atStart => exact ⟨(65536), (0), rs_, rs_, H', ⟨Nat.le_refl _⟩, dr_⟩
 case round => (
 clear H'
 try clear c4
 try clear c5
 try clear B0
 try clear c9
 try clear f1
 try clear Q0
 try clear h1
 try clear R0
 try clear q0
 try clear I0
 try clear r0
 try clear d0
 try clear e0
 obtain ⟨p0, w0, rfl, rfl, HA, J0, ⟨m4, rfl⟩⟩ := hrel
 cases gk with
 | zero => exact absurd HA.out (by simp [psalteryref04_Right.l1])
 | succ k4 => (
 have H := HA.out
 clear HA
 simp only [psalteryref04_Right.l1] at H
 replace H := gd_ H
 obtain ⟨c1, H⟩ := H
 replace H := gd_ H
 obtain ⟨d1, H⟩ := H
 replace H := id_ H
 rcases H with ⟨S0, H⟩ | ⟨S0, H⟩
 {
 have H' := a_ H
 clear H
 have i0 : 0 ≤ (a0 : Int) := dm_
 have k0 : a0 < (l0.length : Int) := dm_
 obtain ⟨y0, G0, L0⟩ := Kd.at_int n0.out a0 i0 k0
 obtain rfl : v0 = y0 := (by injection G0)
 replace i0 := eq_true i0
 replace k0 := eq_true k0
 go_wp2
 go_roundg k4
 case measure => have := HJ1.out; have := m0.out; have := HJ5.out; have := J0.out; omega
 case rel => exact ⟨(wrap64 (Int.tdiv p0 2)), (wrap64 (w0 + 1)), rs_, rs_, H', ⟨by have := HJ1.out; have := m0.out; have := HJ5.out; have := J0.out; omega⟩, dr_⟩}
 {
 have H' := a_ H
 clear H
 have i0 : 0 ≤ (a0 : Int) := dm_
 have k0 : a0 < (l0.length : Int) := dm_
 obtain ⟨y0, G0, L0⟩ := Kd.at_int n0.out a0 i0 k0
 obtain rfl : v0 = y0 := (by injection G0)
 replace i0 := eq_true i0
 replace k0 := eq_true k0
 go_wp2
 go_roundg k4
 case measure => have := HJ1.out; have := m0.out; have := HJ5.out; have := J0.out; omega
 case rel => exact ⟨(wrap64 (f0 + p0)), ((wrap64 (b0 + 1))), (wrap64 (a0 + 1)), rs_, rs_, rs_, H', ⟨by have := HJ1.out; have := m0.out; have := HJ5.out; have := J0.out; omega⟩, dr_⟩}))}
 {
 have I0 : decide (0 < (rd l0 a0)) = false := decide_eq_false q0
 clear q0
 have H' := a_ H
 clear H
 have d0 : 0 ≤ (a0 : Int) := dm_
 have e0 : a0 < (l0.length : Int) := dm_
 obtain ⟨v0, F0, r0⟩ := Kd.at_int n0.out a0 d0 e0
 cases F0
 replace d0 := eq_true d0
 replace e0 := eq_true e0
 go_wp2
 go_roundg kj5
 case measure => have := HJ1.out; have := m0.out; have := HJ5.out; omega
 case rel => exact ⟨(f0), (b0), (wrap64 (a0 + 1)), rs_, rs_, rs_, H', ⟨by have := HJ1.out; have := m0.out; have := HJ5.out; omega⟩, dr_⟩}}))}
 {
 replace H := ie_ H
 rcases H with ⟨T0, U0, H⟩ | ⟨i1, T0, U0, H⟩
 {
 obtain rfl := Option.some.inj H
 go_wp2
 go_ret
 exact ⟨es_, dr_⟩}
 {
 replace H := ii_ H
 rcases H with ⟨z0, H⟩ | ⟨z0, H⟩
 {
 have V0 : decide (1 < b0) = true := decide_eq_true z0
 clear z0
 obtain rfl := Option.some.inj H
 go_wp2
 go_ret
 exact ⟨es_, dr_⟩}
 {
 have V0 : decide (1 < b0) = false := decide_eq_false z0
 clear z0
 obtain rfl := Option.some.inj H
 go_wp2
 go_ret
 exact ⟨es_, dr_⟩}}}))}))
mutual
def psalteryref16_Right.j0 : Nat → Bool → Int → Int → List Int → List Int → Option (Bool)
  | 0, _, _, _, _, _ => none
  | k + 1, e0, c0, d0, a0, b0 => if e0 = true then (some false) else (if (a0.length : Int) = 45 then (psalteryref16_Right.j1 k ((b0.length : Int) != 16) c0 d0 a0 b0) else (psalteryref16_Right.j1 k true c0 d0 a0 b0))
def psalteryref16_Right.j1 : Nat → Bool → Int → Int → List Int → List Int → Option (Bool)
  | 0, _, _, _, _, _ => none
  | k + 1, g0, e0, f0, b0, a0 => if g0 = true then (some false) else ((psalteryref04_Right.f k b0).bind fun c0 => (if c0 = true then ((psalteryref04_Right.f k a0).bind fun d0 => (if d0 = true then (if 15 < (a0.length : Int) then (some ((rd a0 15) != 0)) else (none)) else (some false))) else (some false)))
end
def psalteryref16_Right.f (k : Nat) (b0 : Int) (a0 : Int) (c0 : List Int) (d0 : List Int) : Option (Bool) := if b0 = 1 then (if a0 < 0 then (psalteryref16_Right.j0 k true b0 a0 c0 d0) else (psalteryref16_Right.j0 k (decide (a0 > 12)) b0 a0 c0 d0)) else (if b0 = 2 then (if a0 < 0 then (psalteryref16_Right.j0 k true b0 a0 c0 d0) else (psalteryref16_Right.j0 k (decide (a0 > 12)) b0 a0 c0 d0)) else (psalteryref16_Right.j0 k true b0 a0 c0 d0))
theorem psalteryref16_Right.mono_l : ∀ k, (∀ y0 y1 y2 y3 y4, LeO (psalteryref16_Right.j0 k y0 y1 y2 y3 y4) (psalteryref16_Right.j0 (k + 1) y0 y1 y2 y3 y4)) ∧ (∀ y0 y1 y2 y3 y4, LeO (psalteryref16_Right.j1 k y0 y1 y2 y3 y4) (psalteryref16_Right.j1 (k + 1) y0 y1 y2 y3 y4))
  | 0 => ⟨fun _ _ _ _ _ r h => by simp [psalteryref16_Right.j0] at h, fun _ _ _ _ _ r h => by simp [psalteryref16_Right.j1] at h⟩
  | k + 1 => by
    obtain ⟨a0, b0⟩ := psalteryref16_Right.mono_l k
    refine ⟨?_, ?_⟩
    all_goals (intros; first | unfold psalteryref16_Right.j0 | unfold psalteryref16_Right.j1)
    all_goals with_reducible repeat' first
     | exact a0 _ _ _ _ _
     | exact b0 _ _ _ _ _
     | exact psalteryref04_Right.mono _ _
     | exact LeO.refl _
     | exact LeO.none _
     | refine LeO.ite ?_ ?_
     | refine LeO.bind ?_ (fun _ => ?_)
theorem psalteryref16_Right.mono : ∀ a0 a1 a2 a3 k, LeO (psalteryref16_Right.f k a0 a1 a2 a3) (psalteryref16_Right.f (k + 1) a0 a1 a2 a3) := by
  intro a0 a1 a2 a3 k
  obtain ⟨b0, c0⟩ := psalteryref16_Right.mono_l k
  unfold psalteryref16_Right.f
  with_reducible repeat' first
   | exact b0 _ _ _ _ _
   | exact c0 _ _ _ _ _
   | exact psalteryref04_Right.mono _ _
   | exact LeO.refl _
   | exact LeO.none _
   | refine LeO.ite ?_ ?_
   | refine LeO.bind ?_ (fun _ => ?_)
set_option maxHeartbeats 8000000 in
set_option maxRecDepth 100000 in
theorem psalteryref16_Right.calls (k : Nat) (e0 : Int) (d0 : Int) (f0 : Option Addr) (g0 : Nat) (c0 : List Int) (k0 : Option Addr) (l0 : Nat) (b0 : List Int) (r : Bool) (w : World) (hr0_2 : Kd.C (Kd.int .i64) w f0 c0.length c0) (hc0_2 : c0.length ≤ g0) (hr0_3 : Kd.C (Kd.int .i64) w k0 b0.length b0) (hc0_3 : b0.length ≤ l0) (h : psalteryref16_Right.f k e0 d0 c0 b0 = some r) :
    Calls Try.prog 28 #[.agg #[.int .i64 e0, .int .i64 d0, .slice f0 c0.length g0, .slice k0 b0.length l0]] w fun e w' => e = .returned (.bool r) ∧ Below w.heap.size w w' := by
 have B2 := Try.underlying31
 have o0 := a_ hr0_2
 have p0 := a_ hc0_2
 clear hr0_2 hc0_2
 have q0 := a_ hr0_3
 have w0 := a_ hc0_3
 clear hr0_3 hc0_3
 have HB := a_ (Below.refl w.heap.size w)
 have H : (if e0 = 1 then (if d0 < 0 then (psalteryref16_Right.j0 k true e0 d0 c0 b0) else (psalteryref16_Right.j0 k (decide (d0 > 12)) e0 d0 c0 b0)) else (if e0 = 2 then (if d0 < 0 then (psalteryref16_Right.j0 k true e0 d0 c0 b0) else (psalteryref16_Right.j0 k (decide (d0 > 12)) e0 d0 c0 b0)) else (psalteryref16_Right.j0 k true e0 d0 c0 b0))) = some r := h
 clear h
 have z0 := a_ H
 clear H
 go_enter Try.func28, Try.ntmps28
 go_upto_region 1 with (first | ((with_reducible refine gate_dst (N := 1) rfl ?_); (try (refine gate_guard (by rfl) ?_; dsimp only)); refine bx_ HB 1 #[.int .i64 e0, .int .i64 d0, .slice f0 c0.length g0, .slice k0 b0.length l0] 31 ?_; clear HB; intro y0 hg w3 hb a0 B0 HB; have w2 := B0; clear hb hg))
 (try simp only [Act.put, List.setIfInBounds_toArray, List.set_cons_zero, List.set_cons_succ])
 go_cut [20] (fun c2 wc => ∃ (kq : Nat) (r0 : Bool), c2 = .bool r0 ∧ Aside0 (psalteryref16_Right.j0 kq r0 e0 d0 c0 b0 = some r) ∧ Aside0 (kq ≤ k) ∧ Aside0 (wc.heap[y0]? = some (.cells #[.int .i64 e0, .int .i64 d0, (.slice f0 c0.length g0), (.slice k0 b0.length l0)] 31 (0, 0))) ∧ Aside0 (Below w.heap.size w wc))
 case first => (
 have H := z0.out
 clear z0
 replace H := ie_ H
 rcases H with ⟨m0, F0, H⟩ | ⟨c4, m0, F0, H⟩
 {
 (first | rw [m0] | (simp only [i64_w, i32_w]; rw [m0]) | skip)
 replace H := id_ H
 rcases H with ⟨G0, H⟩ | ⟨G0, H⟩
 {
 have H' := a_ H
 clear H
 obtain ⟨d2, e2, f2, g2, h2, i2, j2, k2⟩ := e4_ a0
 go_wp2
 go_meet
 case rel => exact ⟨_, (true), rs_, H', ⟨ol_⟩, ⟨bk_ a0⟩, ⟨bl_ HB⟩⟩}
 {
 have H' := a_ H
 clear H
 obtain ⟨l2, m2, n2, p2, q2, r2, s2, t2⟩ := e4_ a0
 go_wp2
 go_meet
 case rel => exact ⟨_, (decide (d0 > 12)), rs_, H', ⟨ol_⟩, ⟨bk_ a0⟩, ⟨bl_ HB⟩⟩}}
 {
 (first | rw [m0] | (simp only [i64_w, i32_w]; rw [m0]) | skip)
 replace H := ie_ H
 rcases H with ⟨H0, I0, H⟩ | ⟨c8, H0, I0, H⟩
 {
 replace H := id_ H
 rcases H with ⟨J0, H⟩ | ⟨J0, H⟩
 {
 have H' := a_ H
 clear H
 obtain ⟨L0, M0, N0, O0, P0, Q0, R0, S0⟩ := e4_ a0
 go_wp2
 go_meet
 case rel => exact ⟨_, (true), rs_, H', ⟨ol_⟩, ⟨bk_ a0⟩, ⟨bl_ HB⟩⟩}
 {
 have H' := a_ H
 clear H
 obtain ⟨T0, U0, V0, W0, X0, Y0, Z0, a1⟩ := e4_ a0
 go_wp2
 go_meet
 case rel => exact ⟨_, (decide (d0 > 12)), rs_, H', ⟨ol_⟩, ⟨bk_ a0⟩, ⟨bl_ HB⟩⟩}}
 {
 have H' := a_ H
 clear H
 obtain ⟨b1, c1, d1, e1, f1, h1, i1, k1⟩ := e4_ a0
 go_wp2
 go_meet
 case rel => exact ⟨_, (true), rs_, H', ⟨ol_⟩, ⟨bk_ a0⟩, ⟨bl_ HB⟩⟩}})
 case rest => (
 clear z0
 obtain ⟨kq, r0, rfl, HA, HJ1, a0, HB⟩ := hcut
 cases kq with
 | zero => exact absurd HA.out (by simp [psalteryref16_Right.j0])
 | succ kj1 => (
 have H := HA.out
 clear HA
 simp only [psalteryref16_Right.j0] at H
 replace H := ib_ H
 rcases H with ⟨rfl, H⟩ | ⟨rfl, H⟩
 {
 obtain rfl := Option.some.inj H
 go_wp2
 go_ret
 exact ⟨er_, bl_ HB⟩}
 {
 have s0 := a_ H
 clear H
 go_upto_region 3 with (fail)
 go_cut [30] (fun v2 wc => ∃ (kq : Nat) (n0 : Bool), v2 = .bool n0 ∧ Aside0 (psalteryref16_Right.j1 kq n0 e0 d0 c0 b0 = some r) ∧ Aside0 (kq ≤ kj1) ∧ Aside0 (wc.heap[y0]? = some (.cells #[.int .i64 e0, .int .i64 d0, (.slice f0 c0.length g0), (.slice k0 b0.length l0)] 31 (0, 0))) ∧ Aside0 (Below w.heap.size w wc))
 case first => (
 have H := s0.out
 clear s0
 replace H := ie_ H
 rcases H with ⟨i0, C0, H⟩ | ⟨E2, i0, C0, H⟩
 {
 (first | rw [i0] | (simp only [i64_w, i32_w]; rw [i0]) | skip)
 have H' := a_ H
 clear H
 obtain ⟨l1, m1, n1, o1, p1, q1, r1, s1⟩ := e4_ a0
 go_wp2
 go_meet
 case rel => exact ⟨_, (((b0.length : Int) != 16)), rs_, H', ⟨by have := HJ1.out; first | omega | exact Nat.le_refl _⟩, ⟨bk_ a0⟩, ⟨bl_ HB⟩⟩}
 {
 (first | rw [i0] | (simp only [i64_w, i32_w]; rw [i0]) | skip)
 have H' := a_ H
 clear H
 obtain ⟨t1, v1, y1, z1, A1, B1, C1, D1⟩ := e4_ a0
 go_wp2
 go_meet
 case rel => exact ⟨_, (true), rs_, H', ⟨by have := HJ1.out; first | omega | exact Nat.le_refl _⟩, ⟨bk_ a0⟩, ⟨bl_ HB⟩⟩})
 case rest => (
 clear s0
 try clear F2
 obtain ⟨kq, n0, rfl, HA, HJ13, a0, HB⟩ := hcut
 cases kq with
 | zero => exact absurd HA.out (by simp [psalteryref16_Right.j1])
 | succ kj13 => (
 have H := HA.out
 clear HA
 simp only [psalteryref16_Right.j1] at H
 replace H := ib_ H
 rcases H with ⟨rfl, H⟩ | ⟨rfl, H⟩
 {
 obtain rfl := Option.some.inj H
 go_wp2
 go_ret
 exact ⟨er_, bl_ HB⟩}
 {
 obtain ⟨C2, A0, H⟩ := ob_ H
 (try dsimp only at H)
 replace H := ib_ H
 rcases H with ⟨rfl, H⟩ | ⟨rfl, H⟩
 {
 obtain ⟨D2, D0, H⟩ := ob_ H
 (try dsimp only at H)
 replace H := ib_ H
 rcases H with ⟨rfl, H⟩ | ⟨rfl, H⟩
 {
 replace H := gt_ H
 obtain ⟨E0, H⟩ := H
 have y2 : decide (15 < (b0.length : Int)) = true := decide_eq_true E0
 have z2 : decide (15 < b0.length) = true := decide_eq_true (by omega)
 clear E0
 obtain rfl := Option.some.inj H
 obtain ⟨E1, F1, G1, H1, I1, J1, K1, L1⟩ := e4_ a0
 go_wp2_with (first | ((with_reducible refine gate_callee (f := 64) rfl ?_); refine gL_ (some 33) Try.func64 #[.slice f0 c0.length g0] ?_; (with_reducible refine (psalteryref04_Right.calls kj13 _ _ c0 true _ ?side1 ?side2 A0.out).mono ?_); (case side1 => exact kC_ o0 HB); (case side2 => exact p0.out); rintro e w' ⟨rfl, ⟨nd, rfl⟩⟩; refine ⟨_, rfl, ?_⟩) | (go_at_call 64; (with_reducible refine (psalteryref04_Right.calls kj13 _ _ b0 true _ ?side1 ?side2 D0.out).mono ?_); (case side1 => repeat (first | exact (Kd.C_below q0.out (bl_ HB)) | (with_reducible refine Kd.C_alloc ?_ _) | (with_reducible refine Kd.C_drewN ?_ _) | (with_reducible refine Kd.C_drew ?_))); (case side2 => exact w0.out); rintro e w' ⟨rfl, ⟨nd, rfl⟩⟩; have t0 : 0 ≤ (15 : Int) := (by omega); have v0 : 15 < (b0.length : Int) := dm_; obtain ⟨A2, K0, h0⟩ := Kd.at_int q0.out 15 t0 v0; cases K0; (try simp only [show (15 : Int).toNat = 15 from rfl, Nat.reduceMul, Nat.reduceEqDiff, Go.Addr.add, ↓reduceIte] at h0); have qi114 : (15 < b0.length) = True := eq_true (by omega); (try rw [show ((15 : Int)).toNat = 15 from rfl] at h0); replace h0 := hc_ HB h0; replace t0 := eq_true t0; replace v0 := eq_true v0))
 go_ret
 exact ⟨er_, bl_ HB⟩}
 {
 obtain rfl := Option.some.inj H
 obtain ⟨M1, N1, O1, P1, Q1, R1, S1, T1⟩ := e4_ a0
 go_wp2_with (first | ((with_reducible refine gate_callee (f := 64) rfl ?_); refine gL_ (some 33) Try.func64 #[.slice f0 c0.length g0] ?_; (with_reducible refine (psalteryref04_Right.calls kj13 _ _ c0 true _ ?side1 ?side2 A0.out).mono ?_); (case side1 => exact kC_ o0 HB); (case side2 => exact p0.out); rintro e w' ⟨rfl, ⟨nd, rfl⟩⟩; refine ⟨_, rfl, ?_⟩) | (go_at_call 64; (with_reducible refine (psalteryref04_Right.calls kj13 _ _ b0 false _ ?side1 ?side2 D0.out).mono ?_); (case side1 => repeat (first | exact (Kd.C_below q0.out (bl_ HB)) | (with_reducible refine Kd.C_alloc ?_ _) | (with_reducible refine Kd.C_drewN ?_ _) | (with_reducible refine Kd.C_drew ?_))); (case side2 => exact w0.out); rintro e w' ⟨rfl, ⟨nd, rfl⟩⟩))
 go_ret
 exact ⟨er_, bl_ HB⟩}}
 {
 obtain rfl := Option.some.inj H
 obtain ⟨U1, V1, W1, X1, Y1, Z1, a2, b2⟩ := e4_ a0
 go_wp2_with (first | ((with_reducible refine gate_callee (f := 64) rfl ?_); refine gL_ (some 33) Try.func64 #[.slice f0 c0.length g0] ?_; (with_reducible refine (psalteryref04_Right.calls kj13 _ _ c0 false _ ?side1 ?side2 A0.out).mono ?_); (case side1 => exact kC_ o0 HB); (case side2 => exact p0.out); rintro e w' ⟨rfl, ⟨nd, rfl⟩⟩; refine ⟨_, rfl, ?_⟩))
 go_ret
 exact ⟨er_, bl_ HB⟩}}))}))
def psalteryref14_Right.l0 : Nat → List Int → Bool → Int → Option (Bool)
  | 0, _, _, _ => none
  | k + 1, x0, x3, x4 => if x4 < (x0.length : Int) then (if x3 = true then (if 0 ≤ x4 then (if (rd x0 x4) ≥ 0 then (psalteryref14_Right.l0 k x0 (decide ((rd x0 x4) ≤ 44)) (wrap64 (x4 + 1))) else (psalteryref14_Right.l0 k x0 false (wrap64 (x4 + 1)))) else (none)) else (psalteryref14_Right.l0 k x0 false (wrap64 (x4 + 1)))) else (some x3)
def psalteryref14_Right.f (k : Nat) (l0 : List Int) : Option (Bool) := psalteryref14_Right.l0 k l0 ((l0.length : Int) == 6) 0
theorem psalteryref14_Right.mono_l : ∀ k, (∀ y0 y1 y2, LeO (psalteryref14_Right.l0 k y0 y1 y2) (psalteryref14_Right.l0 (k + 1) y0 y1 y2))
  | 0 => fun _ _ _ r h => by simp [psalteryref14_Right.l0] at h
  | k + 1 => by
    have a0 := psalteryref14_Right.mono_l k
    · intro y0 y1 y2
      unfold psalteryref14_Right.l0
      with_reducible repeat' first
   | exact a0 _ _ _
   | exact LeO.refl _
   | exact LeO.none _
   | refine LeO.ite ?_ ?_
   | refine LeO.bind ?_ (fun _ => ?_)
theorem psalteryref14_Right.mono : ∀ a0 k, LeO (psalteryref14_Right.f k a0) (psalteryref14_Right.f (k + 1) a0) := by
  intro a0 k
  have b0 := psalteryref14_Right.mono_l k
  unfold psalteryref14_Right.f
  with_reducible repeat' first
   | exact b0 _ _ _
   | exact LeO.refl _
   | exact LeO.none _
   | refine LeO.ite ?_ ?_
   | refine LeO.bind ?_ (fun _ => ?_)
set_option maxHeartbeats 8000000 in
set_option maxRecDepth 100000 in
theorem psalteryref14_Right.calls (k : Nat) (A0 : Option Addr) (c0 : Nat) (l0 : List Int) (r : Bool) (w : World) (hr0 : Kd.C (Kd.int .i64) w A0 l0.length l0) (hc0 : l0.length ≤ c0) (h : psalteryref14_Right.f k l0 = some r) :
    Calls Try.prog 65 #[.slice A0 l0.length c0] w fun e w' => e = .returned (.bool r) ∧ Drawn0 w w' := by
 have m0 := a_ hr0
 have t0 := a_ hc0
 clear hr0 hc0
 have H : (psalteryref14_Right.l0 k l0 ((l0.length : Int) == 6) 0) = some r := h
 clear h
 have H' := a_ H
 clear H
 go_enter Try.func65, Try.ntmps65
 go_wp2
 go_loopg [3, 4] k (fun kq v3 v4 w' => ∃ (f0 : Bool) (a0 : Int), v3 = .bool f0 ∧ v4 = .int .i64 a0 ∧ Aside0 (psalteryref14_Right.l0 kq l0 f0 a0 = some r) ∧ Aside0 (kq ≤ k) ∧ Drawn0 w w')
 case atStart => exact ⟨(((l0.length : Int) == 6)), (0), rs_, rs_, H', ⟨Nat.le_refl _⟩, dr_⟩
 case round => (
 clear H'
 obtain ⟨f0, a0, rfl, rfl, HA, e0, ⟨m1, rfl⟩⟩ := hrel
 cases gk with
 | zero => exact absurd HA.out (by simp [psalteryref14_Right.l0])
 | succ k1 => (
 have H := HA.out
 clear HA
 simp only [psalteryref14_Right.l0] at H
 replace H := id_ H
 rcases H with ⟨o0, H⟩ | ⟨o0, H⟩
 {
 replace H := ib_ H
 rcases H with ⟨rfl, H⟩ | ⟨rfl, H⟩
 {
 replace H := gd_ H
 obtain ⟨s0, H⟩ := H
 replace H := ii_ H
 rcases H with ⟨c5, H⟩ | ⟨c5, H⟩
 {
 have p0 : decide (0 ≤ (rd l0 a0)) = true := decide_eq_true c5
 clear c5
 have H' := a_ H
 clear H
 have b0 : 0 ≤ (a0 : Int) := dm_
 have d0 : a0 < (l0.length : Int) := dm_
 obtain ⟨j0, g0, k0⟩ := Kd.at_int m0.out a0 b0 d0
 cases g0
 replace b0 := eq_true b0
 replace d0 := eq_true d0
 have h0 : 0 ≤ (a0 : Int) := dm_
 have i0 : a0 < (l0.length : Int) := dm_
 obtain ⟨n0, q0, r0⟩ := Kd.at_int m0.out a0 h0 i0
 obtain rfl : j0 = n0 := (by injection q0)
 replace h0 := eq_true h0
 replace i0 := eq_true i0
 go_wp2
 go_roundg k1
 case measure => have := e0.out; omega
 case rel => exact ⟨(decide ((rd l0 a0) ≤ 44)), (wrap64 (a0 + 1)), rs_, rs_, H', ⟨by have := e0.out; omega⟩, dr_⟩}
 {
 have p0 : decide (0 ≤ (rd l0 a0)) = false := decide_eq_false c5
 clear c5
 have H' := a_ H
 clear H
 have b0 : 0 ≤ (a0 : Int) := dm_
 have d0 : a0 < (l0.length : Int) := dm_
 obtain ⟨j0, g0, k0⟩ := Kd.at_int m0.out a0 b0 d0
 cases g0
 replace b0 := eq_true b0
 replace d0 := eq_true d0
 go_wp2
 go_roundg k1
 case measure => have := e0.out; omega
 case rel => exact ⟨(false), (wrap64 (a0 + 1)), rs_, rs_, H', ⟨by have := e0.out; omega⟩, dr_⟩}}
 {
 have H' := a_ H
 clear H
 go_wp2
 go_roundg k1
 case measure => have := e0.out; omega
 case rel => exact ⟨(false), (wrap64 (a0 + 1)), rs_, rs_, H', ⟨by have := e0.out; omega⟩, dr_⟩}}
 {
 obtain rfl := Option.some.inj H
 go_wp2
 go_ret
 exact ⟨es_, dr_⟩}))
mutual
def psalteryref17_channel.j0 : Nat → List Int → List Int → Bool → Int → Int → List Int → List Int → Option (Bool)
  | 0, _, _, _, _, _, _, _ => none
  | k + 1, x1, x2, e0, a0, b0, c0, d0 => if e0 = true then (some false) else (psalteryref17_channel.l0 k x1 x2 0 a0 b0 c0 d0)
def psalteryref17_channel.l0 : Nat → List Int → List Int → Int → Int → Int → List Int → List Int → Option (Bool)
  | 0, _, _, _, _, _, _, _ => none
  | k + 1, x1, x2, x7, b0, c0, a0, d0 => if x7 < 6 then (if 0 ≤ x7 then (if x7 < (x1.length : Int) then (if 0 ≤ (rd x1 x7) then (if (rd x1 x7) < (a0.length : Int) then (if (rd a0 (rd x1 x7)) = 0 then (some false) else (psalteryref17_channel.l0 k x1 x2 (wrap64 (x7 + 1)) b0 c0 a0 d0)) else (none)) else (none)) else (none)) else (none)) else (psalteryref17_channel.l1 k x2 0)
def psalteryref17_channel.l1 : Nat → List Int → Int → Option (Bool)
  | 0, _, _ => none
  | k + 1, x2, x8 => if x8 < 16 then (if 0 ≤ x8 then (if x8 < (x2.length : Int) then (if (rd x2 x8) > 4194303 then (some false) else (if (rd x2 x8) < (-4194303) then (some false) else (psalteryref17_channel.l1 k x2 (wrap64 (x8 + 1))))) else (none)) else (none)) else (some true)
end
def psalteryref17_channel.f (k : Nat) (a0 : Int) (b0 : Int) (c0 : List Int) (d0 : List Int) (l1 : List Int) (l2 : List Int) : Option (Bool) := if (l1.length : Int) = 0 then (some ((l2.length : Int) == 0)) else ((psalteryref14_Right.f k l1).bind fun e0 => (if e0 = true then (psalteryref17_channel.j0 k l1 l2 ((l2.length : Int) != 16) a0 b0 c0 d0) else (psalteryref17_channel.j0 k l1 l2 true a0 b0 c0 d0)))
theorem psalteryref17_channel.mono_l : ∀ k, (∀ y0 y1 y2 y3 y4 y5 y6, LeO (psalteryref17_channel.j0 k y0 y1 y2 y3 y4 y5 y6) (psalteryref17_channel.j0 (k + 1) y0 y1 y2 y3 y4 y5 y6)) ∧ (∀ y0 y1 y2 y3 y4 y5 y6, LeO (psalteryref17_channel.l0 k y0 y1 y2 y3 y4 y5 y6) (psalteryref17_channel.l0 (k + 1) y0 y1 y2 y3 y4 y5 y6)) ∧ (∀ y0 y1, LeO (psalteryref17_channel.l1 k y0 y1) (psalteryref17_channel.l1 (k + 1) y0 y1))
  | 0 => ⟨fun _ _ _ _ _ _ _ r h => by simp [psalteryref17_channel.j0] at h, fun _ _ _ _ _ _ _ r h => by simp [psalteryref17_channel.l0] at h, fun _ _ r h => by simp [psalteryref17_channel.l1] at h⟩
  | k + 1 => by
    obtain ⟨a0, b0, c0⟩ := psalteryref17_channel.mono_l k
    refine ⟨?_, ?_, ?_⟩
    all_goals (intros; first | unfold psalteryref17_channel.j0 | unfold psalteryref17_channel.l0 | unfold psalteryref17_channel.l1)
    all_goals with_reducible repeat' first
     | exact a0 _ _ _ _ _ _ _
     | exact b0 _ _ _ _ _ _ _
     | exact c0 _ _
     | exact psalteryref14_Right.mono _ _
     | exact LeO.refl _
     | exact LeO.none _
     | refine LeO.ite ?_ ?_
     | refine LeO.bind ?_ (fun _ => ?_)
theorem psalteryref17_channel.mono : ∀ a0 a1 a2 a3 a4 a5 k, LeO (psalteryref17_channel.f k a0 a1 a2 a3 a4 a5) (psalteryref17_channel.f (k + 1) a0 a1 a2 a3 a4 a5) := by
  intro a0 a1 a2 a3 a4 a5 k
  obtain ⟨b0, c0, d0⟩ := psalteryref17_channel.mono_l k
  unfold psalteryref17_channel.f
  with_reducible repeat' first
   | exact b0 _ _ _ _ _ _ _
   | exact c0 _ _ _ _ _ _ _
   | exact d0 _ _
   | exact psalteryref14_Right.mono _ _
   | exact LeO.refl _
   | exact LeO.none _
   | refine LeO.ite ?_ ?_
   | refine LeO.bind ?_ (fun _ => ?_)
set_option maxHeartbeats 8000000 in
set_option maxRecDepth 100000 in
theorem psalteryref17_channel.calls (k : Nat) (f0 : Int) (g0 : Int) (k0 : Option Addr) (m0 : Nat) (c0 : List Int) (n0 : Option Addr) (o0 : Nat) (d0 : List Int) (A1 : Option Addr) (c1 : Nat) (l1 : List Int) (A2 : Option Addr) (c2 : Nat) (l2 : List Int) (r : Bool) (w : World) (hr0_2 : Kd.C (Kd.int .i64) w k0 c0.length c0) (hc0_2 : c0.length ≤ m0) (hr0_3 : Kd.C (Kd.int .i64) w n0 d0.length d0) (hc0_3 : d0.length ≤ o0) (hr1 : Kd.C (Kd.int .i64) w A1 l1.length l1) (hc1 : l1.length ≤ c1) (hr2 : Kd.C (Kd.int .i64) w A2 l2.length l2) (hc2 : l2.length ≤ c2) (h : psalteryref17_channel.f k f0 g0 c0 d0 l1 l2 = some r) :
    Calls Try.prog 30 #[.agg #[.int .i64 f0, .int .i64 g0, .slice k0 c0.length m0, .slice n0 d0.length o0], .slice A1 l1.length c1, .slice A2 l2.length c2] w fun e w' => e = .returned (.bool r) ∧ Below w.heap.size w w' := by
 have N1 := Try.underlying31
 have S0 := a_ hr0_2
 have E1 := a_ hc0_2
 clear hr0_2 hc0_2
 have F1 := a_ hr0_3
 have G1 := a_ hc0_3
 clear hr0_3 hc0_3
 have E0 := a_ hr1
 have H0 := a_ hc1
 clear hr1 hc1
 have M0 := a_ hr2
 have O1 := a_ hc2
 clear hr2 hc2
 have HB := a_ (Below.refl w.heap.size w)
 have H : (if (l1.length : Int) = 0 then (some ((l2.length : Int) == 0)) else ((psalteryref14_Right.f k l1).bind fun V0 => (if V0 = true then (psalteryref17_channel.j0 k l1 l2 ((l2.length : Int) != 16) f0 g0 c0 d0) else (psalteryref17_channel.j0 k l1 l2 true f0 g0 c0 d0)))) = some r := h
 clear h
 replace H := ii_ H
 rcases H with ⟨c4, H⟩ | ⟨c4, H⟩
 {
 have I0 : ((l1.length : Int) == 0) = true := beq_iff_eq.mpr c4
 have J0 : ((l1.length : Int) != 0) = false := bne_eq_false_iff_eq.mpr c4
 clear c4
 obtain rfl := Option.some.inj H
 go_enter Try.func30, Try.ntmps30
 go_wp2_with (first | ((with_reducible refine gate_dst (N := 3) rfl ?_); (try (refine gate_guard (by rfl) ?_; dsimp only)); refine bx_ HB 3 #[.int .i64 f0, .int .i64 g0, .slice k0 c0.length m0, .slice n0 d0.length o0] 31 ?_; clear HB; intro r0 hg w5 hb b0 i0 HB; have D0 := i0; clear hb hg))
 repeat (go_quiet (first | ((with_reducible refine gate_dst (N := 3) rfl ?_); (try (refine gate_guard (by rfl) ?_; dsimp only)); refine bx_ HB 3 #[.int .i64 f0, .int .i64 g0, .slice k0 c0.length m0, .slice n0 d0.length o0] 31 ?_; clear HB; intro r0 hg w5 hb b0 i0 HB; have D0 := i0; clear hb hg)); try go_wp2_with (first | ((with_reducible refine gate_dst (N := 3) rfl ?_); (try (refine gate_guard (by rfl) ?_; dsimp only)); refine bx_ HB 3 #[.int .i64 f0, .int .i64 g0, .slice k0 c0.length m0, .slice n0 d0.length o0] 31 ?_; clear HB; intro r0 hg w5 hb b0 i0 HB; have D0 := i0; clear hb hg)))
 go_ret
 exact ⟨er_, bl_ HB⟩}
 {
 have I0 : ((l1.length : Int) == 0) = false := beq_eq_false_iff_ne.mpr c4
 have J0 : ((l1.length : Int) != 0) = true := bne_iff_ne.mpr c4
 have O0 : ¬ (l1 = []) := fun h_ => c4 (by rw [h_]; rfl)
 have W0 := a_ H
 clear H
 go_enter Try.func30, Try.ntmps30
 go_upto_region 3 with (first | ((with_reducible refine gate_dst (N := 3) rfl ?_); (try (refine gate_guard (by rfl) ?_; dsimp only)); refine bx_ HB 3 #[.int .i64 f0, .int .i64 g0, .slice k0 c0.length m0, .slice n0 d0.length o0] 31 ?_; clear HB; intro r0 hg w7 hb b0 i0 HB; have D0 := i0; clear hb hg))
 repeat (go_quiet (first | ((with_reducible refine gate_dst (N := 3) rfl ?_); (try (refine gate_guard (by rfl) ?_; dsimp only)); refine bx_ HB 3 #[.int .i64 f0, .int .i64 g0, .slice k0 c0.length m0, .slice n0 d0.length o0] 31 ?_; clear HB; intro r0 hg w7 hb b0 i0 HB; have D0 := i0; clear hb hg)); go_upto_region 3 with (first | ((with_reducible refine gate_dst (N := 3) rfl ?_); (try (refine gate_guard (by rfl) ?_; dsimp only)); refine bx_ HB 3 #[.int .i64 f0, .int .i64 g0, .slice k0 c0.length m0, .slice n0 d0.length o0] 31 ?_; clear HB; intro r0 hg w7 hb b0 i0 HB; have D0 := i0; clear hb hg)))
 (try simp only [Act.put, List.setIfInBounds_toArray, List.set_cons_zero, List.set_cons_succ])
 go_cut [22] (fun C1 wc => ∃ (kq : Nat) (K0 : Bool), C1 = .bool K0 ∧ Aside0 (psalteryref17_channel.j0 kq l1 l2 K0 f0 g0 c0 d0 = some r) ∧ Aside0 (kq ≤ k) ∧ Aside0 (wc.heap[r0]? = some (.cells #[.int .i64 f0, .int .i64 g0, (.slice k0 c0.length m0), (.slice n0 d0.length o0)] 31 (0, 0))) ∧ Aside0 (Below w.heap.size w wc))
 case first => (
 have H := W0.out
 clear W0
 obtain ⟨V0, A8, H⟩ := ob_ H
 (try dsimp only at H)
 replace H := ib_ H
 rcases H with ⟨rfl, H⟩ | ⟨rfl, H⟩
 {
 have H' := a_ H
 clear H
 go_wp2_with (first | (go_at_call 65; (with_reducible refine (psalteryref14_Right.calls k _ _ l1 true _ ?side1 ?side2 A8.out).mono ?_); (case side1 => exact kC_ E0 HB); (case side2 => exact H0.out); rintro e w' ⟨rfl, ⟨nd, rfl⟩⟩; (try first | exact ⟨rfl, _, World.drewN_drewN _ _ _⟩ | exact ⟨rfl, _, Eq.trans (World.drewN_drewN _ _ _) (congrArg (World.drewN _) (Nat.add_assoc _ _ _))⟩)))
 repeat (go_quiet (first | (go_at_call 65; (with_reducible refine (psalteryref14_Right.calls k _ _ l1 true _ ?side1 ?side2 A8.out).mono ?_); (case side1 => exact kC_ E0 HB); (case side2 => exact H0.out); rintro e w' ⟨rfl, ⟨nd, rfl⟩⟩; (try first | exact ⟨rfl, _, World.drewN_drewN _ _ _⟩ | exact ⟨rfl, _, Eq.trans (World.drewN_drewN _ _ _) (congrArg (World.drewN _) (Nat.add_assoc _ _ _))⟩))); try go_wp2_with (first | (go_at_call 65; (with_reducible refine (psalteryref14_Right.calls k _ _ l1 true _ ?side1 ?side2 A8.out).mono ?_); (case side1 => exact kC_ E0 HB); (case side2 => exact H0.out); rintro e w' ⟨rfl, ⟨nd, rfl⟩⟩; (try first | exact ⟨rfl, _, World.drewN_drewN _ _ _⟩ | exact ⟨rfl, _, Eq.trans (World.drewN_drewN _ _ _) (congrArg (World.drewN _) (Nat.add_assoc _ _ _))⟩))))
 go_meet
 case rel => exact ⟨_, (((l2.length : Int) != 16)), rs_, H', ⟨ol_⟩, ⟨bk_ b0⟩, ⟨bl_ HB⟩⟩}
 {
 have H' := a_ H
 clear H
 go_wp2_with (first | (go_at_call 65; (with_reducible refine (psalteryref14_Right.calls k _ _ l1 false _ ?side1 ?side2 A8.out).mono ?_); (case side1 => exact kC_ E0 HB); (case side2 => exact H0.out); rintro e w' ⟨rfl, ⟨nd, rfl⟩⟩; (try first | exact ⟨rfl, _, World.drewN_drewN _ _ _⟩ | exact ⟨rfl, _, Eq.trans (World.drewN_drewN _ _ _) (congrArg (World.drewN _) (Nat.add_assoc _ _ _))⟩)))
 repeat (go_quiet (first | (go_at_call 65; (with_reducible refine (psalteryref14_Right.calls k _ _ l1 false _ ?side1 ?side2 A8.out).mono ?_); (case side1 => exact kC_ E0 HB); (case side2 => exact H0.out); rintro e w' ⟨rfl, ⟨nd, rfl⟩⟩; (try first | exact ⟨rfl, _, World.drewN_drewN _ _ _⟩ | exact ⟨rfl, _, Eq.trans (World.drewN_drewN _ _ _) (congrArg (World.drewN _) (Nat.add_assoc _ _ _))⟩))); try go_wp2_with (first | (go_at_call 65; (with_reducible refine (psalteryref14_Right.calls k _ _ l1 false _ ?side1 ?side2 A8.out).mono ?_); (case side1 => exact kC_ E0 HB); (case side2 => exact H0.out); rintro e w' ⟨rfl, ⟨nd, rfl⟩⟩; (try first | exact ⟨rfl, _, World.drewN_drewN _ _ _⟩ | exact ⟨rfl, _, Eq.trans (World.drewN_drewN _ _ _) (congrArg (World.drewN _) (Nat.add_assoc _ _ _))⟩))))
 go_meet
 case rel => exact ⟨_, (true), rs_, H', ⟨ol_⟩, ⟨bk_ b0⟩, ⟨bl_ HB⟩⟩})
 case rest => (
 clear W0
 try clear c4
 try clear I0
 try clear J0
 try clear O0
 obtain ⟨kq, K0, rfl, HA, HJ5, b0, HB⟩ := hcut
 cases kq with
 | zero => exact absurd HA.out (by simp [psalteryref17_channel.j0])
 | succ kj5 => (
 have H := HA.out
 clear HA
 simp only [psalteryref17_channel.j0] at H
 replace H := ib_ H
 rcases H with ⟨rfl, H⟩ | ⟨rfl, H⟩
 {
 obtain rfl := Option.some.inj H
 go_wp2
 repeat (go_quiet (fail); try go_wp2)
 go_ret
 exact ⟨er_, bl_ HB⟩}
 {
 have H' := a_ H
 clear H
 go_wp2
 repeat (go_quiet (fail); try go_wp2)
 go_loopg [7] kj5 (fun kq v7 w' => ∃ (e0 : Int), v7 = .int .i64 e0 ∧ Aside0 (psalteryref17_channel.l0 kq l1 l2 e0 f0 g0 c0 d0 = some r) ∧ Aside0 (kq ≤ kj5) ∧ Aside0 (w'.heap[r0]? = some (.cells #[.int .i64 f0, .int .i64 g0, (.slice k0 c0.length m0), (.slice n0 d0.length o0)] 31 (0, 0))) ∧ Aside0 (Below w.heap.size w w'))
 case atStart => exact ⟨(0), rs_, H', ⟨Nat.le_refl _⟩, ⟨bk_ b0⟩, ⟨bl_ HB⟩⟩
 case round => (
 clear H'
 try clear c4
 try clear I0
 try clear J0
 try clear O0
 try clear D1
 obtain ⟨e0, rfl, HA, T0, b0, HB⟩ := hrel
 cases gk with
 | zero => exact absurd HA.out (by simp [psalteryref17_channel.l0])
 | succ k2 => (
 have H := HA.out
 clear HA
 simp only [psalteryref17_channel.l0] at H
 replace H := id_ H
 rcases H with ⟨U0, H⟩ | ⟨U0, H⟩
 {
 replace H := gd_ H
 obtain ⟨H1, H⟩ := H
 replace H := gd_ H
 obtain ⟨I1, H⟩ := H
 replace H := gd_ H
 obtain ⟨J1, H⟩ := H
 replace H := gd_ H
 obtain ⟨K1, H⟩ := H
 replace H := ie_ H
 rcases H with ⟨X0, Y0, H⟩ | ⟨P1, X0, Y0, H⟩
 {
 obtain rfl := Option.some.inj H
 obtain ⟨h1, i1, j1, k1, m1, n1, o1, p1⟩ := e4_ b0
 have w0 : 0 ≤ (e0 : Int) := dm_
 have y0 : e0 < (l1.length : Int) := dm_
 obtain ⟨Z0, P0, s0⟩ := Kd.at_int E0.out e0 w0 y0
 cases P0
 replace s0 := hc_ HB s0
 replace w0 := eq_true w0
 replace y0 := eq_true y0
 have z0 : 0 ≤ ((rd l1 e0) : Int) := dm_
 have A0 : (rd l1 e0) < (c0.length : Int) := dm_
 obtain ⟨a1, Q0, t0⟩ := Kd.at_int S0.out (rd l1 e0) z0 A0
 cases Q0
 replace t0 := hc_ HB t0
 replace z0 := eq_true z0
 replace A0 := eq_true A0
 go_wp2
 repeat (go_quiet (fail); try go_wp2)
 go_ret
 exact ⟨er_, bl_ HB⟩}
 {
 have H' := a_ H
 clear H
 obtain ⟨q1, r1, s1, t1, v1, y1, z1, B1⟩ := e4_ b0
 have w0 : 0 ≤ (e0 : Int) := dm_
 have y0 : e0 < (l1.length : Int) := dm_
 obtain ⟨Z0, P0, s0⟩ := Kd.at_int E0.out e0 w0 y0
 cases P0
 replace s0 := hc_ HB s0
 replace w0 := eq_true w0
 replace y0 := eq_true y0
 have z0 : 0 ≤ ((rd l1 e0) : Int) := dm_
 have A0 : (rd l1 e0) < (c0.length : Int) := dm_
 obtain ⟨a1, Q0, t0⟩ := Kd.at_int S0.out (rd l1 e0) z0 A0
 cases Q0
 replace t0 := hc_ HB t0
 replace z0 := eq_true z0
 replace A0 := eq_true A0
 go_wp2
 repeat (go_quiet (fail); try go_wp2)
 go_roundg k2
 case measure => have := HJ5.out; have := T0.out; omega
 case rel => exact ⟨(wrap64 (e0 + 1)), rs_, H', ⟨by have := HJ5.out; have := T0.out; omega⟩, ⟨bk_ b0⟩, ⟨bl_ HB⟩⟩}}
 {
 have H' := a_ H
 clear H
 go_wp2
 repeat (go_quiet (fail); try go_wp2)
 go_loopg [8] k2 (fun kq v8 w' => ∃ (a0 : Int), v8 = .int .i64 a0 ∧ Aside0 (psalteryref17_channel.l1 kq l2 a0 = some r) ∧ Aside0 (kq ≤ k2) ∧ Aside0 (w'.heap[r0]? = some (.cells #[.int .i64 f0, .int .i64 g0, (.slice k0 c0.length m0), (.slice n0 d0.length o0)] 31 (0, 0))) ∧ Aside0 (Below w.heap.size w w'))
 case atStart => exact ⟨(0), rs_, H', ⟨Nat.le_refl _⟩, ⟨bk_ b0⟩, ⟨bl_ HB⟩⟩
 case round => (
 clear H'
 try clear c4
 try clear I0
 try clear J0
 try clear O0
 try clear D1
 try clear Q1
 try clear U0
 obtain ⟨a0, rfl, HA, f1, b0, HB⟩ := hrel
 cases gk with
 | zero => exact absurd HA.out (by simp [psalteryref17_channel.l1])
 | succ k3 => (
 have H := HA.out
 clear HA
 simp only [psalteryref17_channel.l1] at H
 replace H := id_ H
 rcases H with ⟨b1, H⟩ | ⟨b1, H⟩
 {
 replace H := gd_ H
 obtain ⟨L1, H⟩ := H
 replace H := gd_ H
 obtain ⟨M1, H⟩ := H
 replace H := ii_ H
 rcases H with ⟨N0, H⟩ | ⟨N0, H⟩
 {
 have d1 : decide (4194303 < (rd l2 a0)) = true := decide_eq_true N0
 clear N0
 obtain rfl := Option.some.inj H
 have p0 : 0 ≤ (a0 : Int) := dm_
 have q0 : a0 < (l2.length : Int) := dm_
 obtain ⟨F0, G0, h0⟩ := Kd.at_int M0.out a0 p0 q0
 cases G0
 replace h0 := hc_ HB h0
 replace p0 := eq_true p0
 replace q0 := eq_true q0
 go_wp2
 repeat (go_quiet (fail); try go_wp2)
 go_ret
 exact ⟨er_, bl_ HB⟩}
 {
 have d1 : decide (4194303 < (rd l2 a0)) = false := decide_eq_false N0
 clear N0
 replace H := id_ H
 rcases H with ⟨e1, H⟩ | ⟨e1, H⟩
 {
 obtain rfl := Option.some.inj H
 have p0 : 0 ≤ (a0 : Int) := dm_
 have q0 : a0 < (l2.length : Int) := dm_
 obtain ⟨F0, G0, h0⟩ := Kd.at_int M0.out a0 p0 q0
 cases G0
 replace h0 := hc_ HB h0
 replace p0 := eq_true p0
 replace q0 := eq_true q0
 have B0 : 0 ≤ (a0 : Int) := dm_
 have C0 : a0 < (l2.length : Int) := dm_
 obtain ⟨L0, R0, v0⟩ := Kd.at_int M0.out a0 B0 C0
 obtain rfl : F0 = L0 := (by injection R0)
 replace v0 := hc_ HB v0
 replace B0 := eq_true B0
 replace C0 := eq_true C0
 go_wp2
 repeat (go_quiet (fail); try go_wp2)
 go_ret
 exact ⟨er_, bl_ HB⟩}
 {
 have H' := a_ H
 clear H
 have p0 : 0 ≤ (a0 : Int) := dm_
 have q0 : a0 < (l2.length : Int) := dm_
 obtain ⟨F0, G0, h0⟩ := Kd.at_int M0.out a0 p0 q0
 cases G0
 replace h0 := hc_ HB h0
 replace p0 := eq_true p0
 replace q0 := eq_true q0
 have B0 : 0 ≤ (a0 : Int) := dm_
 have C0 : a0 < (l2.length : Int) := dm_
 obtain ⟨L0, R0, v0⟩ := Kd.at_int M0.out a0 B0 C0
 obtain rfl : F0 = L0 := (by injection R0)
 replace v0 := hc_ HB v0
 replace B0 := eq_true B0
 replace C0 := eq_true C0
 go_wp2
 repeat (go_quiet (fail); try go_wp2)
 go_roundg k3
 case measure => have := HJ5.out; have := T0.out; have := f1.out; omega
 case rel => exact ⟨(wrap64 (a0 + 1)), rs_, H', ⟨by have := HJ5.out; have := T0.out; have := f1.out; omega⟩, ⟨bk_ b0⟩, ⟨bl_ HB⟩⟩}}}
 {
 obtain rfl := Option.some.inj H
 go_wp2
 repeat (go_quiet (fail); try go_wp2)
 go_ret
 exact ⟨er_, bl_ HB⟩}))}))}))}
mutual
def psalteryref17_Right.j0 : Nat → Bool → Int → Int → List Int → List Int → List (List Int) → List (List Int) → Option (Bool)
  | 0, _, _, _, _, _, _, _ => none
  | k + 1, g0, a0, b0, c0, d0, e0, f0 => if g0 = true then (some false) else (psalteryref17_Right.l0 k 0 a0 b0 c0 d0 e0 f0)
def psalteryref17_Right.l0 : Nat → Int → Int → Int → List Int → List Int → List (List Int) → List (List Int) → Option (Bool)
  | 0, _, _, _, _, _, _, _ => none
  | k + 1, x5, a0, d0, e0, f0, b0, c0 => if x5 < a0 then (if 0 ≤ x5 then (if x5 < (b0.length : Int) then (if x5 < (c0.length : Int) then ((psalteryref17_channel.f k a0 d0 e0 f0 (rd_L1 b0 x5) (rd_L2 c0 x5)).bind fun g0 => (if g0 = true then (psalteryref17_Right.l0 k (wrap64 (x5 + 1)) a0 d0 e0 f0 b0 c0) else (some false))) else (none)) else (none)) else (none)) else (some true)
end
def psalteryref17_Right.f (k : Nat) (a0 : Int) (b0 : Int) (c0 : List Int) (d0 : List Int) (e0 : List (List Int)) (f0 : List (List Int)) : Option (Bool) := (psalteryref16_Right.f k a0 b0 c0 d0).bind fun g0 => (if g0 = true then (if (e0.length : Int) = a0 then (psalteryref17_Right.j0 k ((f0.length : Int) != a0) a0 b0 c0 d0 e0 f0) else (psalteryref17_Right.j0 k true a0 b0 c0 d0 e0 f0)) else (psalteryref17_Right.j0 k true a0 b0 c0 d0 e0 f0))
theorem psalteryref17_Right.mono_l : ∀ k, (∀ y0 y1 y2 y3 y4 y5 y6, LeO (psalteryref17_Right.j0 k y0 y1 y2 y3 y4 y5 y6) (psalteryref17_Right.j0 (k + 1) y0 y1 y2 y3 y4 y5 y6)) ∧ (∀ y0 y1 y2 y3 y4 y5 y6, LeO (psalteryref17_Right.l0 k y0 y1 y2 y3 y4 y5 y6) (psalteryref17_Right.l0 (k + 1) y0 y1 y2 y3 y4 y5 y6))
  | 0 => ⟨fun _ _ _ _ _ _ _ r h => by simp [psalteryref17_Right.j0] at h, fun _ _ _ _ _ _ _ r h => by simp [psalteryref17_Right.l0] at h⟩
  | k + 1 => by
    obtain ⟨a0, b0⟩ := psalteryref17_Right.mono_l k
    refine ⟨?_, ?_⟩
    all_goals (intros; first | unfold psalteryref17_Right.j0 | unfold psalteryref17_Right.l0)
    all_goals with_reducible repeat' first
     | exact a0 _ _ _ _ _ _ _
     | exact b0 _ _ _ _ _ _ _
     | exact psalteryref16_Right.mono _ _ _ _ _
     | exact psalteryref17_channel.mono _ _ _ _ _ _ _
     | exact LeO.refl _
     | exact LeO.none _
     | refine LeO.ite ?_ ?_
     | refine LeO.bind ?_ (fun _ => ?_)
theorem psalteryref17_Right.mono : ∀ a0 a1 a2 a3 a4 a5 k, LeO (psalteryref17_Right.f k a0 a1 a2 a3 a4 a5) (psalteryref17_Right.f (k + 1) a0 a1 a2 a3 a4 a5) := by
  intro a0 a1 a2 a3 a4 a5 k
  obtain ⟨b0, c0⟩ := psalteryref17_Right.mono_l k
  unfold psalteryref17_Right.f
  with_reducible repeat' first
   | exact b0 _ _ _ _ _ _ _
   | exact c0 _ _ _ _ _ _ _
   | exact psalteryref16_Right.mono _ _ _ _ _
   | exact psalteryref17_channel.mono _ _ _ _ _ _ _
   | exact LeO.refl _
   | exact LeO.none _
   | refine LeO.ite ?_ ?_
   | refine LeO.bind ?_ (fun _ => ?_)
def psalteryref17_Right.T6 : Bool × List (List Nat × List Nat) := (true, [([], []), ([], []), ([1], [1]), ([], []), ([2, 3], [2, 3]), ([4], [4]), ([], []), ([6], [6]), ([], []), ([7, 8], [7, 8]), ([9], [9]), ([0, 5, 10], [0, 5, 10]), ([11], [11])])
def psalteryref17_Right.B6 : List Nat := [0, 0, 2, 0, 14, 30, 0, 64, 0, 448, 960, 2047, 4095]
theorem psalteryref17_Right.tab6 : rtab .any (opsOf Try.f10 6) = psalteryref17_Right.T6 := by kernel_rfl
theorem psalteryref17_Right.bits6 : waitsOk psalteryref17_Right.T6.2 psalteryref17_Right.B6 = true := by kernel_rfl
set_option maxHeartbeats 8000000 in
set_option maxRecDepth 100000 in
theorem psalteryref17_Right.calls (k : Nat) (d0 : Int) (i0 : Int) (q0 : Option Addr) (r0 : Nat) (e0 : List Int) (t0 : Option Addr) (v0 : Nat) (f0 : List Int) (Y0 : Option Addr) (K0 : Nat) (h0 : List (List Int)) (Z0 : Option Addr) (L0 : Nat) (g0 : List (List Int)) (r : Bool) (w : World) (hr0_2 : Kd.C (Kd.int .i64) w q0 e0.length e0) (hc0_2 : e0.length ≤ r0) (hr0_3 : Kd.C (Kd.int .i64) w t0 f0.length f0) (hc0_3 : f0.length ≤ v0) (hr1_0 : Kd.C (Kd.slice 3 (Kd.int .i64)) w Y0 h0.length h0) (hc1_0 : h0.length ≤ K0) (hr1_1 : Kd.C (Kd.slice 2 (Kd.int .i64)) w Z0 g0.length g0) (hc1_1 : g0.length ≤ L0) (h : psalteryref17_Right.f k d0 i0 e0 f0 h0 g0 = some r) :
    Calls Try.prog 10 #[.agg #[.int .i64 d0, .int .i64 i0, .slice q0 e0.length r0, .slice t0 f0.length v0], .agg #[.slice Y0 h0.length K0, .slice Z0 g0.length L0]] w fun e w' => e = .returned (.bool r) ∧ Below w.heap.size w w' := by
 have k3 := Try.underlying31
 have l3 := Try.underlying33
 have Q0 := a_ hr0_2
 have R0 := a_ hc0_2
 clear hr0_2 hc0_2
 have S0 := a_ hr0_3
 have T0 := a_ hc0_3
 clear hr0_3 hc0_3
 have e1 := a_ hr1_0
 have T2 := a_ hc1_0
 clear hr1_0 hc1_0
 have f1 := a_ hr1_1
 have U2 := a_ hc1_1
 clear hr1_1 hc1_1
 have HB := a_ (Below.refl w.heap.size w)
 have H : ((psalteryref16_Right.f k d0 i0 e0 f0).bind fun h1 => (if h1 = true then (if (h0.length : Int) = d0 then (psalteryref17_Right.j0 k ((g0.length : Int) != d0) d0 i0 e0 f0 h0 g0) else (psalteryref17_Right.j0 k true d0 i0 e0 f0 h0 g0)) else (psalteryref17_Right.j0 k true d0 i0 e0 f0 h0 g0))) = some r := h
 clear h
 have i1 := a_ H
 clear H
 go_enter Try.func10, Try.ntmps10
 go_upto_region 1 with (first | ((with_reducible refine gate_dst (N := 2) rfl ?_); (try (refine gate_guard (by rfl) ?_; dsimp only)); refine bx_ HB 2 #[.int .i64 d0, .int .i64 i0, .slice q0 e0.length r0, .slice t0 f0.length v0] 31 ?_; clear HB; intro p0 hg w4 hb a0 j1 HB; have V2 := j1; clear hb hg) | ((with_reducible refine gate_dst (N := 3) rfl ?_); (try (refine gate_guard (by rfl) ?_; dsimp only)); refine bx_ HB 3 #[.slice Y0 h0.length K0, .slice Z0 g0.length L0] 33 ?_; clear HB; intro J0 hg w5 hb b0 k1 HB; have W2 := k1; obtain ⟨n0, o0⟩ := NN_ a0 hg; replace a0 := FB_ a0 hb; clear hb hg))
 (try simp only [Act.put, List.setIfInBounds_toArray, List.set_cons_zero, List.set_cons_succ])
 go_cut [24] (fun S2 wc => ∃ (kq : Nat) (b1 : Bool), S2 = .bool b1 ∧ Aside0 (psalteryref17_Right.j0 kq b1 d0 i0 e0 f0 h0 g0 = some r) ∧ Aside0 (kq ≤ k) ∧ Aside0 (wc.heap[p0]? = some (.cells #[.int .i64 d0, .int .i64 i0, (.slice q0 e0.length r0), (.slice t0 f0.length v0)] 31 (0, 0))) ∧ Aside0 (wc.heap[J0]? = some (.cells #[(.slice Y0 h0.length K0), (.slice Z0 g0.length L0)] 33 (0, 0))) ∧ Aside0 (Below w.heap.size w wc))
 case first => (
 have H := i1.out
 clear i1
 obtain ⟨h1, A6, H⟩ := ob_ H
 (try dsimp only at H)
 replace H := ib_ H
 rcases H with ⟨rfl, H⟩ | ⟨rfl, H⟩
 {
 replace H := ie_ H
 rcases H with ⟨a1, o1, H⟩ | ⟨c8, a1, o1, H⟩
 {
 (first | rw [a1] | (simp only [i64_w, i32_w]; rw [a1]) | skip)
 have H' := a_ H
 clear H
 have m3 := n0.out
 have n3 := o0.out
 obtain ⟨p1, q1, r1, t1, v1, y1, z1, A1⟩ := e4_ a0
 go_wp2_with (first | ((with_reducible refine gate_callee (f := 28) rfl ?_); refine gL_ (some 7) Try.func28 #[.agg #[.int .i64 d0, .int .i64 i0, .slice q0 e0.length r0, .slice t0 f0.length v0]] ?_; (with_reducible refine (psalteryref16_Right.calls k d0 i0 _ _ e0 _ _ f0 true _ ?side1 ?side2 ?side3 ?side4 A6.out).mono ?_); (case side1 => exact kC_ Q0 HB); (case side2 => exact R0.out); (case side3 => exact kC_ S0 HB); (case side4 => exact T0.out); rintro e p3 ⟨rfl, hb⟩; refine ⟨_, rfl, ?_⟩; replace a0 := FB_ a0 hb; replace b0 := FB_ b0 hb; replace HB := BS_ HB hb; (try clear hb); obtain ⟨B1, C1, D1, E1⟩ := e2_ b0; obtain ⟨F1, G1, H1, I1, J1, K1, L1, M1⟩ := e4_ a0))
 go_meet
 case rel => exact ⟨_, (((g0.length : Int) != d0)), rs_, H', ⟨ol_⟩, ⟨bk_ a0⟩, ⟨bk_ b0⟩, ⟨bl_ HB⟩⟩}
 {
 (first | rw [a1] | (simp only [i64_w, i32_w]; rw [a1]) | skip)
 have H' := a_ H
 clear H
 have X2 := n0.out
 have Y2 := o0.out
 obtain ⟨N1, O1, P1, Q1, R1, S1, T1, U1⟩ := e4_ a0
 go_wp2_with (first | ((with_reducible refine gate_callee (f := 28) rfl ?_); refine gL_ (some 7) Try.func28 #[.agg #[.int .i64 d0, .int .i64 i0, .slice q0 e0.length r0, .slice t0 f0.length v0]] ?_; (with_reducible refine (psalteryref16_Right.calls k d0 i0 _ _ e0 _ _ f0 true _ ?side1 ?side2 ?side3 ?side4 A6.out).mono ?_); (case side1 => exact kC_ Q0 HB); (case side2 => exact R0.out); (case side3 => exact kC_ S0 HB); (case side4 => exact T0.out); rintro e q3 ⟨rfl, hb⟩; refine ⟨_, rfl, ?_⟩; replace a0 := FB_ a0 hb; replace b0 := FB_ b0 hb; replace HB := BS_ HB hb; (try clear hb); obtain ⟨V1, W1, X1, Y1⟩ := e2_ b0; obtain ⟨Z1, a2, b2, c2, d2, e2, f2, g2⟩ := e4_ a0))
 go_meet
 case rel => exact ⟨_, (true), rs_, H', ⟨ol_⟩, ⟨bk_ a0⟩, ⟨bk_ b0⟩, ⟨bl_ HB⟩⟩}}
 {
 have H' := a_ H
 clear H
 have Z2 := n0.out
 have a3 := o0.out
 obtain ⟨h2, i2, j2, l2, m2, n2, p2, q2⟩ := e4_ a0
 go_wp2_with (first | ((with_reducible refine gate_callee (f := 28) rfl ?_); refine gL_ (some 7) Try.func28 #[.agg #[.int .i64 d0, .int .i64 i0, .slice q0 e0.length r0, .slice t0 f0.length v0]] ?_; (with_reducible refine (psalteryref16_Right.calls k d0 i0 _ _ e0 _ _ f0 false _ ?side1 ?side2 ?side3 ?side4 A6.out).mono ?_); (case side1 => exact kC_ Q0 HB); (case side2 => exact R0.out); (case side3 => exact kC_ S0 HB); (case side4 => exact T0.out); rintro e r3 ⟨rfl, hb⟩; refine ⟨_, rfl, ?_⟩; replace a0 := FB_ a0 hb; replace b0 := FB_ b0 hb; replace HB := BS_ HB hb; (try clear hb)))
 go_meet
 case rel => exact ⟨_, (true), rs_, H', ⟨ol_⟩, ⟨bk_ a0⟩, ⟨bk_ b0⟩, ⟨bl_ HB⟩⟩})
 case rest => (
 clear i1
 obtain ⟨kq, b1, rfl, HA, HJ2, a0, b0, HB⟩ := hcut
 cases kq with
 | zero => exact absurd HA.out (by simp [psalteryref17_Right.j0])
 | succ kj2 => (
 have H := HA.out
 clear HA
 simp only [psalteryref17_Right.j0] at H
 replace H := ib_ H
 rcases H with ⟨rfl, H⟩ | ⟨rfl, H⟩
 {
 obtain rfl := Option.some.inj H
 go_wp2
 go_ret
 exact ⟨er_, bl_ HB⟩}
 {
 have H' := a_ H
 clear H
 go_wp2
 go_loopg [5] kj2 (fun kq v5 w' => ∃ (c0 : Int), v5 = .int .i64 c0 ∧ Aside0 (psalteryref17_Right.l0 kq c0 d0 i0 e0 f0 h0 g0 = some r) ∧ Aside0 (kq ≤ kj2) ∧ Aside0 (w'.heap[p0]? = some (.cells #[.int .i64 d0, .int .i64 i0, (.slice q0 e0.length r0), (.slice t0 f0.length v0)] 31 (0, 0))) ∧ Aside0 (w'.heap[J0]? = some (.cells #[(.slice Y0 h0.length K0), (.slice Z0 g0.length L0)] 33 (0, 0))) ∧ Aside0 (Below w.heap.size w w'))
 case atStart => exact ⟨(0), rs_, H', ⟨Nat.le_refl _⟩, ⟨bk_ a0⟩, ⟨bk_ b0⟩, ⟨bl_ HB⟩⟩
 case round => (
 clear H'
 try clear t3
 obtain ⟨c0, rfl, HA, m1, a0, b0, HB⟩ := hrel
 cases gk with
 | zero => exact absurd HA.out (by simp [psalteryref17_Right.l0])
 | succ k2 => (
 have H := HA.out
 clear HA
 simp only [psalteryref17_Right.l0] at H
 replace H := id_ H
 rcases H with ⟨l1, H⟩ | ⟨l1, H⟩
 {
 replace H := gd_ H
 obtain ⟨b3, H⟩ := H
 replace H := gd_ H
 obtain ⟨c3, H⟩ := H
 replace H := gd_ H
 obtain ⟨d3, H⟩ := H
 obtain ⟨o3, n1, H⟩ := ob_ H
 (try dsimp only at H)
 replace H := ib_ H
 rcases H with ⟨rfl, H⟩ | ⟨rfl, H⟩
 {
 have H' := a_ H
 clear H
 have e3 := n0.out
 have f3 := o0.out
 obtain ⟨r2, t2, v2, w2, y2, z2, A2, B2⟩ := e4_ a0
 try go_wp2
 replace a0 := a_ (blk_drew a0.out)
 replace b0 := a_ (blk_drew b0.out)
 replace HB := a_ (below_drew1 HB.out)
 have M0 : 0 ≤ (c0 : Int) := dm_
 have N0 : c0 < (h0.length : Int) := dm_
 obtain ⟨U0, F0, G0, c1, k0, w0, y0⟩ := at_L1 e1.out c0 M0 N0
 have z0 := k0
 cases c1
 replace k0 := hc_ HB k0
 have A0 := a_ y0
 have W0 := a_ w0
 clear y0 w0
 replace M0 := eq_true M0
 replace N0 := eq_true N0
 have O0 : 0 ≤ (c0 : Int) := dm_
 have P0 : c0 < (g0.length : Int) := dm_
 obtain ⟨V0, H0, I0, d1, m0, B0, C0⟩ := at_L2 f1.out c0 O0 P0
 have D0 := m0
 cases d1
 replace m0 := hc_ HB m0
 have E0 := a_ C0
 have X0 := a_ B0
 clear C0 B0
 replace O0 := eq_true O0
 replace P0 := eq_true P0
 refine start_ (n := 13) (S := fun w' => w'.cell? ⟨p0, 0, none⟩ = some (.int .i64 d0) ∧ w'.cell? ⟨p0, 1, none⟩ = some (.int .i64 i0) ∧ w'.cell? ⟨p0, 2, none⟩ = some (.slice q0 e0.length r0) ∧ w'.cell? ⟨p0, 3, none⟩ = some (.slice t0 f0.length v0) ∧ w'.cell? ⟨J0, 0, none⟩ = some (.slice (some U0) h0.length K0) ∧ w'.cell? ⟨J0, 1, none⟩ = some (.slice (some V0) g0.length L0) ∧ w'.cell? (U0.add (c0).toNat) = some (.slice F0 (rd_L1 h0 c0).length G0) ∧ w'.cell? (V0.add (c0).toNat) = some (.slice H0 (rd_L2 g0 c0).length I0)) (ds := []) (B_ 13 0) kf_ rfl rfl ⟨ce_ a0 0, ce_ a0 1, ce_ a0 2, ce_ a0 3, ce_ b0 0, ce_ b0 1, (hc_ HB z0), (hc_ HB D0)⟩ (fun hHeld => ?_); refine with_tabW psalteryref17_Right.tab6 psalteryref17_Right.bits6 (fun HT_ HW_ => ?_)
 generalize wr.drew = v3 at a0 b0 HB A0 E0 k0 m0 hHeld ⊢
 refine pu_ 1 (some 32) (B_ 13 2) HT_ ?_
 refine pu_ 3 (some 34) (B_ 13 10) HT_ ?_
 refine pu_ 6 (some 37) (B_ 13 74) HT_ ?_
 refine pu_ 8 (some 39) (B_ 13 330) HT_ ?_
 refine take_ (i := 0) (N := some 31) (v := ?_) (a' := ?_) (B_ 13 331) rfl rfl (take_ofW HT_.out HW_.out kf_) (fun _ _ _ h => h) (Or.inl ⟨by rfl, ?_⟩) hHeld ?_ ?_
 rotate_left
 {
 rintro w' ⟨s0, s1, s2, s3, s4, s5, s6, s7⟩
 go_simp
 with_reducible rfl}
 rotate_left
 {
 exact sp_}
 refine take_ (i := 2) (N := some 33) (v := ?_) (a' := ?_) (B_ 13 335) rfl rfl (take_ofW HT_.out HW_.out kf_) (fun _ _ _ h => h) (Or.inl ⟨by rfl, ?_⟩) hHeld ?_ ?_
 rotate_left
 {
 rintro w' ⟨s0, s1, s2, s3, s4, s5, s6, s7⟩
 go_simp
 with_reducible rfl}
 rotate_left
 {
 exact sp_}
 refine pu_ 4 (some 35) (B_ 13 351) HT_ ?_
 refine take_ (i := 5) (N := some 36) (v := ?_) (a' := ?_) (B_ 13 383) rfl rfl (take_ofW HT_.out HW_.out kf_) (fun _ _ _ h => h) (Or.inl ⟨by rfl, ?_⟩) hHeld ?_ ?_
 rotate_left
 {
 rintro w' ⟨s0, s1, s2, s3, s4, s5, s6, s7⟩
 go_simp
 with_reducible rfl}
 rotate_left
 {
 exact sp_}
 refine take_ (i := 7) (N := some 38) (v := ?_) (a' := ?_) (B_ 13 511) rfl rfl (take_ofW HT_.out HW_.out kf_) (fun _ _ _ h => h) (Or.inl ⟨by rfl, ?_⟩) hHeld ?_ ?_
 rotate_left
 {
 rintro w' ⟨s0, s1, s2, s3, s4, s5, s6, s7⟩
 go_simp
 with_reducible rfl}
 rotate_left
 {
 exact sp_}
 refine pu_ 9 (some 40) (B_ 13 1023) HT_ ?_
 refine take_ (i := 10) (N := some 41) (v := ?_) (a' := ?_) (B_ 13 2047) rfl rfl (take_ofW HT_.out HW_.out kf_) (fun _ _ _ h => h) (Or.inl ⟨by rfl, ?_⟩) hHeld ?_ ?_
 rotate_left
 {
 rintro w' ⟨s0, s1, s2, s3, s4, s5, s6, s7⟩
 go_simp
 with_reducible rfl}
 rotate_left
 {
 exact sp_}
 refine one_ (i := 11) (N := some 42) (B_ 13 4095) rfl rfl (one_of HT_.out kf_) (by decide) (fun K hK => ?_)
 refine goes_ Try.func30 kf_ rfl #[.agg #[.int .i64 d0, .int .i64 i0, .slice q0 e0.length r0, .slice t0 f0.length v0], .slice F0 (rd_L1 h0 c0).length G0, .slice H0 (rd_L2 g0 c0).length I0] (by rfl) rfl rfl ar_ ?_
 with_reducible refine (psalteryref17_channel.calls k2 d0 i0 _ _ e0 _ _ f0 _ _ (rd_L1 h0 c0) _ _ (rd_L2 g0 c0) true _ ?side1 ?side2 ?side3 ?side4 ?side5 ?side6 ?side7 ?side8 n1.out).mono ?_
 (case side1 => exact kC_ Q0 HB)
 (case side2 => exact R0.out)
 (case side3 => exact kC_ S0 HB)
 (case side4 => exact T0.out)
 (case side5 => exact kC_ A0 HB)
 (case side6 => exact W0.out)
 (case side7 => exact kC_ E0 HB)
 (case side8 => exact X0.out)
 rintro e w3 ⟨rfl, hb⟩
 refine ⟨_, rfl, ?_⟩
 replace a0 := FB_ a0 hb
 replace b0 := FB_ b0 hb
 replace HB := BS_ HB hb
 (try clear hb)
 refine hK.out _ _ ⟨ce_ a0 0, ce_ a0 1, ce_ a0 2, ce_ a0 3, ce_ b0 0, ce_ b0 1, (hc_ HB z0), (hc_ HB D0)⟩ (fun hHeld => ?_)
 clear hK K
 refine norm_ (a' := ?_) ?_ ?_
 rotate_left
 {
 show Act.put _ (some 42) _ = _
 exact sp_}
 refine pu_ 12 (some 43) (B_ 13 8191) HT_ ?_
 refine done_ (done_of HT_.out kf_) ?_
 try go_wp2
 go_roundg k2
 case measure => have := HJ2.out; have := m1.out; omega
 case rel => exact ⟨(wrap64 (c0 + 1)), rs_, H', ⟨by have := HJ2.out; have := m1.out; omega⟩, ⟨bk_ a0⟩, ⟨bk_ b0⟩, ⟨bl_ HB⟩⟩}
 {
 obtain rfl := Option.some.inj H
 have g3 := n0.out
 have h3 := o0.out
 obtain ⟨C2, D2, E2, F2, G2, H2, I2, J2⟩ := e4_ a0
 try go_wp2
 replace a0 := a_ (blk_drew a0.out)
 replace b0 := a_ (blk_drew b0.out)
 replace HB := a_ (below_drew1 HB.out)
 have M0 : 0 ≤ (c0 : Int) := dm_
 have N0 : c0 < (h0.length : Int) := dm_
 obtain ⟨U0, F0, G0, c1, k0, w0, y0⟩ := at_L1 e1.out c0 M0 N0
 have z0 := k0
 cases c1
 replace k0 := hc_ HB k0
 have A0 := a_ y0
 have W0 := a_ w0
 clear y0 w0
 replace M0 := eq_true M0
 replace N0 := eq_true N0
 have O0 : 0 ≤ (c0 : Int) := dm_
 have P0 : c0 < (g0.length : Int) := dm_
 obtain ⟨V0, H0, I0, d1, m0, B0, C0⟩ := at_L2 f1.out c0 O0 P0
 have D0 := m0
 cases d1
 replace m0 := hc_ HB m0
 have E0 := a_ C0
 have X0 := a_ B0
 clear C0 B0
 replace O0 := eq_true O0
 replace P0 := eq_true P0
 refine start_ (n := 13) (S := fun w' => w'.cell? ⟨p0, 0, none⟩ = some (.int .i64 d0) ∧ w'.cell? ⟨p0, 1, none⟩ = some (.int .i64 i0) ∧ w'.cell? ⟨p0, 2, none⟩ = some (.slice q0 e0.length r0) ∧ w'.cell? ⟨p0, 3, none⟩ = some (.slice t0 f0.length v0) ∧ w'.cell? ⟨J0, 0, none⟩ = some (.slice (some U0) h0.length K0) ∧ w'.cell? ⟨J0, 1, none⟩ = some (.slice (some V0) g0.length L0) ∧ w'.cell? (U0.add (c0).toNat) = some (.slice F0 (rd_L1 h0 c0).length G0) ∧ w'.cell? (V0.add (c0).toNat) = some (.slice H0 (rd_L2 g0 c0).length I0)) (ds := []) (B_ 13 0) kf_ rfl rfl ⟨ce_ a0 0, ce_ a0 1, ce_ a0 2, ce_ a0 3, ce_ b0 0, ce_ b0 1, (hc_ HB z0), (hc_ HB D0)⟩ (fun hHeld => ?_); refine with_tabW psalteryref17_Right.tab6 psalteryref17_Right.bits6 (fun HT_ HW_ => ?_)
 generalize wr.drew = y3 at a0 b0 HB A0 E0 k0 m0 hHeld ⊢
 refine pu_ 1 (some 32) (B_ 13 2) HT_ ?_
 refine pu_ 3 (some 34) (B_ 13 10) HT_ ?_
 refine pu_ 6 (some 37) (B_ 13 74) HT_ ?_
 refine pu_ 8 (some 39) (B_ 13 330) HT_ ?_
 refine take_ (i := 0) (N := some 31) (v := ?_) (a' := ?_) (B_ 13 331) rfl rfl (take_ofW HT_.out HW_.out kf_) (fun _ _ _ h => h) (Or.inl ⟨by rfl, ?_⟩) hHeld ?_ ?_
 rotate_left
 {
 rintro w' ⟨s0, s1, s2, s3, s4, s5, s6, s7⟩
 go_simp
 with_reducible rfl}
 rotate_left
 {
 exact sp_}
 refine take_ (i := 2) (N := some 33) (v := ?_) (a' := ?_) (B_ 13 335) rfl rfl (take_ofW HT_.out HW_.out kf_) (fun _ _ _ h => h) (Or.inl ⟨by rfl, ?_⟩) hHeld ?_ ?_
 rotate_left
 {
 rintro w' ⟨s0, s1, s2, s3, s4, s5, s6, s7⟩
 go_simp
 with_reducible rfl}
 rotate_left
 {
 exact sp_}
 refine pu_ 4 (some 35) (B_ 13 351) HT_ ?_
 refine take_ (i := 5) (N := some 36) (v := ?_) (a' := ?_) (B_ 13 383) rfl rfl (take_ofW HT_.out HW_.out kf_) (fun _ _ _ h => h) (Or.inl ⟨by rfl, ?_⟩) hHeld ?_ ?_
 rotate_left
 {
 rintro w' ⟨s0, s1, s2, s3, s4, s5, s6, s7⟩
 go_simp
 with_reducible rfl}
 rotate_left
 {
 exact sp_}
 refine take_ (i := 7) (N := some 38) (v := ?_) (a' := ?_) (B_ 13 511) rfl rfl (take_ofW HT_.out HW_.out kf_) (fun _ _ _ h => h) (Or.inl ⟨by rfl, ?_⟩) hHeld ?_ ?_
 rotate_left
 {
 rintro w' ⟨s0, s1, s2, s3, s4, s5, s6, s7⟩
 go_simp
 with_reducible rfl}
 rotate_left
 {
 exact sp_}
 refine pu_ 9 (some 40) (B_ 13 1023) HT_ ?_
 refine take_ (i := 10) (N := some 41) (v := ?_) (a' := ?_) (B_ 13 2047) rfl rfl (take_ofW HT_.out HW_.out kf_) (fun _ _ _ h => h) (Or.inl ⟨by rfl, ?_⟩) hHeld ?_ ?_
 rotate_left
 {
 rintro w' ⟨s0, s1, s2, s3, s4, s5, s6, s7⟩
 go_simp
 with_reducible rfl}
 rotate_left
 {
 exact sp_}
 refine one_ (i := 11) (N := some 42) (B_ 13 4095) rfl rfl (one_of HT_.out kf_) (by decide) (fun K hK => ?_)
 refine goes_ Try.func30 kf_ rfl #[.agg #[.int .i64 d0, .int .i64 i0, .slice q0 e0.length r0, .slice t0 f0.length v0], .slice F0 (rd_L1 h0 c0).length G0, .slice H0 (rd_L2 g0 c0).length I0] (by rfl) rfl rfl ar_ ?_
 with_reducible refine (psalteryref17_channel.calls k2 d0 i0 _ _ e0 _ _ f0 _ _ (rd_L1 h0 c0) _ _ (rd_L2 g0 c0) false _ ?side1 ?side2 ?side3 ?side4 ?side5 ?side6 ?side7 ?side8 n1.out).mono ?_
 (case side1 => exact kC_ Q0 HB)
 (case side2 => exact R0.out)
 (case side3 => exact kC_ S0 HB)
 (case side4 => exact T0.out)
 (case side5 => exact kC_ A0 HB)
 (case side6 => exact W0.out)
 (case side7 => exact kC_ E0 HB)
 (case side8 => exact X0.out)
 rintro e z3 ⟨rfl, hb⟩
 refine ⟨_, rfl, ?_⟩
 replace a0 := FB_ a0 hb
 replace b0 := FB_ b0 hb
 replace HB := BS_ HB hb
 (try clear hb)
 refine hK.out _ _ ⟨ce_ a0 0, ce_ a0 1, ce_ a0 2, ce_ a0 3, ce_ b0 0, ce_ b0 1, (hc_ HB z0), (hc_ HB D0)⟩ (fun hHeld => ?_)
 clear hK K
 refine norm_ (a' := ?_) ?_ ?_
 rotate_left
 {
 show Act.put _ (some 42) _ = _
 exact sp_}
 refine pu_ 12 (some 43) (B_ 13 8191) HT_ ?_
 refine done_ (done_of HT_.out kf_) ?_
 try go_wp2
 go_ret
 exact ⟨er_, bl_ HB⟩}}
 {
 obtain rfl := Option.some.inj H
 have i3 := n0.out
 have j3 := o0.out
 obtain ⟨K2, L2, M2, N2, O2, P2, Q2, R2⟩ := e4_ a0
 go_wp2
 go_ret
 exact ⟨er_, bl_ HB⟩}))}))
def psalterylaw16_As.f (a0 : Int) (b0 : Int) (c0 : List Int) (d0 : List Int) : Option (Int × Int) := some (a0, b0)
set_option maxHeartbeats 8000000 in
set_option maxRecDepth 100000 in
theorem psalterylaw16_As.calls (d0 : Int) (e0 : Int) (f0 : Option Addr) (g0 : Nat) (a0 : List Int) (h0 : Option Addr) (i0 : Nat) (b0 : List Int) (r1 : Int) (r2 : Int) (w : World) (hr0_2 : Kd.C (Kd.int .i64) w f0 a0.length a0) (hc0_2 : a0.length ≤ g0) (hr0_3 : Kd.C (Kd.int .i64) w h0 b0.length b0) (hc0_3 : b0.length ≤ i0) (h : psalterylaw16_As.f d0 e0 a0 b0 = some (r1, r2)) :
    Calls Try.prog 11 #[.agg #[.int .i64 d0, .int .i64 e0, .slice f0 a0.length g0, .slice h0 b0.length i0]] w fun e w' => e = .returned (.agg #[.int .i64 r1, .int .i64 r2, .slice f0 a0.length g0, .slice h0 b0.length i0]) ∧ Below w.heap.size w w' := by
 have O0 := Try.underlying24
 have P0 := Try.underlying31
 have H0 := a_ hr0_2
 have I0 := a_ hc0_2
 clear hr0_2 hc0_2
 have J0 := a_ hr0_3
 have K0 := a_ hc0_3
 clear hr0_3 hc0_3
 have HB := a_ (Below.refl w.heap.size w)
 have H : (some (d0, e0)) = some (r1, r2) := h
 clear h
 simp only [Option.some.injEq, Prod.mk.injEq] at H
 obtain ⟨rfl, rfl⟩ := H
 go_enter Try.func11, Try.ntmps11
 go_wp2_with (first | ((with_reducible refine gate_dst (N := 1) rfl ?_); refine bx_ HB 1 #[.int .i64 d0, .int .i64 e0, .slice f0 a0.length g0, .slice h0 b0.length i0] 24 ?_; clear HB; intro L0 hg w2 hb c0 m0 HB; have M0 := m0; clear hb hg) | ((with_reducible refine gate_dst (N := 2) rfl ?_); refine bx_ HB 2 #[.int .i64 0, .int .i64 0, .slice none 0 0, .slice none 0 0] 31 ?_; clear HB; intro n0 hg w3 hb l0 o0 HB; have N0 := o0; obtain ⟨j0, k0⟩ := NN_ c0 hg; replace c0 := FB_ c0 hb; clear hb hg; have Q0 := j0.out; have R0 := k0.out; obtain ⟨p0, q0, r0, s0, t0, v0, w0, y0⟩ := e4_ c0; obtain ⟨z0, A0, B0, C0, D0, E0, F0, G0⟩ := e4_ l0))
 refine bodyPost_ret (results_cell_row rfl _ _ n0 31 #[.int .i64 d0, .int .i64 e0, .slice f0 a0.length g0, .slice h0 b0.length i0] (0, 0) _ rfl (bp_ l0) Try.underlying31 rfl kf_) rfl ?_
 exact ⟨er_, bl_ HB⟩
def psalterylaw17_As.f (a0 : List (List Int)) (b0 : List (List Int)) : Option (Unit) := some ()
set_option maxHeartbeats 8000000 in
set_option maxRecDepth 100000 in
theorem psalterylaw17_As.calls (d0 : Option Addr) (e0 : Nat) (a0 : List (List Int)) (f0 : Option Addr) (g0 : Nat) (b0 : List (List Int)) (w : World) (hr0_0 : Kd.C (Kd.slice 3 (Kd.int .i64)) w d0 a0.length a0) (hc0_0 : a0.length ≤ e0) (hr0_1 : Kd.C (Kd.slice 2 (Kd.int .i64)) w f0 b0.length b0) (hc0_1 : b0.length ≤ g0) (h : psalterylaw17_As.f a0 b0 = some ()) :
    Calls Try.prog 12 #[.agg #[.slice d0 a0.length e0, .slice f0 b0.length g0]] w fun e w' => e = .returned (.agg #[.slice d0 a0.length e0, .slice f0 b0.length g0]) ∧ Below w.heap.size w w' := by
 have E0 := Try.underlying28
 have F0 := Try.underlying33
 have w0 := a_ hr0_0
 have y0 := a_ hc0_0
 clear hr0_0 hc0_0
 have z0 := a_ hr0_1
 have A0 := a_ hc0_1
 clear hr0_1 hc0_1
 have HB := a_ (Below.refl w.heap.size w)
 have H : (some ()) = some () := h
 clear h
 go_enter Try.func12, Try.ntmps12
 go_wp2_with (first | ((with_reducible refine gate_dst (N := 1) rfl ?_); refine bx_ HB 1 #[.slice d0 a0.length e0, .slice f0 b0.length g0] 28 ?_; clear HB; intro B0 hg w2 hb c0 k0 HB; have C0 := k0; clear hb hg) | ((with_reducible refine gate_dst (N := 2) rfl ?_); refine bx_ HB 2 #[.slice none 0 0, .slice none 0 0] 33 ?_; clear HB; intro l0 hg w3 hb j0 m0 HB; have D0 := m0; obtain ⟨h0, i0⟩ := NN_ c0 hg; replace c0 := FB_ c0 hb; clear hb hg; have G0 := h0.out; have H0 := i0.out; obtain ⟨n0, o0, p0, q0⟩ := e2_ c0; obtain ⟨r0, s0, t0, v0⟩ := e2_ j0))
 refine bodyPost_ret (results_cell_row rfl _ _ l0 33 #[.slice d0 a0.length e0, .slice f0 b0.length g0] (0, 0) _ rfl (bp_ j0) Try.underlying33 rfl kf_) rfl ?_
 exact ⟨er_, bl_ HB⟩
def huff_used.l0 : Nat → Int → List Int → Int → Int → Option (Int)
  | 0, _, _, _, _ => none
  | k + 1, x3, x6, x7, x8 => if x8 < x7 then (if 0 ≤ x8 then (if x8 < (x6.length : Int) then (if (rd x6 x8) > 0 then (huff_used.l0 k (wrap64 (x3 + 1)) x6 x7 (wrap64 (x8 + 1))) else (huff_used.l0 k x3 x6 x7 (wrap64 (x8 + 1)))) else (none)) else (none)) else (some x3)
def huff_used.f (k : Nat) (l0 : List Int) : Option (Int) := huff_used.l0 k 0 l0 (l0.length : Int) 0
theorem huff_used.mono_l : ∀ k, (∀ y0 y1 y2 y3, LeO (huff_used.l0 k y0 y1 y2 y3) (huff_used.l0 (k + 1) y0 y1 y2 y3))
  | 0 => fun _ _ _ _ r h => by simp [huff_used.l0] at h
  | k + 1 => by
    have a0 := huff_used.mono_l k
    · intro y0 y1 y2 y3
      unfold huff_used.l0
      with_reducible repeat' first
   | exact a0 _ _ _ _
   | exact LeO.refl _
   | exact LeO.none _
   | refine LeO.ite ?_ ?_
   | refine LeO.bind ?_ (fun _ => ?_)
theorem huff_used.mono : ∀ a0 k, LeO (huff_used.f k a0) (huff_used.f (k + 1) a0) := by
  intro a0 k
  have b0 := huff_used.mono_l k
  unfold huff_used.f
  with_reducible repeat' first
   | exact b0 _ _ _ _
   | exact LeO.refl _
   | exact LeO.none _
   | refine LeO.ite ?_ ?_
   | refine LeO.bind ?_ (fun _ => ?_)
set_option maxHeartbeats 8000000 in
set_option maxRecDepth 100000 in
theorem huff_used.calls (k : Nat) (A0 : Option Addr) (c0 : Nat) (l0 : List Int) (r : Int) (w : World) (hr0 : Kd.C (Kd.int .i64) w A0 l0.length l0) (hc0 : l0.length ≤ c0) (h : huff_used.f k l0 = some r) :
    Calls Try.prog 115 #[.slice A0 l0.length c0] w fun e w' => e = .returned (.int .i64 r) ∧ Drawn0 w w' := by
 have j0 := a_ hr0
 have p0 := a_ hc0
 clear hr0 hc0
 have H : (huff_used.l0 k 0 l0 (l0.length : Int) 0) = some r := h
 clear h
 have H' := a_ H
 clear H
 go_enter Try.func115, Try.ntmps115
 go_wp2
 go_loopg [3, 8] k (fun kq v3 v8 w' => ∃ (e0 : Int) (a0 : Int), v3 = .int .i64 e0 ∧ v8 = .int .i64 a0 ∧ Aside0 (huff_used.l0 kq e0 l0 (l0.length : Int) a0 = some r) ∧ Aside0 (kq ≤ k) ∧ Drawn0 w w')
 case atStart => exact ⟨(0), (0), rs_, rs_, H', ⟨Nat.le_refl _⟩, dr_⟩
 case round => (
 clear H'
 obtain ⟨e0, a0, rfl, rfl, HA, g0, ⟨m1, rfl⟩⟩ := hrel
 cases gk with
 | zero => exact absurd HA.out (by simp [huff_used.l0])
 | succ k1 => (
 have H := HA.out
 clear HA
 simp only [huff_used.l0] at H
 replace H := id_ H
 rcases H with ⟨k0, H⟩ | ⟨k0, H⟩
 {
 replace H := gd_ H
 obtain ⟨n0, H⟩ := H
 replace H := gd_ H
 obtain ⟨o0, H⟩ := H
 replace H := ii_ H
 rcases H with ⟨c5, H⟩ | ⟨c5, H⟩
 {
 have m0 : decide (0 < (rd l0 a0)) = true := decide_eq_true c5
 clear c5
 have H' := a_ H
 clear H
 have b0 : 0 ≤ (a0 : Int) := dm_
 have d0 : a0 < (l0.length : Int) := dm_
 obtain ⟨i0, f0, h0⟩ := Kd.at_int j0.out a0 b0 d0
 cases f0
 replace b0 := eq_true b0
 replace d0 := eq_true d0
 go_wp2
 go_roundg k1
 case measure => have := g0.out; omega
 case rel => exact ⟨(wrap64 (e0 + 1)), (wrap64 (a0 + 1)), rs_, rs_, H', ⟨by have := g0.out; omega⟩, dr_⟩}
 {
 have m0 : decide (0 < (rd l0 a0)) = false := decide_eq_false c5
 clear c5
 have H' := a_ H
 clear H
 have b0 : 0 ≤ (a0 : Int) := dm_
 have d0 : a0 < (l0.length : Int) := dm_
 obtain ⟨i0, f0, h0⟩ := Kd.at_int j0.out a0 b0 d0
 cases f0
 replace b0 := eq_true b0
 replace d0 := eq_true d0
 go_wp2
 go_roundg k1
 case measure => have := g0.out; omega
 case rel => exact ⟨(e0), (wrap64 (a0 + 1)), rs_, rs_, H', ⟨by have := g0.out; omega⟩, dr_⟩}}
 {
 obtain rfl := Option.some.inj H
 go_wp2
 go_ret
 exact ⟨es_, dr_⟩}))
mutual
def huff_Right.j0 : Nat → List Int → Bool → Option (Bool)
  | 0, _, _ => none
  | k + 1, x0, a0 => if a0 = true then (some false) else (huff_Right.l0 k x0 0 x0 (x0.length : Int) 0)
def huff_Right.l0 : Nat → List Int → Int → List Int → Int → Int → Option (Bool)
  | 0, _, _, _, _, _ => none
  | k + 1, x0, x3, b0, c0, a0 => if a0 < c0 then (if 0 ≤ a0 then (if a0 < (b0.length : Int) then (if (rd b0 a0) < 0 then (huff_Right.j2 k x0 x3 (rd b0 a0) b0 c0 a0 true) else (huff_Right.j2 k x0 x3 (rd b0 a0) b0 c0 a0 (decide ((rd b0 a0) > 16)))) else (none)) else (none)) else ((huff_used.f k x0).bind fun d0 => (if d0 = 1 then (some (x3 == 32768)) else (some (x3 == 65536))))
def huff_Right.j2 : Nat → List Int → Int → Int → List Int → Int → Int → Bool → Option (Bool)
  | 0, _, _, _, _, _, _, _ => none
  | k + 1, x0, x3, x5, a0, b0, c0, d0 => if d0 = true then (some false) else (if x5 > 0 then (if 0 ≤ (wrap64 (16 - x5)) then (huff_Right.l0 k x0 (wrap64 (x3 + (shl .i64 1 (wrap64 (16 - x5))))) a0 b0 (wrap64 (c0 + 1))) else (none)) else (huff_Right.l0 k x0 x3 a0 b0 (wrap64 (c0 + 1))))
end
def huff_Right.f (k : Nat) (l0 : List Int) : Option (Bool) := if (l0.length : Int) < 2 then (huff_Right.j0 k l0 true) else (huff_Right.j0 k l0 (decide ((l0.length : Int) > 64)))
theorem huff_Right.mono_l : ∀ k, (∀ y0 y1, LeO (huff_Right.j0 k y0 y1) (huff_Right.j0 (k + 1) y0 y1)) ∧ (∀ y0 y1 y2 y3 y4, LeO (huff_Right.l0 k y0 y1 y2 y3 y4) (huff_Right.l0 (k + 1) y0 y1 y2 y3 y4)) ∧ (∀ y0 y1 y2 y3 y4 y5 y6, LeO (huff_Right.j2 k y0 y1 y2 y3 y4 y5 y6) (huff_Right.j2 (k + 1) y0 y1 y2 y3 y4 y5 y6))
  | 0 => ⟨fun _ _ r h => by simp [huff_Right.j0] at h, fun _ _ _ _ _ r h => by simp [huff_Right.l0] at h, fun _ _ _ _ _ _ _ r h => by simp [huff_Right.j2] at h⟩
  | k + 1 => by
    obtain ⟨a0, b0, c0⟩ := huff_Right.mono_l k
    refine ⟨?_, ?_, ?_⟩
    all_goals (intros; first | unfold huff_Right.j0 | unfold huff_Right.l0 | unfold huff_Right.j2)
    all_goals with_reducible repeat' first
     | exact a0 _ _
     | exact b0 _ _ _ _ _
     | exact c0 _ _ _ _ _ _ _
     | exact huff_used.mono _ _
     | exact LeO.refl _
     | exact LeO.none _
     | refine LeO.ite ?_ ?_
     | refine LeO.bind ?_ (fun _ => ?_)
theorem huff_Right.mono : ∀ a0 k, LeO (huff_Right.f k a0) (huff_Right.f (k + 1) a0) := by
  intro a0 k
  obtain ⟨b0, c0, d0⟩ := huff_Right.mono_l k
  unfold huff_Right.f
  with_reducible repeat' first
   | exact b0 _ _
   | exact c0 _ _ _ _ _
   | exact d0 _ _ _ _ _ _ _
   | exact huff_used.mono _ _
   | exact LeO.refl _
   | exact LeO.none _
   | refine LeO.ite ?_ ?_
   | refine LeO.bind ?_ (fun _ => ?_)
set_option maxHeartbeats 8000000 in
set_option maxRecDepth 100000 in
theorem huff_Right.calls (k : Nat) (A0 : Option Addr) (c0 : Nat) (l0 : List Int) (r : Bool) (w : World) (hr0 : Kd.C (Kd.int .i64) w A0 l0.length l0) (hc0 : l0.length ≤ c0) (h : huff_Right.f k l0 = some r) :
    Calls Try.prog 101 #[.slice A0 l0.length c0] w fun e w' => e = .returned (.bool r) ∧ Drawn0 w w' := by
 have s0 := a_ hr0
 have E0 := a_ hc0
 clear hr0 hc0
 have H : (if (l0.length : Int) < 2 then (huff_Right.j0 k l0 true) else (huff_Right.j0 k l0 (decide ((l0.length : Int) > 64)))) = some r := h
 clear h
 have t0 := a_ H
 clear H
 go_enter Try.func101, Try.ntmps101
 go_upto_region 1 with (fail)
 go_cut [13] (fun K0 wc => ∃ (kq : Nat) (m0 : Bool), K0 = .bool m0 ∧ Aside0 (huff_Right.j0 kq l0 m0 = some r) ∧ Aside0 (kq ≤ k) ∧ Drawn0 w wc)
 case first => (
 have H := t0.out
 clear t0
 replace H := ii_ H
 rcases H with ⟨c3, H⟩ | ⟨c3, H⟩
 {
 have h0 : decide ((l0.length : Int) < 2) = true := decide_eq_true c3
 have G0 : decide (l0.length < 2) = true := decide_eq_true (by omega)
 clear c3
 (first | rw [h0] | (simp only [i64_w, i32_w]; rw [h0]) | skip)
 have H' := a_ H
 clear H
 go_wp2
 go_meet
 case rel => exact ⟨_, (true), rs_, H', ⟨ol_⟩, dr_⟩}
 {
 have h0 : decide ((l0.length : Int) < 2) = false := decide_eq_false c3
 have G0 : decide (l0.length < 2) = false := decide_eq_false (by omega)
 clear c3
 (first | rw [h0] | (simp only [i64_w, i32_w]; rw [h0]) | skip)
 have H' := a_ H
 clear H
 go_wp2
 go_meet
 case rel => exact ⟨_, (decide ((l0.length : Int) > 64)), rs_, H', ⟨ol_⟩, dr_⟩})
 case rest => (
 clear t0
 obtain ⟨kq, m0, rfl, HA, HJ1, ⟨mc1, rfl⟩⟩ := hcut
 cases kq with
 | zero => exact absurd HA.out (by simp [huff_Right.j0])
 | succ kj1 => (
 have H := HA.out
 clear HA
 simp only [huff_Right.j0] at H
 replace H := ib_ H
 rcases H with ⟨rfl, H⟩ | ⟨rfl, H⟩
 {
 obtain rfl := Option.some.inj H
 go_wp2
 go_ret
 exact ⟨es_, dr_⟩}
 {
 have H' := a_ H
 clear H
 go_wp2
 go_loopg [3, 16] kj1 (fun kq v3 L0 w' => ∃ (d0 : Int) (a0 : Int), v3 = .int .i64 d0 ∧ L0 = .int .i64 a0 ∧ Aside0 (huff_Right.l0 kq l0 d0 l0 (l0.length : Int) a0 = some r) ∧ Aside0 (kq ≤ kj1) ∧ Drawn0 w w')
 case atStart => exact ⟨(0), (0), rs_, rs_, H', ⟨Nat.le_refl _⟩, dr_⟩
 case round => (
 clear H'
 try clear c4
 obtain ⟨d0, a0, rfl, rfl, HA, k0, ⟨m2, rfl⟩⟩ := hrel
 cases gk with
 | zero => exact absurd HA.out (by simp [huff_Right.l0])
 | succ k2 => (
 have H := HA.out
 clear HA
 simp only [huff_Right.l0] at H
 replace H := id_ H
 rcases H with ⟨v0, H⟩ | ⟨v0, H⟩
 {
 replace H := gd_ H
 obtain ⟨H0, H⟩ := H
 replace H := gd_ H
 obtain ⟨I0, H⟩ := H
 have w0 := a_ H
 clear H
 have n0 : 0 ≤ (a0 : Int) := dm_
 have o0 : a0 < (l0.length : Int) := dm_
 obtain ⟨N0, J0, r0⟩ := Kd.at_int s0.out a0 n0 o0
 cases J0
 replace n0 := eq_true n0
 replace o0 := eq_true o0
 go_upto_region 7 with (fail)
 go_cut [25] (fun M0 wc => ∃ (kq : Nat) (p0 : Bool), M0 = .bool p0 ∧ Aside0 (huff_Right.j2 kq l0 d0 (rd l0 a0) l0 (l0.length : Int) a0 p0 = some r) ∧ Aside0 (kq ≤ k2) ∧ Drawn0 w wc)
 case first => (
 have H := w0.out
 clear w0
 replace H := id_ H
 rcases H with ⟨i0, H⟩ | ⟨i0, H⟩
 {
 (first | rw [i0] | (simp only [i64_w, i32_w]; rw [i0]) | skip)
 have H' := a_ H
 clear H
 go_wp2
 go_meet
 case rel => exact ⟨_, (true), rs_, H', ⟨by have := HJ1.out; have := k0.out; first | omega | exact Nat.le_refl _⟩, dr_⟩}
 {
 (first | rw [i0] | (simp only [i64_w, i32_w]; rw [i0]) | skip)
 have H' := a_ H
 clear H
 go_wp2
 go_meet
 case rel => exact ⟨_, (decide ((rd l0 a0) > 16)), rs_, H', ⟨by have := HJ1.out; have := k0.out; first | omega | exact Nat.le_refl _⟩, dr_⟩})
 case rest => (
 clear w0
 try clear c4
 try clear c5
 try clear v0
 try clear c6
 try clear H0
 try clear c7
 try clear I0
 try clear r0
 try clear n0
 try clear o0
 obtain ⟨kq, p0, rfl, HA, HJ7, ⟨mc7, rfl⟩⟩ := hcut
 cases kq with
 | zero => exact absurd HA.out (by simp [huff_Right.j2])
 | succ kj7 => (
 have H := HA.out
 clear HA
 simp only [huff_Right.j2] at H
 replace H := ib_ H
 rcases H with ⟨rfl, H⟩ | ⟨rfl, H⟩
 {
 obtain rfl := Option.some.inj H
 go_wp2
 go_ret
 exact ⟨es_, dr_⟩}
 {
 replace H := ii_ H
 rcases H with ⟨q0, H⟩ | ⟨q0, H⟩
 {
 have B0 : decide (0 < (rd l0 a0)) = true := decide_eq_true q0
 clear q0
 obtain ⟨b0, f0⟩ : ∃ j_ : Int, (wrap64 (16 - (rd l0 a0))) = j_ := ⟨_, rfl⟩
 replace H : (if 0 ≤ (b0) then (huff_Right.l0 kj7 l0 (wrap64 (d0 + (shl .i64 1 (b0)))) l0 (l0.length : Int) (wrap64 (a0 + 1))) else (none)) = some r := by first | (rw [f0] at H; exact H) | (simp only [f0] at H ⊢; exact H)
 have hji12w : (IntKind.i64.wrap (16 - (rd l0 a0))) = b0 := (i64_w _).trans f0
 replace H := gt_ H
 obtain ⟨y0, H⟩ := H
 have O0 := eq_true y0
 have P0 : decide (0 ≤ (b0)) = true := decide_eq_true y0
 clear y0
 obtain ⟨e0, g0⟩ : ∃ j_ : Int, (shl .i64 1 (b0)) = j_ := ⟨_, rfl⟩
 replace H : (huff_Right.l0 kj7 l0 (wrap64 (d0 + (e0))) l0 (l0.length : Int) (wrap64 (a0 + 1))) = some r := by first | (rw [g0] at H; exact H) | (simp only [g0] at H ⊢; exact H)
 have hji14_ : (IntKind.i64.wrap (1 * 2 ^ min (b0).toNat 64)) = e0 := g0
 have hji14z : (b0) ≤ 64 → (IntKind.i64.wrap (1 * 2 ^ (b0).toNat)) = e0 := shl_small g0
 have hji14u : (IntKind.i64.wrap (2 ^ min (b0).toNat 64)) = e0 := by have h_ := hji14_; rw [Int.one_mul] at h_; exact h_
 have hji14v : (b0) ≤ 64 → (IntKind.i64.wrap (2 ^ (b0).toNat)) = e0 := fun hle_ => by have h_ := hji14z hle_; rw [Int.one_mul] at h_; exact h_
 have hji14y : (wrap64 (1 * 2 ^ min (b0).toNat 64)) = e0 := (i64_w _).symm.trans hji14_
 have hji14x : (b0) ≤ 64 → (wrap64 (1 * 2 ^ (b0).toNat)) = e0 := fun h_ => (i64_w _).symm.trans (hji14z h_)
 have H' := a_ H
 clear H
 (try subst f0)
 go_wp2
 first | go_roundg kj7 | (subst f0; go_roundg kj7)
 case measure => have := HJ1.out; have := k0.out; have := HJ7.out; omega
 case rel => exact ⟨(wrap64 (d0 + (e0))), (wrap64 (a0 + 1)), (by first | rfl | (simp; done) | (simp only [← g0] <;> (first | rfl | simp)) | (simp [*]; done)), rs_, H', ⟨by have := HJ1.out; have := k0.out; have := HJ7.out; omega⟩, dr_⟩}
 {
 have B0 : decide (0 < (rd l0 a0)) = false := decide_eq_false q0
 clear q0
 have H' := a_ H
 clear H
 go_wp2
 go_roundg kj7
 case measure => have := HJ1.out; have := k0.out; have := HJ7.out; omega
 case rel => exact ⟨(d0), (wrap64 (a0 + 1)), rs_, rs_, H', ⟨by have := HJ1.out; have := k0.out; have := HJ7.out; omega⟩, dr_⟩}}))}
 {
 obtain ⟨z0, F0, H⟩ := ob_ H
 (try dsimp only at H)
 replace H := ie_ H
 rcases H with ⟨C0, D0, H⟩ | ⟨Q0, C0, D0, H⟩
 {
 obtain rfl := Option.some.inj H
 go_wp2_with (first | ((with_reducible refine gate_callee (f := 115) rfl ?_); refine gL_ (some 35) Try.func115 #[.slice A0 l0.length c0] ?_; (with_reducible refine (huff_used.calls k2 _ _ l0 z0 _ ?side1 ?side2 F0.out).mono ?_); (case side1 => repeat (first | exact s0.out | (with_reducible refine Kd.C_alloc ?_ _) | (with_reducible refine Kd.C_drewN ?_ _) | (with_reducible refine Kd.C_drew ?_))); (case side2 => exact E0.out); rintro e w' ⟨rfl, ⟨nd, rfl⟩⟩; refine ⟨_, rfl, ?_⟩))
 go_ret
 exact ⟨es_, dr_⟩}
 {
 obtain rfl := Option.some.inj H
 go_wp2_with (first | ((with_reducible refine gate_callee (f := 115) rfl ?_); refine gL_ (some 35) Try.func115 #[.slice A0 l0.length c0] ?_; (with_reducible refine (huff_used.calls k2 _ _ l0 z0 _ ?side1 ?side2 F0.out).mono ?_); (case side1 => repeat (first | exact s0.out | (with_reducible refine Kd.C_alloc ?_ _) | (with_reducible refine Kd.C_drewN ?_ _) | (with_reducible refine Kd.C_drew ?_))); (case side2 => exact E0.out); rintro e w' ⟨rfl, ⟨nd, rfl⟩⟩; refine ⟨_, rfl, ?_⟩))
 go_ret
 exact ⟨es_, dr_⟩}}))}))
def vhead_book.f (k : Nat) (l0 : List Int) (a1 : Int) : Option (Bool) := if (l0.length : Int) = a1 then ((huff_Right.f k l0).bind fun a0 => (some a0)) else (some false)
theorem vhead_book.mono : ∀ a0 a1 k, LeO (vhead_book.f k a0 a1) (vhead_book.f (k + 1) a0 a1) := by
  intro a0 a1 k
  unfold vhead_book.f
  with_reducible repeat' first
   | exact huff_Right.mono _ _
   | exact LeO.refl _
   | exact LeO.none _
   | refine LeO.ite ?_ ?_
   | refine LeO.bind ?_ (fun _ => ?_)
set_option maxHeartbeats 8000000 in
set_option maxRecDepth 100000 in
theorem vhead_book.calls (k : Nat) (A0 : Option Addr) (c0 : Nat) (l0 : List Int) (a1 : Int) (r : Bool) (w : World) (hr0 : Kd.C (Kd.int .i64) w A0 l0.length l0) (hc0 : l0.length ≤ c0) (h : vhead_book.f k l0 a1 = some r) :
    Calls Try.prog 79 #[.slice A0 l0.length c0, .int .i64 a1] w fun e w' => e = .returned (.bool r) ∧ Drawn0 w w' := by
 have f0 := a_ hr0
 have g0 := a_ hc0
 clear hr0 hc0
 have H : (if (l0.length : Int) = a1 then ((huff_Right.f k l0).bind fun a0 => (some a0)) else (some false)) = some r := h
 clear h
 replace H := ie_ H
 rcases H with ⟨d0, e0, H⟩ | ⟨c3, d0, e0, H⟩
 {
 replace H := Option.bind_eq_some_iff.mp H
 obtain ⟨a0, b0, H⟩ := H
 replace H : (some a0) = some r := H
 have A4 := a_ b0
 clear b0
 obtain rfl := Option.some.inj H
 go_enter Try.func79, Try.ntmps79
 go_wp2_with (first | (go_at_call 101; (with_reducible refine (huff_Right.calls k _ _ l0 a0 _ ?side1 ?side2 A4.out).mono ?_); (case side1 => repeat (first | exact f0.out | (with_reducible refine Kd.C_alloc ?_ _) | (with_reducible refine Kd.C_drewN ?_ _) | (with_reducible refine Kd.C_drew ?_))); (case side2 => exact g0.out); rintro e w' ⟨rfl, ⟨nd, rfl⟩⟩))
 go_ret
 exact ⟨es_, dr_⟩}
 {
 obtain rfl := Option.some.inj H
 go_enter Try.func79, Try.ntmps79
 go_wp2
 go_ret
 exact ⟨es_, dr_⟩}
def vhead_Right.f (k : Nat) (b0 : Int) (c0 : Int) (d0 : List Int) (a0 : List Int) : Option (Bool) := if b0 ≥ 1 then (if b0 ≤ 2 then (if c0 ≥ 0 then (if c0 ≤ 12 then ((vhead_book.f k d0 45).bind fun e0 => (if e0 = true then ((vhead_book.f k a0 16).bind fun f0 => (if f0 = true then (if 15 < (a0.length : Int) then (some (decide ((rd a0 15) > 0))) else (none)) else (some false))) else (some false))) else (some false)) else (some false)) else (some false)) else (some false)
theorem vhead_Right.mono : ∀ a0 a1 a2 a3 k, LeO (vhead_Right.f k a0 a1 a2 a3) (vhead_Right.f (k + 1) a0 a1 a2 a3) := by
  intro a0 a1 a2 a3 k
  unfold vhead_Right.f
  with_reducible repeat' first
   | exact vhead_book.mono _ _ _
   | exact LeO.refl _
   | exact LeO.none _
   | refine LeO.ite ?_ ?_
   | refine LeO.bind ?_ (fun _ => ?_)
set_option maxHeartbeats 8000000 in
set_option maxRecDepth 100000 in
theorem vhead_Right.calls (k : Nat) (e0 : Int) (f0 : Int) (g0 : Option Addr) (h0 : Nat) (d0 : List Int) (i0 : Option Addr) (j0 : Nat) (a0 : List Int) (r : Bool) (w : World) (hr0_2 : Kd.C (Kd.int .i64) w g0 d0.length d0) (hc0_2 : d0.length ≤ h0) (hr0_3 : Kd.C (Kd.int .i64) w i0 a0.length a0) (hc0_3 : a0.length ≤ j0) (h : vhead_Right.f k e0 f0 d0 a0 = some r) :
    Calls Try.prog 41 #[.agg #[.int .i64 e0, .int .i64 f0, .slice g0 d0.length h0, .slice i0 a0.length j0]] w fun e w' => e = .returned (.bool r) ∧ Below w.heap.size w w' := by
 have O1 := Try.underlying24
 have n0 := a_ hr0_2
 have o0 := a_ hc0_2
 clear hr0_2 hc0_2
 have p0 := a_ hr0_3
 have s0 := a_ hc0_3
 clear hr0_3 hc0_3
 have HB := a_ (Below.refl w.heap.size w)
 have H : (if e0 ≥ 1 then (if e0 ≤ 2 then (if f0 ≥ 0 then (if f0 ≤ 12 then ((vhead_book.f k d0 45).bind fun t0 => (if t0 = true then ((vhead_book.f k a0 16).bind fun v0 => (if v0 = true then (if 15 < (a0.length : Int) then (some (decide ((rd a0 15) > 0))) else (none)) else (some false))) else (some false))) else (some false)) else (some false)) else (some false)) else (some false)) = some r := h
 clear h
 replace H := ii_ H
 rcases H with ⟨c2, H⟩ | ⟨c2, H⟩
 {
 have y0 : decide (1 ≤ e0) = true := decide_eq_true c2
 clear c2
 replace H := id_ H
 rcases H with ⟨z0, H⟩ | ⟨z0, H⟩
 {
 replace H := ii_ H
 rcases H with ⟨c4, H⟩ | ⟨c4, H⟩
 {
 have A0 : decide (0 ≤ f0) = true := decide_eq_true c4
 clear c4
 replace H := id_ H
 rcases H with ⟨B0, H⟩ | ⟨B0, H⟩
 {
 obtain ⟨t0, A6, H⟩ := ob_ H
 (try dsimp only at H)
 replace H := ib_ H
 rcases H with ⟨rfl, H⟩ | ⟨rfl, H⟩
 {
 obtain ⟨v0, A8, H⟩ := ob_ H
 (try dsimp only at H)
 replace H := ib_ H
 rcases H with ⟨rfl, H⟩ | ⟨rfl, H⟩
 {
 replace H := gt_ H
 obtain ⟨w0, H⟩ := H
 have L1 : decide (15 < (a0.length : Int)) = true := decide_eq_true w0
 have M1 : decide (15 < a0.length) = true := decide_eq_true (by omega)
 clear w0
 obtain rfl := Option.some.inj H
 go_enter Try.func41, Try.ntmps41
 go_wp2_with (first | ((with_reducible refine gate_dst (N := 1) rfl ?_); refine bx_ HB 1 #[.int .i64 e0, .int .i64 f0, .slice g0 d0.length h0, .slice i0 a0.length j0] 24 ?_; clear HB; intro k0 hg P1 hb b0 c0 HB; have l0 := c0; clear hb hg; obtain ⟨D0, E0, F0, G0, H0, I0, J0, K0⟩ := e4_ b0) | (go_at_call 79; (with_reducible refine (vhead_book.calls k _ _ d0 45 true _ ?side1 ?side2 A6.out).mono ?_); (case side1 => exact kC_ n0 HB); (case side2 => exact o0.out); rintro e w' ⟨rfl, ⟨nd, rfl⟩⟩) | (go_at_call 79; (with_reducible refine (vhead_book.calls k _ _ a0 16 true _ ?side1 ?side2 A8.out).mono ?_); (case side1 => repeat (first | exact (Kd.C_below p0.out (bl_ HB)) | (with_reducible refine Kd.C_alloc ?_ _) | (with_reducible refine Kd.C_drewN ?_ _) | (with_reducible refine Kd.C_drew ?_))); (case side2 => exact s0.out); rintro e w' ⟨rfl, ⟨nd, rfl⟩⟩; have q0 : 0 ≤ (15 : Int) := (by omega); have r0 : 15 < (a0.length : Int) := dm_; obtain ⟨N1, C0, m0⟩ := Kd.at_int p0.out 15 q0 r0; cases C0; (try simp only [show (15 : Int).toNat = 15 from rfl, Nat.reduceMul, Nat.reduceEqDiff, Go.Addr.add, ↓reduceIte] at m0); have qi140 : (15 < a0.length) = True := eq_true (by omega); (try rw [show ((15 : Int)).toNat = 15 from rfl] at m0); replace m0 := hc_ HB m0; replace q0 := eq_true q0; replace r0 := eq_true r0))
 go_ret
 exact ⟨er_, bl_ HB⟩}
 {
 obtain rfl := Option.some.inj H
 go_enter Try.func41, Try.ntmps41
 go_wp2_with (first | ((with_reducible refine gate_dst (N := 1) rfl ?_); refine bx_ HB 1 #[.int .i64 e0, .int .i64 f0, .slice g0 d0.length h0, .slice i0 a0.length j0] 24 ?_; clear HB; intro k0 hg Q1 hb b0 c0 HB; have l0 := c0; clear hb hg; obtain ⟨L0, M0, N0, O0, P0, Q0, R0, S0⟩ := e4_ b0) | (go_at_call 79; (with_reducible refine (vhead_book.calls k _ _ d0 45 true _ ?side1 ?side2 A6.out).mono ?_); (case side1 => exact kC_ n0 HB); (case side2 => exact o0.out); rintro e w' ⟨rfl, ⟨nd, rfl⟩⟩) | (go_at_call 79; (with_reducible refine (vhead_book.calls k _ _ a0 16 false _ ?side1 ?side2 A8.out).mono ?_); (case side1 => repeat (first | exact (Kd.C_below p0.out (bl_ HB)) | (with_reducible refine Kd.C_alloc ?_ _) | (with_reducible refine Kd.C_drewN ?_ _) | (with_reducible refine Kd.C_drew ?_))); (case side2 => exact s0.out); rintro e w' ⟨rfl, ⟨nd, rfl⟩⟩))
 go_ret
 exact ⟨er_, bl_ HB⟩}}
 {
 obtain rfl := Option.some.inj H
 go_enter Try.func41, Try.ntmps41
 go_wp2_with (first | ((with_reducible refine gate_dst (N := 1) rfl ?_); refine bx_ HB 1 #[.int .i64 e0, .int .i64 f0, .slice g0 d0.length h0, .slice i0 a0.length j0] 24 ?_; clear HB; intro k0 hg R1 hb b0 c0 HB; have l0 := c0; clear hb hg; obtain ⟨T0, U0, V0, W0, X0, Y0, Z0, a1⟩ := e4_ b0) | (go_at_call 79; (with_reducible refine (vhead_book.calls k _ _ d0 45 false _ ?side1 ?side2 A6.out).mono ?_); (case side1 => exact kC_ n0 HB); (case side2 => exact o0.out); rintro e w' ⟨rfl, ⟨nd, rfl⟩⟩))
 go_ret
 exact ⟨er_, bl_ HB⟩}}
 {
 obtain rfl := Option.some.inj H
 go_enter Try.func41, Try.ntmps41
 go_wp2_with (first | ((with_reducible refine gate_dst (N := 1) rfl ?_); refine bx_ HB 1 #[.int .i64 e0, .int .i64 f0, .slice g0 d0.length h0, .slice i0 a0.length j0] 24 ?_; clear HB; intro k0 hg S1 hb b0 c0 HB; have l0 := c0; clear hb hg; obtain ⟨b1, c1, d1, e1, f1, h1, i1, j1⟩ := e4_ b0))
 go_ret
 exact ⟨er_, bl_ HB⟩}}
 {
 have A0 : decide (0 ≤ f0) = false := decide_eq_false c4
 clear c4
 obtain rfl := Option.some.inj H
 go_enter Try.func41, Try.ntmps41
 go_wp2_with (first | ((with_reducible refine gate_dst (N := 1) rfl ?_); refine bx_ HB 1 #[.int .i64 e0, .int .i64 f0, .slice g0 d0.length h0, .slice i0 a0.length j0] 24 ?_; clear HB; intro k0 hg T1 hb b0 c0 HB; have l0 := c0; clear hb hg; obtain ⟨k1, l1, m1, n1, o1, p1, q1, r1⟩ := e4_ b0))
 go_ret
 exact ⟨er_, bl_ HB⟩}}
 {
 obtain rfl := Option.some.inj H
 go_enter Try.func41, Try.ntmps41
 go_wp2_with (first | ((with_reducible refine gate_dst (N := 1) rfl ?_); refine bx_ HB 1 #[.int .i64 e0, .int .i64 f0, .slice g0 d0.length h0, .slice i0 a0.length j0] 24 ?_; clear HB; intro k0 hg U1 hb b0 c0 HB; have l0 := c0; clear hb hg; obtain ⟨s1, t1, v1, y1, z1, A1, B1, C1⟩ := e4_ b0))
 go_ret
 exact ⟨er_, bl_ HB⟩}}
 {
 have y0 : decide (1 ≤ e0) = false := decide_eq_false c2
 clear c2
 obtain rfl := Option.some.inj H
 go_enter Try.func41, Try.ntmps41
 go_wp2_with (first | ((with_reducible refine gate_dst (N := 1) rfl ?_); refine bx_ HB 1 #[.int .i64 e0, .int .i64 f0, .slice g0 d0.length h0, .slice i0 a0.length j0] 24 ?_; clear HB; intro k0 hg V1 hb b0 c0 HB; have l0 := c0; clear hb hg; obtain ⟨D1, E1, F1, G1, H1, I1, J1, K1⟩ := e4_ b0))
 go_ret
 exact ⟨er_, bl_ HB⟩}
def floor_gains.l0 : Nat → List Int → Int → List Int → Int → Int → Option (Bool)
  | 0, _, _, _, _, _ => none
  | k + 1, x0, x1, x7, x8, x9 => if x9 < x8 then (if 0 ≤ x9 then (if x9 < (x7.length : Int) then (if (rd x7 x9) < 0 then (some false) else (if (rd x7 x9) > 44 then (some false) else (floor_gains.l0 k x0 x1 x7 x8 (wrap64 (x9 + 1))))) else (none)) else (none)) else (some ((x0.length : Int) == x1))
def floor_gains.f (k : Nat) (l0 : List Int) (a1 : Int) : Option (Bool) := floor_gains.l0 k l0 a1 l0 (l0.length : Int) 0
theorem floor_gains.mono_l : ∀ k, (∀ y0 y1 y2 y3 y4, LeO (floor_gains.l0 k y0 y1 y2 y3 y4) (floor_gains.l0 (k + 1) y0 y1 y2 y3 y4))
  | 0 => fun _ _ _ _ _ r h => by simp [floor_gains.l0] at h
  | k + 1 => by
    have a0 := floor_gains.mono_l k
    · intro y0 y1 y2 y3 y4
      unfold floor_gains.l0
      with_reducible repeat' first
   | exact a0 _ _ _ _ _
   | exact LeO.refl _
   | exact LeO.none _
   | refine LeO.ite ?_ ?_
   | refine LeO.bind ?_ (fun _ => ?_)
theorem floor_gains.mono : ∀ a0 a1 k, LeO (floor_gains.f k a0 a1) (floor_gains.f (k + 1) a0 a1) := by
  intro a0 a1 k
  have b0 := floor_gains.mono_l k
  unfold floor_gains.f
  with_reducible repeat' first
   | exact b0 _ _ _ _ _
   | exact LeO.refl _
   | exact LeO.none _
   | refine LeO.ite ?_ ?_
   | refine LeO.bind ?_ (fun _ => ?_)
set_option maxHeartbeats 8000000 in
set_option maxRecDepth 100000 in
theorem floor_gains.calls (k : Nat) (A0 : Option Addr) (c0 : Nat) (l0 : List Int) (a1 : Int) (r : Bool) (w : World) (hr0 : Kd.C (Kd.int .i64) w A0 l0.length l0) (hc0 : l0.length ≤ c0) (h : floor_gains.f k l0 a1 = some r) :
    Calls Try.prog 98 #[.slice A0 l0.length c0, .int .i64 a1] w fun e w' => e = .returned (.bool r) ∧ Drawn0 w w' := by
 have h0 := a_ hr0
 have p0 := a_ hc0
 clear hr0 hc0
 have H : (floor_gains.l0 k l0 a1 l0 (l0.length : Int) 0) = some r := h
 clear h
 have H' := a_ H
 clear H
 go_enter Try.func98, Try.ntmps98
 go_wp2
 go_loopg [9] k (fun kq v9 w' => ∃ (a0 : Int), v9 = .int .i64 a0 ∧ Aside0 (floor_gains.l0 kq l0 a1 l0 (l0.length : Int) a0 = some r) ∧ Aside0 (kq ≤ k) ∧ Drawn0 w w')
 case atStart => exact ⟨(0), rs_, H', ⟨Nat.le_refl _⟩, dr_⟩
 case round => (
 clear H'
 obtain ⟨a0, rfl, HA, i0, ⟨m1, rfl⟩⟩ := hrel
 cases gk with
 | zero => exact absurd HA.out (by simp [floor_gains.l0])
 | succ k1 => (
 have H := HA.out
 clear HA
 simp only [floor_gains.l0] at H
 replace H := id_ H
 rcases H with ⟨j0, H⟩ | ⟨j0, H⟩
 {
 replace H := gd_ H
 obtain ⟨n0, H⟩ := H
 replace H := gd_ H
 obtain ⟨o0, H⟩ := H
 replace H := id_ H
 rcases H with ⟨k0, H⟩ | ⟨k0, H⟩
 {
 obtain rfl := Option.some.inj H
 have b0 : 0 ≤ (a0 : Int) := dm_
 have d0 : a0 < (l0.length : Int) := dm_
 obtain ⟨g0, e0, f0⟩ := Kd.at_int h0.out a0 b0 d0
 cases e0
 replace b0 := eq_true b0
 replace d0 := eq_true d0
 go_wp2
 go_ret
 exact ⟨es_, dr_⟩}
 {
 replace H := ii_ H
 rcases H with ⟨c7, H⟩ | ⟨c7, H⟩
 {
 have m0 : decide (44 < (rd l0 a0)) = true := decide_eq_true c7
 clear c7
 obtain rfl := Option.some.inj H
 have b0 : 0 ≤ (a0 : Int) := dm_
 have d0 : a0 < (l0.length : Int) := dm_
 obtain ⟨g0, e0, f0⟩ := Kd.at_int h0.out a0 b0 d0
 cases e0
 replace b0 := eq_true b0
 replace d0 := eq_true d0
 go_wp2
 go_ret
 exact ⟨es_, dr_⟩}
 {
 have m0 : decide (44 < (rd l0 a0)) = false := decide_eq_false c7
 clear c7
 have H' := a_ H
 clear H
 have b0 : 0 ≤ (a0 : Int) := dm_
 have d0 : a0 < (l0.length : Int) := dm_
 obtain ⟨g0, e0, f0⟩ := Kd.at_int h0.out a0 b0 d0
 cases e0
 replace b0 := eq_true b0
 replace d0 := eq_true d0
 go_wp2
 go_roundg k1
 case measure => have := i0.out; omega
 case rel => exact ⟨(wrap64 (a0 + 1)), rs_, H', ⟨by have := i0.out; omega⟩, dr_⟩}}}
 {
 obtain rfl := Option.some.inj H
 go_wp2
 go_ret
 exact ⟨es_, dr_⟩}))
def floor_Right.f (k : Nat) (l0 : List Int) : Option (Bool) := (floor_gains.f k l0 6).bind fun a0 => (some a0)
theorem floor_Right.mono : ∀ a0 k, LeO (floor_Right.f k a0) (floor_Right.f (k + 1) a0) := by
  intro a0 k
  unfold floor_Right.f
  with_reducible repeat' first
   | exact floor_gains.mono _ _ _
   | exact LeO.refl _
   | exact LeO.none _
   | refine LeO.ite ?_ ?_
   | refine LeO.bind ?_ (fun _ => ?_)
set_option maxHeartbeats 8000000 in
set_option maxRecDepth 100000 in
theorem floor_Right.calls (k : Nat) (A0 : Option Addr) (c0 : Nat) (l0 : List Int) (r : Bool) (w : World) (hr0 : Kd.C (Kd.int .i64) w A0 l0.length l0) (hc0 : l0.length ≤ c0) (h : floor_Right.f k l0 = some r) :
    Calls Try.prog 86 #[.slice A0 l0.length c0] w fun e w' => e = .returned (.bool r) ∧ Drawn0 w w' := by
 have d0 := a_ hr0
 have e0 := a_ hc0
 clear hr0 hc0
 have H : ((floor_gains.f k l0 6).bind fun a0 => (some a0)) = some r := h
 clear h
 replace H := Option.bind_eq_some_iff.mp H
 obtain ⟨a0, b0, H⟩ := H
 replace H : (some a0) = some r := H
 have A2 := a_ b0
 clear b0
 obtain rfl := Option.some.inj H
 go_enter Try.func86, Try.ntmps86
 go_wp2_with (first | ((with_reducible refine gate_callee (f := 98) rfl ?_); refine gL_ (some 4) Try.func98 #[.slice A0 l0.length c0, .int .i64 6] ?_; (with_reducible refine (floor_gains.calls k _ _ l0 6 a0 _ ?side1 ?side2 A2.out).mono ?_); (case side1 => repeat (first | exact d0.out | (with_reducible refine Kd.C_alloc ?_ _) | (with_reducible refine Kd.C_drewN ?_ _) | (with_reducible refine Kd.C_drew ?_))); (case side2 => exact e0.out); rintro e w' ⟨rfl, ⟨nd, rfl⟩⟩; refine ⟨_, rfl, ?_⟩))
 go_ret
 exact ⟨es_, dr_⟩
def vpack_posts.l0 : Nat → List Int → Int → Int → Int → Int → List Int → List Int → Option (Bool)
  | 0, _, _, _, _, _, _, _ => none
  | k + 1, c0, g0, b0, d0, e0, a0, f0 => if b0 < g0 then (if 0 ≤ b0 then (if b0 < (c0.length : Int) then (if 0 ≤ (rd c0 b0) then (if (rd c0 b0) < (a0.length : Int) then (if (rd a0 (rd c0 b0)) = 0 then (some false) else (vpack_posts.l0 k c0 g0 (wrap64 (b0 + 1)) d0 e0 a0 f0)) else (none)) else (none)) else (none)) else (none)) else (some true)
def vpack_posts.f (k : Nat) (a0 : Int) (b0 : Int) (c0 : List Int) (d0 : List Int) (l1 : List Int) : Option (Bool) := (floor_Right.f k l1).bind fun e0 => (if e0 = true then (vpack_posts.l0 k l1 (l1.length : Int) 0 a0 b0 c0 d0) else (some false))
theorem vpack_posts.mono_l : ∀ k, (∀ y0 y1 y2 y3 y4 y5 y6, LeO (vpack_posts.l0 k y0 y1 y2 y3 y4 y5 y6) (vpack_posts.l0 (k + 1) y0 y1 y2 y3 y4 y5 y6))
  | 0 => fun _ _ _ _ _ _ _ r h => by simp [vpack_posts.l0] at h
  | k + 1 => by
    have a0 := vpack_posts.mono_l k
    · intro y0 y1 y2 y3 y4 y5 y6
      unfold vpack_posts.l0
      with_reducible repeat' first
   | exact a0 _ _ _ _ _ _ _
   | exact floor_Right.mono _ _
   | exact LeO.refl _
   | exact LeO.none _
   | refine LeO.ite ?_ ?_
   | refine LeO.bind ?_ (fun _ => ?_)
theorem vpack_posts.mono : ∀ a0 a1 a2 a3 a4 k, LeO (vpack_posts.f k a0 a1 a2 a3 a4) (vpack_posts.f (k + 1) a0 a1 a2 a3 a4) := by
  intro a0 a1 a2 a3 a4 k
  have b0 := vpack_posts.mono_l k
  unfold vpack_posts.f
  with_reducible repeat' first
   | exact b0 _ _ _ _ _ _ _
   | exact floor_Right.mono _ _
   | exact LeO.refl _
   | exact LeO.none _
   | refine LeO.ite ?_ ?_
   | refine LeO.bind ?_ (fun _ => ?_)
set_option maxHeartbeats 8000000 in
set_option maxRecDepth 100000 in
theorem vpack_posts.calls (k : Nat) (g0 : Int) (h0 : Int) (n0 : Option Addr) (o0 : Nat) (b0 : List Int) (p0 : Option Addr) (q0 : Nat) (c0 : List Int) (A1 : Option Addr) (c1 : Nat) (l1 : List Int) (r : Bool) (w : World) (hr0_2 : Kd.C (Kd.int .i64) w n0 b0.length b0) (hc0_2 : b0.length ≤ o0) (hr0_3 : Kd.C (Kd.int .i64) w p0 c0.length c0) (hc0_3 : c0.length ≤ q0) (hr1 : Kd.C (Kd.int .i64) w A1 l1.length l1) (hc1 : l1.length ≤ c1) (h : vpack_posts.f k g0 h0 b0 c0 l1 = some r) :
    Calls Try.prog 51 #[.agg #[.int .i64 g0, .int .i64 h0, .slice n0 b0.length o0, .slice p0 c0.length q0], .slice A1 l1.length c1] w fun e w' => e = .returned (.bool r) ∧ Below w.heap.size w w' := by
 have e1 := Try.underlying24
 have v0 := a_ hr0_2
 have Z0 := a_ hc0_2
 clear hr0_2 hc0_2
 have a1 := a_ hr0_3
 have b1 := a_ hc0_3
 clear hr0_3 hc0_3
 have w0 := a_ hr1
 have F0 := a_ hc1
 clear hr1 hc1
 have HB := a_ (Below.refl w.heap.size w)
 have H : ((floor_Right.f k l1).bind fun z0 => (if z0 = true then (vpack_posts.l0 k l1 (l1.length : Int) 0 g0 h0 b0 c0) else (some false))) = some r := h
 clear h
 obtain ⟨z0, A3, H⟩ := ob_ H
 (try dsimp only at H)
 replace H := ib_ H
 rcases H with ⟨rfl, H⟩ | ⟨rfl, H⟩
 {
 have H' := a_ H
 clear H
 go_enter Try.func51, Try.ntmps51
 go_wp2_with (first | ((with_reducible refine gate_dst (N := 2) rfl ?_); refine bx_ HB 2 #[.int .i64 g0, .int .i64 h0, .slice n0 b0.length o0, .slice p0 c0.length q0] 24 ?_; clear HB; intro y0 hg w5 hb f0 r0 HB; have A0 := r0; clear hb hg) | ((with_reducible refine gate_callee (f := 86) rfl ?_); refine gL_ (some 8) Try.func86 #[.slice A1 l1.length c1] ?_; (with_reducible refine (floor_Right.calls k _ _ l1 true _ ?side1 ?side2 A3.out).mono ?_); (case side1 => exact kC_ w0 HB); (case side2 => exact F0.out); rintro e w' ⟨rfl, ⟨nd, rfl⟩⟩; refine ⟨_, rfl, ?_⟩))
 go_loopg [12] k (fun kq Y0 w' => ∃ (a0 : Int), Y0 = .int .i64 a0 ∧ Aside0 (vpack_posts.l0 kq l1 (l1.length : Int) a0 g0 h0 b0 c0 = some r) ∧ Aside0 (kq ≤ k) ∧ Aside0 (w'.heap[y0]? = some (.cells #[.int .i64 g0, .int .i64 h0, (.slice n0 b0.length o0), (.slice p0 c0.length q0)] 24 (0, 0))) ∧ Aside0 (Below w.heap.size w w'))
 case atStart => exact ⟨(0), rs_, H', ⟨Nat.le_refl _⟩, ⟨bk_ f0⟩, ⟨bl_ HB⟩⟩
 case round => (
 clear H'
 try clear c1
 try clear c4
 obtain ⟨a0, rfl, HA, G0, f0, HB⟩ := hrel
 cases gk with
 | zero => exact absurd HA.out (by simp [vpack_posts.l0])
 | succ k1 => (
 have H := HA.out
 clear HA
 simp only [vpack_posts.l0] at H
 replace H := id_ H
 rcases H with ⟨H0, H⟩ | ⟨H0, H⟩
 {
 replace H := gd_ H
 obtain ⟨f1, H⟩ := H
 replace H := gd_ H
 obtain ⟨h1, H⟩ := H
 replace H := gd_ H
 obtain ⟨i1, H⟩ := H
 replace H := gd_ H
 obtain ⟨d1, H⟩ := H
 replace H := ie_ H
 rcases H with ⟨B0, C0, H⟩ | ⟨j1, B0, C0, H⟩
 {
 obtain rfl := Option.some.inj H
 have i0 : 0 ≤ (a0 : Int) := dm_
 have j0 : a0 < (l1.length : Int) := dm_
 obtain ⟨D0, s0, d0⟩ := Kd.at_int w0.out a0 i0 j0
 cases s0
 replace d0 := hc_ HB d0
 replace i0 := eq_true i0
 replace j0 := eq_true j0
 obtain ⟨I0, J0, K0, L0, M0, N0, O0, P0⟩ := e4_ f0
 have k0 : 0 ≤ ((rd l1 a0) : Int) := dm_
 have m0 : (rd l1 a0) < (b0.length : Int) := dm_
 obtain ⟨E0, t0, e0⟩ := Kd.at_int v0.out (rd l1 a0) k0 m0
 cases t0
 replace e0 := hc_ HB e0
 replace k0 := eq_true k0
 replace m0 := eq_true m0
 go_wp2
 go_ret
 exact ⟨er_, bl_ HB⟩}
 {
 have H' := a_ H
 clear H
 have i0 : 0 ≤ (a0 : Int) := dm_
 have j0 : a0 < (l1.length : Int) := dm_
 obtain ⟨D0, s0, d0⟩ := Kd.at_int w0.out a0 i0 j0
 cases s0
 replace d0 := hc_ HB d0
 replace i0 := eq_true i0
 replace j0 := eq_true j0
 obtain ⟨Q0, R0, S0, T0, U0, V0, W0, X0⟩ := e4_ f0
 have k0 : 0 ≤ ((rd l1 a0) : Int) := dm_
 have m0 : (rd l1 a0) < (b0.length : Int) := dm_
 obtain ⟨E0, t0, e0⟩ := Kd.at_int v0.out (rd l1 a0) k0 m0
 cases t0
 replace e0 := hc_ HB e0
 replace k0 := eq_true k0
 replace m0 := eq_true m0
 go_wp2
 go_roundg k1
 case measure => have := G0.out; omega
 case rel => exact ⟨(wrap64 (a0 + 1)), rs_, H', ⟨by have := G0.out; omega⟩, ⟨bk_ f0⟩, ⟨bl_ HB⟩⟩}}
 {
 obtain rfl := Option.some.inj H
 go_wp2
 go_ret
 exact ⟨er_, bl_ HB⟩}))}
 {
 obtain rfl := Option.some.inj H
 go_enter Try.func51, Try.ntmps51
 go_wp2_with (first | ((with_reducible refine gate_dst (N := 2) rfl ?_); refine bx_ HB 2 #[.int .i64 g0, .int .i64 h0, .slice n0 b0.length o0, .slice p0 c0.length q0] 24 ?_; clear HB; intro y0 hg m1 hb f0 r0 HB; have A0 := r0; clear hb hg) | ((with_reducible refine gate_callee (f := 86) rfl ?_); refine gL_ (some 8) Try.func86 #[.slice A1 l1.length c1] ?_; (with_reducible refine (floor_Right.calls k _ _ l1 false _ ?side1 ?side2 A3.out).mono ?_); (case side1 => exact kC_ w0 HB); (case side2 => exact F0.out); rintro e w' ⟨rfl, ⟨nd, rfl⟩⟩; refine ⟨_, rfl, ?_⟩))
 go_ret
 exact ⟨er_, bl_ HB⟩}
mutual
def vpack_Right.j0 : Nat → Bool → Int → Int → List Int → List Int → List (List Int) → List (List Int) → Option (Bool)
  | 0, _, _, _, _, _, _, _ => none
  | k + 1, g0, b0, c0, d0, e0, a0, f0 => if g0 = true then (some false) else (vpack_Right.l0 k a0 (a0.length : Int) 0 b0 c0 d0 e0 a0 f0)
def vpack_Right.l0 : Nat → List (List Int) → Int → Int → Int → Int → List Int → List Int → List (List Int) → List (List Int) → Option (Bool)
  | 0, _, _, _, _, _, _, _, _, _ => none
  | k + 1, c0, i0, a0, d0, e0, f0, g0, h0, b0 => if a0 < i0 then (if 0 ≤ a0 then (if a0 < (c0.length : Int) then (if ((rd_L1 c0 a0).length : Int) = 0 then (if a0 < (b0.length : Int) then (vpack_Right.j2 k a0 (rd_L1 c0 a0) c0 i0 a0 (((rd_L2 b0 a0).length : Int) == 0) d0 e0 f0 g0 h0 b0) else (none)) else (vpack_Right.j2 k a0 (rd_L1 c0 a0) c0 i0 a0 false d0 e0 f0 g0 h0 b0)) else (none)) else (none)) else (some true)
def vpack_Right.j2 : Nat → Int → List Int → List (List Int) → Int → Int → Bool → Int → Int → List Int → List Int → List (List Int) → List (List Int) → Option (Bool)
  | 0, _, _, _, _, _, _, _, _, _, _, _, _ => none
  | k + 1, x5, x6, g0, h0, i0, k0, b0, c0, d0, e0, f0, a0 => if k0 = true then (vpack_Right.l0 k g0 h0 (wrap64 (i0 + 1)) b0 c0 d0 e0 f0 a0) else ((vpack_posts.f k b0 c0 d0 e0 x6).bind fun j0 => (if j0 = true then (if 0 ≤ x5 then (if x5 < (a0.length : Int) then (vpack_Right.j3 k x5 g0 h0 i0 (((rd_L2 a0 x5).length : Int) != 16) b0 c0 d0 e0 f0 a0) else (none)) else (none)) else (vpack_Right.j3 k x5 g0 h0 i0 true b0 c0 d0 e0 f0 a0)))
def vpack_Right.j3 : Nat → Int → List (List Int) → Int → Int → Bool → Int → Int → List Int → List Int → List (List Int) → List (List Int) → Option (Bool)
  | 0, _, _, _, _, _, _, _, _, _, _, _ => none
  | k + 1, x5, g0, h0, i0, j0, b0, c0, d0, e0, f0, a0 => if j0 = true then (some false) else (if 0 ≤ x5 then (if x5 < (a0.length : Int) then (vpack_Right.l1 k g0 h0 i0 (rd_L2 a0 x5) ((rd_L2 a0 x5).length : Int) 0 b0 c0 d0 e0 f0 a0) else (none)) else (none))
def vpack_Right.l1 : Nat → List (List Int) → Int → Int → List Int → Int → Int → Int → Int → List Int → List Int → List (List Int) → List (List Int) → Option (Bool)
  | 0, _, _, _, _, _, _, _, _, _, _, _, _ => none
  | k + 1, i0, j0, k0, h0, m0, a0, b0, c0, d0, e0, f0, g0 => if a0 < m0 then (if 0 ≤ a0 then (if a0 < (h0.length : Int) then (if (rd h0 a0) < (-4194303) then (some false) else (if (rd h0 a0) > 4194303 then (some false) else (vpack_Right.l1 k i0 j0 k0 h0 m0 (wrap64 (a0 + 1)) b0 c0 d0 e0 f0 g0))) else (none)) else (none)) else (vpack_Right.l0 k i0 j0 (wrap64 (k0 + 1)) b0 c0 d0 e0 f0 g0)
end
def vpack_Right.f (k : Nat) (a0 : Int) (b0 : Int) (c0 : List Int) (d0 : List Int) (e0 : List (List Int)) (f0 : List (List Int)) : Option (Bool) := (vhead_Right.f k a0 b0 c0 d0).bind fun g0 => (if g0 = true then (if (e0.length : Int) = a0 then (vpack_Right.j0 k ((f0.length : Int) != a0) a0 b0 c0 d0 e0 f0) else (vpack_Right.j0 k true a0 b0 c0 d0 e0 f0)) else (vpack_Right.j0 k true a0 b0 c0 d0 e0 f0))
theorem vpack_Right.mono_l : ∀ k, (∀ y0 y1 y2 y3 y4 y5 y6, LeO (vpack_Right.j0 k y0 y1 y2 y3 y4 y5 y6) (vpack_Right.j0 (k + 1) y0 y1 y2 y3 y4 y5 y6)) ∧ (∀ y0 y1 y2 y3 y4 y5 y6 y7 y8, LeO (vpack_Right.l0 k y0 y1 y2 y3 y4 y5 y6 y7 y8) (vpack_Right.l0 (k + 1) y0 y1 y2 y3 y4 y5 y6 y7 y8)) ∧ (∀ y0 y1 y2 y3 y4 y5 y6 y7 y8 y9 a0 b0, LeO (vpack_Right.j2 k y0 y1 y2 y3 y4 y5 y6 y7 y8 y9 a0 b0) (vpack_Right.j2 (k + 1) y0 y1 y2 y3 y4 y5 y6 y7 y8 y9 a0 b0)) ∧ (∀ y0 y1 y2 y3 y4 y5 y6 y7 y8 y9 a0, LeO (vpack_Right.j3 k y0 y1 y2 y3 y4 y5 y6 y7 y8 y9 a0) (vpack_Right.j3 (k + 1) y0 y1 y2 y3 y4 y5 y6 y7 y8 y9 a0)) ∧ (∀ y0 y1 y2 y3 y4 y5 y6 y7 y8 y9 a0 b0, LeO (vpack_Right.l1 k y0 y1 y2 y3 y4 y5 y6 y7 y8 y9 a0 b0) (vpack_Right.l1 (k + 1) y0 y1 y2 y3 y4 y5 y6 y7 y8 y9 a0 b0))
  | 0 => ⟨fun _ _ _ _ _ _ _ r h => by simp [vpack_Right.j0] at h, fun _ _ _ _ _ _ _ _ _ r h => by simp [vpack_Right.l0] at h, fun _ _ _ _ _ _ _ _ _ _ _ _ r h => by simp [vpack_Right.j2] at h, fun _ _ _ _ _ _ _ _ _ _ _ r h => by simp [vpack_Right.j3] at h, fun _ _ _ _ _ _ _ _ _ _ _ _ r h => by simp [vpack_Right.l1] at h⟩
  | k + 1 => by
    obtain ⟨c0, d0, e0, f0, g0⟩ := vpack_Right.mono_l k
    refine ⟨?_, ?_, ?_, ?_, ?_⟩
    all_goals (intros; first | unfold vpack_Right.j0 | unfold vpack_Right.l0 | unfold vpack_Right.j2 | unfold vpack_Right.j3 | unfold vpack_Right.l1)
    all_goals with_reducible repeat' first
     | exact c0 _ _ _ _ _ _ _
     | exact d0 _ _ _ _ _ _ _ _ _
     | exact e0 _ _ _ _ _ _ _ _ _ _ _ _
     | exact f0 _ _ _ _ _ _ _ _ _ _ _
     | exact g0 _ _ _ _ _ _ _ _ _ _ _ _
     | exact vhead_Right.mono _ _ _ _ _
     | exact vpack_posts.mono _ _ _ _ _ _
     | exact LeO.refl _
     | exact LeO.none _
     | refine LeO.ite ?_ ?_
     | refine LeO.bind ?_ (fun _ => ?_)
theorem vpack_Right.mono : ∀ a0 a1 a2 a3 a4 a5 k, LeO (vpack_Right.f k a0 a1 a2 a3 a4 a5) (vpack_Right.f (k + 1) a0 a1 a2 a3 a4 a5) := by
  intro a0 a1 a2 a3 a4 a5 k
  obtain ⟨b0, c0, d0, e0, f0⟩ := vpack_Right.mono_l k
  unfold vpack_Right.f
  with_reducible repeat' first
   | exact b0 _ _ _ _ _ _ _
   | exact c0 _ _ _ _ _ _ _ _ _
   | exact d0 _ _ _ _ _ _ _ _ _ _ _ _
   | exact e0 _ _ _ _ _ _ _ _ _ _ _
   | exact f0 _ _ _ _ _ _ _ _ _ _ _ _
   | exact vhead_Right.mono _ _ _ _ _
   | exact vpack_posts.mono _ _ _ _ _ _
   | exact LeO.refl _
   | exact LeO.none _
   | refine LeO.ite ?_ ?_
   | refine LeO.bind ?_ (fun _ => ?_)
set_option maxHeartbeats 8000000 in
set_option maxRecDepth 100000 in
theorem vpack_Right.calls (k : Nat) (f0 : Int) (i0 : Int) (p0 : Option Addr) (q0 : Nat) (g0 : List Int) (r0 : Option Addr) (s0 : Nat) (h0 : List Int) (S0 : Option Addr) (y0 : Nat) (d0 : List (List Int)) (F0 : Option Addr) (z0 : Nat) (e0 : List (List Int)) (r : Bool) (w : World) (hr0_2 : Kd.C (Kd.int .i64) w p0 g0.length g0) (hc0_2 : g0.length ≤ q0) (hr0_3 : Kd.C (Kd.int .i64) w r0 h0.length h0) (hc0_3 : h0.length ≤ s0) (hr1_0 : Kd.C (Kd.slice 3 (Kd.int .i64)) w S0 d0.length d0) (hc1_0 : d0.length ≤ y0) (hr1_1 : Kd.C (Kd.slice 2 (Kd.int .i64)) w F0 e0.length e0) (hc1_1 : e0.length ≤ z0) (h : vpack_Right.f k f0 i0 g0 h0 d0 e0 = some r) :
    Calls Try.prog 21 #[.agg #[.int .i64 f0, .int .i64 i0, .slice p0 g0.length q0, .slice r0 h0.length s0], .agg #[.slice S0 d0.length y0, .slice F0 e0.length z0]] w fun e w' => e = .returned (.bool r) ∧ Below w.heap.size w w' := by
 have C4 := Try.underlying24
 have D4 := Try.underlying28
 have G0 := a_ hr0_2
 have H0 := a_ hc0_2
 clear hr0_2 hc0_2
 have I0 := a_ hr0_3
 have J0 := a_ hc0_3
 clear hr0_3 hc0_3
 have P1 := a_ hr1_0
 have b4 := a_ hc1_0
 clear hr1_0 hc1_0
 have m1 := a_ hr1_1
 have c4 := a_ hc1_1
 clear hr1_1 hc1_1
 have HB := a_ (Below.refl w.heap.size w)
 have H : ((vhead_Right.f k f0 i0 g0 h0).bind fun M1 => (if M1 = true then (if (d0.length : Int) = f0 then (vpack_Right.j0 k ((e0.length : Int) != f0) f0 i0 g0 h0 d0 e0) else (vpack_Right.j0 k true f0 i0 g0 h0 d0 e0)) else (vpack_Right.j0 k true f0 i0 g0 h0 d0 e0))) = some r := h
 clear h
 have N1 := a_ H
 clear H
 go_enter Try.func21, Try.ntmps21
 go_upto_region 1 with (first | ((with_reducible refine gate_dst (N := 2) rfl ?_); (try (refine gate_guard (by rfl) ?_; dsimp only)); refine bx_ HB 2 #[.int .i64 f0, .int .i64 i0, .slice p0 g0.length q0, .slice r0 h0.length s0] 24 ?_; clear HB; intro K0 hg w4 hb b0 Q1 HB; have d4 := Q1; clear hb hg) | ((with_reducible refine gate_dst (N := 3) rfl ?_); (try (refine gate_guard (by rfl) ?_; dsimp only)); refine bx_ HB 3 #[.slice S0 d0.length y0, .slice F0 e0.length z0] 28 ?_; clear HB; intro L0 hg w5 hb c0 R1 HB; have e4 := R1; obtain ⟨k0, m0⟩ := NN_ b0 hg; replace b0 := FB_ b0 hb; clear hb hg))
 (try simp only [Act.put, List.setIfInBounds_toArray, List.set_cons_zero, List.set_cons_succ])
 go_cut [27] (fun P3 wc => ∃ (kq : Nat) (n1 : Bool), P3 = .bool n1 ∧ Aside0 (vpack_Right.j0 kq n1 f0 i0 g0 h0 d0 e0 = some r) ∧ Aside0 (kq ≤ k) ∧ Aside0 (wc.heap[K0]? = some (.cells #[.int .i64 f0, .int .i64 i0, (.slice p0 g0.length q0), (.slice r0 h0.length s0)] 24 (0, 0))) ∧ Aside0 (wc.heap[L0]? = some (.cells #[(.slice S0 d0.length y0), (.slice F0 e0.length z0)] 28 (0, 0))) ∧ Aside0 (Below w.heap.size w wc))
 case first => (
 have H := N1.out
 clear N1
 obtain ⟨M1, A6, H⟩ := ob_ H
 (try dsimp only at H)
 replace H := ib_ H
 rcases H with ⟨rfl, H⟩ | ⟨rfl, H⟩
 {
 replace H := ie_ H
 rcases H with ⟨T0, d2, H⟩ | ⟨c8, T0, d2, H⟩
 {
 (first | rw [T0] | (simp only [i64_w, i32_w]; rw [T0]) | skip)
 have H' := a_ H
 clear H
 have E4 := k0.out
 have F4 := m0.out
 obtain ⟨i2, l2, m2, n2, p2, q2, r2, s2⟩ := e4_ b0
 go_wp2_with (first | ((with_reducible refine gate_callee (f := 41) rfl ?_); refine gL_ (some 10) Try.func41 #[.agg #[.int .i64 f0, .int .i64 i0, .slice p0 g0.length q0, .slice r0 h0.length s0]] ?_; (with_reducible refine (vhead_Right.calls k f0 i0 _ _ g0 _ _ h0 true _ ?side1 ?side2 ?side3 ?side4 A6.out).mono ?_); (case side1 => exact kC_ G0 HB); (case side2 => exact H0.out); (case side3 => exact kC_ I0 HB); (case side4 => exact J0.out); rintro e H4 ⟨rfl, hb⟩; refine ⟨_, rfl, ?_⟩; replace b0 := FB_ b0 hb; replace c0 := FB_ c0 hb; replace HB := BS_ HB hb; (try clear hb); obtain ⟨t2, v2, w2, y2⟩ := e2_ c0; obtain ⟨z2, A2, B2, C2, D2, E2, F2, G2⟩ := e4_ b0))
 go_meet
 case rel => exact ⟨_, (((e0.length : Int) != f0)), rs_, H', ⟨ol_⟩, ⟨bk_ b0⟩, ⟨bk_ c0⟩, ⟨bl_ HB⟩⟩}
 {
 (first | rw [T0] | (simp only [i64_w, i32_w]; rw [T0]) | skip)
 have H' := a_ H
 clear H
 have f4 := k0.out
 have g4 := m0.out
 obtain ⟨H2, I2, J2, K2, L2, M2, N2, O2⟩ := e4_ b0
 go_wp2_with (first | ((with_reducible refine gate_callee (f := 41) rfl ?_); refine gL_ (some 10) Try.func41 #[.agg #[.int .i64 f0, .int .i64 i0, .slice p0 g0.length q0, .slice r0 h0.length s0]] ?_; (with_reducible refine (vhead_Right.calls k f0 i0 _ _ g0 _ _ h0 true _ ?side1 ?side2 ?side3 ?side4 A6.out).mono ?_); (case side1 => exact kC_ G0 HB); (case side2 => exact H0.out); (case side3 => exact kC_ I0 HB); (case side4 => exact J0.out); rintro e I4 ⟨rfl, hb⟩; refine ⟨_, rfl, ?_⟩; replace b0 := FB_ b0 hb; replace c0 := FB_ c0 hb; replace HB := BS_ HB hb; (try clear hb); obtain ⟨P2, Q2, R2, S2⟩ := e2_ c0; obtain ⟨T2, U2, V2, W2, X2, Y2, Z2, a3⟩ := e4_ b0))
 go_meet
 case rel => exact ⟨_, (true), rs_, H', ⟨ol_⟩, ⟨bk_ b0⟩, ⟨bk_ c0⟩, ⟨bl_ HB⟩⟩}}
 {
 have H' := a_ H
 clear H
 have h4 := k0.out
 have i4 := m0.out
 obtain ⟨b3, c3, d3, e3, f3, g3, h3, i3⟩ := e4_ b0
 go_wp2_with (first | ((with_reducible refine gate_callee (f := 41) rfl ?_); refine gL_ (some 10) Try.func41 #[.agg #[.int .i64 f0, .int .i64 i0, .slice p0 g0.length q0, .slice r0 h0.length s0]] ?_; (with_reducible refine (vhead_Right.calls k f0 i0 _ _ g0 _ _ h0 false _ ?side1 ?side2 ?side3 ?side4 A6.out).mono ?_); (case side1 => exact kC_ G0 HB); (case side2 => exact H0.out); (case side3 => exact kC_ I0 HB); (case side4 => exact J0.out); rintro e J4 ⟨rfl, hb⟩; refine ⟨_, rfl, ?_⟩; replace b0 := FB_ b0 hb; replace c0 := FB_ c0 hb; replace HB := BS_ HB hb; (try clear hb)))
 go_meet
 case rel => exact ⟨_, (true), rs_, H', ⟨ol_⟩, ⟨bk_ b0⟩, ⟨bk_ c0⟩, ⟨bl_ HB⟩⟩})
 case rest => (
 clear N1
 obtain ⟨kq, n1, rfl, HA, HJ2, b0, c0, HB⟩ := hcut
 cases kq with
 | zero => exact absurd HA.out (by simp [vpack_Right.j0])
 | succ kj2 => (
 have H := HA.out
 clear HA
 simp only [vpack_Right.j0] at H
 replace H := ib_ H
 rcases H with ⟨rfl, H⟩ | ⟨rfl, H⟩
 {
 obtain rfl := Option.some.inj H
 go_wp2
 go_ret
 exact ⟨er_, bl_ HB⟩}
 {
 have H' := a_ H
 clear H
 have j4 := m0.out
 have k4 := k0.out
 obtain ⟨A0, B0, C0, D0⟩ := e2_ c0
 go_wp2
 go_loopg [31] kj2 (fun kq Q3 w' => ∃ (a0 : Int), Q3 = .int .i64 a0 ∧ Aside0 (vpack_Right.l0 kq d0 (d0.length : Int) a0 f0 i0 g0 h0 d0 e0 = some r) ∧ Aside0 (kq ≤ kj2) ∧ Aside0 (w'.heap[K0]? = some (.cells #[.int .i64 f0, .int .i64 i0, (.slice p0 g0.length q0), (.slice r0 h0.length s0)] 24 (0, 0))) ∧ Aside0 (w'.heap[L0]? = some (.cells #[(.slice S0 d0.length y0), (.slice F0 e0.length z0)] 28 (0, 0))) ∧ Aside0 (Below w.heap.size w w'))
 case atStart => exact ⟨(0), rs_, H', ⟨Nat.le_refl _⟩, ⟨bk_ b0⟩, ⟨bk_ c0⟩, ⟨bl_ HB⟩⟩
 case round => (
 clear H'
 try clear O1
 try clear A0 B0 C0 D0
 obtain ⟨a0, rfl, HA, E0, b0, c0, HB⟩ := hrel
 cases gk with
 | zero => exact absurd HA.out (by simp [vpack_Right.l0])
 | succ k2 => (
 have H := HA.out
 clear HA
 simp only [vpack_Right.l0] at H
 replace H := id_ H
 rcases H with ⟨R0, H⟩ | ⟨R0, H⟩
 {
 replace H := gd_ H
 obtain ⟨o1, H⟩ := H
 replace H := gd_ H
 obtain ⟨p1, H⟩ := H
 have z1 := a_ H
 clear H
 have N0 : 0 ≤ (a0 : Int) := dm_
 have O0 : a0 < (d0.length : Int) := dm_
 obtain ⟨q1, t1, v1, e2, w0, Y0, Z0⟩ := at_L1 P1.out a0 N0 O0
 cases e2
 replace w0 := hc_ HB w0
 have a1 := a_ Z0
 have b1 := a_ Y0
 clear Z0 Y0
 replace N0 := eq_true N0
 replace O0 := eq_true O0
 go_upto_region 6 with (fail)
 go_cut [47] (fun R3 wc => ∃ (kq : Nat) (U0 : Bool), R3 = .bool U0 ∧ Aside0 (vpack_Right.j2 kq a0 (rd_L1 d0 a0) d0 (d0.length : Int) a0 U0 f0 i0 g0 h0 d0 e0 = some r) ∧ Aside0 (kq ≤ k2) ∧ Aside0 (wc.heap[K0]? = some (.cells #[.int .i64 f0, .int .i64 i0, (.slice p0 g0.length q0), (.slice r0 h0.length s0)] 24 (0, 0))) ∧ Aside0 (wc.heap[L0]? = some (.cells #[(.slice (some q1) d0.length y0), (.slice F0 e0.length z0)] 28 (0, 0))) ∧ Aside0 (Below w.heap.size w wc))
 case first => (
 have H := z1.out
 clear z1
 replace H := ii_ H
 rcases H with ⟨V0, H⟩ | ⟨V0, H⟩
 {
 have M0 : (((rd_L1 d0 a0).length : Int) == 0) = true := beq_iff_eq.mpr V0
 have S1 : (((rd_L1 d0 a0).length : Int) != 0) = false := bne_eq_false_iff_eq.mpr V0
 clear V0
 (first | rw [M0] | (simp only [i64_w, i32_w]; rw [M0]) | skip)
 replace H := gd_ H
 obtain ⟨l4, H⟩ := H
 have H' := a_ H
 clear H
 have m4 := m0.out
 have n4 := k0.out
 obtain ⟨k3, l3, m3, n3⟩ := e2_ c0
 have A1 : 0 ≤ (a0 : Int) := dm_
 have B1 : a0 < (e0.length : Int) := dm_
 obtain ⟨o4, S3, T3, f2, c1, d1, e1⟩ := at_L2 m1.out a0 A1 B1
 cases f2
 replace c1 := hc_ HB c1
 have o3 := a_ e1
 have p3 := a_ d1
 clear e1 d1
 replace A1 := eq_true A1
 replace B1 := eq_true B1
 go_wp2
 go_meet
 case rel => exact ⟨_, ((((rd_L2 e0 a0).length : Int) == 0)), rs_, H', ⟨by have := HJ2.out; have := E0.out; first | omega | exact Nat.le_refl _⟩, ⟨bk_ b0⟩, ⟨bk_ c0⟩, ⟨bl_ HB⟩⟩}
 {
 have M0 : (((rd_L1 d0 a0).length : Int) == 0) = false := beq_eq_false_iff_ne.mpr V0
 have S1 : (((rd_L1 d0 a0).length : Int) != 0) = true := bne_iff_ne.mpr V0
 have p4 : ¬ ((rd_L1 d0 a0) = []) := fun h_ => V0 (by rw [h_]; rfl)
 (first | rw [M0] | (simp only [i64_w, i32_w]; rw [M0]) | skip)
 have H' := a_ H
 clear H
 go_wp2
 go_meet
 case rel => exact ⟨_, (false), rs_, H', ⟨by have := HJ2.out; have := E0.out; first | omega | exact Nat.le_refl _⟩, ⟨bk_ b0⟩, ⟨bk_ c0⟩, ⟨bl_ HB⟩⟩})
 case rest => (
 clear z1
 try clear O1
 try clear Z1
 try clear R0
 try clear a2
 try clear o1
 try clear b2
 try clear p1
 try clear A0 B0 C0 D0
 try clear w0
 try clear N0
 try clear O0
 obtain ⟨kq, U0, rfl, HA, HJ27, b0, c0, HB⟩ := hcut
 cases kq with
 | zero => exact absurd HA.out (by simp [vpack_Right.j2])
 | succ kj27 => (
 have H := HA.out
 clear HA
 simp only [vpack_Right.j2] at H
 replace H := ib_ H
 rcases H with ⟨rfl, H⟩ | ⟨rfl, H⟩
 {
 have H' := a_ H
 clear H
 go_wp2
 go_roundg kj27
 case measure => have := HJ2.out; have := E0.out; have := HJ27.out; omega
 case rel => exact ⟨(wrap64 (a0 + 1)), rs_, H', ⟨by have := HJ2.out; have := E0.out; have := HJ27.out; omega⟩, ⟨bk_ b0⟩, ⟨bk_ c0⟩, ⟨bl_ HB⟩⟩}
 {
 have C1 := a_ H
 clear H
 go_upto_region 7 with (fail)
 go_cut [60] (fun U3 wc => ∃ (kq : Nat) (W0 : Bool), U3 = .bool W0 ∧ Aside0 (vpack_Right.j3 kq a0 d0 (d0.length : Int) a0 W0 f0 i0 g0 h0 d0 e0 = some r) ∧ Aside0 (kq ≤ kj27) ∧ Aside0 (wc.heap[K0]? = some (.cells #[.int .i64 f0, .int .i64 i0, (.slice p0 g0.length q0), (.slice r0 h0.length s0)] 24 (0, 0))) ∧ Aside0 (wc.heap[L0]? = some (.cells #[(.slice (some q1) d0.length y0), (.slice F0 e0.length z0)] 28 (0, 0))) ∧ Aside0 (Below w.heap.size w wc))
 case first => (
 have H := C1.out
 clear C1
 obtain ⟨G4, c2, H⟩ := ob_ H
 (try dsimp only at H)
 replace H := ib_ H
 rcases H with ⟨rfl, H⟩ | ⟨rfl, H⟩
 {
 replace H := gd_ H
 obtain ⟨F1, H⟩ := H
 (first | rw [F1] | (simp only [i64_w, i32_w]; rw [F1]) | skip)
 replace H := gd_ H
 obtain ⟨q4, H⟩ := H
 have H' := a_ H
 clear H
 have r4 := k0.out
 have s4 := m0.out
 obtain ⟨q3, r3, s3, t3, v3, w3, y3, z3⟩ := e4_ b0
 go_wp2_with (first | ((with_reducible refine gate_callee (f := 51) rfl ?_); refine gL_ (some 50) Try.func51 #[.agg #[.int .i64 f0, .int .i64 i0, .slice p0 g0.length q0, .slice r0 h0.length s0], .slice t1 (rd_L1 d0 a0).length v1] ?_; (with_reducible refine (vpack_posts.calls kj27 f0 i0 _ _ g0 _ _ h0 _ _ (rd_L1 d0 a0) true _ ?side1 ?side2 ?side3 ?side4 ?side5 ?side6 c2.out).mono ?_); (case side1 => exact kC_ G0 HB); (case side2 => exact H0.out); (case side3 => exact kC_ I0 HB); (case side4 => exact J0.out); (case side5 => exact kC_ a1 HB); (case side6 => exact b1.out); rintro e K4 ⟨rfl, hb⟩; refine ⟨_, rfl, ?_⟩; replace b0 := FB_ b0 hb; replace c0 := FB_ c0 hb; replace HB := BS_ HB hb; (try clear hb); obtain ⟨A3, B3, C3, D3⟩ := e2_ c0; have D1 : 0 ≤ (a0 : Int) := dm_; have E1 : a0 < (e0.length : Int) := dm_; obtain ⟨t4, V3, W3, g2, f1, h1, i1⟩ := at_L2 m1.out a0 D1 E1; cases g2; replace f1 := hc_ HB f1; have E3 := a_ i1; have F3 := a_ h1; clear i1 h1; replace D1 := eq_true D1; replace E1 := eq_true E1))
 go_meet
 case rel => exact ⟨_, ((((rd_L2 e0 a0).length : Int) != 16)), rs_, H', ⟨by have := HJ2.out; have := E0.out; have := HJ27.out; first | omega | exact Nat.le_refl _⟩, ⟨bk_ b0⟩, ⟨bk_ c0⟩, ⟨bl_ HB⟩⟩}
 {
 have H' := a_ H
 clear H
 have v4 := k0.out
 have x4 := m0.out
 obtain ⟨G3, H3, I3, J3, K3, L3, M3, N3⟩ := e4_ b0
 go_wp2_with (first | ((with_reducible refine gate_callee (f := 51) rfl ?_); refine gL_ (some 50) Try.func51 #[.agg #[.int .i64 f0, .int .i64 i0, .slice p0 g0.length q0, .slice r0 h0.length s0], .slice t1 (rd_L1 d0 a0).length v1] ?_; (with_reducible refine (vpack_posts.calls kj27 f0 i0 _ _ g0 _ _ h0 _ _ (rd_L1 d0 a0) false _ ?side1 ?side2 ?side3 ?side4 ?side5 ?side6 c2.out).mono ?_); (case side1 => exact kC_ G0 HB); (case side2 => exact H0.out); (case side3 => exact kC_ I0 HB); (case side4 => exact J0.out); (case side5 => exact kC_ a1 HB); (case side6 => exact b1.out); rintro e L4 ⟨rfl, hb⟩; refine ⟨_, rfl, ?_⟩; replace b0 := FB_ b0 hb; replace c0 := FB_ c0 hb; replace HB := BS_ HB hb; (try clear hb)))
 go_meet
 case rel => exact ⟨_, (true), rs_, H', ⟨by have := HJ2.out; have := E0.out; have := HJ27.out; first | omega | exact Nat.le_refl _⟩, ⟨bk_ b0⟩, ⟨bk_ c0⟩, ⟨bl_ HB⟩⟩})
 case rest => (
 clear C1
 try clear O1
 try clear Z1
 try clear R0
 try clear a2
 try clear o1
 try clear b2
 try clear p1
 try clear X3
 try clear A0 B0 C0 D0
 try clear w0
 try clear N0
 try clear O0
 obtain ⟨kq, W0, rfl, HA, HJ33, b0, c0, HB⟩ := hcut
 cases kq with
 | zero => exact absurd HA.out (by simp [vpack_Right.j3])
 | succ kj33 => (
 have H := HA.out
 clear HA
 simp only [vpack_Right.j3] at H
 replace H := ib_ H
 rcases H with ⟨rfl, H⟩ | ⟨rfl, H⟩
 {
 obtain rfl := Option.some.inj H
 go_wp2
 go_ret
 exact ⟨er_, bl_ HB⟩}
 {
 replace H := gd_ H
 obtain ⟨T1, H⟩ := H
 replace H := gd_ H
 obtain ⟨U1, H⟩ := H
 have H' := a_ H
 clear H
 have y4 := m0.out
 have z4 := k0.out
 obtain ⟨I1, J1, K1, L1⟩ := e2_ c0
 have r1 : 0 ≤ (a0 : Int) := dm_
 have s1 : a0 < (e0.length : Int) := dm_
 obtain ⟨V1, Y3, Z3, h2, P0, j1, k1⟩ := at_L2 m1.out a0 r1 s1
 cases h2
 replace P0 := hc_ HB P0
 have Q0 := a_ k1
 have O3 := a_ j1
 clear k1 j1
 replace r1 := eq_true r1
 replace s1 := eq_true s1
 go_wp2
 go_loopg [67] kj33 (fun kq a4 w' => ∃ (n0 : Int), a4 = .int .i64 n0 ∧ Aside0 (vpack_Right.l1 kq d0 (d0.length : Int) a0 (rd_L2 e0 a0) ((rd_L2 e0 a0).length : Int) n0 f0 i0 g0 h0 d0 e0 = some r) ∧ Aside0 (kq ≤ kj33) ∧ Aside0 (w'.heap[K0]? = some (.cells #[.int .i64 f0, .int .i64 i0, (.slice p0 g0.length q0), (.slice r0 h0.length s0)] 24 (0, 0))) ∧ Aside0 (w'.heap[L0]? = some (.cells #[(.slice (some q1) d0.length y0), (.slice (some V1) e0.length z0)] 28 (0, 0))) ∧ Aside0 (Below w.heap.size w w'))
 case atStart => exact ⟨(0), rs_, H', ⟨Nat.le_refl _⟩, ⟨bk_ b0⟩, ⟨bk_ c0⟩, ⟨bl_ HB⟩⟩
 case round => (
 clear H'
 try clear O1
 try clear Z1
 try clear R0
 try clear a2
 try clear o1
 try clear b2
 try clear p1
 try clear X3
 try clear M4
 try clear N4
 try clear T1
 try clear O4
 try clear U1
 try clear A0 B0 C0 D0
 try clear I1 J1 K1 L1
 try clear w0
 try clear P0
 try clear N0
 try clear r1
 try clear O0
 try clear s1
 obtain ⟨n0, rfl, HA, G1, b0, c0, HB⟩ := hrel
 cases gk with
 | zero => exact absurd HA.out (by simp [vpack_Right.l1])
 | succ k5 => (
 have H := HA.out
 clear HA
 simp only [vpack_Right.l1] at H
 replace H := id_ H
 rcases H with ⟨W1, H⟩ | ⟨W1, H⟩
 {
 replace H := gd_ H
 obtain ⟨A4, H⟩ := H
 replace H := gd_ H
 obtain ⟨B4, H⟩ := H
 replace H := id_ H
 rcases H with ⟨X1, H⟩ | ⟨X1, H⟩
 {
 obtain rfl := Option.some.inj H
 have t0 : 0 ≤ (n0 : Int) := dm_
 have v0 : n0 < ((rd_L2 e0 a0).length : Int) := dm_
 obtain ⟨H1, X0, o0⟩ := Kd.at_int Q0.out n0 t0 v0
 cases X0
 replace o0 := hc_ HB o0
 replace t0 := eq_true t0
 replace v0 := eq_true v0
 go_wp2
 go_ret
 exact ⟨er_, bl_ HB⟩}
 {
 replace H := ii_ H
 rcases H with ⟨y1, H⟩ | ⟨y1, H⟩
 {
 have Y1 : decide (4194303 < (rd (rd_L2 e0 a0) n0)) = true := decide_eq_true y1
 clear y1
 obtain rfl := Option.some.inj H
 have t0 : 0 ≤ (n0 : Int) := dm_
 have v0 : n0 < ((rd_L2 e0 a0).length : Int) := dm_
 obtain ⟨H1, X0, o0⟩ := Kd.at_int Q0.out n0 t0 v0
 cases X0
 replace o0 := hc_ HB o0
 replace t0 := eq_true t0
 replace v0 := eq_true v0
 go_wp2
 go_ret
 exact ⟨er_, bl_ HB⟩}
 {
 have Y1 : decide (4194303 < (rd (rd_L2 e0 a0) n0)) = false := decide_eq_false y1
 clear y1
 have H' := a_ H
 clear H
 have t0 : 0 ≤ (n0 : Int) := dm_
 have v0 : n0 < ((rd_L2 e0 a0).length : Int) := dm_
 obtain ⟨H1, X0, o0⟩ := Kd.at_int Q0.out n0 t0 v0
 cases X0
 replace o0 := hc_ HB o0
 replace t0 := eq_true t0
 replace v0 := eq_true v0
 go_wp2
 go_roundg k5
 case measure => have := HJ2.out; have := E0.out; have := HJ27.out; have := HJ33.out; have := G1.out; omega
 case rel => exact ⟨(wrap64 (n0 + 1)), rs_, H', ⟨by have := HJ2.out; have := E0.out; have := HJ27.out; have := HJ33.out; have := G1.out; omega⟩, ⟨bk_ b0⟩, ⟨bk_ c0⟩, ⟨bl_ HB⟩⟩}}}
 {
 have H' := a_ H
 clear H
 go_wp2
 go_roundg k5
 case measure => have := HJ2.out; have := E0.out; have := HJ27.out; have := HJ33.out; have := G1.out; omega
 case rel => exact ⟨(wrap64 (a0 + 1)), rs_, H', ⟨by have := HJ2.out; have := E0.out; have := HJ27.out; have := HJ33.out; have := G1.out; omega⟩, ⟨bk_ b0⟩, ⟨bk_ c0⟩, ⟨bl_ HB⟩⟩}))}))}))}
 {
 obtain rfl := Option.some.inj H
 go_wp2
 go_ret
 exact ⟨er_, bl_ HB⟩}))}))
def vcodec_codec_both.f (a0 : Int) (b0 : Int) (c0 : List Int) (d0 : List Int) (l1 : List (List Int)) : Option (Bool) := if a0 = 2 then (if 0 < (l1.length : Int) then (if ((rd_L1 l1 0).length : Int) > 0 then (if 1 < (l1.length : Int) then (some (decide (((rd_L1 l1 1).length : Int) > 0))) else (none)) else (some false)) else (none)) else (some false)
set_option maxHeartbeats 8000000 in
set_option maxRecDepth 100000 in
theorem vcodec_codec_both.calls (k0 : Int) (l0 : Int) (m0 : Option Addr) (n0 : Nat) (d0 : List Int) (o0 : Option Addr) (p0 : Nat) (e0 : List Int) (A1 : Option Addr) (c1 : Nat) (l1 : List (List Int)) (r : Bool) (w : World) (hr0_2 : Kd.C (Kd.int .i64) w m0 d0.length d0) (hc0_2 : d0.length ≤ n0) (hr0_3 : Kd.C (Kd.int .i64) w o0 e0.length e0) (hc0_3 : e0.length ≤ p0) (hr1 : Kd.C (Kd.slice 3 (Kd.int .i64)) w A1 l1.length l1) (hc1 : l1.length ≤ c1) (h : vcodec_codec_both.f k0 l0 d0 e0 l1 = some r) :
    Calls Try.prog 32 #[.agg #[.int .i64 k0, .int .i64 l0, .slice m0 d0.length n0, .slice o0 e0.length p0], .slice A1 l1.length c1] w fun e w' => e = .returned (.bool r) ∧ Below w.heap.size w w' := by
 have v1 := Try.underlying61
 have q1 := a_ hr0_2
 have r1 := a_ hc0_2
 clear hr0_2 hc0_2
 have s1 := a_ hr0_3
 have t1 := a_ hc0_3
 clear hr0_3 hc0_3
 have C0 := a_ hr1
 have D1 := a_ hc1
 clear hr1 hc1
 have HB := a_ (Below.refl w.heap.size w)
 have H : (if k0 = 2 then (if 0 < (l1.length : Int) then (if ((rd_L1 l1 0).length : Int) > 0 then (if 1 < (l1.length : Int) then (some (decide (((rd_L1 l1 1).length : Int) > 0))) else (none)) else (some false)) else (none)) else (some false)) = some r := h
 clear h
 replace H := ie_ H
 rcases H with ⟨G0, H0, H⟩ | ⟨c3, G0, H0, H⟩
 {
 replace H := gt_ H
 obtain ⟨c4, H⟩ := H
 have y1 : decide (0 < (l1.length : Int)) = true := decide_eq_true c4
 have z1 : decide (0 < l1.length) = true := decide_eq_true (by omega)
 clear c4
 replace H := ii_ H
 rcases H with ⟨c5, H⟩ | ⟨c5, H⟩
 {
 have I0 : decide (0 < ((rd_L1 l1 0).length : Int)) = true := decide_eq_true c5
 have J0 : decide (0 < (rd_L1 l1 0).length) = true := decide_eq_true (by omega)
 clear c5
 replace H := gt_ H
 obtain ⟨c6, H⟩ := H
 have B1 : decide (1 < (l1.length : Int)) = true := decide_eq_true c6
 have C1 : decide (1 < l1.length) = true := decide_eq_true (by omega)
 clear c6
 obtain rfl := Option.some.inj H
 go_enter Try.func32, Try.ntmps32
 go_wp2_with (first | ((with_reducible refine gate_dst (N := 2) rfl ?_); (try (refine gate_guard (by rfl) ?_; dsimp only)); refine bx_ HB 2 #[.int .i64 k0, .int .i64 l0, .slice m0 d0.length n0, .slice o0 e0.length p0] 61 ?_; clear HB; intro w0 hg w7 hb i0 j0 HB; have y0 := j0; clear hb hg; obtain ⟨e1, f1, h1, i1, j1, k1, m1, n1⟩ := e4_ i0; have g0 : 0 ≤ (0 : Int) := (by omega); have h0 : 0 < (l1.length : Int) := dm_; obtain ⟨z0, D0, E0, s0, a0, b0, c0⟩ := at_L1 C0.out 0 g0 h0; cases s0; have qi157 : (0 < l1.length) = True := eq_true (by omega); (try rw [show ((0 : Int)).toNat = 0 from rfl] at a0); (try rw [Addr.add_zero'] at a0); replace a0 := hc_ HB a0; have A0 := a_ c0; have B0 := a_ b0; clear c0 b0; replace g0 := eq_true g0; replace h0 := eq_true h0; have t0 : 0 ≤ (1 : Int) := (by omega); have v0 : 1 < (l1.length : Int) := dm_; obtain ⟨F0, o1, p1, K0, f0, q0, r0⟩ := at_L1 C0.out 1 t0 v0; obtain rfl : z0 = F0 := (by injection K0); (try simp only [show (1 : Int).toNat = 1 from rfl, Nat.reduceMul, Nat.reduceEqDiff, Go.Addr.add, ↓reduceIte] at f0); have qi158 : (1 < l1.length) = True := eq_true (by omega); (try rw [show ((1 : Int)).toNat = 1 from rfl] at f0); replace f0 := hc_ HB f0; have L0 := a_ r0; have M0 := a_ q0; clear r0 q0; replace t0 := eq_true t0; replace v0 := eq_true v0))
 go_ret
 exact ⟨er_, bl_ HB⟩}
 {
 have I0 : decide (0 < ((rd_L1 l1 0).length : Int)) = false := decide_eq_false c5
 have J0 : decide (0 < (rd_L1 l1 0).length) = false := decide_eq_false (by omega)
 clear c5
 obtain rfl := Option.some.inj H
 go_enter Try.func32, Try.ntmps32
 go_wp2_with (first | ((with_reducible refine gate_dst (N := 2) rfl ?_); (try (refine gate_guard (by rfl) ?_; dsimp only)); refine bx_ HB 2 #[.int .i64 k0, .int .i64 l0, .slice m0 d0.length n0, .slice o0 e0.length p0] 61 ?_; clear HB; intro w0 hg w9 hb i0 j0 HB; have y0 := j0; clear hb hg; obtain ⟨N0, O0, P0, Q0, R0, S0, T0, U0⟩ := e4_ i0; have g0 : 0 ≤ (0 : Int) := (by omega); have h0 : 0 < (l1.length : Int) := dm_; obtain ⟨z0, D0, E0, s0, a0, b0, c0⟩ := at_L1 C0.out 0 g0 h0; cases s0; have qi157 : (0 < l1.length) = True := eq_true (by omega); (try rw [show ((0 : Int)).toNat = 0 from rfl] at a0); (try rw [Addr.add_zero'] at a0); replace a0 := hc_ HB a0; have A0 := a_ c0; have B0 := a_ b0; clear c0 b0; replace g0 := eq_true g0; replace h0 := eq_true h0))
 go_ret
 exact ⟨er_, bl_ HB⟩}}
 {
 obtain rfl := Option.some.inj H
 go_enter Try.func32, Try.ntmps32
 go_wp2_with (first | ((with_reducible refine gate_dst (N := 2) rfl ?_); (try (refine gate_guard (by rfl) ?_; dsimp only)); refine bx_ HB 2 #[.int .i64 k0, .int .i64 l0, .slice m0 d0.length n0, .slice o0 e0.length p0] 61 ?_; clear HB; intro w0 hg E1 hb i0 j0 HB; have y0 := j0; clear hb hg; obtain ⟨V0, W0, X0, Y0, Z0, a1, b1, d1⟩ := e4_ i0))
 go_ret
 exact ⟨er_, bl_ HB⟩}
def couple_parting.f  : Option (Int) := some 4398046511104
set_option maxHeartbeats 8000000 in
set_option maxRecDepth 100000 in
theorem couple_parting.calls  (r : Int) (w : World) (h : couple_parting.f  = some r) :
    Calls Try.prog 66 #[] w fun e w' => e = .returned (.agg #[.int .i64 r, .func (.func 93) #[] #[]]) ∧ Below w.heap.size w w' := by
 have h0 := Try.underlying101
 have HB := a_ (Below.refl w.heap.size w)
 have H : (some 4398046511104) = some r := h
 clear h
 obtain rfl := Option.some.inj H
 go_enter Try.func66, Try.ntmps66
 go_wp2_with (first | ((with_reducible refine gate_dst (N := 0) rfl ?_); refine bx_ HB 0 #[.int .i64 0, .nilFunc] 101 ?_; clear HB; intro b0 hg w1 hb a0 c0 HB; have i0 := c0; clear hb hg; obtain ⟨d0, e0, f0, g0⟩ := e2_ a0))
 refine bodyPost_ret (results_cell_row rfl _ _ b0 101 #[.int .i64 4398046511104, .func (.func 93) #[] #[]] (0, 0) _ rfl (bp_ a0) Try.underlying101 rfl kf_) rfl ?_
 exact ⟨er_, bl_ HB⟩
def couple_part.f (a0 : Int) (a1 : Int) : Option (Int × Int) := if a0 > 0 then (if a1 > 0 then (some (a0, wrap64 (a0 + (wrap64 (-a1))))) else (some (wrap64 (a0 - (wrap64 (-a1))), a0))) else (if a1 > 0 then (some (a0, wrap64 (a0 + a1))) else (some (wrap64 (a0 - a1), a0)))
set_option maxHeartbeats 8000000 in
set_option maxRecDepth 100000 in
theorem couple_part.calls (a0 : Int) (a1 : Int) (r1 : Int) (r2 : Int) (w : World) (h : couple_part.f a0 a1 = some (r1, r2)) :
    Calls Try.prog 93 #[.int .i64 a0, .int .i64 a1] w fun e w' => e = .returned (.tuple #[.int .i64 r1, .int .i64 r2]) ∧ Drawn0 w w' := by
 have H : (if a0 > 0 then (if a1 > 0 then (some (a0, wrap64 (a0 + (wrap64 (-a1))))) else (some (wrap64 (a0 - (wrap64 (-a1))), a0))) else (if a1 > 0 then (some (a0, wrap64 (a0 + a1))) else (some (wrap64 (a0 - a1), a0)))) = some (r1, r2) := h
 clear h
 replace H := ii_ H
 rcases H with ⟨c3, H⟩ | ⟨c3, H⟩
 {
 have b0 : decide (0 < a0) = true := decide_eq_true c3
 clear c3
 replace H := ii_ H
 rcases H with ⟨c4, H⟩ | ⟨c4, H⟩
 {
 have c0 : decide (0 < a1) = true := decide_eq_true c4
 clear c4
 simp only [Option.some.injEq, Prod.mk.injEq] at H
 obtain ⟨rfl, rfl⟩ := H
 go_enter Try.func93, Try.ntmps93
 go_wp2
 go_ret2
 exact ⟨es_, dr_⟩}
 {
 have c0 : decide (0 < a1) = false := decide_eq_false c4
 clear c4
 simp only [Option.some.injEq, Prod.mk.injEq] at H
 obtain ⟨rfl, rfl⟩ := H
 go_enter Try.func93, Try.ntmps93
 go_wp2
 go_ret2
 exact ⟨es_, dr_⟩}}
 {
 have b0 : decide (0 < a0) = false := decide_eq_false c3
 clear c3
 replace H := ii_ H
 rcases H with ⟨c5, H⟩ | ⟨c5, H⟩
 {
 have d0 : decide (0 < a1) = true := decide_eq_true c5
 clear c5
 simp only [Option.some.injEq, Prod.mk.injEq] at H
 obtain ⟨rfl, rfl⟩ := H
 go_enter Try.func93, Try.ntmps93
 go_wp2
 go_ret2
 exact ⟨es_, dr_⟩}
 {
 have d0 : decide (0 < a1) = false := decide_eq_false c5
 clear c5
 simp only [Option.some.injEq, Prod.mk.injEq] at H
 obtain ⟨rfl, rfl⟩ := H
 go_enter Try.func93, Try.ntmps93
 go_wp2
 go_ret2
 exact ⟨es_, dr_⟩}}
def num_Clamp.f (a0 : Int) (a1 : Int) (a2 : Int) : Option (Int) := if a0 < a1 then (some a1) else (if a0 > a2 then (some a2) else (some a0))
set_option maxHeartbeats 8000000 in
set_option maxRecDepth 100000 in
theorem num_Clamp.calls (a0 : Int) (a1 : Int) (a2 : Int) (r : Int) (w : World) (h : num_Clamp.f a0 a1 a2 = some r) :
    Calls Try.prog 73 #[.int .i64 a0, .int .i64 a1, .int .i64 a2] w fun e w' => e = .returned (.int .i64 r) ∧ Drawn0 w w' := by
 have H : (if a0 < a1 then (some a1) else (if a0 > a2 then (some a2) else (some a0))) = some r := h
 clear h
 replace H := id_ H
 rcases H with ⟨b0, H⟩ | ⟨b0, H⟩
 {
 obtain rfl := Option.some.inj H
 go_enter Try.func73, Try.ntmps73
 go_wp2
 go_ret
 exact ⟨es_, dr_⟩}
 {
 replace H := ii_ H
 rcases H with ⟨c5, H⟩ | ⟨c5, H⟩
 {
 have c0 : decide (a2 < a0) = true := decide_eq_true c5
 clear c5
 obtain rfl := Option.some.inj H
 go_enter Try.func73, Try.ntmps73
 go_wp2
 go_ret
 exact ⟨es_, dr_⟩}
 {
 have c0 : decide (a2 < a0) = false := decide_eq_false c5
 clear c5
 obtain rfl := Option.some.inj H
 go_enter Try.func73, Try.ntmps73
 go_wp2
 go_ret
 exact ⟨es_, dr_⟩}}
def couple_within.l0 : Nat → Int → List Int → Int → Int → Option (Bool)
  | 0, _, _, _, _ => none
  | k + 1, x0, x7, x8, x9 => if x9 < x8 then (if 0 ≤ x9 then (if x9 < (x7.length : Int) then ((num_Clamp.f (rd x7 x9) (wrap64 (-x0)) x0).bind fun a0 => (if (rd x7 x9) = a0 then (couple_within.l0 k x0 x7 x8 (wrap64 (x9 + 1))) else (some false))) else (none)) else (none)) else (some true)
def couple_within.f (k : Nat) (a0 : Int) (l1 : List Int) : Option (Bool) := couple_within.l0 k a0 l1 (l1.length : Int) 0
theorem couple_within.mono_l : ∀ k, (∀ y0 y1 y2 y3, LeO (couple_within.l0 k y0 y1 y2 y3) (couple_within.l0 (k + 1) y0 y1 y2 y3))
  | 0 => fun _ _ _ _ r h => by simp [couple_within.l0] at h
  | k + 1 => by
    have a0 := couple_within.mono_l k
    · intro y0 y1 y2 y3
      unfold couple_within.l0
      with_reducible repeat' first
   | exact a0 _ _ _ _
   | exact LeO.refl _
   | exact LeO.none _
   | refine LeO.ite ?_ ?_
   | refine LeO.bind ?_ (fun _ => ?_)
theorem couple_within.mono : ∀ a0 a1 k, LeO (couple_within.f k a0 a1) (couple_within.f (k + 1) a0 a1) := by
  intro a0 a1 k
  have b0 := couple_within.mono_l k
  unfold couple_within.f
  with_reducible repeat' first
   | exact b0 _ _ _ _
   | exact LeO.refl _
   | exact LeO.none _
   | refine LeO.ite ?_ ?_
   | refine LeO.bind ?_ (fun _ => ?_)
set_option maxHeartbeats 8000000 in
set_option maxRecDepth 100000 in
theorem couple_within.calls (k : Nat) (a0 : Int) (A1 : Option Addr) (c1 : Nat) (l1 : List Int) (r : Bool) (w : World) (hr1 : Kd.C (Kd.int .i64) w A1 l1.length l1) (hc1 : l1.length ≤ c1) (h : couple_within.f k a0 l1 = some r) :
    Calls Try.prog 111 #[.int .i64 a0, .slice A1 l1.length c1] w fun e w' => e = .returned (.bool r) ∧ Drawn0 w w' := by
 have i0 := a_ hr1
 have q0 := a_ hc1
 clear hr1 hc1
 have H : (couple_within.l0 k a0 l1 (l1.length : Int) 0) = some r := h
 clear h
 have H' := a_ H
 clear H
 go_enter Try.func111, Try.ntmps111
 go_wp2
 go_loopg [9] k (fun kq v9 w' => ∃ (b0 : Int), v9 = .int .i64 b0 ∧ Aside0 (couple_within.l0 kq a0 l1 (l1.length : Int) b0 = some r) ∧ Aside0 (kq ≤ k) ∧ Drawn0 w w')
 case atStart => exact ⟨(0), rs_, H', ⟨Nat.le_refl _⟩, dr_⟩
 case round => (
 clear H'
 obtain ⟨b0, rfl, HA, j0, ⟨m1, rfl⟩⟩ := hrel
 cases gk with
 | zero => exact absurd HA.out (by simp [couple_within.l0])
 | succ k1 => (
 have H := HA.out
 clear HA
 simp only [couple_within.l0] at H
 replace H := id_ H
 rcases H with ⟨k0, H⟩ | ⟨k0, H⟩
 {
 replace H := gd_ H
 obtain ⟨o0, H⟩ := H
 replace H := gd_ H
 obtain ⟨p0, H⟩ := H
 obtain ⟨g0, A6, H⟩ := ob_ H
 (try dsimp only at H)
 replace H := ie_ H
 rcases H with ⟨m0, n0, H⟩ | ⟨c7, m0, n0, H⟩
 {
 have H' := a_ H
 clear H
 have c0 : 0 ≤ (b0 : Int) := dm_
 have d0 : b0 < (l1.length : Int) := dm_
 obtain ⟨h0, e0, f0⟩ := Kd.at_int i0.out b0 c0 d0
 cases e0
 replace c0 := eq_true c0
 replace d0 := eq_true d0
 go_wp2_with (first | ((with_reducible refine gate_callee (f := 73) rfl ?_); refine gL_ (some 18) Try.func73 #[.int .i64 (rd l1 b0), .int .i64 (wrap64 (-a0)), .int .i64 a0] ?_; (with_reducible refine (num_Clamp.calls (rd l1 b0) (wrap64 (-a0)) a0 g0 _ A6.out).mono ?_); rintro e w' ⟨rfl, ⟨nd, rfl⟩⟩; refine ⟨_, rfl, ?_⟩))
 go_roundg k1
 case measure => have := j0.out; omega
 case rel => exact ⟨(wrap64 (b0 + 1)), rs_, H', ⟨by have := j0.out; omega⟩, dr_⟩}
 {
 obtain rfl := Option.some.inj H
 have c0 : 0 ≤ (b0 : Int) := dm_
 have d0 : b0 < (l1.length : Int) := dm_
 obtain ⟨h0, e0, f0⟩ := Kd.at_int i0.out b0 c0 d0
 cases e0
 replace c0 := eq_true c0
 replace d0 := eq_true d0
 go_wp2_with (first | ((with_reducible refine gate_callee (f := 73) rfl ?_); refine gL_ (some 18) Try.func73 #[.int .i64 (rd l1 b0), .int .i64 (wrap64 (-a0)), .int .i64 a0] ?_; (with_reducible refine (num_Clamp.calls (rd l1 b0) (wrap64 (-a0)) a0 g0 _ A6.out).mono ?_); rintro e w' ⟨rfl, ⟨nd, rfl⟩⟩; refine ⟨_, rfl, ?_⟩))
 go_ret
 exact ⟨es_, dr_⟩}}
 {
 obtain rfl := Option.some.inj H
 go_wp2
 go_ret
 exact ⟨es_, dr_⟩}))
def couple_way_one_by_couple_part.f (k : Nat) (b0 : Int) (a1 : Int) (a2 : Int) : Option (Int × Int × Int) := (couple_within.f k b0 (([a1, a2] : List Int))).bind fun c0 => (if c0 = true then ((couple_part.f a1 a2).bind fun a0 => (some (a0.1, a0.2, 0))) else (some (0, 0, 1)))
theorem couple_way_one_by_couple_part.mono : ∀ a0 a1 a2 k, LeO (couple_way_one_by_couple_part.f k a0 a1 a2) (couple_way_one_by_couple_part.f (k + 1) a0 a1 a2) := by
  intro a0 a1 a2 k
  unfold couple_way_one_by_couple_part.f
  with_reducible repeat' first
   | exact couple_within.mono _ _ _
   | exact LeO.refl _
   | exact LeO.none _
   | refine LeO.ite ?_ ?_
   | refine LeO.bind ?_ (fun _ => ?_)
set_option maxHeartbeats 8000000 in
set_option maxRecDepth 100000 in
theorem couple_way_one_by_couple_part.calls (k : Nat) (b0 : Int) (a1 : Int) (a2 : Int) (r1 : Int) (r2 : Int) (r3 : Int) (w : World) (h : couple_way_one_by_couple_part.f k b0 a1 a2 = some (r1, r2, r3)) :
    Calls Try.prog 94 #[.agg #[.int .i64 b0, .func (.func 93) #[] #[]], .int .i64 a1, .int .i64 a2] w fun e w' => e = .returned (.tuple #[.int .i64 r1, .int .i64 r2, .int .i64 r3]) ∧ Below w.heap.size w w' := by
 have K0 := Try.underlying101
 have HB := a_ (Below.refl w.heap.size w)
 have H : ((couple_within.f k b0 (([a1, a2] : List Int))).bind fun k0 => (if k0 = true then ((couple_part.f a1 a2).bind fun j0 => (some (j0.1, j0.2, 0))) else (some (0, 0, 1)))) = some (r1, r2, r3) := h
 clear h
 obtain ⟨h0, d0⟩ : ∃ y_ : List Int, y_ = (([a1, a2] : List Int)) := ⟨_, rfl⟩
 first | replace H := by_ H d0 | rw [← d0] at H
 have e0 := a_ d0
 clear d0
 obtain ⟨k0, A4, H⟩ := ob_ H
 (try dsimp only at H)
 replace H := ib_ H
 rcases H with ⟨rfl, H⟩ | ⟨rfl, H⟩
 {
 obtain ⟨⟨n0, o0⟩, A6, H⟩ := ob_ H
 (try dsimp only at H)
 simp only [Option.some.injEq, Prod.mk.injEq] at H
 obtain ⟨rfl, rfl, rfl⟩ := H
 go_enter Try.func94, Try.ntmps94
 go_wp2_with (first | ((with_reducible refine gate_dst (N := 3) rfl ?_); refine bx_ HB 3 #[.int .i64 b0, .func (.func 93) #[] #[]] 101 ?_; clear HB; intro l0 hg w7 hb a0 i0 HB; have m0 := i0; clear hb hg; obtain ⟨G0, H0, I0, J0⟩ := e2_ a0) | ((with_reducible refine gate_dst (N := 15) rfl ?_); refine Kd.R_lit (Kd.int .i64) _ 2 ?hg (N := 15) ?hd (xs := ([a1, a2] : List Int)) (inner := [.int .i64 a1, .int .i64 a2]) (ok := fun _ => True) (okp := fun _ => True) ?hr ?hp (fun _ hk => hk) trivial (Below.refl _ _) (Nat.le_refl _) (by simp) ?_; (case hd => rfl); (case hg => rfl); (case hr => first | (go_simp; done) | (go_simp; rfl)); (case hp => exact (Reps.one (show Kd.M (Kd.int .i64) _ _ _ a1 [.int .i64 a1] from rfl) (Reps.one (show Kd.M (Kd.int .i64) _ _ _ a2 [.int .i64 a2] from rfl) (Reps.none _ _)))); intro p0 w9 f0 hb hg_ hnew_; clear hg_ hnew_; (first | rw [← e0.out] at f0 | (simp only [Int.reduceToNat] at f0; rw [← e0.out] at f0)); have c0 := a_ (Kd.R_lower f0 (bs_ HB)); replace a0 := FB_ a0 hb; replace HB := BS_ HB hb; clear hb f0; obtain ⟨q0, r0, s0⟩ := Kd.R_slice c0.out; subst s0) | ((with_reducible refine gate_callee (f := 111) rfl ?_); refine gL_ (some 16) Try.func111 #[.int .i64 b0, .slice q0 h0.length r0] ?_; (with_reducible refine (couple_within.calls k b0 _ _ h0 true _ ?side1 ?side2 A4.out).mono ?_); (case side1 => exact kCt_ (Kd.R_reads' c0.out).2.2); (case side2 => exact (Kd.R_reads' c0.out).2.1); rintro e w' ⟨rfl, ⟨nd, rfl⟩⟩; refine ⟨_, rfl, ?_⟩; obtain ⟨y0, z0, A0, B0⟩ := e2_ a0) | (go_at_call 93; (with_reducible refine (couple_part.calls a1 a2 n0 o0 _ A6.out).mono ?_); rintro e w' ⟨rfl, ⟨nd, rfl⟩⟩))
 go_ret3
 exact ⟨er_, bl_ HB⟩}
 {
 simp only [Option.some.injEq, Prod.mk.injEq] at H
 obtain ⟨rfl, rfl, rfl⟩ := H
 go_enter Try.func94, Try.ntmps94
 go_wp2_with (first | ((with_reducible refine gate_dst (N := 3) rfl ?_); refine bx_ HB 3 #[.int .i64 b0, .func (.func 93) #[] #[]] 101 ?_; clear HB; intro l0 hg L0 hb a0 i0 HB; have m0 := i0; clear hb hg; obtain ⟨C0, D0, E0, F0⟩ := e2_ a0) | ((with_reducible refine gate_dst (N := 15) rfl ?_); refine Kd.R_lit (Kd.int .i64) _ 2 ?hg (N := 15) ?hd (xs := ([a1, a2] : List Int)) (inner := [.int .i64 a1, .int .i64 a2]) (ok := fun _ => True) (okp := fun _ => True) ?hr ?hp (fun _ hk => hk) trivial (Below.refl _ _) (Nat.le_refl _) (by simp) ?_; (case hd => rfl); (case hg => rfl); (case hr => first | (go_simp; done) | (go_simp; rfl)); (case hp => exact (Reps.one (show Kd.M (Kd.int .i64) _ _ _ a1 [.int .i64 a1] from rfl) (Reps.one (show Kd.M (Kd.int .i64) _ _ _ a2 [.int .i64 a2] from rfl) (Reps.none _ _)))); intro p0 M0 g0 hb hg_ hnew_; clear hg_ hnew_; (first | rw [← e0.out] at g0 | (simp only [Int.reduceToNat] at g0; rw [← e0.out] at g0)); have c0 := a_ (Kd.R_lower g0 (bs_ HB)); replace a0 := FB_ a0 hb; replace HB := BS_ HB hb; clear hb g0; obtain ⟨t0, v0, w0⟩ := Kd.R_slice c0.out; subst w0) | ((with_reducible refine gate_callee (f := 111) rfl ?_); refine gL_ (some 16) Try.func111 #[.int .i64 b0, .slice t0 h0.length v0] ?_; (with_reducible refine (couple_within.calls k b0 _ _ h0 false _ ?side1 ?side2 A4.out).mono ?_); (case side1 => exact kCt_ (Kd.R_reads' c0.out).2.2); (case side2 => exact (Kd.R_reads' c0.out).2.1); rintro e w' ⟨rfl, ⟨nd, rfl⟩⟩; refine ⟨_, rfl, ?_⟩))
 go_ret3
 exact ⟨er_, bl_ HB⟩}
def couple_way_all_by_couple_part.l0 : Nat → List Int → List Int → List Int → List Int → Int → Int → Int → Option (List Int × List Int × Int)
  | 0, _, _, _, _, _, _, _ => none
  | k + 1, x1, x2, x9, d0, e0, b0, c0 => if b0 < e0 then (if 0 ≤ b0 then (if b0 < (x1.length : Int) then (if b0 < (x2.length : Int) then ((couple_way_one_by_couple_part.f k c0 (rd x1 b0) (rd x2 b0)).bind fun a0 => (if a0.2.2 = 0 then (if x9.length < 17592186044416 then (if d0.length < 17592186044416 then (couple_way_all_by_couple_part.l0 k x1 x2 (x9 ++ [a0.1]) (d0 ++ [a0.2.1]) e0 (wrap64 (b0 + 1)) c0) else (none)) else (none)) else (some (([] : List Int), ([] : List Int), a0.2.2)))) else (none)) else (none)) else (none)) else (some (x9, d0, 0))
def couple_way_all_by_couple_part.f (k : Nat) (a0 : Int) (l1 : List Int) (l2 : List Int) : Option (List Int × List Int × Int) := if (l1.length : Int) = (l2.length : Int) then (couple_way_all_by_couple_part.l0 k l1 l2 ([] : List Int) ([] : List Int) (l1.length : Int) 0 a0) else (some (([] : List Int), ([] : List Int), 1))
theorem couple_way_all_by_couple_part.mono_l : ∀ k, (∀ y0 y1 y2 y3 y4 y5 y6, LeO (couple_way_all_by_couple_part.l0 k y0 y1 y2 y3 y4 y5 y6) (couple_way_all_by_couple_part.l0 (k + 1) y0 y1 y2 y3 y4 y5 y6))
  | 0 => fun _ _ _ _ _ _ _ r h => by simp [couple_way_all_by_couple_part.l0] at h
  | k + 1 => by
    have a0 := couple_way_all_by_couple_part.mono_l k
    · intro y0 y1 y2 y3 y4 y5 y6
      unfold couple_way_all_by_couple_part.l0
      with_reducible repeat' first
   | exact a0 _ _ _ _ _ _ _
   | exact couple_way_one_by_couple_part.mono _ _ _ _
   | exact LeO.refl _
   | exact LeO.none _
   | refine LeO.ite ?_ ?_
   | refine LeO.bind ?_ (fun _ => ?_)
theorem couple_way_all_by_couple_part.mono : ∀ a0 a1 a2 k, LeO (couple_way_all_by_couple_part.f k a0 a1 a2) (couple_way_all_by_couple_part.f (k + 1) a0 a1 a2) := by
  intro a0 a1 a2 k
  have b0 := couple_way_all_by_couple_part.mono_l k
  unfold couple_way_all_by_couple_part.f
  with_reducible repeat' first
   | exact b0 _ _ _ _ _ _ _
   | exact couple_way_one_by_couple_part.mono _ _ _ _
   | exact LeO.refl _
   | exact LeO.none _
   | refine LeO.ite ?_ ?_
   | refine LeO.bind ?_ (fun _ => ?_)
def couple_way_all_by_couple_part.T7 : Bool × List (List Nat × List Nat) := (true, [([], []), ([], []), ([], []), ([1, 2], [1, 2]), ([3], [3]), ([], []), ([], []), ([5, 6], [5, 6]), ([7], [7]), ([0, 4, 8], [0, 4, 8]), ([9], [9]), ([10], [10]), ([10], [10]), ([10], [10]), ([11, 9, 0, 1, 2, 3, 4, 5, 6, 7, 8, 9, 10, 11], [11]), ([12, 14, 0, 1, 2, 3, 4, 5, 6, 7, 8, 9, 10, 11, 12, 14], [12]), ([13, 15, 0, 1, 2, 3, 4, 5, 6, 7, 8, 9, 10, 11, 12, 13, 14, 15], [13])])
def couple_way_all_by_couple_part.B7 : List Nat := [0, 0, 0, 6, 14, 0, 0, 96, 224, 511, 1023, 2047, 2047, 2047, 4095, 24575, 65535]
theorem couple_way_all_by_couple_part.tab7 : rtab .any (opsOf Try.f67 7) = couple_way_all_by_couple_part.T7 := by kernel_rfl
theorem couple_way_all_by_couple_part.bits7 : waitsOk couple_way_all_by_couple_part.T7.2 couple_way_all_by_couple_part.B7 = true := by kernel_rfl
set_option maxHeartbeats 8000000 in
set_option maxRecDepth 100000 in
theorem couple_way_all_by_couple_part.calls (k : Nat) (g0 : Int) (A1 : Option Addr) (c1 : Nat) (l1 : List Int) (A2 : Option Addr) (c2 : Nat) (l2 : List Int) (r1 : List Int) (r2 : List Int) (r3 : Int) (w : World) (hr1 : Kd.C (Kd.int .i64) w A1 l1.length l1) (hc1 : l1.length ≤ c1) (hr2 : Kd.C (Kd.int .i64) w A2 l2.length l2) (hc2 : l2.length ≤ c2) (h : couple_way_all_by_couple_part.f k g0 l1 l2 = some (r1, r2, r3)) :
    Calls Try.prog 67 #[.agg #[.int .i64 g0, .func (.func 93) #[] #[]], .slice A1 l1.length c1, .slice A2 l2.length c2] w fun e w' => ∃ v0_ v1_ : Value, e = .returned (.tuple #[v0_, v1_, .int .i64 r3]) ∧ Kd.R (Kd.int .i64) 2 w' w.heap.size (fun k_ => some k_ ≠ (v1_ : Value).ownBlock) v0_ r1 ∧ Kd.R (Kd.int .i64) 2 w' w.heap.size (fun k_ => some k_ ≠ (v0_ : Value).ownBlock) v1_ r2 ∧ Below w.heap.size w w' := by
 have e1 := Try.underlying101
 have R0 := a_ hr1
 have m1 := a_ hc1
 clear hr1 hc1
 have S0 := a_ hr2
 have n1 := a_ hc2
 clear hr2 hc2
 have HB := a_ (Below.refl w.heap.size w)
 have H : (if (l1.length : Int) = (l2.length : Int) then (couple_way_all_by_couple_part.l0 k l1 l2 ([] : List Int) ([] : List Int) (l1.length : Int) 0 g0) else (some (([] : List Int), ([] : List Int), 1))) = some (r1, r2, r3) := h
 clear h
 replace H := ii_ H
 rcases H with ⟨c4, H⟩ | ⟨c4, H⟩
 {
 have F0 : ((l1.length : Int) == (l2.length : Int)) = true := beq_iff_eq.mpr c4
 have G0 : ((l1.length : Int) != (l2.length : Int)) = false := bne_eq_false_iff_eq.mpr c4
 have H0 : (l1.length == l2.length) = true := by first | simpa using c4 | (simp at c4 ⊢; omega)
 clear c4
 have H' := a_ H
 clear H
 go_enter Try.func67, Try.ntmps67
 go_wp2_with (first | ((with_reducible refine gate_dst (N := 3) rfl ?_); refine bx_ HB 3 #[.int .i64 g0, .func (.func 93) #[] #[]] 101 ?_; clear HB; intro j0 hg w5 hb b0 A0 HB; have J0 := A0; clear hb hg))
 go_loopg [9, 10, 22] k (fun kq v9 T0 d1 w' => ∃ (v0 : List Int) (p0 : List Int) (a0 : Int), d1 = .int .i64 a0 ∧ Aside0 (couple_way_all_by_couple_part.l0 kq l1 l2 v0 p0 (l1.length : Int) a0 g0 = some (r1, r2, r3)) ∧ Aside0 (kq ≤ k) ∧ Aside0 (Kd.R (Kd.int .i64) 2 w' w.heap.size (fun k_ => some k_ ≠ (T0 : Value).ownBlock) v9 v0) ∧ Aside0 (Kd.R (Kd.int .i64) 2 w' w.heap.size (fun k_ => some k_ ≠ (v9 : Value).ownBlock) T0 p0) ∧ Aside0 (w'.heap[j0]? = some (.cells #[.int .i64 g0, .func (.func 93) #[] #[]] 101 (0, 0))) ∧ Aside0 (Below w.heap.size w w'))
 case atStart => exact ⟨(([] : List Int)), (([] : List Int)), (0), rs_, H', ⟨Nat.le_refl _⟩, ⟨kn_⟩, ⟨kn_⟩, ⟨bk_ b0⟩, ⟨bl_ HB⟩⟩
 case round => (
 clear H'
 try clear c4
 try clear F0
 try clear G0
 try clear H0
 obtain ⟨v0, p0, a0, rfl, HA, U0, f0, c0, b0, HB⟩ := hrel
 cases gk with
 | zero => exact absurd HA.out (by simp [couple_way_all_by_couple_part.l0])
 | succ k1 => (
 have H := HA.out
 clear HA
 simp only [couple_way_all_by_couple_part.l0] at H
 replace H := id_ H
 rcases H with ⟨Y0, H⟩ | ⟨Y0, H⟩
 {
 replace H := gd_ H
 obtain ⟨f1, H⟩ := H
 replace H := gd_ H
 obtain ⟨h1, H⟩ := H
 replace H := gd_ H
 obtain ⟨i1, H⟩ := H
 obtain ⟨⟨y0, z0, I0⟩, V0, H⟩ := ob_ H
 (try dsimp only at H)
 replace H := ie_ H
 rcases H with ⟨K0, L0, H⟩ | ⟨o1, K0, L0, H⟩
 {
 replace H := gt_ H
 obtain ⟨W0, H⟩ := H
 have M0 := a_ W0
 clear W0
 obtain ⟨Z0, q0⟩ : ∃ y_ : List Int, y_ = (v0 ++ [y0]) := ⟨_, rfl⟩
 first | replace H := by_ H q0 | rw [← q0] at H
 have N0 := a_ q0
 clear q0
 replace H := gt_ H
 obtain ⟨X0, H⟩ := H
 have O0 := a_ X0
 clear X0
 obtain ⟨a1, r0⟩ : ∃ y_ : List Int, y_ = (p0 ++ [z0]) := ⟨_, rfl⟩
 first | replace H := by_ H r0 | rw [← r0] at H
 have P0 := a_ r0
 clear r0
 have H' := a_ H
 clear H
 try go_wp2
 replace f0 := a_ (Kd.R_drew f0.out)
 replace c0 := a_ (Kd.R_drew c0.out)
 replace b0 := a_ (blk_drew b0.out)
 replace HB := a_ (below_drew1 HB.out)
 have k0 : 0 ≤ (a0 : Int) := dm_
 have m0 : a0 < (l1.length : Int) := dm_
 obtain ⟨B0, D0, d0⟩ := Kd.at_int R0.out a0 k0 m0
 have h0 := d0
 cases D0
 replace d0 := hc_ HB d0
 replace k0 := eq_true k0
 replace m0 := eq_true m0
 have n0 : 0 ≤ (a0 : Int) := dm_
 have o0 : a0 < (l2.length : Int) := dm_
 obtain ⟨C0, E0, e0⟩ := Kd.at_int S0.out a0 n0 o0
 have i0 := e0
 cases E0
 replace e0 := hc_ HB e0
 replace n0 := eq_true n0
 replace o0 := eq_true o0
 refine start_ (n := 17) (S := fun w' => w'.cell? ⟨j0, 0, none⟩ = some (.int .i64 g0) ∧ w'.cell? ⟨j0, 1, none⟩ = some (.func (.func 93) #[] #[]) ∧ w'.cell? (B0.add (a0).toNat) = some (.int .i64 (rd l1 a0)) ∧ w'.cell? (C0.add (a0).toNat) = some (.int .i64 (rd l2 a0))) (ds := []) (B_ 17 0) kf_ rfl rfl ⟨ce_ b0 0, ce_ b0 1, (hc_ HB h0), (hc_ HB i0)⟩ (fun hHeld => ?_); refine with_tabW couple_way_all_by_couple_part.tab7 couple_way_all_by_couple_part.bits7 (fun HT_ HW_ => ?_)
 generalize wr.drew = p1 at f0 c0 b0 HB d0 e0 hHeld ⊢
 refine pu_ 1 (some 27) (B_ 17 2) HT_ ?_
 refine pu_ 2 (some 28) (B_ 17 6) HT_ ?_
 refine pu_ 3 (some 29) (B_ 17 14) HT_ ?_
 refine pu_ 5 (some 31) (B_ 17 46) HT_ ?_
 refine pu_ 6 (some 32) (B_ 17 110) HT_ ?_
 refine pu_ 7 (some 33) (B_ 17 238) HT_ ?_
 refine take_ (i := 0) (N := some 26) (v := ?_) (a' := ?_) (B_ 17 239) rfl rfl (take_ofW HT_.out HW_.out kf_) (fun _ _ _ h => h) (Or.inl ⟨by rfl, ?_⟩) hHeld ?_ ?_
 rotate_left
 {
 rintro w' ⟨s0, s1, s2, s3⟩
 go_simp
 with_reducible rfl}
 rotate_left
 {
 exact sp_}
 refine take_ (i := 4) (N := some 30) (v := ?_) (a' := ?_) (B_ 17 255) rfl rfl (take_ofW HT_.out HW_.out kf_) (fun _ _ _ h => h) (Or.inl ⟨by rfl, ?_⟩) hHeld ?_ ?_
 rotate_left
 {
 rintro w' ⟨s0, s1, s2, s3⟩
 go_simp
 with_reducible rfl}
 rotate_left
 {
 exact sp_}
 refine take_ (i := 8) (N := some 34) (v := ?_) (a' := ?_) (B_ 17 511) rfl rfl (take_ofW HT_.out HW_.out kf_) (fun _ _ _ h => h) (Or.inl ⟨by rfl, ?_⟩) hHeld ?_ ?_
 rotate_left
 {
 rintro w' ⟨s0, s1, s2, s3⟩
 go_simp
 with_reducible rfl}
 rotate_left
 {
 exact sp_}
 refine one_ (i := 9) (N := some 35) (B_ 17 1023) rfl rfl (one_of HT_.out kf_) (by decide) (fun K hK => ?_)
 refine goes_ Try.func94 kf_ rfl #[.agg #[.int .i64 g0, .func (.func 93) #[] #[]], .int .i64 (rd l1 a0), .int .i64 (rd l2 a0)] (by rfl) rfl rfl ar_ ?_
 with_reducible refine (couple_way_one_by_couple_part.calls k1 g0 (rd l1 a0) (rd l2 a0) y0 z0 I0 _ V0.out).mono ?_
 rintro e q1 ⟨rfl, hb⟩
 refine ⟨_, rfl, ?_⟩
 replace f0 := FR_ f0 hb
 replace c0 := FR_ c0 hb
 replace b0 := FB_ b0 hb
 replace HB := BS_ HB hb
 (try clear hb)
 refine hK.out _ _ ⟨ce_ b0 0, ce_ b0 1, (hc_ HB h0), (hc_ HB i0)⟩ (fun hHeld => ?_)
 clear hK K
 refine norm_ (a' := ?_) ?_ ?_
 rotate_left
 {
 show Act.put _ (some 35) _ = _
 exact sp_}
 refine pu_ 10 (some 25) (B_ 17 2047) HT_ ?_
 refine pu_ 11 (some 36) (B_ 17 4095) HT_ ?_
 refine pu_ 12 (some 37) (B_ 17 8191) HT_ ?_
 refine pu_ 13 (some 38) (B_ 17 16383) HT_ ?_
 refine pu_ 14 (some 12) (B_ 17 32767) HT_ ?_
 refine pu_ 15 (some 13) (B_ 17 65535) HT_ ?_
 refine pu_ 16 (some 14) (B_ 17 131071) HT_ ?_
 refine done_ (done_of HT_.out kf_) ?_
 try go_wp2_with (first | ((with_reducible refine gate_builtin (b := .append) (xs := #[.tmp 42, .tmp 44]) rfl ?_); at_builtin; refine Kd.R_append (Kd.int .i64) (w0 := w) w.heap.size rfl (.tmp 42) (.tmp 44) 53 2 (.int .i64 0) 8 rfl Try.underlying53 info2 rfl (by decide) (by omega) u9 v0 y0 [.int .i64 y0] (fun k_ => some k_ ≠ (u10 : Value).ownBlock) (fun _ => False) rfl rfl ?aP (fun _ hk => hk.elim) ?aF ?aO ?aB ?aS ?aL ?_; (case aP => exact rfl); (case aB => exact (bl_ HB)); (case aF => exact (fun k_ hk => Kd.fresh' (Kd.R_lt (kR_ c0)) k_ hk)); (case aO => exact (kR_ f0)); (case aS => exact (bs_ HB)); (case aL => have := M0.out; omega); intro b1 t1 ho hb hg hat; rw [← N0.out] at ho; replace c0 := a_ (Kd.R_after (ok := (fun _ => True)) (by (with_reducible repeat (first | apply Kd.R_alloc | apply Kd.R_drewN | apply Kd.R_drew)); exact Kd.R_mono c0.out (fun _ hk => ⟨trivial, hk⟩)) hg hat); replace b0 := (FG_ b0 hg (Kd.R_ne f0.out b0.out (by decide))); replace HB := a_ (hb); have t0 := a_ (ho); clear f0; clear ho hb hg hat) | ((with_reducible refine gate_builtin (b := .append) (xs := #[.tmp 46, .tmp 48]) rfl ?_); at_builtin; refine Kd.R_append (Kd.int .i64) (w0 := w) w.heap.size rfl (.tmp 46) (.tmp 48) 53 2 (.int .i64 0) 8 rfl Try.underlying53 info2 rfl (by decide) (by omega) u10 p0 z0 [.int .i64 z0] (fun k_ => some k_ ≠ (b1 : Value).ownBlock) (fun _ => False) rfl rfl ?aP (fun _ hk => hk.elim) ?aF ?aO ?aB ?aS ?aL ?_; (case aP => exact rfl); (case aB => exact (bl_ HB)); (case aF => exact (fun k_ hk => Kd.fresh' (Kd.R_lt (kR_ t0)) k_ hk)); (case aO => exact (by (with_reducible repeat (first | apply Kd.R_alloc | apply Kd.R_drewN | apply Kd.R_drew)); exact Kd.R_mono c0.out (fun _ hk => hk.2))); (case aS => exact (bs_ HB)); (case aL => have := O0.out; omega); intro j1 v1 ho hb hg hat; rw [← P0.out] at ho; replace b0 := (FG_ b0 hg (Kd.R_ne c0.out b0.out (by decide))); replace t0 := a_ (Kd.R_after (ok := (fun _ => True)) (by (with_reducible repeat (first | apply Kd.R_alloc | apply Kd.R_drewN | apply Kd.R_drew)); exact Kd.R_mono t0.out (fun _ hk => ⟨trivial, hk⟩)) hg hat); replace HB := a_ (hb); have Q0 := a_ (ho); clear c0; clear ho hb hg hat))
 go_roundg k1
 case measure => have := U0.out; omega
 case rel => exact ⟨(Z0), (a1), (wrap64 (a0 + 1)), rs_, H', ⟨by have := U0.out; omega⟩, ⟨by (with_reducible repeat (first | apply Kd.R_alloc | apply Kd.R_drewN | apply Kd.R_drew)); exact Kd.R_mono t0.out (fun _ hk => hk.2)⟩, ⟨kR_ Q0⟩, ⟨bk_ b0⟩, ⟨bl_ HB⟩⟩}
 {
 simp only [Option.some.injEq, Prod.mk.injEq] at H
 obtain ⟨rfl, rfl, rfl⟩ := H
 try go_wp2
 replace f0 := a_ (Kd.R_drew f0.out)
 replace c0 := a_ (Kd.R_drew c0.out)
 replace b0 := a_ (blk_drew b0.out)
 replace HB := a_ (below_drew1 HB.out)
 have k0 : 0 ≤ (a0 : Int) := dm_
 have m0 : a0 < (l1.length : Int) := dm_
 obtain ⟨B0, D0, d0⟩ := Kd.at_int R0.out a0 k0 m0
 have h0 := d0
 cases D0
 replace d0 := hc_ HB d0
 replace k0 := eq_true k0
 replace m0 := eq_true m0
 have n0 : 0 ≤ (a0 : Int) := dm_
 have o0 : a0 < (l2.length : Int) := dm_
 obtain ⟨C0, E0, e0⟩ := Kd.at_int S0.out a0 n0 o0
 have i0 := e0
 cases E0
 replace e0 := hc_ HB e0
 replace n0 := eq_true n0
 replace o0 := eq_true o0
 refine start_ (n := 17) (S := fun w' => w'.cell? ⟨j0, 0, none⟩ = some (.int .i64 g0) ∧ w'.cell? ⟨j0, 1, none⟩ = some (.func (.func 93) #[] #[]) ∧ w'.cell? (B0.add (a0).toNat) = some (.int .i64 (rd l1 a0)) ∧ w'.cell? (C0.add (a0).toNat) = some (.int .i64 (rd l2 a0))) (ds := []) (B_ 17 0) kf_ rfl rfl ⟨ce_ b0 0, ce_ b0 1, (hc_ HB h0), (hc_ HB i0)⟩ (fun hHeld => ?_); refine with_tabW couple_way_all_by_couple_part.tab7 couple_way_all_by_couple_part.bits7 (fun HT_ HW_ => ?_)
 generalize wr.drew = y1 at f0 c0 b0 HB d0 e0 hHeld ⊢
 refine pu_ 1 (some 27) (B_ 17 2) HT_ ?_
 refine pu_ 2 (some 28) (B_ 17 6) HT_ ?_
 refine pu_ 3 (some 29) (B_ 17 14) HT_ ?_
 refine pu_ 5 (some 31) (B_ 17 46) HT_ ?_
 refine pu_ 6 (some 32) (B_ 17 110) HT_ ?_
 refine pu_ 7 (some 33) (B_ 17 238) HT_ ?_
 refine take_ (i := 0) (N := some 26) (v := ?_) (a' := ?_) (B_ 17 239) rfl rfl (take_ofW HT_.out HW_.out kf_) (fun _ _ _ h => h) (Or.inl ⟨by rfl, ?_⟩) hHeld ?_ ?_
 rotate_left
 {
 rintro w' ⟨s0, s1, s2, s3⟩
 go_simp
 with_reducible rfl}
 rotate_left
 {
 exact sp_}
 refine take_ (i := 4) (N := some 30) (v := ?_) (a' := ?_) (B_ 17 255) rfl rfl (take_ofW HT_.out HW_.out kf_) (fun _ _ _ h => h) (Or.inl ⟨by rfl, ?_⟩) hHeld ?_ ?_
 rotate_left
 {
 rintro w' ⟨s0, s1, s2, s3⟩
 go_simp
 with_reducible rfl}
 rotate_left
 {
 exact sp_}
 refine take_ (i := 8) (N := some 34) (v := ?_) (a' := ?_) (B_ 17 511) rfl rfl (take_ofW HT_.out HW_.out kf_) (fun _ _ _ h => h) (Or.inl ⟨by rfl, ?_⟩) hHeld ?_ ?_
 rotate_left
 {
 rintro w' ⟨s0, s1, s2, s3⟩
 go_simp
 with_reducible rfl}
 rotate_left
 {
 exact sp_}
 refine one_ (i := 9) (N := some 35) (B_ 17 1023) rfl rfl (one_of HT_.out kf_) (by decide) (fun K hK => ?_)
 refine goes_ Try.func94 kf_ rfl #[.agg #[.int .i64 g0, .func (.func 93) #[] #[]], .int .i64 (rd l1 a0), .int .i64 (rd l2 a0)] (by rfl) rfl rfl ar_ ?_
 with_reducible refine (couple_way_one_by_couple_part.calls k1 g0 (rd l1 a0) (rd l2 a0) y0 z0 I0 _ V0.out).mono ?_
 rintro e z1 ⟨rfl, hb⟩
 refine ⟨_, rfl, ?_⟩
 replace f0 := FR_ f0 hb
 replace c0 := FR_ c0 hb
 replace b0 := FB_ b0 hb
 replace HB := BS_ HB hb
 (try clear hb)
 refine hK.out _ _ ⟨ce_ b0 0, ce_ b0 1, (hc_ HB h0), (hc_ HB i0)⟩ (fun hHeld => ?_)
 clear hK K
 refine norm_ (a' := ?_) ?_ ?_
 rotate_left
 {
 show Act.put _ (some 35) _ = _
 exact sp_}
 refine pu_ 10 (some 25) (B_ 17 2047) HT_ ?_
 refine pu_ 11 (some 36) (B_ 17 4095) HT_ ?_
 refine pu_ 12 (some 37) (B_ 17 8191) HT_ ?_
 refine pu_ 13 (some 38) (B_ 17 16383) HT_ ?_
 refine pu_ 14 (some 12) (B_ 17 32767) HT_ ?_
 refine pu_ 15 (some 13) (B_ 17 65535) HT_ ?_
 refine pu_ 16 (some 14) (B_ 17 131071) HT_ ?_
 refine done_ (done_of HT_.out kf_) ?_
 try go_wp2
 go_ret3
 exact ⟨_, _, er_, kn_, kn_, bl_ HB⟩}}
 {
 simp only [Option.some.injEq, Prod.mk.injEq] at H
 obtain ⟨rfl, rfl, rfl⟩ := H
 go_wp2
 go_ret3
 exact ⟨_, _, er_, kR_ f0, kR_ c0, bl_ HB⟩}))}
 {
 have F0 : ((l1.length : Int) == (l2.length : Int)) = false := beq_eq_false_iff_ne.mpr c4
 have G0 : ((l1.length : Int) != (l2.length : Int)) = true := bne_iff_ne.mpr c4
 have H0 : (l1.length == l2.length) = false := by first | simpa using c4 | (simp at c4 ⊢; omega)
 simp only [Option.some.injEq, Prod.mk.injEq] at H
 obtain ⟨rfl, rfl, rfl⟩ := H
 go_enter Try.func67, Try.ntmps67
 go_wp2_with (first | ((with_reducible refine gate_dst (N := 3) rfl ?_); refine bx_ HB 3 #[.int .i64 g0, .func (.func 93) #[] #[]] 101 ?_; clear HB; intro j0 hg B1 hb b0 A0 HB; have J0 := A0; clear hb hg))
 go_ret3
 exact ⟨_, _, er_, kn_, kn_, bl_ HB⟩}
def couple_PartAll.f (k : Nat) (l0 : List Int) (l1 : List Int) : Option (List Int × List Int × Int) := (couple_parting.f).bind fun b0 => ((couple_way_all_by_couple_part.f k b0 l0 l1).bind fun a0 => (some (a0.1, a0.2.1, a0.2.2)))
theorem couple_PartAll.mono : ∀ a0 a1 k, LeO (couple_PartAll.f k a0 a1) (couple_PartAll.f (k + 1) a0 a1) := by
  intro a0 a1 k
  unfold couple_PartAll.f
  with_reducible repeat' first
   | exact couple_way_all_by_couple_part.mono _ _ _ _
   | exact LeO.refl _
   | exact LeO.none _
   | refine LeO.ite ?_ ?_
   | refine LeO.bind ?_ (fun _ => ?_)
set_option maxHeartbeats 8000000 in
set_option maxRecDepth 100000 in
theorem couple_PartAll.calls (k : Nat) (A0 : Option Addr) (c0 : Nat) (l0 : List Int) (A1 : Option Addr) (c1 : Nat) (l1 : List Int) (r1 : List Int) (r2 : List Int) (r3 : Int) (w : World) (hr0 : Kd.C (Kd.int .i64) w A0 l0.length l0) (hc0 : l0.length ≤ c0) (hr1 : Kd.C (Kd.int .i64) w A1 l1.length l1) (hc1 : l1.length ≤ c1) (h : couple_PartAll.f k l0 l1 = some (r1, r2, r3)) :
    Calls Try.prog 33 #[.slice A0 l0.length c0, .slice A1 l1.length c1] w fun e w' => ∃ v0_ v1_ : Value, e = .returned (.tuple #[v0_, v1_, .int .i64 r3]) ∧ Kd.R (Kd.int .i64) 2 w' w.heap.size (fun k_ => some k_ ≠ (v1_ : Value).ownBlock) v0_ r1 ∧ Kd.R (Kd.int .i64) 2 w' w.heap.size (fun k_ => some k_ ≠ (v0_ : Value).ownBlock) v1_ r2 ∧ Below w.heap.size w w' := by
 have k0 := a_ hr0
 have m0 := a_ hc0
 clear hr0 hc0
 have n0 := a_ hr1
 have o0 := a_ hc1
 clear hr1 hc1
 have HB := a_ (Below.refl w.heap.size w)
 have H : ((couple_parting.f).bind fun a0 => ((couple_way_all_by_couple_part.f k a0 l0 l1).bind fun b0 => (some (b0.1, b0.2.1, b0.2.2)))) = some (r1, r2, r3) := h
 clear h
 obtain ⟨a0, A3, H⟩ := ob_ H
 (try dsimp only at H)
 obtain ⟨⟨h0, i0, j0⟩, A4, H⟩ := ob_ H
 (try dsimp only at H)
 simp only [Option.some.injEq, Prod.mk.injEq] at H
 obtain ⟨rfl, rfl, rfl⟩ := H
 go_enter Try.func33, Try.ntmps33
 go_wp2_with (first | ((with_reducible refine gate_callee (f := 66) rfl ?_); refine gL_ (some 7) Try.func66 #[] ?_; (with_reducible refine (couple_parting.calls  a0 _ A3.out).mono ?_); rintro e w5 ⟨rfl, hb⟩; refine ⟨_, rfl, ?_⟩; replace HB := BS_ HB hb; (try clear hb)) | ((with_reducible refine gate_callee (f := 67) rfl ?_); refine gL_ (some 10) Try.func67 #[.agg #[.int .i64 a0, .func (.func 93) #[] #[]], .slice A0 l0.length c0, .slice A1 l1.length c1] ?_; (with_reducible refine (couple_way_all_by_couple_part.calls k a0 _ _ l0 _ _ l1 h0 i0 j0 _ ?side1 ?side2 ?side3 ?side4 A4.out).mono ?_); (case side1 => exact kC_ k0 HB); (case side2 => exact m0.out); (case side3 => exact kC_ n0 HB); (case side4 => exact o0.out); rintro e w6 ⟨p0, q0, rfl, f0, g0, hb⟩; refine ⟨_, rfl, ?_⟩; have d0 := a_ (Kd.R_lower f0 (bs_ HB)); have e0 := a_ (Kd.R_lower g0 (bs_ HB)); replace HB := BS_ HB hb; (try clear hb); (try clear f0); (try clear g0)))
 go_ret3
 exact ⟨_, _, er_, kR_ d0, kR_ e0, bl_ HB⟩
def floor_At.f (a0 : Int) : Option (Int) := some (if a0 = 0 then 0 else if a0 = 1 then 1 else if a0 = 2 then 2 else if a0 = 3 then 4 else if a0 = 4 then 8 else if a0 = 5 then 15 else -1)
set_option maxHeartbeats 4000000 in
set_option maxRecDepth 100000 in
theorem floor_At.low (a0 : Int) (w : World) (h : a0 < 0) : Calls Try.prog 95 #[.int .i64 a0] w fun e w' => e = .returned (.int .i64 (-1)) ∧ Below w.heap.size w w' := by
  go_enter Try.func95, Try.ntmps95
  go_wp2
  go_ret
  exact ⟨rfl, by repeat (first | exact Below.refl _ _ | apply below_alloc | apply pw_below_drewN | apply below_drew1)⟩
set_option maxHeartbeats 4000000 in
set_option maxRecDepth 100000 in
theorem floor_At.high (a0 : Int) (w : World) (h : 6 ≤ a0) : Calls Try.prog 95 #[.int .i64 a0] w fun e w' => e = .returned (.int .i64 (-1)) ∧ Below w.heap.size w w' := by
  have h0 : ¬ a0 < 0 := by omega
  go_enter Try.func95, Try.ntmps95
  go_wp2
  go_ret
  exact ⟨rfl, by repeat (first | exact Below.refl _ _ | apply below_alloc | apply pw_below_drewN | apply below_drew1)⟩
set_option maxHeartbeats 4000000 in
set_option maxRecDepth 100000 in
theorem floor_At.mid (a0 r : Int) (w : World) (h : (a0 = 0 ∧ r = 0) ∨ (a0 = 1 ∧ r = 1) ∨ (a0 = 2 ∧ r = 2) ∨ (a0 = 3 ∧ r = 4) ∨ (a0 = 4 ∧ r = 8) ∨ (a0 = 5 ∧ r = 15)) : Calls Try.prog 95 #[.int .i64 a0] w fun e w' => e = .returned (.int .i64 r) ∧ Below w.heap.size w w' := by
  rcases h with ⟨rfl, rfl⟩ | ⟨rfl, rfl⟩ | ⟨rfl, rfl⟩ | ⟨rfl, rfl⟩ | ⟨rfl, rfl⟩ | ⟨rfl, rfl⟩
  all_goals
    go_enter Try.func95, Try.ntmps95
    go_wp2
    (try simp only [Exit.inBlock, Exit.then])
    refine bodyPost_ret (v := .agg #[.int .i64 0, .int .i64 1, .int .i64 2, .int .i64 4, .int .i64 8, .int .i64 15]) ?_ rfl ?_
    · exact results_cell_row rfl _ _ w.heap.size 139 _ (0, 0) _ (by rfl) (heap_alloc_new w _) Try.underlying139 rfl (by rfl)
    simp only []
    go_at_K
    go_wp2
    go_ret
    exact ⟨rfl, by repeat (first | exact Below.refl _ _ | apply below_alloc | apply pw_below_drewN | apply below_drew1)⟩
theorem floor_At.calls (a0 : Int) (r : Int) (w : World) (h : floor_At.f a0 = some r) : Calls Try.prog 95 #[.int .i64 a0] w fun e w' => e = .returned (.int .i64 r) ∧ Below w.heap.size w w' := by
 have e := Option.some.inj h
 by_cases h0 : a0 < 0
 {
 obtain rfl : r = -1 := by rw [← e]; repeat (rw [if_neg (by omega)])
 exact floor_At.low a0 w h0}
 by_cases h6 : 6 ≤ a0
 {
 obtain rfl : r = -1 := by rw [← e]; repeat (rw [if_neg (by omega)])
 exact floor_At.high a0 w h6}
 refine floor_At.mid a0 r w ?_
 have : a0 = 0 ∨ a0 = 1 ∨ a0 = 2 ∨ a0 = 3 ∨ a0 = 4 ∨ a0 = 5 := by omega
 rcases this with h | h | h | h | h | h <;> subst h <;> simp at e <;> omega
end Go.Proofs.Ytdajlfijkbafiaa.P
