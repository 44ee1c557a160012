/- Walks and what they compute, shared by the laws of this chapter. -/
import Derived.Test.YtpdfdaoohknfoaaProg
import Derived.Below
import Derived.Deep.Draws
import Derived.Deep.AppendLies
import Derived.Maps.AppendAt
import Derived.OwnWalk
import Derived.Laws.BytesArg
import Derived.Laws.MakeOwn
import Derived.Laws.OwnMore
import Derived.Deep.OwnRows
import Derived.Tactics
import Derived.Lib.ConvBytes
import Derived.Laws.Slices
import Derived.WalkKit
import Derived.KernelRfl
import Derived.RowKit3
import Derived.Deep.LoopGhost
import Derived.Deep.QuietTactic
import Derived.BigQuiet
import Derived.WideLaws
import Derived.Deep.DeepCutAuto
import Derived.Deep.CutBlock
import Derived.Deep.RegionHeld3
import Derived.Laws.Rows
import Derived.Lib.AppendStr
import Derived.ArgAppend
import Derived.Laws.IdiomCopy
import Derived.OrdersHeld
import Derived.Laws.BitsLemmas
import Derived.RowKit
import Derived.Test.YtpdfdaoohknfoaaWMore0
import Derived.Test.YtpdfdaoohknfoaaWMore1
namespace Go.Proofs.Ytpdfdaoohknfoaa.P
open Go.RowKit Go.Proofs.YtpdfdaoohknfoaaW.PrintWords Go.Proofs.YtpdfdaoohknfoaaW.PrintLast Go.Proofs.YtpdfdaoohknfoaaW.PrintMore
attribute [local go_sem] max2_int min2_int max_two min_two max_three min_three max_four min_four   -- for this text's walks alone
set_option linter.unusedVariables false
set_option linter.unusedSimpArgs false



def errW : Option Int → Value
  | none => .nilIface
  | some c => .iface 0 (.int .i64 c)
theorem errW_none : errW none = .nilIface := rfl
theorem errW_some (c : Int) : errW (some c) = .iface 0 (.int .i64 c) := rfl

theorem info2 : (Try.prog.info? 2).map (fun i => (i.zero, i.size, i.bytes)) = some (some (.int .i64 0), 1, 8) := by kernel_rfl
theorem info3 : (Try.prog.info? 3).map (fun i => (i.zero, i.size, i.bytes)) = some (some (.int .i64 0), 1, 8) := by kernel_rfl
theorem info5 : (Try.prog.info? 5).map (fun i => (i.zero, i.size, i.bytes)) = some (some (.int .u8 0), 1, 1) := by kernel_rfl
theorem info22 : (Try.prog.info? 22).map (fun i => (i.zero, i.size, i.bytes)) = some (some (.slice none 0 0), 1, 24) := by kernel_rfl
theorem info84 : (Try.prog.info? 84).map (fun i => (i.zero, i.size, i.bytes)) = some (some (.slice none 0 0), 1, 24) := by kernel_rfl
theorem info116 : (Try.prog.info? 116).map (fun i => (i.zero, i.size, i.bytes)) = some (some (.int .u32 0), 1, 4) := by kernel_rfl
def rd_L1 (xs : List (List Int)) (i : Int) : (List Int) := xs.getD i.toNat ([] : List Int)
theorem at_L1 {w : World} {A : Option Addr} {n : Nat} {xs : List (List Int)} (h : Kd.C (Kd.slice 3 (Kd.int .i64)) w A n xs) (i : Int) (h0 : 0 ≤ i) (h1 : i < n) : ∃ ad A0 c0, A = some ad ∧ w.cell? (ad.add i.toNat) = some (.slice A0 (rd_L1 xs i).length c0) ∧ (rd_L1 xs i).length ≤ c0 ∧ (Kd.int .i64).C w A0 (rd_L1 xs i).length (rd_L1 xs i) := by
  obtain ⟨ad, c, e, _, hK, hc0⟩ := Kd.C_get h ([] : List Int) i h0 h1
  have hc : ∀ j u, c[j]? = some u → w.cell? (ad.add (i.toNat * 1 + j)) = some u := hc0
  obtain ⟨A0, c0, rfl, l0, g0⟩ := hK
  exact ⟨ad, A0, c0, e, by have hq := hc 0 _ rfl; rwa [Nat.mul_one, Nat.add_zero] at hq, l0, g0⟩

def rd_L5 (xs : List (List Int)) (i : Int) : (List Int) := xs.getD i.toNat ([] : List Int)
theorem at_L5 {w : World} {A : Option Addr} {n : Nat} {xs : List (List Int)} (h : Kd.C (Kd.slice 2 (Kd.int .i64)) w A n xs) (i : Int) (h0 : 0 ≤ i) (h1 : i < n) : ∃ ad A0 c0, A = some ad ∧ w.cell? (ad.add i.toNat) = some (.slice A0 (rd_L5 xs i).length c0) ∧ (rd_L5 xs i).length ≤ c0 ∧ (Kd.int .i64).C w A0 (rd_L5 xs i).length (rd_L5 xs i) := by
  obtain ⟨ad, c, e, _, hK, hc0⟩ := Kd.C_get h ([] : List Int) i h0 h1
  have hc : ∀ j u, c[j]? = some u → w.cell? (ad.add (i.toNat * 1 + j)) = some u := hc0
  obtain ⟨A0, c0, rfl, l0, g0⟩ := hK
  exact ⟨ad, A0, c0, e, by have hq := hc 0 _ rfl; rwa [Nat.mul_one, Nat.add_zero] at hq, l0, g0⟩

end Go.Proofs.Ytpdfdaoohknfoaa.P
namespace Go.Proofs.Ytpdfdaoohknfoaa.P
open Go.RowKit Go.Proofs.YtpdfdaoohknfoaaW.PrintWords Go.Proofs.YtpdfdaoohknfoaaW.PrintLast Go.Proofs.YtpdfdaoohknfoaaW.PrintMore
theorem bset_ {w W : World} {g j : Nat} {v : Value} (h : Below w.heap.size w W) (hg : Aside0 (w.heap.size ≤ g)) : Below w.heap.size w (W.setCell ⟨g, j, none⟩ v) := below_set h hg.out
theorem bfar_ {w : World} {g q j : Nat} {t : TypeId} {cs : Array Value} {u : Value} (h : w.heap[g]? = some (.cells cs t (0, 0))) (hp : Aside0 (g ≠ q)) : (w.setCell ⟨q, j, none⟩ u).heap[g]? = some (.cells cs t (0, 0)) := blk_far h hp.out u
theorem bl_ {w V W : World} (H : Aside0 (Below w.heap.size w V)) (c : Below w.heap.size w V → Below w.heap.size w W := by intro h_; repeat (first | (with_reducible first | exact h_ | apply below_alloc | apply pw_below_drewN | apply below_drew1 | refine bset_ ?_ (by assumption)) | exact h_)) : Below w.heap.size w W := c H.out
theorem bs_ {w V W : World} (H : Aside0 (Below w.heap.size w V)) (c : Below w.heap.size w V → Below w.heap.size w W := by intro h_; repeat (first | (with_reducible first | exact h_ | apply below_alloc | apply pw_below_drewN | apply below_drew1 | refine bset_ ?_ (by assumption)) | exact h_)) : w.heap.size ≤ W.heap.size := below_size (c H.out)
theorem BS_ {w V W w1 : World} (H : Aside0 (Below w.heap.size w V)) (hb : Below W.heap.size W w1) (c : Below w.heap.size w V → Below w.heap.size w W := by intro h_; repeat (first | (with_reducible first | exact h_ | apply below_alloc | apply pw_below_drewN | apply below_drew1 | refine bset_ ?_ (by assumption)) | exact h_)) : Aside0 (Below w.heap.size w w1) := ⟨below_step (c H.out) hb⟩
theorem GE_ {w V W : World} {g : Nat} (H : Aside0 (Below w.heap.size w V)) (hg : g = W.heap.size) (c : Below w.heap.size w V → Below w.heap.size w W := by intro h_; repeat (first | (with_reducible first | exact h_ | apply below_alloc | apply pw_below_drewN | apply below_drew1 | refine bset_ ?_ (by assumption)) | exact h_)) : Aside0 (w.heap.size ≤ g) := ⟨hg ▸ below_size (c H.out)⟩
theorem bk_ {w W : World} {g : Nat} {o : Obj} (h : Aside0 (w.heap[g]? = some o)) (c : w.heap[g]? = some o → W.heap[g]? = some o := by intro h_; (with_reducible repeat (first | refine blk_drewN ?_ _ | refine blk_drew ?_ | refine blk_alloc ?_ _ | refine bfar_ ?_ (by assumption))); exact h_) : W.heap[g]? = some o := c h.out
theorem FB_ {w W w1 : World} {g : Nat} {o : Obj} (h : Aside0 (w.heap[g]? = some o)) (hb : Below W.heap.size W w1) (c : w.heap[g]? = some o → W.heap[g]? = some o := by intro h_; (with_reducible repeat (first | refine blk_drewN ?_ _ | refine blk_drew ?_ | refine blk_alloc ?_ _ | refine bfar_ ?_ (by assumption))); exact h_) : Aside0 (w1.heap[g]? = some o) := ⟨blk_below (c h.out) hb⟩
theorem FG_ {w W w1 : World} {g : Nat} {o : Obj} {row : Option Nat} (h : Aside0 (w.heap[g]? = some o)) (hg : W.grownBy w1 row) (hne : some g ≠ row) (c : w.heap[g]? = some o → W.heap[g]? = some o := by intro h_; (with_reducible repeat (first | refine blk_drewN ?_ _ | refine blk_drew ?_ | refine blk_alloc ?_ _ | refine bfar_ ?_ (by assumption))); exact h_) : Aside0 (w1.heap[g]? = some o) := ⟨blk_grown (c h.out) hg hne⟩
theorem kR_ {α : Type} {d : Kd α} {e base : Nat} {w W : World} {ok : Nat → Prop} {v : Value} {xs : List α} (h : Aside0 (Kd.R d e w base ok v xs)) (c : Kd.R d e w base ok v xs → Kd.R d e W base ok v xs := by intro h_; (with_reducible repeat (first | apply Kd.R_alloc | apply Kd.R_drewN | apply Kd.R_drew)); exact h_) : Kd.R d e W base ok v xs := c h.out
theorem FR_ {α : Type} {d : Kd α} {e base : Nat} {w W w1 : World} {ok : Nat → Prop} {v : Value} {xs : List α} (h : Aside0 (Kd.R d e w base ok v xs)) (hb : Below W.heap.size W w1) (c : Kd.R d e w base ok v xs → Kd.R d e W base ok v xs := by intro h_; (with_reducible repeat (first | apply Kd.R_alloc | apply Kd.R_drewN | apply Kd.R_drew)); exact h_) : Aside0 (Kd.R d e w1 base ok v xs) := ⟨Kd.R_below (c h.out) hb⟩
theorem kS_ {α : Type} {d : Kd α} {e base : Nat} {w W : World} {ok : Nat → Prop} {v : Value} {xs : List α} (h : Aside0 (Kd.S d e w base ok v xs)) (c : Kd.S d e w base ok v xs → Kd.S d e W base ok v xs := by intro h_; (with_reducible repeat (first | apply Kd.S_alloc | apply Kd.S_drewN | apply Kd.S_drew)); exact h_) : Kd.S d e W base ok v xs := c h.out
theorem FS_ {α : Type} {d : Kd α} {e base : Nat} {w W w1 : World} {ok : Nat → Prop} {v : Value} {xs : List α} (h : Aside0 (Kd.S d e w base ok v xs)) (hb : Below W.heap.size W w1) (c : Kd.S d e w base ok v xs → Kd.S d e W base ok v xs := by intro h_; (with_reducible repeat (first | apply Kd.S_alloc | apply Kd.S_drewN | apply Kd.S_drew)); exact h_) : Aside0 (Kd.S d e w1 base ok v xs) := ⟨Kd.S_below (c h.out) hb⟩
theorem kN_ {α : Type} {d : Kd α} {e base : Nat} {w W : World} {ok : Nat → Prop} {v : Value} {xs : List α} (h : Aside0 (Kd.N d e w base ok v xs)) (c : Kd.N d e w base ok v xs → Kd.N d e W base ok v xs := by intro h_; (with_reducible repeat (first | apply Kd.N_alloc | apply Kd.N_drewN | apply Kd.N_drew)); exact h_) : Kd.N d e W base ok v xs := c h.out
theorem FN_ {α : Type} {d : Kd α} {e base : Nat} {w W w1 : World} {ok : Nat → Prop} {v : Value} {xs : List α} (h : Aside0 (Kd.N d e w base ok v xs)) (hb : Below W.heap.size W w1) (c : Kd.N d e w base ok v xs → Kd.N d e W base ok v xs := by intro h_; (with_reducible repeat (first | apply Kd.N_alloc | apply Kd.N_drewN | apply Kd.N_drew)); exact h_) : Aside0 (Kd.N d e w1 base ok v xs) := ⟨Kd.N_below (c h.out) hb⟩
theorem kV_ {α : Type} {d : Kd α} {e base : Nat} {w W : World} {ok : Nat → Prop} {v : Value} {xs : List α} (h : Aside0 (Kd.V d e w base ok v xs)) (c : Kd.V d e w base ok v xs → Kd.V d e W base ok v xs := by intro h_; (with_reducible repeat (first | apply Kd.V_alloc | apply Kd.V_drewN | apply Kd.V_drew)); exact h_) : Kd.V d e W base ok v xs := c h.out
theorem FV_ {α : Type} {d : Kd α} {e base : Nat} {w W w1 : World} {ok : Nat → Prop} {v : Value} {xs : List α} (h : Aside0 (Kd.V d e w base ok v xs)) (hb : Below W.heap.size W w1) (c : Kd.V d e w base ok v xs → Kd.V d e W base ok v xs := by intro h_; (with_reducible repeat (first | apply Kd.V_alloc | apply Kd.V_drewN | apply Kd.V_drew)); exact h_) : Aside0 (Kd.V d e w1 base ok v xs) := ⟨Kd.V_below (c h.out) hb⟩
theorem kC_ {α : Type} {d : Kd α} {n : Nat} {A : Option Addr} {w V W : World} {xs : List α} (h : Aside0 (Kd.C d w A n xs)) (H : Aside0 (Below w.heap.size w V)) (c : Kd.C d V A n xs → Kd.C d W A n xs := by intro h_; repeat (first | exact h_ | (with_reducible refine Kd.C_alloc ?_ _) | (with_reducible refine Kd.C_drewN ?_ _) | (with_reducible refine Kd.C_drew ?_))) : Kd.C d W A n xs := c (Kd.C_below h.out H.out)
theorem kCt_ {α : Type} {d : Kd α} {n : Nat} {A : Option Addr} {V W : World} {xs : List α} (h : Kd.C d V A n xs) (c : Kd.C d V A n xs → Kd.C d W A n xs := by intro h_; repeat (first | exact h_ | (with_reducible refine Kd.C_alloc ?_ _) | (with_reducible refine Kd.C_drewN ?_ _) | (with_reducible refine Kd.C_drew ?_))) : Kd.C d W A n xs := c h
theorem kbs_ {w W : World} {g j : Nat} {u : Value} (h : KeepBut w W g none) : KeepBut w (W.setCell ⟨g, j, none⟩ u) g none := h.set_ j u
theorem kba_ {w W : World} {g : Nat} {o : Obj} (h : KeepBut w W g none) : KeepBut w (W.alloc o) g none := h.trans (KeepBut.of_below (below_alloc (Below.refl _ _) o) g none) (Or.inl rfl)
theorem kbd_ {w W : World} {g : Nat} (h : KeepBut w W g none) : KeepBut w W.drew g none := h.trans (KeepBut.of_below (below_drew1 (Below.refl _ _)) g none) (Or.inl rfl)
theorem kbn_ {w W : World} {g n : Nat} (h : KeepBut w W g none) : KeepBut w (W.drewN n) g none := h.trans (KeepBut.of_below (pw_below_drewN (Below.refl _ _) n) g none) (Or.inl rfl)
theorem kRk_ {α : Type} {d : Kd α} {e base g t : Nat} {w W : World} {ok : Nat → Prop} {v : Value} {xs : List α} {cells : Array Value} (h : Aside0 (Kd.R d e w base ok v xs)) (b : Aside0 (w.heap[g]? = some (.cells cells t (0, 0)))) (ht : ∀ q, q ∈ e :: d.E → q ≠ t := by decide) (c : KeepBut w W g none := by with_reducible repeat (first | exact KeepBut.refl _ _ _ | refine kbs_ ?_ | refine kba_ ?_ | refine kbd_ ?_ | refine kbn_ ?_)) : Kd.R d e W base ok v xs := Kd.R_mono (Kd.R_keep (Kd.R_types h.out b.out ht) c (fun _ hk => hk.2)) (fun _ hk => hk.1)
theorem kSk_ {α : Type} {d : Kd α} {e base g t : Nat} {w W : World} {ok : Nat → Prop} {v : Value} {xs : List α} {cells : Array Value} (h : Aside0 (Kd.S d e w base ok v xs)) (b : Aside0 (w.heap[g]? = some (.cells cells t (0, 0)))) (ht : ∀ q, q ∈ e :: d.E → q ≠ t := by decide) (c : KeepBut w W g none := by with_reducible repeat (first | exact KeepBut.refl _ _ _ | refine kbs_ ?_ | refine kba_ ?_ | refine kbd_ ?_ | refine kbn_ ?_)) : Kd.S d e W base ok v xs := Kd.S_mono (Kd.S_keep (Kd.S_types h.out b.out ht) c (fun _ hk => hk.2)) (fun _ hk => hk.1)
theorem bp_ {w W : World} {g : Nat} {o o2 : Obj} (h : Aside0 (w.heap[g]? = some o)) (c : w.heap[g]? = some o → W.heap[g]? = some o2 := by intro h_; (with_reducible repeat (first | refine blk_drewN ?_ _ | refine blk_drew ?_ | refine blk_alloc ?_ _ | refine bfar_ ?_ (by assumption) | (refine blk_put (cs := ?_) ?_ _ _ ?_; rotate_left))); exact h_; all_goals first | (simp only [List.setIfInBounds_toArray, List.set_cons_zero, List.set_cons_succ]; rfl) | (simp only [List.setIfInBounds_toArray, List.set_cons_zero, List.set_cons_succ]; done) | rfl) : W.heap[g]? = some o2 := c h.out
theorem ce_ {w : World} {g : Nat} {t : TypeId} {cs : Array Value} {v : Value} (h : Aside0 (w.heap[g]? = some (.cells cs t (0, 0)))) (i : Nat) (e : cs[i]? = some v := by exact rfl) : w.cell? ⟨g, i, none⟩ = some v := (blk_cell h.out i).trans e
def B_ (n m : Nat) : Array Bool := ((List.range n).map fun i => m.testBit i).toArray
theorem fr_ {n : Nat} {P : Nat → Prop} (h : ∀ k, n ≤ k → P k) : P n := h n (Nat.le_refl n)
theorem ol_ {p : Prop} (c : p := by first | omega | exact Nat.le_refl _) : p := c
theorem kn_ {p : Prop} (c : p := by first | exact Kd.S_nil _ _ _ _ _ | exact Kd.N_nil _ _ _ _ _ | exact Kd.V_nil _ _ _ _ _ | exact Kd.Q_nil _ _ _ _ _ | exact Kd.R_nil _ _ _ _ _) : p := c
theorem pa_ {p : Prop} (c : p := by simp only [putAll, Act.put, List.setIfInBounds_toArray, List.set_cons_zero, List.set_cons_succ]) : p := c
theorem ob_ {α β : Type} {x : Option α} {f : α → Option β} {b : β} (h : x.bind f = some b) : ∃ a, Aside0 (x = some a) ∧ f a = some b := by
  obtain ⟨a, e, k⟩ := Option.bind_eq_some_iff.mp h
  exact ⟨a, ⟨e⟩, k⟩
theorem e2_ {w : World} {g : Nat} {t : TypeId} {x0 x1 : Value} (h : Aside0 (w.heap[g]? = some (.cells #[x0, x1] t (0, 0)))) : w.cell? ⟨g, 0, none⟩ = some x0 ∧ w.cell? ⟨g, 1, none⟩ = some x1 ∧ w.frozen? ⟨g, 0, none⟩ = false ∧ w.frozen? ⟨g, 1, none⟩ = false := ⟨(blk_cell h.out 0).trans rfl, (blk_cell h.out 1).trans rfl, blk_frozen h.out 0, blk_frozen h.out 1⟩
theorem e4_ {w : World} {g : Nat} {t : TypeId} {x0 x1 x2 x3 : Value} (h : Aside0 (w.heap[g]? = some (.cells #[x0, x1, x2, x3] t (0, 0)))) : w.cell? ⟨g, 0, none⟩ = some x0 ∧ w.cell? ⟨g, 1, none⟩ = some x1 ∧ w.cell? ⟨g, 2, none⟩ = some x2 ∧ w.cell? ⟨g, 3, none⟩ = some x3 ∧ w.frozen? ⟨g, 0, none⟩ = false ∧ w.frozen? ⟨g, 1, none⟩ = false ∧ w.frozen? ⟨g, 2, none⟩ = false ∧ w.frozen? ⟨g, 3, none⟩ = false := ⟨(blk_cell h.out 0).trans rfl, (blk_cell h.out 1).trans rfl, (blk_cell h.out 2).trans rfl, (blk_cell h.out 3).trans rfl, blk_frozen h.out 0, blk_frozen h.out 1, blk_frozen h.out 2, blk_frozen h.out 3⟩
theorem NN_ {w W : World} {g g1 : Nat} {o : Obj} (h : Aside0 (w.heap[g]? = some o)) (hg : g1 = W.heap.size) (c : w.heap[g]? = some o → W.heap[g]? = some o := by intro h_; (with_reducible repeat (first | refine blk_drewN ?_ _ | refine blk_drew ?_ | refine blk_alloc ?_ _ | refine bfar_ ?_ (by assumption))); exact h_) : Aside0 (g ≠ g1) ∧ Aside0 (g1 ≠ g) := ⟨⟨hg ▸ Nat.ne_of_lt (blk_lt (c h.out))⟩, ⟨hg ▸ Nat.ne_of_gt (blk_lt (c h.out))⟩⟩
theorem NP_ {w W : World} {g g1 : Nat} {o : Obj} (o2e : Obj) (h : Aside0 (w.heap[g]? = some o)) (hg : g1 = W.heap.size) (c : w.heap[g]? = some o → W.heap[g]? = some o2e := by intro h_; (with_reducible repeat (first | refine blk_drewN ?_ _ | refine blk_drew ?_ | refine blk_alloc ?_ _ | refine bfar_ ?_ (by assumption) | (refine blk_put (cs := ?_) ?_ _ _ ?_; rotate_left))); exact h_; all_goals first | (simp only [List.setIfInBounds_toArray, List.set_cons_zero, List.set_cons_succ]; rfl) | (simp only [List.setIfInBounds_toArray, List.set_cons_zero, List.set_cons_succ]; done) | rfl) : Aside0 (g ≠ g1) ∧ Aside0 (g1 ≠ g) := ⟨⟨hg ▸ Nat.ne_of_lt (blk_lt (c h.out))⟩, ⟨hg ▸ Nat.ne_of_gt (blk_lt (c h.out))⟩⟩
theorem sp_ {p : Prop} (c : p := by simp only [Act.put, List.setIfInBounds_toArray, List.set_cons_zero, List.set_cons_succ, i64_w, i32_w]; rfl) : p := c
theorem ar_ {p : Prop} (c : p := by (try simp only [List.map_toArray, List.map_cons, List.map_nil]); first | done | rfl | (simp only [List.length_drop, List.length_take]; rfl)) : p := c
theorem kf_ {p : Prop} (c : p := by kernel_rfl) : p := c
theorem rs_ {p : Prop} (c : p := by first | rfl | (simp; done) | (simp [*]; done)) : p := c
theorem am_ {p : Prop} (c : p := by first | (with_reducible assumption) | assumption) : p := c
section
variable {P : Program} {md : Region.Mode} {ops : Array Oper} {Q : Exit → Act → World → Prop} {S : World → Prop} {ds : List Nat}
theorem pu_ {T : Bool × List (List Nat × List Nat)} {oi : Oper} {v : Value} {fuel : Nat} {l : Array Bool} {a a' : Act} {w : World} (i : Nat) (N : Option Tmp) (l' : Array Bool) (hT : Aside0 (rtab md ops = T)) (h : wpAnyLast P md ops Q S ds fuel l' a' w)
    (hi : ops[i]? = some oi := by exact rfl) (hN : oi.dst = N := by exact rfl) (hc : anyT T l.toList l'.toList i = true := by kernel_rfl) (hQ : ∀ c a w, Q (.panic c) (a.put oi.dst v) w → Q (.panic c) a w := by exact fun _ _ _ h => h)
    (hg : Region.wanted oi (yielded ops a.tmps) = true := by rfl) (hy : ∀ w', (execOp a.eval oi).run P w' = .ok (.value v) w' := by intro w'; go_simp; with_reducible rfl) (ha : a.put N v = a' := by simp only [Act.put, List.setIfInBounds_toArray, List.set_cons_zero, List.set_cons_succ, i64_w, i32_w]; rfl) : wpAnyLast P md ops Q S ds (fuel + 1) l a w :=
  pure_ l' hi hN (any_of hT.out hc) hQ (Or.inl ⟨hg, hy⟩) ha h
end
section
variable {P : Program} {ops : Array Oper} {Q : Exit → Act → World → Prop}
theorem gL_ {rest : List Oper} {oi : Oper} {a : Act} {w : World} (N : Option Tmp) {f : FuncId} {fn : Func} {ao : Array Operand} {ts : Array TypeId} (hf : P.funcs[f]? = some fn) (args : Array Value)
    (h : Calls P f args w fun e w' => ∃ v, e = .returned v ∧ wpList P ops Q rest (a.put N v) w')
    (hd : oi.dst = N := by exact rfl) (hg : oi.guard = none := by exact rfl) (hname : (fn.name == "runtime.NumGoroutine") = false := by kernel_rfl) (hb : fn.body.isSome = true := by exact rfl)
    (hop : oi.op = .call { callee := .value (.func f), args := ao, argTypes := ts } := by exact rfl) (hargs : ao.map a.eval = args := by (try simp only [List.map_toArray, List.map_cons, List.map_nil]); first | done | rfl | (simp only [List.length_drop, List.length_take]; rfl)) : wpList P ops Q (oi :: rest) a w :=
  goesL_ N hd hg hf hname hb args hop hargs h
theorem bx_ {rest : List Oper} {o : Oper} {a : Act} {w V W : World} (H : Aside0 (Below w.heap.size w V)) (N : Tmp) (cs : Array Value) (t : TypeId)
    (h : ∀ g, g = W.heap.size → ∀ w1, Below W.heap.size W w1 → Aside0 (w1.heap[g]? = some (.cells cs t (0, 0))) → Aside0 (w.heap.size ≤ g) → Aside0 (Below w.heap.size w w1) → wpList P ops Q rest (a.put o.dst (.pointer (some ⟨g, 0, none⟩))) w1)
    (hd : o.dst = some N := by exact rfl) (hgd : o.guard = none := by exact rfl)
    (hrun : (execOp a.eval o).run P W = .ok (.value (.pointer (some ⟨W.heap.size, 0, none⟩))) (W.alloc (.cells cs t (0, 0))) := by first | (go_simp; done) | (go_simp; rfl))
    (c : Below w.heap.size w V → Below w.heap.size w W := by intro h_; repeat (first | (with_reducible first | exact h_ | apply below_alloc | apply pw_below_drewN | apply below_drew1 | refine bset_ ?_ (by assumption)) | exact h_)) : wpList P ops Q (o :: rest) a W :=
  box_event hgd hd hrun fun g hg w1 hb hB => h g hg w1 hB ⟨hb⟩ ⟨hg ▸ below_size (c H.out)⟩ ⟨below_step (c H.out) hB⟩
theorem box_ {rest : List Oper} {o : Oper} {a : Act} {W : World} (N : Tmp) (cs : Array Value) (t : TypeId)
    (h : ∀ g, g = W.heap.size → ∀ w1, w1.heap[g]? = some (.cells cs t (0, 0)) → Below W.heap.size W w1 → wpList P ops Q rest (a.put o.dst (.pointer (some ⟨g, 0, none⟩))) w1)
    (hd : o.dst = some N := by exact rfl) (hgd : o.guard = none := by exact rfl)
    (hrun : (execOp a.eval o).run P W = .ok (.value (.pointer (some ⟨W.heap.size, 0, none⟩))) (W.alloc (.cells cs t (0, 0))) := by first | (go_simp; done) | (go_simp; rfl)) : wpList P ops Q (o :: rest) a W := box_event hgd hd hrun h
end
end Go.Proofs.Ytpdfdaoohknfoaa.P
namespace Go.Proofs.Ytpdfdaoohknfoaa.P
open Go.RowKit Go.Proofs.YtpdfdaoohknfoaaW.PrintWords Go.Proofs.YtpdfdaoohknfoaaW.PrintLast Go.Proofs.YtpdfdaoohknfoaaW.PrintMore
attribute [local go_sem] max2_int min2_int max_two min_two max_three min_three max_four min_four   -- for this text's walks alone
set_option linter.unusedVariables false
set_option linter.unusedSimpArgs false

def psalterylaw16_Great.f (a0_0 : Int) (a0_1 : Int) (l0_2 : List Int) (l0_3 : List Int) : Option (Bool) := if (l0_2.length : Int) > 200 then (some true) else (some (decide ((l0_3.length : Int) > 200)))
set_option maxHeartbeats 8000000 in
set_option maxRecDepth 100000 in
theorem psalterylaw16_Great.calls (a0_0 : Int) (a0_1 : Int) (A0_2 : Option Addr) (c0_2 : Nat) (l0_2 : List Int) (A0_3 : Option Addr) (c0_3 : Nat) (l0_3 : List Int) (r : Bool) (w : World) (hr0_2 : Kd.C (Kd.int .i64) w A0_2 l0_2.length l0_2) (hc0_2 : l0_2.length ≤ c0_2) (hr0_3 : Kd.C (Kd.int .i64) w A0_3 l0_3.length l0_3) (hc0_3 : l0_3.length ≤ c0_3) (h : psalterylaw16_Great.f a0_0 a0_1 l0_2 l0_3 = some r) :
    Calls Try.prog 15 #[.agg #[.int .i64 a0_0, .int .i64 a0_1, .slice A0_2 l0_2.length c0_2, .slice A0_3 l0_3.length c0_3]] w fun e w' => e = .returned (.bool r) ∧ Below w.heap.size w w' := by
 have hu24 := Try.underlying24
 have HR0_2 := Aside0.mk hr0_2
 have HC0_2 := Aside0.mk hc0_2
 clear hr0_2 hc0_2
 have HR0_3 := Aside0.mk hr0_3
 have HC0_3 := Aside0.mk hc0_3
 clear hr0_3 hc0_3
 have HB := Aside0.mk (Below.refl w.heap.size w)
 have H : (if (l0_2.length : Int) > 200 then (some true) else (some (decide ((l0_3.length : Int) > 200)))) = some r := h
 clear h
 by_cases c2 : (l0_2.length : Int) > 200
 {
 rw [if_pos c2] at H
 have c2b0 : decide (200 < (l0_2.length : Int)) = true := decide_eq_true c2
 have c2b1 : decide (200 < l0_2.length) = true := decide_eq_true (by omega)
 clear c2
 obtain rfl := Option.some.inj H
 go_enter Try.func15, Try.ntmps15
 go_wp2_with (first | ((with_reducible refine gate_dst (N := 1) rfl ?_); (try (refine gate_guard (by rfl) ?_; dsimp only)); refine bx_ HB 1 #[.int .i64 a0_0, .int .i64 a0_1, .slice A0_2 l0_2.length c0_2, .slice A0_3 l0_3.length c0_3] 24 ?_; clear HB; intro gb101 hg w3 hb BK101 GE101 HB; have GW101 := GE101; clear hb hg; obtain ⟨hcz4_0, hcz4_1, hcz4_2, hcz4_3, hfz4_0, hfz4_1, hfz4_2, hfz4_3⟩ := e4_ BK101))
 go_ret
 exact ⟨by first | rfl | (simp [errW_none, errW_some] <;> rfl) | (simp [*, errW_none, errW_some] <;> rfl), bl_ HB⟩}
 {
 rw [if_neg c2] at H
 have c2b0 : decide (200 < (l0_2.length : Int)) = false := decide_eq_false c2
 have c2b1 : decide (200 < l0_2.length) = false := decide_eq_false (by omega)
 clear c2
 obtain rfl := Option.some.inj H
 go_enter Try.func15, Try.ntmps15
 go_wp2_with (first | ((with_reducible refine gate_dst (N := 1) rfl ?_); (try (refine gate_guard (by rfl) ?_; dsimp only)); refine bx_ HB 1 #[.int .i64 a0_0, .int .i64 a0_1, .slice A0_2 l0_2.length c0_2, .slice A0_3 l0_3.length c0_3] 24 ?_; clear HB; intro gb101 hg w5 hb BK101 GE101 HB; have GW101 := GE101; clear hb hg; obtain ⟨hcz6_0, hcz6_1, hcz6_2, hcz6_3, hfz6_0, hfz6_1, hfz6_2, hfz6_3⟩ := e4_ BK101))
 go_ret
 exact ⟨by first | rfl | (simp [errW_none, errW_some] <;> rfl) | (simp [*, errW_none, errW_some] <;> rfl), bl_ HB⟩}
end Go.Proofs.Ytpdfdaoohknfoaa.P
namespace Go.Proofs.Ytpdfdaoohknfoaa.P
open Go.RowKit Go.Proofs.YtpdfdaoohknfoaaW.PrintWords Go.Proofs.YtpdfdaoohknfoaaW.PrintLast Go.Proofs.YtpdfdaoohknfoaaW.PrintMore
attribute [local go_sem] max2_int min2_int max_two min_two max_three min_three max_four min_four   -- for this text's walks alone
set_option linter.unusedVariables false
set_option linter.unusedSimpArgs false

mutual
def psalterylaw17_great.j0 : Nat → Bool → List (List Int) → List (List Int) → Option (Bool)
  | 0, _, _, _ => none
  | k + 1, x20, x409000, x409001 => if x20 = true then (some true) else (psalterylaw17_great.l0 k 0 x409000 x409001)
def psalterylaw17_great.l0 : Nat → Int → List (List Int) → List (List Int) → Option (Bool)
  | 0, _, _, _ => none
  | k + 1, x5, x409000, x409001 => if x5 < (x409000.length : Int) then (if 0 ≤ x5 then (if ((rd_L1 x409000 x5).length : Int) > 50 then (some true) else (psalterylaw17_great.l0 k (wrap64 (x5 + 1)) x409000 x409001)) else (none)) else (psalterylaw17_great.l1 k 0 x409000 x409001)
def psalterylaw17_great.l1 : Nat → Int → List (List Int) → List (List Int) → Option (Bool)
  | 0, _, _, _ => none
  | k + 1, x6, x409000, x409001 => if x6 < (x409001.length : Int) then (if 0 ≤ x6 then (if ((rd_L5 x409001 x6).length : Int) > 50 then (some true) else (psalterylaw17_great.l1 k (wrap64 (x6 + 1)) x409000 x409001)) else (none)) else (some false)
end
def psalterylaw17_great.f (k : Nat) (a0_0 : Int) (a0_1 : Int) (l0_2 : List Int) (l0_3 : List Int) (l1_0 : List (List Int)) (l1_1 : List (List Int)) : Option (Bool) := (psalterylaw16_Great.f a0_0 a0_1 l0_2 l0_3).bind fun t409 => (if t409 = true then (psalterylaw17_great.j0 k true l1_0 l1_1) else (if (l1_0.length : Int) > 10 then (psalterylaw17_great.j0 k true l1_0 l1_1) else (psalterylaw17_great.j0 k (decide ((l1_1.length : Int) > 10)) l1_0 l1_1)))
theorem psalterylaw17_great.mono_l : ∀ k, (∀ y0 y1 y2, LeO (psalterylaw17_great.j0 k y0 y1 y2) (psalterylaw17_great.j0 (k + 1) y0 y1 y2)) ∧ (∀ y0 y1 y2, LeO (psalterylaw17_great.l0 k y0 y1 y2) (psalterylaw17_great.l0 (k + 1) y0 y1 y2)) ∧ (∀ y0 y1 y2, LeO (psalterylaw17_great.l1 k y0 y1 y2) (psalterylaw17_great.l1 (k + 1) y0 y1 y2))
  | 0 => ⟨fun _ _ _ r h => by simp [psalterylaw17_great.j0] at h, fun _ _ _ r h => by simp [psalterylaw17_great.l0] at h, fun _ _ _ r h => by simp [psalterylaw17_great.l1] at h⟩
  | k + 1 => by
    obtain ⟨ih0, ih1, ih2⟩ := psalterylaw17_great.mono_l k
    refine ⟨?_, ?_, ?_⟩
    all_goals (intros; first | unfold psalterylaw17_great.j0 | unfold psalterylaw17_great.l0 | unfold psalterylaw17_great.l1)
    all_goals with_reducible repeat' first
     | exact ih0 _ _ _
     | exact ih1 _ _ _
     | exact ih2 _ _ _
     | exact LeO.refl _
     | exact LeO.none _
     | refine LeO.ite ?_ ?_
     | refine LeO.bind ?_ (fun _ => ?_)
theorem psalterylaw17_great.mono : ∀ a0 a1 a2 a3 a4 a5 k, LeO (psalterylaw17_great.f k a0 a1 a2 a3 a4 a5) (psalterylaw17_great.f (k + 1) a0 a1 a2 a3 a4 a5) := by
  intro a0 a1 a2 a3 a4 a5 k
  obtain ⟨ih0, ih1, ih2⟩ := psalterylaw17_great.mono_l k
  unfold psalterylaw17_great.f
  with_reducible repeat' first
   | exact ih0 _ _ _
   | exact ih1 _ _ _
   | exact ih2 _ _ _
   | exact LeO.refl _
   | exact LeO.none _
   | refine LeO.ite ?_ ?_
   | refine LeO.bind ?_ (fun _ => ?_)
set_option maxHeartbeats 8000000 in
set_option maxRecDepth 100000 in
theorem psalterylaw17_great.calls (k : Nat) (a0_0 : Int) (a0_1 : Int) (A0_2 : Option Addr) (c0_2 : Nat) (l0_2 : List Int) (A0_3 : Option Addr) (c0_3 : Nat) (l0_3 : List Int) (A1_0 : Option Addr) (c1_0 : Nat) (l1_0 : List (List Int)) (A1_1 : Option Addr) (c1_1 : Nat) (l1_1 : List (List Int)) (r : Bool) (w : World) (hr0_2 : Kd.C (Kd.int .i64) w A0_2 l0_2.length l0_2) (hc0_2 : l0_2.length ≤ c0_2) (hr0_3 : Kd.C (Kd.int .i64) w A0_3 l0_3.length l0_3) (hc0_3 : l0_3.length ≤ c0_3) (hr1_0 : Kd.C (Kd.slice 3 (Kd.int .i64)) w A1_0 l1_0.length l1_0) (hc1_0 : l1_0.length ≤ c1_0) (hr1_1 : Kd.C (Kd.slice 2 (Kd.int .i64)) w A1_1 l1_1.length l1_1) (hc1_1 : l1_1.length ≤ c1_1) (h : psalterylaw17_great.f k a0_0 a0_1 l0_2 l0_3 l1_0 l1_1 = some r) :
    Calls Try.prog 27 #[.agg #[.int .i64 a0_0, .int .i64 a0_1, .slice A0_2 l0_2.length c0_2, .slice A0_3 l0_3.length c0_3], .agg #[.slice A1_0 l1_0.length c1_0, .slice A1_1 l1_1.length c1_1]] w fun e w' => e = .returned (.bool r) ∧ Below w.heap.size w w' := by
 have hu24 := Try.underlying24
 have hu48 := Try.underlying48
 have HR0_2 := Aside0.mk hr0_2
 have HC0_2 := Aside0.mk hc0_2
 clear hr0_2 hc0_2
 have HR0_3 := Aside0.mk hr0_3
 have HC0_3 := Aside0.mk hc0_3
 clear hr0_3 hc0_3
 have HR1_0 := Aside0.mk hr1_0
 have HC1_0 := Aside0.mk hc1_0
 clear hr1_0 hc1_0
 have HR1_1 := Aside0.mk hr1_1
 have HC1_1 := Aside0.mk hc1_1
 clear hr1_1 hc1_1
 have HB := Aside0.mk (Below.refl w.heap.size w)
 have H : ((psalterylaw16_Great.f a0_0 a0_1 l0_2 l0_3).bind fun t409 => (if t409 = true then (psalterylaw17_great.j0 k true l1_0 l1_1) else (if (l1_0.length : Int) > 10 then (psalterylaw17_great.j0 k true l1_0 l1_1) else (psalterylaw17_great.j0 k (decide ((l1_1.length : Int) > 10)) l1_0 l1_1)))) = some r := h
 clear h
 have HC3 := Aside0.mk H
 clear H
 go_enter Try.func27, Try.ntmps27
 go_upto_region 1 with (first | ((with_reducible refine gate_dst (N := 2) rfl ?_); (try (refine gate_guard (by rfl) ?_; dsimp only)); refine bx_ HB 2 #[.int .i64 a0_0, .int .i64 a0_1, .slice A0_2 l0_2.length c0_2, .slice A0_3 l0_3.length c0_3] 24 ?_; clear HB; intro gb407 hg w4 hb BK407 GE407 HB; have GW407 := GE407; clear hb hg) | ((with_reducible refine gate_dst (N := 3) rfl ?_); (try (refine gate_guard (by rfl) ?_; dsimp only)); refine bx_ HB 3 #[.slice A1_0 l1_0.length c1_0, .slice A1_1 l1_1.length c1_1] 48 ?_; clear HB; intro gb408 hg w5 hb BK408 GE408 HB; have GW408 := GE408; obtain ⟨NB407_408, NB408_407⟩ := NN_ BK407 hg; replace BK407 := FB_ BK407 hb; clear hb hg))
 (try simp only [Act.put, List.setIfInBounds_toArray, List.set_cons_zero, List.set_cons_succ])
 go_cut [20] (fun v20 wc => ∃ (kq : Nat) (x20_2 : Bool), v20 = .bool x20_2 ∧ Aside0 (psalterylaw17_great.j0 kq x20_2 l1_0 l1_1 = some r) ∧ Aside0 (kq ≤ k) ∧ Aside0 (wc.heap[gb407]? = some (.cells #[.int .i64 a0_0, .int .i64 a0_1, (.slice A0_2 l0_2.length c0_2), (.slice A0_3 l0_3.length c0_3)] 24 (0, 0))) ∧ Aside0 (wc.heap[gb408]? = some (.cells #[(.slice A1_0 l1_0.length c1_0), (.slice A1_1 l1_1.length c1_1)] 48 (0, 0))) ∧ Aside0 (Below w.heap.size w wc))
 case first => (
 have H := HC3.out
 clear HC3
 obtain ⟨t409, A6, H⟩ := ob_ H
 (try dsimp only at H)
 by_cases c7 : t409 = true
 {
 subst c7
 rw [if_pos rfl] at H
 have H' := Aside0.mk H
 clear H
 have hnb8 := NB407_408.out
 have hnc8 := NB408_407.out
 obtain ⟨hcz9_0, hcz9_1, hcz9_2, hcz9_3, hfz9_0, hfz9_1, hfz9_2, hfz9_3⟩ := e4_ BK407
 go_wp2_with (first | ((with_reducible refine gate_callee (f := 15) rfl ?_); refine gL_ (some 8) Try.func15 #[.agg #[.int .i64 a0_0, .int .i64 a0_1, .slice A0_2 l0_2.length c0_2, .slice A0_3 l0_3.length c0_3]] ?_; (with_reducible refine (psalterylaw16_Great.calls a0_0 a0_1 _ _ l0_2 _ _ l0_3 true _ ?side1 ?side2 ?side3 ?side4 A6.out).mono ?_); (case side1 => exact kC_ HR0_2 HB); (case side2 => exact HC0_2.out); (case side3 => exact kC_ HR0_3 HB); (case side4 => exact HC0_3.out); rintro e w10 ⟨rfl, hb⟩; refine ⟨_, rfl, ?_⟩; replace BK407 := FB_ BK407 hb; replace BK408 := FB_ BK408 hb; replace HB := BS_ HB hb; (try clear hb)))
 go_meet
 case rel => exact ⟨_, (true), rs_, H', ⟨ol_⟩, ⟨bk_ BK407⟩, ⟨bk_ BK408⟩, ⟨bl_ HB⟩⟩}
 {
 replace c7 := Bool.eq_false_iff.mpr c7
 subst c7
 rw [if_neg (show ¬ (false = true) by decide)] at H
 by_cases c11 : (l1_0.length : Int) > 10
 {
 rw [if_pos c11] at H
 have c11b0 : decide (10 < (l1_0.length : Int)) = true := decide_eq_true c11
 have c11b1 : decide (10 < l1_0.length) = true := decide_eq_true (by omega)
 clear c11
 (first | rw [c11b0] | (simp only [i64_w, i32_w]; rw [c11b0]) | skip)
 have H' := Aside0.mk H
 clear H
 have hnb12 := NB407_408.out
 have hnc12 := NB408_407.out
 obtain ⟨hcz13_0, hcz13_1, hcz13_2, hcz13_3, hfz13_0, hfz13_1, hfz13_2, hfz13_3⟩ := e4_ BK407
 go_wp2_with (first | ((with_reducible refine gate_callee (f := 15) rfl ?_); refine gL_ (some 8) Try.func15 #[.agg #[.int .i64 a0_0, .int .i64 a0_1, .slice A0_2 l0_2.length c0_2, .slice A0_3 l0_3.length c0_3]] ?_; (with_reducible refine (psalterylaw16_Great.calls a0_0 a0_1 _ _ l0_2 _ _ l0_3 false _ ?side1 ?side2 ?side3 ?side4 A6.out).mono ?_); (case side1 => exact kC_ HR0_2 HB); (case side2 => exact HC0_2.out); (case side3 => exact kC_ HR0_3 HB); (case side4 => exact HC0_3.out); rintro e w14 ⟨rfl, hb⟩; refine ⟨_, rfl, ?_⟩; replace BK407 := FB_ BK407 hb; replace BK408 := FB_ BK408 hb; replace HB := BS_ HB hb; (try clear hb); obtain ⟨hcz15_0, hcz15_1, hfz15_0, hfz15_1⟩ := e2_ BK408))
 go_meet
 case rel => exact ⟨_, (true), rs_, H', ⟨ol_⟩, ⟨bk_ BK407⟩, ⟨bk_ BK408⟩, ⟨bl_ HB⟩⟩}
 {
 rw [if_neg c11] at H
 have c11b0 : decide (10 < (l1_0.length : Int)) = false := decide_eq_false c11
 have c11b1 : decide (10 < l1_0.length) = false := decide_eq_false (by omega)
 clear c11
 (first | rw [c11b0] | (simp only [i64_w, i32_w]; rw [c11b0]) | skip)
 have H' := Aside0.mk H
 clear H
 have hnb16 := NB407_408.out
 have hnc16 := NB408_407.out
 obtain ⟨hcz17_0, hcz17_1, hcz17_2, hcz17_3, hfz17_0, hfz17_1, hfz17_2, hfz17_3⟩ := e4_ BK407
 go_wp2_with (first | ((with_reducible refine gate_callee (f := 15) rfl ?_); refine gL_ (some 8) Try.func15 #[.agg #[.int .i64 a0_0, .int .i64 a0_1, .slice A0_2 l0_2.length c0_2, .slice A0_3 l0_3.length c0_3]] ?_; (with_reducible refine (psalterylaw16_Great.calls a0_0 a0_1 _ _ l0_2 _ _ l0_3 false _ ?side1 ?side2 ?side3 ?side4 A6.out).mono ?_); (case side1 => exact kC_ HR0_2 HB); (case side2 => exact HC0_2.out); (case side3 => exact kC_ HR0_3 HB); (case side4 => exact HC0_3.out); rintro e w18 ⟨rfl, hb⟩; refine ⟨_, rfl, ?_⟩; replace BK407 := FB_ BK407 hb; replace BK408 := FB_ BK408 hb; replace HB := BS_ HB hb; (try clear hb); obtain ⟨hcz19_0, hcz19_1, hfz19_0, hfz19_1⟩ := e2_ BK408))
 go_meet
 case rel => exact ⟨_, (decide ((l1_1.length : Int) > 10)), rs_, H', ⟨ol_⟩, ⟨bk_ BK407⟩, ⟨bk_ BK408⟩, ⟨bl_ HB⟩⟩}})
 case rest => (
 clear HC3
 obtain ⟨kq, x20_2, rfl, HA, HJ2, BK407, BK408, HB⟩ := hcut
 cases kq with
 | zero => exact absurd HA.out (by simp [psalterylaw17_great.j0])
 | succ kj2 => (
 have H := HA.out
 clear HA
 simp only [psalterylaw17_great.j0] at H
 by_cases c20 : x20_2 = true
 {
 subst c20
 rw [if_pos rfl] at H
 obtain rfl := Option.some.inj H
 go_wp2
 go_ret
 exact ⟨by first | rfl | (simp [errW_none, errW_some] <;> rfl) | (simp [*, errW_none, errW_some] <;> rfl), bl_ HB⟩}
 {
 replace c20 := Bool.eq_false_iff.mpr c20
 subst c20
 rw [if_neg (show ¬ (false = true) by decide)] at H
 have H' := Aside0.mk H
 clear H
 go_wp2
 go_loopg [5] kj2 (fun kq v5 w' => ∃ (x5_2 : Int), v5 = .int .i64 x5_2 ∧ Aside0 (psalterylaw17_great.l0 kq x5_2 l1_0 l1_1 = some r) ∧ Aside0 (kq ≤ kj2) ∧ Aside0 (w'.heap[gb407]? = some (.cells #[.int .i64 a0_0, .int .i64 a0_1, (.slice A0_2 l0_2.length c0_2), (.slice A0_3 l0_3.length c0_3)] 24 (0, 0))) ∧ Aside0 (w'.heap[gb408]? = some (.cells #[(.slice A1_0 l1_0.length c1_0), (.slice A1_1 l1_1.length c1_1)] 48 (0, 0))) ∧ Aside0 (Below w.heap.size w w'))
 case atStart => exact ⟨(0), rs_, H', ⟨Nat.le_refl _⟩, ⟨bk_ BK407⟩, ⟨bk_ BK408⟩, ⟨bl_ HB⟩⟩
 case round => (
 clear H'
 try clear c20
 obtain ⟨x5_2, rfl, HA, HK2, BK407, BK408, HB⟩ := hrel
 cases gk with
 | zero => exact absurd HA.out (by simp [psalterylaw17_great.l0])
 | succ k2 => (
 have H := HA.out
 clear HA
 simp only [psalterylaw17_great.l0] at H
 by_cases c21 : x5_2 < (l1_0.length : Int)
 {
 rw [if_pos c21] at H
 have c21b0 : decide (x5_2 < (l1_0.length : Int)) = true := decide_eq_true c21
 clear c21
 by_cases c22 : 0 ≤ x5_2
 {
 rw [if_pos c22] at H
 have c22b0 : decide (0 ≤ x5_2) = true := decide_eq_true c22
 clear c22
 by_cases c23 : ((rd_L1 l1_0 x5_2).length : Int) > 50
 {
 rw [if_pos c23] at H
 have c23b0 : decide (50 < ((rd_L1 l1_0 x5_2).length : Int)) = true := decide_eq_true c23
 have c23b1 : decide (50 < (rd_L1 l1_0 x5_2).length) = true := decide_eq_true (by omega)
 clear c23
 obtain rfl := Option.some.inj H
 have hnb24 := NB408_407.out
 have hnc24 := NB407_408.out
 obtain ⟨hcz25_0, hcz25_1, hfz25_0, hfz25_1⟩ := e2_ BK408
 have p410 : 0 ≤ (x5_2 : Int) := of_decide_eq_true am_
 have q410 : x5_2 < (l1_0.length : Int) := of_decide_eq_true am_
 obtain ⟨ad410, A410_0, c410_0, e410, hx410_0, hl410_0, hi410_0⟩ := at_L1 HR1_0.out x5_2 p410 q410
 cases e410
 replace hx410_0 := (HB.out.cell (World.block_lt_of_cell? w _ hx410_0)).trans hx410_0
 have HR410_0 := Aside0.mk hi410_0
 have HC410_0 := Aside0.mk hl410_0
 clear hi410_0 hl410_0
 replace p410 := eq_true p410
 replace q410 := eq_true q410
 go_wp2
 go_ret
 exact ⟨by first | rfl | (simp [errW_none, errW_some] <;> rfl) | (simp [*, errW_none, errW_some] <;> rfl), bl_ HB⟩}
 {
 rw [if_neg c23] at H
 have c23b0 : decide (50 < ((rd_L1 l1_0 x5_2).length : Int)) = false := decide_eq_false c23
 have c23b1 : decide (50 < (rd_L1 l1_0 x5_2).length) = false := decide_eq_false (by omega)
 clear c23
 have H' := Aside0.mk H
 clear H
 have hnb26 := NB408_407.out
 have hnc26 := NB407_408.out
 obtain ⟨hcz27_0, hcz27_1, hfz27_0, hfz27_1⟩ := e2_ BK408
 have p410 : 0 ≤ (x5_2 : Int) := of_decide_eq_true am_
 have q410 : x5_2 < (l1_0.length : Int) := of_decide_eq_true am_
 obtain ⟨ad410, A410_0, c410_0, e410, hx410_0, hl410_0, hi410_0⟩ := at_L1 HR1_0.out x5_2 p410 q410
 cases e410
 replace hx410_0 := (HB.out.cell (World.block_lt_of_cell? w _ hx410_0)).trans hx410_0
 have HR410_0 := Aside0.mk hi410_0
 have HC410_0 := Aside0.mk hl410_0
 clear hi410_0 hl410_0
 replace p410 := eq_true p410
 replace q410 := eq_true q410
 go_wp2
 go_roundg k2
 case measure => have := HJ2.out; have := HK2.out; omega
 case rel => exact ⟨(wrap64 (x5_2 + 1)), rs_, H', ⟨by have := HJ2.out; have := HK2.out; omega⟩, ⟨bk_ BK407⟩, ⟨bk_ BK408⟩, ⟨bl_ HB⟩⟩}}
 {
 rw [if_neg c22] at H
 exact absurd H (by simp)}}
 {
 rw [if_neg c21] at H
 have c21b0 : decide (x5_2 < (l1_0.length : Int)) = false := decide_eq_false c21
 clear c21
 have H' := Aside0.mk H
 clear H
 have hnb28 := NB408_407.out
 have hnc28 := NB407_408.out
 obtain ⟨hcz29_0, hcz29_1, hfz29_0, hfz29_1⟩ := e2_ BK408
 go_wp2
 go_loopg [6] k2 (fun kq v6 w' => ∃ (x6_3 : Int), v6 = .int .i64 x6_3 ∧ Aside0 (psalterylaw17_great.l1 kq x6_3 l1_0 l1_1 = some r) ∧ Aside0 (kq ≤ k2) ∧ Aside0 (w'.heap[gb407]? = some (.cells #[.int .i64 a0_0, .int .i64 a0_1, (.slice A0_2 l0_2.length c0_2), (.slice A0_3 l0_3.length c0_3)] 24 (0, 0))) ∧ Aside0 (w'.heap[gb408]? = some (.cells #[(.slice A1_0 l1_0.length c1_0), (.slice A1_1 l1_1.length c1_1)] 48 (0, 0))) ∧ Aside0 (Below w.heap.size w w'))
 case atStart => exact ⟨(0), rs_, H', ⟨Nat.le_refl _⟩, ⟨bk_ BK407⟩, ⟨bk_ BK408⟩, ⟨bl_ HB⟩⟩
 case round => (
 clear H'
 try clear c20
 try clear c21
 try clear c21b0
 try clear hcz29_0
 try clear hcz29_1
 try clear hfz29_0
 try clear hfz29_1
 obtain ⟨x6_3, rfl, HA, HK3, BK407, BK408, HB⟩ := hrel
 cases gk with
 | zero => exact absurd HA.out (by simp [psalterylaw17_great.l1])
 | succ k3 => (
 have H := HA.out
 clear HA
 simp only [psalterylaw17_great.l1] at H
 by_cases c30 : x6_3 < (l1_1.length : Int)
 {
 rw [if_pos c30] at H
 have c30b0 : decide (x6_3 < (l1_1.length : Int)) = true := decide_eq_true c30
 clear c30
 by_cases c31 : 0 ≤ x6_3
 {
 rw [if_pos c31] at H
 have c31b0 : decide (0 ≤ x6_3) = true := decide_eq_true c31
 clear c31
 by_cases c32 : ((rd_L5 l1_1 x6_3).length : Int) > 50
 {
 rw [if_pos c32] at H
 have c32b0 : decide (50 < ((rd_L5 l1_1 x6_3).length : Int)) = true := decide_eq_true c32
 have c32b1 : decide (50 < (rd_L5 l1_1 x6_3).length) = true := decide_eq_true (by omega)
 clear c32
 obtain rfl := Option.some.inj H
 have hnb33 := NB408_407.out
 have hnc33 := NB407_408.out
 obtain ⟨hcz34_0, hcz34_1, hfz34_0, hfz34_1⟩ := e2_ BK408
 have p411 : 0 ≤ (x6_3 : Int) := of_decide_eq_true am_
 have q411 : x6_3 < (l1_1.length : Int) := of_decide_eq_true am_
 obtain ⟨ad411, A411_0, c411_0, e411, hx411_0, hl411_0, hi411_0⟩ := at_L5 HR1_1.out x6_3 p411 q411
 cases e411
 replace hx411_0 := (HB.out.cell (World.block_lt_of_cell? w _ hx411_0)).trans hx411_0
 have HR411_0 := Aside0.mk hi411_0
 have HC411_0 := Aside0.mk hl411_0
 clear hi411_0 hl411_0
 replace p411 := eq_true p411
 replace q411 := eq_true q411
 go_wp2
 go_ret
 exact ⟨by first | rfl | (simp [errW_none, errW_some] <;> rfl) | (simp [*, errW_none, errW_some] <;> rfl), bl_ HB⟩}
 {
 rw [if_neg c32] at H
 have c32b0 : decide (50 < ((rd_L5 l1_1 x6_3).length : Int)) = false := decide_eq_false c32
 have c32b1 : decide (50 < (rd_L5 l1_1 x6_3).length) = false := decide_eq_false (by omega)
 clear c32
 have H' := Aside0.mk H
 clear H
 have hnb35 := NB408_407.out
 have hnc35 := NB407_408.out
 obtain ⟨hcz36_0, hcz36_1, hfz36_0, hfz36_1⟩ := e2_ BK408
 have p411 : 0 ≤ (x6_3 : Int) := of_decide_eq_true am_
 have q411 : x6_3 < (l1_1.length : Int) := of_decide_eq_true am_
 obtain ⟨ad411, A411_0, c411_0, e411, hx411_0, hl411_0, hi411_0⟩ := at_L5 HR1_1.out x6_3 p411 q411
 cases e411
 replace hx411_0 := (HB.out.cell (World.block_lt_of_cell? w _ hx411_0)).trans hx411_0
 have HR411_0 := Aside0.mk hi411_0
 have HC411_0 := Aside0.mk hl411_0
 clear hi411_0 hl411_0
 replace p411 := eq_true p411
 replace q411 := eq_true q411
 go_wp2
 go_roundg k3
 case measure => have := HJ2.out; have := HK2.out; have := HK3.out; omega
 case rel => exact ⟨(wrap64 (x6_3 + 1)), rs_, H', ⟨by have := HJ2.out; have := HK2.out; have := HK3.out; omega⟩, ⟨bk_ BK407⟩, ⟨bk_ BK408⟩, ⟨bl_ HB⟩⟩}}
 {
 rw [if_neg c31] at H
 exact absurd H (by simp)}}
 {
 rw [if_neg c30] at H
 have c30b0 : decide (x6_3 < (l1_1.length : Int)) = false := decide_eq_false c30
 clear c30
 obtain rfl := Option.some.inj H
 have hnb37 := NB408_407.out
 have hnc37 := NB407_408.out
 obtain ⟨hcz38_0, hcz38_1, hfz38_0, hfz38_1⟩ := e2_ BK408
 go_wp2
 go_ret
 exact ⟨by first | rfl | (simp [errW_none, errW_some] <;> rfl) | (simp [*, errW_none, errW_some] <;> rfl), bl_ HB⟩}))}))}))
end Go.Proofs.Ytpdfdaoohknfoaa.P
namespace Go.Proofs.Ytpdfdaoohknfoaa.P
open Go.RowKit Go.Proofs.YtpdfdaoohknfoaaW.PrintWords Go.Proofs.YtpdfdaoohknfoaaW.PrintLast Go.Proofs.YtpdfdaoohknfoaaW.PrintMore
attribute [local go_sem] max2_int min2_int max_two min_two max_three min_three max_four min_four   -- for this text's walks alone
set_option linter.unusedVariables false
set_option linter.unusedSimpArgs false

def huff_used.l0 : Nat → Int → List Int → Int → Int → Option (Int)
  | 0, _, _, _, _ => none
  | k + 1, x3, x6, x7, x8 => if x8 < x7 then (if 0 ≤ x8 then (if x8 < (x6.length : Int) then (if (rd x6 x8) > 0 then (huff_used.l0 k (wrap64 (x3 + 1)) x6 x7 (wrap64 (x8 + 1))) else (huff_used.l0 k x3 x6 x7 (wrap64 (x8 + 1)))) else (none)) else (none)) else (some x3)
def huff_used.f (k : Nat) (l0 : List Int) : Option (Int) := huff_used.l0 k 0 l0 (l0.length : Int) 0
theorem huff_used.mono_l : ∀ k, (∀ y0 y1 y2 y3, LeO (huff_used.l0 k y0 y1 y2 y3) (huff_used.l0 (k + 1) y0 y1 y2 y3))
  | 0 => fun _ _ _ _ r h => by simp [huff_used.l0] at h
  | k + 1 => by
    have ih0 := huff_used.mono_l k
    · intro y0 y1 y2 y3
      unfold huff_used.l0
      with_reducible repeat' first
   | exact ih0 _ _ _ _
   | exact LeO.refl _
   | exact LeO.none _
   | refine LeO.ite ?_ ?_
   | refine LeO.bind ?_ (fun _ => ?_)
theorem huff_used.mono : ∀ a0 k, LeO (huff_used.f k a0) (huff_used.f (k + 1) a0) := by
  intro a0 k
  have ih0 := huff_used.mono_l k
  unfold huff_used.f
  with_reducible repeat' first
   | exact ih0 _ _ _ _
   | exact LeO.refl _
   | exact LeO.none _
   | refine LeO.ite ?_ ?_
   | refine LeO.bind ?_ (fun _ => ?_)
set_option maxHeartbeats 8000000 in
set_option maxRecDepth 100000 in
theorem huff_used.calls (k : Nat) (A0 : Option Addr) (c0 : Nat) (l0 : List Int) (r : Int) (w : World) (hr0 : Kd.C (Kd.int .i64) w A0 l0.length l0) (hc0 : l0.length ≤ c0) (h : huff_used.f k l0 = some r) :
    Calls Try.prog 71 #[.slice A0 l0.length c0] w fun e w' => e = .returned (.int .i64 r) ∧ Drawn0 w w' := by
 have HR0 := Aside0.mk hr0
 have HC0 := Aside0.mk hc0
 clear hr0 hc0
 have H : (huff_used.l0 k 0 l0 (l0.length : Int) 0) = some r := h
 clear h
 have H' := Aside0.mk H
 clear H
 go_enter Try.func71, Try.ntmps71
 go_wp2
 go_loopg [3, 8] k (fun kq v3 v8 w' => ∃ (x3_1 : Int) (x8_1 : Int), v3 = .int .i64 x3_1 ∧ v8 = .int .i64 x8_1 ∧ Aside0 (huff_used.l0 kq x3_1 l0 (l0.length : Int) x8_1 = some r) ∧ Aside0 (kq ≤ k) ∧ Drawn0 w w')
 case atStart => exact ⟨(0), (0), rs_, rs_, H', ⟨Nat.le_refl _⟩, by repeat (first | exact Drawn0.refl _ | apply Drawn0.step)⟩
 case round => (
 clear H'
 obtain ⟨x3_1, x8_1, rfl, rfl, HA, HK1, ⟨m1, rfl⟩⟩ := hrel
 cases gk with
 | zero => exact absurd HA.out (by simp [huff_used.l0])
 | succ k1 => (
 have H := HA.out
 clear HA
 simp only [huff_used.l0] at H
 by_cases c2 : x8_1 < (l0.length : Int)
 {
 rw [if_pos c2] at H
 have c2b0 : decide (x8_1 < (l0.length : Int)) = true := decide_eq_true c2
 clear c2
 by_cases c3 : 0 ≤ x8_1
 {
 rw [if_pos c3] at H
 have c3b0 : decide (0 ≤ x8_1) = true := decide_eq_true c3
 clear c3
 by_cases c4 : x8_1 < (l0.length : Int)
 {
 rw [if_pos c4] at H
 have c4b0 : decide (x8_1 < (l0.length : Int)) = true := decide_eq_true c4
 clear c4
 by_cases c5 : (rd l0 x8_1) > 0
 {
 rw [if_pos c5] at H
 have c5b0 : decide (0 < (rd l0 x8_1)) = true := decide_eq_true c5
 clear c5
 have H' := Aside0.mk H
 clear H
 have p102 : 0 ≤ (x8_1 : Int) := of_decide_eq_true am_
 have q102 : x8_1 < (l0.length : Int) := of_decide_eq_true am_
 obtain ⟨ad102, e102, hx102_0⟩ := Kd.at_int HR0.out x8_1 p102 q102
 cases e102
 replace p102 := eq_true p102
 replace q102 := eq_true q102
 go_wp2
 go_roundg k1
 case measure => have := HK1.out; omega
 case rel => exact ⟨(wrap64 (x3_1 + 1)), (wrap64 (x8_1 + 1)), rs_, rs_, H', ⟨by have := HK1.out; omega⟩, by repeat (first | exact Drawn0.refl _ | apply Drawn0.step)⟩}
 {
 rw [if_neg c5] at H
 have c5b0 : decide (0 < (rd l0 x8_1)) = false := decide_eq_false c5
 clear c5
 have H' := Aside0.mk H
 clear H
 have p102 : 0 ≤ (x8_1 : Int) := of_decide_eq_true am_
 have q102 : x8_1 < (l0.length : Int) := of_decide_eq_true am_
 obtain ⟨ad102, e102, hx102_0⟩ := Kd.at_int HR0.out x8_1 p102 q102
 cases e102
 replace p102 := eq_true p102
 replace q102 := eq_true q102
 go_wp2
 go_roundg k1
 case measure => have := HK1.out; omega
 case rel => exact ⟨(x3_1), (wrap64 (x8_1 + 1)), rs_, rs_, H', ⟨by have := HK1.out; omega⟩, by repeat (first | exact Drawn0.refl _ | apply Drawn0.step)⟩}}
 {
 rw [if_neg c4] at H
 exact absurd H (by simp)}}
 {
 rw [if_neg c3] at H
 exact absurd H (by simp)}}
 {
 rw [if_neg c2] at H
 have c2b0 : decide (x8_1 < (l0.length : Int)) = false := decide_eq_false c2
 clear c2
 obtain rfl := Option.some.inj H
 go_wp2
 go_ret
 exact ⟨by first | rfl | (simp; done) | (simp [*]; done), by repeat (first | exact Drawn0.refl _ | apply Drawn0.step)⟩}))
end Go.Proofs.Ytpdfdaoohknfoaa.P
namespace Go.Proofs.Ytpdfdaoohknfoaa.P
open Go.RowKit Go.Proofs.YtpdfdaoohknfoaaW.PrintWords Go.Proofs.YtpdfdaoohknfoaaW.PrintLast Go.Proofs.YtpdfdaoohknfoaaW.PrintMore
attribute [local go_sem] max2_int min2_int max_two min_two max_three min_three max_four min_four   -- for this text's walks alone
set_option linter.unusedVariables false
set_option linter.unusedSimpArgs false

mutual
def huff_Right.j0 : Nat → List Int → Bool → Option (Bool)
  | 0, _, _ => none
  | k + 1, x0, x13 => if x13 = true then (some false) else (huff_Right.l0 k x0 0 x0 (x0.length : Int) 0)
def huff_Right.l0 : Nat → List Int → Int → List Int → Int → Int → Option (Bool)
  | 0, _, _, _, _, _ => none
  | k + 1, x0, x3, x14, x15, x16 => if x16 < x15 then (if 0 ≤ x16 then (if x16 < (x14.length : Int) then (if (rd x14 x16) < 0 then (huff_Right.j2 k x0 x3 (rd x14 x16) x14 x15 x16 true) else (huff_Right.j2 k x0 x3 (rd x14 x16) x14 x15 x16 (decide ((rd x14 x16) > 16)))) else (none)) else (none)) else ((huff_used.f k x0).bind fun t103 => (if t103 = 1 then (some (x3 == 32768)) else (some (x3 == 65536))))
def huff_Right.j2 : Nat → List Int → Int → Int → List Int → Int → Int → Bool → Option (Bool)
  | 0, _, _, _, _, _, _, _ => none
  | k + 1, x0, x3, x5, x14, x15, x16, x25 => if x25 = true then (some false) else (if x5 > 0 then (if 0 ≤ (wrap64 (16 - x5)) then (huff_Right.l0 k x0 (wrap64 (x3 + (shl .i64 1 (wrap64 (16 - x5))))) x14 x15 (wrap64 (x16 + 1))) else (none)) else (huff_Right.l0 k x0 x3 x14 x15 (wrap64 (x16 + 1))))
end
def huff_Right.f (k : Nat) (l0 : List Int) : Option (Bool) := if (l0.length : Int) < 2 then (huff_Right.j0 k l0 true) else (huff_Right.j0 k l0 (decide ((l0.length : Int) > 64)))
theorem huff_Right.mono_l : ∀ k, (∀ y0 y1, LeO (huff_Right.j0 k y0 y1) (huff_Right.j0 (k + 1) y0 y1)) ∧ (∀ y0 y1 y2 y3 y4, LeO (huff_Right.l0 k y0 y1 y2 y3 y4) (huff_Right.l0 (k + 1) y0 y1 y2 y3 y4)) ∧ (∀ y0 y1 y2 y3 y4 y5 y6, LeO (huff_Right.j2 k y0 y1 y2 y3 y4 y5 y6) (huff_Right.j2 (k + 1) y0 y1 y2 y3 y4 y5 y6))
  | 0 => ⟨fun _ _ r h => by simp [huff_Right.j0] at h, fun _ _ _ _ _ r h => by simp [huff_Right.l0] at h, fun _ _ _ _ _ _ _ r h => by simp [huff_Right.j2] at h⟩
  | k + 1 => by
    obtain ⟨ih0, ih1, ih2⟩ := huff_Right.mono_l k
    refine ⟨?_, ?_, ?_⟩
    all_goals (intros; first | unfold huff_Right.j0 | unfold huff_Right.l0 | unfold huff_Right.j2)
    all_goals with_reducible repeat' first
     | exact ih0 _ _
     | exact ih1 _ _ _ _ _
     | exact ih2 _ _ _ _ _ _ _
     | exact huff_used.mono _ _
     | exact LeO.refl _
     | exact LeO.none _
     | refine LeO.ite ?_ ?_
     | refine LeO.bind ?_ (fun _ => ?_)
theorem huff_Right.mono : ∀ a0 k, LeO (huff_Right.f k a0) (huff_Right.f (k + 1) a0) := by
  intro a0 k
  obtain ⟨ih0, ih1, ih2⟩ := huff_Right.mono_l k
  unfold huff_Right.f
  with_reducible repeat' first
   | exact ih0 _ _
   | exact ih1 _ _ _ _ _
   | exact ih2 _ _ _ _ _ _ _
   | exact huff_used.mono _ _
   | exact LeO.refl _
   | exact LeO.none _
   | refine LeO.ite ?_ ?_
   | refine LeO.bind ?_ (fun _ => ?_)
set_option maxHeartbeats 8000000 in
set_option maxRecDepth 100000 in
theorem huff_Right.calls (k : Nat) (A0 : Option Addr) (c0 : Nat) (l0 : List Int) (r : Bool) (w : World) (hr0 : Kd.C (Kd.int .i64) w A0 l0.length l0) (hc0 : l0.length ≤ c0) (h : huff_Right.f k l0 = some r) :
    Calls Try.prog 63 #[.slice A0 l0.length c0] w fun e w' => e = .returned (.bool r) ∧ Drawn0 w w' := by
 have HR0 := Aside0.mk hr0
 have HC0 := Aside0.mk hc0
 clear hr0 hc0
 have H : (if (l0.length : Int) < 2 then (huff_Right.j0 k l0 true) else (huff_Right.j0 k l0 (decide ((l0.length : Int) > 64)))) = some r := h
 clear h
 have HC2 := Aside0.mk H
 clear H
 go_enter Try.func63, Try.ntmps63
 go_upto_region 1 with (fail)
 go_cut [13] (fun v13 wc => ∃ (kq : Nat) (x13_1 : Bool), v13 = .bool x13_1 ∧ Aside0 (huff_Right.j0 kq l0 x13_1 = some r) ∧ Aside0 (kq ≤ k) ∧ Drawn0 w wc)
 case first => (
 have H := HC2.out
 clear HC2
 by_cases c3 : (l0.length : Int) < 2
 {
 rw [if_pos c3] at H
 have c3b0 : decide ((l0.length : Int) < 2) = true := decide_eq_true c3
 have c3b1 : decide (l0.length < 2) = true := decide_eq_true (by omega)
 clear c3
 (first | rw [c3b0] | (simp only [i64_w, i32_w]; rw [c3b0]) | skip)
 have H' := Aside0.mk H
 clear H
 go_wp2
 go_meet
 case rel => exact ⟨_, (true), rs_, H', ⟨ol_⟩, by repeat (first | exact Drawn0.refl _ | apply Drawn0.step)⟩}
 {
 rw [if_neg c3] at H
 have c3b0 : decide ((l0.length : Int) < 2) = false := decide_eq_false c3
 have c3b1 : decide (l0.length < 2) = false := decide_eq_false (by omega)
 clear c3
 (first | rw [c3b0] | (simp only [i64_w, i32_w]; rw [c3b0]) | skip)
 have H' := Aside0.mk H
 clear H
 go_wp2
 go_meet
 case rel => exact ⟨_, (decide ((l0.length : Int) > 64)), rs_, H', ⟨ol_⟩, by repeat (first | exact Drawn0.refl _ | apply Drawn0.step)⟩})
 case rest => (
 clear HC2
 obtain ⟨kq, x13_1, rfl, HA, HJ1, ⟨mc1, rfl⟩⟩ := hcut
 cases kq with
 | zero => exact absurd HA.out (by simp [huff_Right.j0])
 | succ kj1 => (
 have H := HA.out
 clear HA
 simp only [huff_Right.j0] at H
 by_cases c4 : x13_1 = true
 {
 subst c4
 rw [if_pos rfl] at H
 obtain rfl := Option.some.inj H
 go_wp2
 go_ret
 exact ⟨by first | rfl | (simp; done) | (simp [*]; done), by repeat (first | exact Drawn0.refl _ | apply Drawn0.step)⟩}
 {
 replace c4 := Bool.eq_false_iff.mpr c4
 subst c4
 rw [if_neg (show ¬ (false = true) by decide)] at H
 have H' := Aside0.mk H
 clear H
 go_wp2
 go_loopg [3, 16] kj1 (fun kq v3 v16 w' => ∃ (x3_2 : Int) (x16_2 : Int), v3 = .int .i64 x3_2 ∧ v16 = .int .i64 x16_2 ∧ Aside0 (huff_Right.l0 kq l0 x3_2 l0 (l0.length : Int) x16_2 = some r) ∧ Aside0 (kq ≤ kj1) ∧ Drawn0 w w')
 case atStart => exact ⟨(0), (0), rs_, rs_, H', ⟨Nat.le_refl _⟩, by repeat (first | exact Drawn0.refl _ | apply Drawn0.step)⟩
 case round => (
 clear H'
 try clear c4
 obtain ⟨x3_2, x16_2, rfl, rfl, HA, HK2, ⟨m2, rfl⟩⟩ := hrel
 cases gk with
 | zero => exact absurd HA.out (by simp [huff_Right.l0])
 | succ k2 => (
 have H := HA.out
 clear HA
 simp only [huff_Right.l0] at H
 by_cases c5 : x16_2 < (l0.length : Int)
 {
 rw [if_pos c5] at H
 have c5b0 : decide (x16_2 < (l0.length : Int)) = true := decide_eq_true c5
 clear c5
 by_cases c6 : 0 ≤ x16_2
 {
 rw [if_pos c6] at H
 have c6b0 : decide (0 ≤ x16_2) = true := decide_eq_true c6
 clear c6
 by_cases c7 : x16_2 < (l0.length : Int)
 {
 rw [if_pos c7] at H
 have c7b0 : decide (x16_2 < (l0.length : Int)) = true := decide_eq_true c7
 clear c7
 have HC8 := Aside0.mk H
 clear H
 have p104 : 0 ≤ (x16_2 : Int) := of_decide_eq_true am_
 have q104 : x16_2 < (l0.length : Int) := of_decide_eq_true am_
 obtain ⟨ad104, e104, hx104_0⟩ := Kd.at_int HR0.out x16_2 p104 q104
 cases e104
 replace p104 := eq_true p104
 replace q104 := eq_true q104
 go_upto_region 7 with (fail)
 go_cut [25] (fun v25 wc => ∃ (kq : Nat) (x25_7 : Bool), v25 = .bool x25_7 ∧ Aside0 (huff_Right.j2 kq l0 x3_2 (rd l0 x16_2) l0 (l0.length : Int) x16_2 x25_7 = some r) ∧ Aside0 (kq ≤ k2) ∧ Drawn0 w wc)
 case first => (
 have H := HC8.out
 clear HC8
 by_cases c9 : (rd l0 x16_2) < 0
 {
 rw [if_pos c9] at H
 have c9b0 : decide ((rd l0 x16_2) < 0) = true := decide_eq_true c9
 clear c9
 (first | rw [c9b0] | (simp only [i64_w, i32_w]; rw [c9b0]) | skip)
 have H' := Aside0.mk H
 clear H
 go_wp2
 go_meet
 case rel => exact ⟨_, (true), rs_, H', ⟨by have := HJ1.out; have := HK2.out; first | omega | exact Nat.le_refl _⟩, by repeat (first | exact Drawn0.refl _ | apply Drawn0.step)⟩}
 {
 rw [if_neg c9] at H
 have c9b0 : decide ((rd l0 x16_2) < 0) = false := decide_eq_false c9
 clear c9
 (first | rw [c9b0] | (simp only [i64_w, i32_w]; rw [c9b0]) | skip)
 have H' := Aside0.mk H
 clear H
 go_wp2
 go_meet
 case rel => exact ⟨_, (decide ((rd l0 x16_2) > 16)), rs_, H', ⟨by have := HJ1.out; have := HK2.out; first | omega | exact Nat.le_refl _⟩, by repeat (first | exact Drawn0.refl _ | apply Drawn0.step)⟩})
 case rest => (
 clear HC8
 try clear c4
 try clear c5
 try clear c5b0
 try clear c6
 try clear c6b0
 try clear c7
 try clear c7b0
 try clear hx104_0
 try clear p104
 try clear q104
 obtain ⟨kq, x25_7, rfl, HA, HJ7, ⟨mc7, rfl⟩⟩ := hcut
 cases kq with
 | zero => exact absurd HA.out (by simp [huff_Right.j2])
 | succ kj7 => (
 have H := HA.out
 clear HA
 simp only [huff_Right.j2] at H
 by_cases c10 : x25_7 = true
 {
 subst c10
 rw [if_pos rfl] at H
 obtain rfl := Option.some.inj H
 go_wp2
 go_ret
 exact ⟨by first | rfl | (simp; done) | (simp [*]; done), by repeat (first | exact Drawn0.refl _ | apply Drawn0.step)⟩}
 {
 replace c10 := Bool.eq_false_iff.mpr c10
 subst c10
 rw [if_neg (show ¬ (false = true) by decide)] at H
 by_cases c11 : (rd l0 x16_2) > 0
 {
 rw [if_pos c11] at H
 have c11b0 : decide (0 < (rd l0 x16_2)) = true := decide_eq_true c11
 clear c11
 obtain ⟨ji12, hji12⟩ : ∃ j_ : Int, (wrap64 (16 - (rd l0 x16_2))) = j_ := ⟨_, rfl⟩
 replace H : (if 0 ≤ (ji12) then (huff_Right.l0 kj7 l0 (wrap64 (x3_2 + (shl .i64 1 (ji12)))) l0 (l0.length : Int) (wrap64 (x16_2 + 1))) else (none)) = some r := by first | (rw [hji12] at H; exact H) | (simp only [hji12] at H ⊢; exact H)
 have hji12w : (IntKind.i64.wrap (16 - (rd l0 x16_2))) = ji12 := (i64_w _).trans hji12
 by_cases c13 : 0 ≤ (ji12)
 {
 rw [if_pos c13] at H
 have c13b0 := eq_true c13
 have c13b1 : decide (0 ≤ (ji12)) = true := decide_eq_true c13
 clear c13
 obtain ⟨ji14, hji14⟩ : ∃ j_ : Int, (shl .i64 1 (ji12)) = j_ := ⟨_, rfl⟩
 replace H : (huff_Right.l0 kj7 l0 (wrap64 (x3_2 + (ji14))) l0 (l0.length : Int) (wrap64 (x16_2 + 1))) = some r := by first | (rw [hji14] at H; exact H) | (simp only [hji14] at H ⊢; exact H)
 have hji14_ : (IntKind.i64.wrap (1 * 2 ^ min (ji12).toNat 64)) = ji14 := hji14
 have hji14z : (ji12) ≤ 64 → (IntKind.i64.wrap (1 * 2 ^ (ji12).toNat)) = ji14 := shl_small hji14
 have hji14u : (IntKind.i64.wrap (2 ^ min (ji12).toNat 64)) = ji14 := by have h_ := hji14_; rw [Int.one_mul] at h_; exact h_
 have hji14v : (ji12) ≤ 64 → (IntKind.i64.wrap (2 ^ (ji12).toNat)) = ji14 := fun hle_ => by have h_ := hji14z hle_; rw [Int.one_mul] at h_; exact h_
 have hji14y : (wrap64 (1 * 2 ^ min (ji12).toNat 64)) = ji14 := (i64_w _).symm.trans hji14_
 have hji14x : (ji12) ≤ 64 → (wrap64 (1 * 2 ^ (ji12).toNat)) = ji14 := fun h_ => (i64_w _).symm.trans (hji14z h_)
 have H' := Aside0.mk H
 clear H
 (try subst hji12)
 go_wp2
 first | go_roundg kj7 | (subst hji12; go_roundg kj7)
 case measure => have := HJ1.out; have := HK2.out; have := HJ7.out; omega
 case rel => exact ⟨(wrap64 (x3_2 + (ji14))), (wrap64 (x16_2 + 1)), (by first | rfl | (simp; done) | (simp only [← hji14] <;> (first | rfl | simp)) | (simp [*]; done)), rs_, H', ⟨by have := HJ1.out; have := HK2.out; have := HJ7.out; omega⟩, by repeat (first | exact Drawn0.refl _ | apply Drawn0.step)⟩}
 {
 rw [if_neg c13] at H
 exact absurd H (by simp)}}
 {
 rw [if_neg c11] at H
 have c11b0 : decide (0 < (rd l0 x16_2)) = false := decide_eq_false c11
 clear c11
 have H' := Aside0.mk H
 clear H
 go_wp2
 go_roundg kj7
 case measure => have := HJ1.out; have := HK2.out; have := HJ7.out; omega
 case rel => exact ⟨(x3_2), (wrap64 (x16_2 + 1)), rs_, rs_, H', ⟨by have := HJ1.out; have := HK2.out; have := HJ7.out; omega⟩, by repeat (first | exact Drawn0.refl _ | apply Drawn0.step)⟩}}))}
 {
 rw [if_neg c7] at H
 exact absurd H (by simp)}}
 {
 rw [if_neg c6] at H
 exact absurd H (by simp)}}
 {
 rw [if_neg c5] at H
 have c5b0 : decide (x16_2 < (l0.length : Int)) = false := decide_eq_false c5
 clear c5
 obtain ⟨t103, A15, H⟩ := ob_ H
 (try dsimp only at H)
 by_cases c16 : t103 = 1
 {
 rw [if_pos c16] at H
 have c16b0 : (t103 == 1) = true := beq_iff_eq.mpr c16
 have c16b1 : (t103 != 1) = false := bne_eq_false_iff_eq.mpr c16
 clear c16
 obtain rfl := Option.some.inj H
 go_wp2_with (first | ((with_reducible refine gate_callee (f := 71) rfl ?_); refine gL_ (some 35) Try.func71 #[.slice A0 l0.length c0] ?_; (with_reducible refine (huff_used.calls k2 _ _ l0 t103 _ ?side1 ?side2 A15.out).mono ?_); (case side1 => repeat (first | exact HR0.out | (with_reducible refine Kd.C_alloc ?_ _) | (with_reducible refine Kd.C_drewN ?_ _) | (with_reducible refine Kd.C_drew ?_))); (case side2 => exact HC0.out); rintro e w' ⟨rfl, ⟨nd, rfl⟩⟩; refine ⟨_, rfl, ?_⟩))
 go_ret
 exact ⟨by first | rfl | (simp; done) | (simp [*]; done), by repeat (first | exact Drawn0.refl _ | apply Drawn0.step)⟩}
 {
 rw [if_neg c16] at H
 have c16b0 : (t103 == 1) = false := beq_eq_false_iff_ne.mpr c16
 have c16b1 : (t103 != 1) = true := bne_iff_ne.mpr c16
 obtain rfl := Option.some.inj H
 go_wp2_with (first | ((with_reducible refine gate_callee (f := 71) rfl ?_); refine gL_ (some 35) Try.func71 #[.slice A0 l0.length c0] ?_; (with_reducible refine (huff_used.calls k2 _ _ l0 t103 _ ?side1 ?side2 A15.out).mono ?_); (case side1 => repeat (first | exact HR0.out | (with_reducible refine Kd.C_alloc ?_ _) | (with_reducible refine Kd.C_drewN ?_ _) | (with_reducible refine Kd.C_drew ?_))); (case side2 => exact HC0.out); rintro e w' ⟨rfl, ⟨nd, rfl⟩⟩; refine ⟨_, rfl, ?_⟩))
 go_ret
 exact ⟨by first | rfl | (simp; done) | (simp [*]; done), by repeat (first | exact Drawn0.refl _ | apply Drawn0.step)⟩}}))}))
end Go.Proofs.Ytpdfdaoohknfoaa.P
namespace Go.Proofs.Ytpdfdaoohknfoaa.P
open Go.RowKit Go.Proofs.YtpdfdaoohknfoaaW.PrintWords Go.Proofs.YtpdfdaoohknfoaaW.PrintLast Go.Proofs.YtpdfdaoohknfoaaW.PrintMore
attribute [local go_sem] max2_int min2_int max_two min_two max_three min_three max_four min_four   -- for this text's walks alone
set_option linter.unusedVariables false
set_option linter.unusedSimpArgs false

def vhead_book.f (k : Nat) (l0 : List Int) (a1 : Int) : Option (Bool) := if (l0.length : Int) = a1 then ((huff_Right.f k l0).bind fun t105 => (some t105)) else (some false)
theorem vhead_book.mono : ∀ a0 a1 k, LeO (vhead_book.f k a0 a1) (vhead_book.f (k + 1) a0 a1) := by
  intro a0 a1 k
  unfold vhead_book.f
  with_reducible repeat' first
   | exact huff_Right.mono _ _
   | exact LeO.refl _
   | exact LeO.none _
   | refine LeO.ite ?_ ?_
   | refine LeO.bind ?_ (fun _ => ?_)
set_option maxHeartbeats 8000000 in
set_option maxRecDepth 100000 in
theorem vhead_book.calls (k : Nat) (A0 : Option Addr) (c0 : Nat) (l0 : List Int) (a1 : Int) (r : Bool) (w : World) (hr0 : Kd.C (Kd.int .i64) w A0 l0.length l0) (hc0 : l0.length ≤ c0) (h : vhead_book.f k l0 a1 = some r) :
    Calls Try.prog 37 #[.slice A0 l0.length c0, .int .i64 a1] w fun e w' => e = .returned (.bool r) ∧ Drawn0 w w' := by
 have HR0 := Aside0.mk hr0
 have HC0 := Aside0.mk hc0
 clear hr0 hc0
 have H : (if (l0.length : Int) = a1 then ((huff_Right.f k l0).bind fun t105 => (some t105)) else (some false)) = some r := h
 clear h
 by_cases c3 : (l0.length : Int) = a1
 {
 rw [if_pos c3] at H
 have c3b0 : ((l0.length : Int) == a1) = true := beq_iff_eq.mpr c3
 have c3b1 : ((l0.length : Int) != a1) = false := bne_eq_false_iff_eq.mpr c3
 clear c3
 replace H := Option.bind_eq_some_iff.mp H
 obtain ⟨t105, A40, H⟩ := H
 replace H : (some t105) = some r := H
 have A4 := Aside0.mk A40
 clear A40
 obtain rfl := Option.some.inj H
 go_enter Try.func37, Try.ntmps37
 go_wp2_with (first | (go_at_call 63; (with_reducible refine (huff_Right.calls k _ _ l0 t105 _ ?side1 ?side2 A4.out).mono ?_); (case side1 => repeat (first | exact HR0.out | (with_reducible refine Kd.C_alloc ?_ _) | (with_reducible refine Kd.C_drewN ?_ _) | (with_reducible refine Kd.C_drew ?_))); (case side2 => exact HC0.out); rintro e w' ⟨rfl, ⟨nd, rfl⟩⟩))
 go_ret
 exact ⟨by first | rfl | (simp; done) | (simp [*]; done), by repeat (first | exact Drawn0.refl _ | apply Drawn0.step)⟩}
 {
 rw [if_neg c3] at H
 have c3b0 : ((l0.length : Int) == a1) = false := beq_eq_false_iff_ne.mpr c3
 have c3b1 : ((l0.length : Int) != a1) = true := bne_iff_ne.mpr c3
 obtain rfl := Option.some.inj H
 go_enter Try.func37, Try.ntmps37
 go_wp2
 go_ret
 exact ⟨by first | rfl | (simp; done) | (simp [*]; done), by repeat (first | exact Drawn0.refl _ | apply Drawn0.step)⟩}
end Go.Proofs.Ytpdfdaoohknfoaa.P
namespace Go.Proofs.Ytpdfdaoohknfoaa.P
open Go.RowKit Go.Proofs.YtpdfdaoohknfoaaW.PrintWords Go.Proofs.YtpdfdaoohknfoaaW.PrintLast Go.Proofs.YtpdfdaoohknfoaaW.PrintMore
attribute [local go_sem] max2_int min2_int max_two min_two max_three min_three max_four min_four   -- for this text's walks alone
set_option linter.unusedVariables false
set_option linter.unusedSimpArgs false

def vhead_Right.f (k : Nat) (a0_0 : Int) (a0_1 : Int) (l0_2 : List Int) (l0_3 : List Int) : Option (Bool) := if a0_0 ≥ 1 then (if a0_0 ≤ 2 then (if a0_1 ≥ 0 then (if a0_1 ≤ 12 then ((vhead_book.f k l0_2 45).bind fun t107 => (if t107 = true then ((vhead_book.f k l0_3 16).bind fun t108 => (if t108 = true then (if 15 < (l0_3.length : Int) then (some (decide ((rd l0_3 15) > 0))) else (none)) else (some false))) else (some false))) else (some false)) else (some false)) else (some false)) else (some false)
theorem vhead_Right.mono : ∀ a0 a1 a2 a3 k, LeO (vhead_Right.f k a0 a1 a2 a3) (vhead_Right.f (k + 1) a0 a1 a2 a3) := by
  intro a0 a1 a2 a3 k
  unfold vhead_Right.f
  with_reducible repeat' first
   | exact vhead_book.mono _ _ _
   | exact LeO.refl _
   | exact LeO.none _
   | refine LeO.ite ?_ ?_
   | refine LeO.bind ?_ (fun _ => ?_)
set_option maxHeartbeats 8000000 in
set_option maxRecDepth 100000 in
theorem vhead_Right.calls (k : Nat) (a0_0 : Int) (a0_1 : Int) (A0_2 : Option Addr) (c0_2 : Nat) (l0_2 : List Int) (A0_3 : Option Addr) (c0_3 : Nat) (l0_3 : List Int) (r : Bool) (w : World) (hr0_2 : Kd.C (Kd.int .i64) w A0_2 l0_2.length l0_2) (hc0_2 : l0_2.length ≤ c0_2) (hr0_3 : Kd.C (Kd.int .i64) w A0_3 l0_3.length l0_3) (hc0_3 : l0_3.length ≤ c0_3) (h : vhead_Right.f k a0_0 a0_1 l0_2 l0_3 = some r) :
    Calls Try.prog 17 #[.agg #[.int .i64 a0_0, .int .i64 a0_1, .slice A0_2 l0_2.length c0_2, .slice A0_3 l0_3.length c0_3]] w fun e w' => e = .returned (.bool r) ∧ Below w.heap.size w w' := by
 have hu24 := Try.underlying24
 have HR0_2 := Aside0.mk hr0_2
 have HC0_2 := Aside0.mk hc0_2
 clear hr0_2 hc0_2
 have HR0_3 := Aside0.mk hr0_3
 have HC0_3 := Aside0.mk hc0_3
 clear hr0_3 hc0_3
 have HB := Aside0.mk (Below.refl w.heap.size w)
 have H : (if a0_0 ≥ 1 then (if a0_0 ≤ 2 then (if a0_1 ≥ 0 then (if a0_1 ≤ 12 then ((vhead_book.f k l0_2 45).bind fun t107 => (if t107 = true then ((vhead_book.f k l0_3 16).bind fun t108 => (if t108 = true then (if 15 < (l0_3.length : Int) then (some (decide ((rd l0_3 15) > 0))) else (none)) else (some false))) else (some false))) else (some false)) else (some false)) else (some false)) else (some false)) = some r := h
 clear h
 by_cases c2 : a0_0 ≥ 1
 {
 rw [if_pos c2] at H
 have c2b0 : decide (1 ≤ a0_0) = true := decide_eq_true c2
 clear c2
 by_cases c3 : a0_0 ≤ 2
 {
 rw [if_pos c3] at H
 have c3b0 : decide (a0_0 ≤ 2) = true := decide_eq_true c3
 clear c3
 by_cases c4 : a0_1 ≥ 0
 {
 rw [if_pos c4] at H
 have c4b0 : decide (0 ≤ a0_1) = true := decide_eq_true c4
 clear c4
 by_cases c5 : a0_1 ≤ 12
 {
 rw [if_pos c5] at H
 have c5b0 : decide (a0_1 ≤ 12) = true := decide_eq_true c5
 clear c5
 obtain ⟨t107, A6, H⟩ := ob_ H
 (try dsimp only at H)
 by_cases c7 : t107 = true
 {
 subst c7
 rw [if_pos rfl] at H
 obtain ⟨t108, A8, H⟩ := ob_ H
 (try dsimp only at H)
 by_cases c9 : t108 = true
 {
 subst c9
 rw [if_pos rfl] at H
 by_cases c10 : 15 < (l0_3.length : Int)
 {
 rw [if_pos c10] at H
 have c10b0 : decide (15 < (l0_3.length : Int)) = true := decide_eq_true c10
 have c10b1 : decide (15 < l0_3.length) = true := decide_eq_true (by omega)
 clear c10
 obtain rfl := Option.some.inj H
 go_enter Try.func17, Try.ntmps17
 go_wp2_with (first | ((with_reducible refine gate_dst (N := 1) rfl ?_); refine bx_ HB 1 #[.int .i64 a0_0, .int .i64 a0_1, .slice A0_2 l0_2.length c0_2, .slice A0_3 l0_3.length c0_3] 24 ?_; clear HB; intro gb106 hg w11 hb BK106 GE106 HB; have GW106 := GE106; clear hb hg; obtain ⟨hcz12_0, hcz12_1, hcz12_2, hcz12_3, hfz12_0, hfz12_1, hfz12_2, hfz12_3⟩ := e4_ BK106) | (go_at_call 37; (with_reducible refine (vhead_book.calls k _ _ l0_2 45 true _ ?side1 ?side2 A6.out).mono ?_); (case side1 => exact kC_ HR0_2 HB); (case side2 => exact HC0_2.out); rintro e w' ⟨rfl, ⟨nd, rfl⟩⟩) | (go_at_call 37; (with_reducible refine (vhead_book.calls k _ _ l0_3 16 true _ ?side1 ?side2 A8.out).mono ?_); (case side1 => repeat (first | exact (Kd.C_below HR0_3.out (bl_ HB)) | (with_reducible refine Kd.C_alloc ?_ _) | (with_reducible refine Kd.C_drewN ?_ _) | (with_reducible refine Kd.C_drew ?_))); (case side2 => exact HC0_3.out); rintro e w' ⟨rfl, ⟨nd, rfl⟩⟩; have p109 : 0 ≤ (15 : Int) := (by omega); have q109 : 15 < (l0_3.length : Int) := of_decide_eq_true am_; obtain ⟨ad109, e109, hx109_0⟩ := Kd.at_int HR0_3.out 15 p109 q109; cases e109; (try simp only [show (15 : Int).toNat = 15 from rfl, Nat.reduceMul, Nat.reduceEqDiff, Go.Addr.add, ↓reduceIte] at hx109_0); have qi109 : (15 < l0_3.length) = True := eq_true (by omega); (try rw [show ((15 : Int)).toNat = 15 from rfl] at hx109_0); replace hx109_0 := (HB.out.cell (World.block_lt_of_cell? w _ hx109_0)).trans hx109_0; replace p109 := eq_true p109; replace q109 := eq_true q109))
 go_ret
 exact ⟨by first | rfl | (simp [errW_none, errW_some] <;> rfl) | (simp [*, errW_none, errW_some] <;> rfl), bl_ HB⟩}
 {
 rw [if_neg c10] at H
 exact absurd H (by simp)}}
 {
 replace c9 := Bool.eq_false_iff.mpr c9
 subst c9
 rw [if_neg (show ¬ (false = true) by decide)] at H
 obtain rfl := Option.some.inj H
 go_enter Try.func17, Try.ntmps17
 go_wp2_with (first | ((with_reducible refine gate_dst (N := 1) rfl ?_); refine bx_ HB 1 #[.int .i64 a0_0, .int .i64 a0_1, .slice A0_2 l0_2.length c0_2, .slice A0_3 l0_3.length c0_3] 24 ?_; clear HB; intro gb106 hg w13 hb BK106 GE106 HB; have GW106 := GE106; clear hb hg; obtain ⟨hcz14_0, hcz14_1, hcz14_2, hcz14_3, hfz14_0, hfz14_1, hfz14_2, hfz14_3⟩ := e4_ BK106) | (go_at_call 37; (with_reducible refine (vhead_book.calls k _ _ l0_2 45 true _ ?side1 ?side2 A6.out).mono ?_); (case side1 => exact kC_ HR0_2 HB); (case side2 => exact HC0_2.out); rintro e w' ⟨rfl, ⟨nd, rfl⟩⟩) | (go_at_call 37; (with_reducible refine (vhead_book.calls k _ _ l0_3 16 false _ ?side1 ?side2 A8.out).mono ?_); (case side1 => repeat (first | exact (Kd.C_below HR0_3.out (bl_ HB)) | (with_reducible refine Kd.C_alloc ?_ _) | (with_reducible refine Kd.C_drewN ?_ _) | (with_reducible refine Kd.C_drew ?_))); (case side2 => exact HC0_3.out); rintro e w' ⟨rfl, ⟨nd, rfl⟩⟩))
 go_ret
 exact ⟨by first | rfl | (simp [errW_none, errW_some] <;> rfl) | (simp [*, errW_none, errW_some] <;> rfl), bl_ HB⟩}}
 {
 replace c7 := Bool.eq_false_iff.mpr c7
 subst c7
 rw [if_neg (show ¬ (false = true) by decide)] at H
 obtain rfl := Option.some.inj H
 go_enter Try.func17, Try.ntmps17
 go_wp2_with (first | ((with_reducible refine gate_dst (N := 1) rfl ?_); refine bx_ HB 1 #[.int .i64 a0_0, .int .i64 a0_1, .slice A0_2 l0_2.length c0_2, .slice A0_3 l0_3.length c0_3] 24 ?_; clear HB; intro gb106 hg w15 hb BK106 GE106 HB; have GW106 := GE106; clear hb hg; obtain ⟨hcz16_0, hcz16_1, hcz16_2, hcz16_3, hfz16_0, hfz16_1, hfz16_2, hfz16_3⟩ := e4_ BK106) | (go_at_call 37; (with_reducible refine (vhead_book.calls k _ _ l0_2 45 false _ ?side1 ?side2 A6.out).mono ?_); (case side1 => exact kC_ HR0_2 HB); (case side2 => exact HC0_2.out); rintro e w' ⟨rfl, ⟨nd, rfl⟩⟩))
 go_ret
 exact ⟨by first | rfl | (simp [errW_none, errW_some] <;> rfl) | (simp [*, errW_none, errW_some] <;> rfl), bl_ HB⟩}}
 {
 rw [if_neg c5] at H
 have c5b0 : decide (a0_1 ≤ 12) = false := decide_eq_false c5
 clear c5
 obtain rfl := Option.some.inj H
 go_enter Try.func17, Try.ntmps17
 go_wp2_with (first | ((with_reducible refine gate_dst (N := 1) rfl ?_); refine bx_ HB 1 #[.int .i64 a0_0, .int .i64 a0_1, .slice A0_2 l0_2.length c0_2, .slice A0_3 l0_3.length c0_3] 24 ?_; clear HB; intro gb106 hg w17 hb BK106 GE106 HB; have GW106 := GE106; clear hb hg; obtain ⟨hcz18_0, hcz18_1, hcz18_2, hcz18_3, hfz18_0, hfz18_1, hfz18_2, hfz18_3⟩ := e4_ BK106))
 go_ret
 exact ⟨by first | rfl | (simp [errW_none, errW_some] <;> rfl) | (simp [*, errW_none, errW_some] <;> rfl), bl_ HB⟩}}
 {
 rw [if_neg c4] at H
 have c4b0 : decide (0 ≤ a0_1) = false := decide_eq_false c4
 clear c4
 obtain rfl := Option.some.inj H
 go_enter Try.func17, Try.ntmps17
 go_wp2_with (first | ((with_reducible refine gate_dst (N := 1) rfl ?_); refine bx_ HB 1 #[.int .i64 a0_0, .int .i64 a0_1, .slice A0_2 l0_2.length c0_2, .slice A0_3 l0_3.length c0_3] 24 ?_; clear HB; intro gb106 hg w19 hb BK106 GE106 HB; have GW106 := GE106; clear hb hg; obtain ⟨hcz20_0, hcz20_1, hcz20_2, hcz20_3, hfz20_0, hfz20_1, hfz20_2, hfz20_3⟩ := e4_ BK106))
 go_ret
 exact ⟨by first | rfl | (simp [errW_none, errW_some] <;> rfl) | (simp [*, errW_none, errW_some] <;> rfl), bl_ HB⟩}}
 {
 rw [if_neg c3] at H
 have c3b0 : decide (a0_0 ≤ 2) = false := decide_eq_false c3
 clear c3
 obtain rfl := Option.some.inj H
 go_enter Try.func17, Try.ntmps17
 go_wp2_with (first | ((with_reducible refine gate_dst (N := 1) rfl ?_); refine bx_ HB 1 #[.int .i64 a0_0, .int .i64 a0_1, .slice A0_2 l0_2.length c0_2, .slice A0_3 l0_3.length c0_3] 24 ?_; clear HB; intro gb106 hg w21 hb BK106 GE106 HB; have GW106 := GE106; clear hb hg; obtain ⟨hcz22_0, hcz22_1, hcz22_2, hcz22_3, hfz22_0, hfz22_1, hfz22_2, hfz22_3⟩ := e4_ BK106))
 go_ret
 exact ⟨by first | rfl | (simp [errW_none, errW_some] <;> rfl) | (simp [*, errW_none, errW_some] <;> rfl), bl_ HB⟩}}
 {
 rw [if_neg c2] at H
 have c2b0 : decide (1 ≤ a0_0) = false := decide_eq_false c2
 clear c2
 obtain rfl := Option.some.inj H
 go_enter Try.func17, Try.ntmps17
 go_wp2_with (first | ((with_reducible refine gate_dst (N := 1) rfl ?_); refine bx_ HB 1 #[.int .i64 a0_0, .int .i64 a0_1, .slice A0_2 l0_2.length c0_2, .slice A0_3 l0_3.length c0_3] 24 ?_; clear HB; intro gb106 hg w23 hb BK106 GE106 HB; have GW106 := GE106; clear hb hg; obtain ⟨hcz24_0, hcz24_1, hcz24_2, hcz24_3, hfz24_0, hfz24_1, hfz24_2, hfz24_3⟩ := e4_ BK106))
 go_ret
 exact ⟨by first | rfl | (simp [errW_none, errW_some] <;> rfl) | (simp [*, errW_none, errW_some] <;> rfl), bl_ HB⟩}
end Go.Proofs.Ytpdfdaoohknfoaa.P
namespace Go.Proofs.Ytpdfdaoohknfoaa.P
open Go.RowKit Go.Proofs.YtpdfdaoohknfoaaW.PrintWords Go.Proofs.YtpdfdaoohknfoaaW.PrintLast Go.Proofs.YtpdfdaoohknfoaaW.PrintMore
attribute [local go_sem] max2_int min2_int max_two min_two max_three min_three max_four min_four   -- for this text's walks alone
set_option linter.unusedVariables false
set_option linter.unusedSimpArgs false

def floor_gains.l0 : Nat → List Int → Int → List Int → Int → Int → Option (Bool)
  | 0, _, _, _, _, _ => none
  | k + 1, x0, x1, x7, x8, x9 => if x9 < x8 then (if 0 ≤ x9 then (if x9 < (x7.length : Int) then (if (rd x7 x9) < 0 then (some false) else (if (rd x7 x9) > 44 then (some false) else (floor_gains.l0 k x0 x1 x7 x8 (wrap64 (x9 + 1))))) else (none)) else (none)) else (some ((x0.length : Int) == x1))
def floor_gains.f (k : Nat) (l0 : List Int) (a1 : Int) : Option (Bool) := floor_gains.l0 k l0 a1 l0 (l0.length : Int) 0
theorem floor_gains.mono_l : ∀ k, (∀ y0 y1 y2 y3 y4, LeO (floor_gains.l0 k y0 y1 y2 y3 y4) (floor_gains.l0 (k + 1) y0 y1 y2 y3 y4))
  | 0 => fun _ _ _ _ _ r h => by simp [floor_gains.l0] at h
  | k + 1 => by
    have ih0 := floor_gains.mono_l k
    · intro y0 y1 y2 y3 y4
      unfold floor_gains.l0
      with_reducible repeat' first
   | exact ih0 _ _ _ _ _
   | exact LeO.refl _
   | exact LeO.none _
   | refine LeO.ite ?_ ?_
   | refine LeO.bind ?_ (fun _ => ?_)
theorem floor_gains.mono : ∀ a0 a1 k, LeO (floor_gains.f k a0 a1) (floor_gains.f (k + 1) a0 a1) := by
  intro a0 a1 k
  have ih0 := floor_gains.mono_l k
  unfold floor_gains.f
  with_reducible repeat' first
   | exact ih0 _ _ _ _ _
   | exact LeO.refl _
   | exact LeO.none _
   | refine LeO.ite ?_ ?_
   | refine LeO.bind ?_ (fun _ => ?_)
set_option maxHeartbeats 8000000 in
set_option maxRecDepth 100000 in
theorem floor_gains.calls (k : Nat) (A0 : Option Addr) (c0 : Nat) (l0 : List Int) (a1 : Int) (r : Bool) (w : World) (hr0 : Kd.C (Kd.int .i64) w A0 l0.length l0) (hc0 : l0.length ≤ c0) (h : floor_gains.f k l0 a1 = some r) :
    Calls Try.prog 73 #[.slice A0 l0.length c0, .int .i64 a1] w fun e w' => e = .returned (.bool r) ∧ Drawn0 w w' := by
 have HR0 := Aside0.mk hr0
 have HC0 := Aside0.mk hc0
 clear hr0 hc0
 have H : (floor_gains.l0 k l0 a1 l0 (l0.length : Int) 0) = some r := h
 clear h
 have H' := Aside0.mk H
 clear H
 go_enter Try.func73, Try.ntmps73
 go_wp2
 go_loopg [9] k (fun kq v9 w' => ∃ (x9_1 : Int), v9 = .int .i64 x9_1 ∧ Aside0 (floor_gains.l0 kq l0 a1 l0 (l0.length : Int) x9_1 = some r) ∧ Aside0 (kq ≤ k) ∧ Drawn0 w w')
 case atStart => exact ⟨(0), rs_, H', ⟨Nat.le_refl _⟩, by repeat (first | exact Drawn0.refl _ | apply Drawn0.step)⟩
 case round => (
 clear H'
 obtain ⟨x9_1, rfl, HA, HK1, ⟨m1, rfl⟩⟩ := hrel
 cases gk with
 | zero => exact absurd HA.out (by simp [floor_gains.l0])
 | succ k1 => (
 have H := HA.out
 clear HA
 simp only [floor_gains.l0] at H
 by_cases c3 : x9_1 < (l0.length : Int)
 {
 rw [if_pos c3] at H
 have c3b0 : decide (x9_1 < (l0.length : Int)) = true := decide_eq_true c3
 clear c3
 by_cases c4 : 0 ≤ x9_1
 {
 rw [if_pos c4] at H
 have c4b0 : decide (0 ≤ x9_1) = true := decide_eq_true c4
 clear c4
 by_cases c5 : x9_1 < (l0.length : Int)
 {
 rw [if_pos c5] at H
 have c5b0 : decide (x9_1 < (l0.length : Int)) = true := decide_eq_true c5
 clear c5
 by_cases c6 : (rd l0 x9_1) < 0
 {
 rw [if_pos c6] at H
 have c6b0 : decide ((rd l0 x9_1) < 0) = true := decide_eq_true c6
 clear c6
 obtain rfl := Option.some.inj H
 have p412 : 0 ≤ (x9_1 : Int) := of_decide_eq_true am_
 have q412 : x9_1 < (l0.length : Int) := of_decide_eq_true am_
 obtain ⟨ad412, e412, hx412_0⟩ := Kd.at_int HR0.out x9_1 p412 q412
 cases e412
 replace p412 := eq_true p412
 replace q412 := eq_true q412
 go_wp2
 go_ret
 exact ⟨by first | rfl | (simp; done) | (simp [*]; done), by repeat (first | exact Drawn0.refl _ | apply Drawn0.step)⟩}
 {
 rw [if_neg c6] at H
 have c6b0 : decide ((rd l0 x9_1) < 0) = false := decide_eq_false c6
 clear c6
 by_cases c7 : (rd l0 x9_1) > 44
 {
 rw [if_pos c7] at H
 have c7b0 : decide (44 < (rd l0 x9_1)) = true := decide_eq_true c7
 clear c7
 obtain rfl := Option.some.inj H
 have p412 : 0 ≤ (x9_1 : Int) := of_decide_eq_true am_
 have q412 : x9_1 < (l0.length : Int) := of_decide_eq_true am_
 obtain ⟨ad412, e412, hx412_0⟩ := Kd.at_int HR0.out x9_1 p412 q412
 cases e412
 replace p412 := eq_true p412
 replace q412 := eq_true q412
 go_wp2
 go_ret
 exact ⟨by first | rfl | (simp; done) | (simp [*]; done), by repeat (first | exact Drawn0.refl _ | apply Drawn0.step)⟩}
 {
 rw [if_neg c7] at H
 have c7b0 : decide (44 < (rd l0 x9_1)) = false := decide_eq_false c7
 clear c7
 have H' := Aside0.mk H
 clear H
 have p412 : 0 ≤ (x9_1 : Int) := of_decide_eq_true am_
 have q412 : x9_1 < (l0.length : Int) := of_decide_eq_true am_
 obtain ⟨ad412, e412, hx412_0⟩ := Kd.at_int HR0.out x9_1 p412 q412
 cases e412
 replace p412 := eq_true p412
 replace q412 := eq_true q412
 go_wp2
 go_roundg k1
 case measure => have := HK1.out; omega
 case rel => exact ⟨(wrap64 (x9_1 + 1)), rs_, H', ⟨by have := HK1.out; omega⟩, by repeat (first | exact Drawn0.refl _ | apply Drawn0.step)⟩}}}
 {
 rw [if_neg c5] at H
 exact absurd H (by simp)}}
 {
 rw [if_neg c4] at H
 exact absurd H (by simp)}}
 {
 rw [if_neg c3] at H
 have c3b0 : decide (x9_1 < (l0.length : Int)) = false := decide_eq_false c3
 clear c3
 obtain rfl := Option.some.inj H
 go_wp2
 go_ret
 exact ⟨by first | rfl | (simp; done) | (simp [*]; done), by repeat (first | exact Drawn0.refl _ | apply Drawn0.step)⟩}))
end Go.Proofs.Ytpdfdaoohknfoaa.P
namespace Go.Proofs.Ytpdfdaoohknfoaa.P
open Go.RowKit Go.Proofs.YtpdfdaoohknfoaaW.PrintWords Go.Proofs.YtpdfdaoohknfoaaW.PrintLast Go.Proofs.YtpdfdaoohknfoaaW.PrintMore
attribute [local go_sem] max2_int min2_int max_two min_two max_three min_three max_four min_four   -- for this text's walks alone
set_option linter.unusedVariables false
set_option linter.unusedSimpArgs false

def floor_Right.f (k : Nat) (l0 : List Int) : Option (Bool) := (floor_gains.f k l0 6).bind fun t413 => (some t413)
theorem floor_Right.mono : ∀ a0 k, LeO (floor_Right.f k a0) (floor_Right.f (k + 1) a0) := by
  intro a0 k
  unfold floor_Right.f
  with_reducible repeat' first
   | exact floor_gains.mono _ _ _
   | exact LeO.refl _
   | exact LeO.none _
   | refine LeO.ite ?_ ?_
   | refine LeO.bind ?_ (fun _ => ?_)
set_option maxHeartbeats 8000000 in
set_option maxRecDepth 100000 in
theorem floor_Right.calls (k : Nat) (A0 : Option Addr) (c0 : Nat) (l0 : List Int) (r : Bool) (w : World) (hr0 : Kd.C (Kd.int .i64) w A0 l0.length l0) (hc0 : l0.length ≤ c0) (h : floor_Right.f k l0 = some r) :
    Calls Try.prog 66 #[.slice A0 l0.length c0] w fun e w' => e = .returned (.bool r) ∧ Drawn0 w w' := by
 have HR0 := Aside0.mk hr0
 have HC0 := Aside0.mk hc0
 clear hr0 hc0
 have H : ((floor_gains.f k l0 6).bind fun t413 => (some t413)) = some r := h
 clear h
 replace H := Option.bind_eq_some_iff.mp H
 obtain ⟨t413, A20, H⟩ := H
 replace H : (some t413) = some r := H
 have A2 := Aside0.mk A20
 clear A20
 obtain rfl := Option.some.inj H
 go_enter Try.func66, Try.ntmps66
 go_wp2_with (first | ((with_reducible refine gate_callee (f := 73) rfl ?_); refine gL_ (some 4) Try.func73 #[.slice A0 l0.length c0, .int .i64 6] ?_; (with_reducible refine (floor_gains.calls k _ _ l0 6 t413 _ ?side1 ?side2 A2.out).mono ?_); (case side1 => repeat (first | exact HR0.out | (with_reducible refine Kd.C_alloc ?_ _) | (with_reducible refine Kd.C_drewN ?_ _) | (with_reducible refine Kd.C_drew ?_))); (case side2 => exact HC0.out); rintro e w' ⟨rfl, ⟨nd, rfl⟩⟩; refine ⟨_, rfl, ?_⟩))
 go_ret
 exact ⟨by first | rfl | (simp; done) | (simp [*]; done), by repeat (first | exact Drawn0.refl _ | apply Drawn0.step)⟩
end Go.Proofs.Ytpdfdaoohknfoaa.P
namespace Go.Proofs.Ytpdfdaoohknfoaa.P
open Go.RowKit Go.Proofs.YtpdfdaoohknfoaaW.PrintWords Go.Proofs.YtpdfdaoohknfoaaW.PrintLast Go.Proofs.YtpdfdaoohknfoaaW.PrintMore
attribute [local go_sem] max2_int min2_int max_two min_two max_three min_three max_four min_four   -- for this text's walks alone
set_option linter.unusedVariables false
set_option linter.unusedSimpArgs false

def vpack_posts.l0 : Nat → List Int → Int → Int → Int → Int → List Int → List Int → Option (Bool)
  | 0, _, _, _, _, _, _, _ => none
  | k + 1, x10, x11, x12, x415000, x415001, x415002, x415003 => if x12 < x11 then (if 0 ≤ x12 then (if x12 < (x10.length : Int) then (if 0 ≤ (rd x10 x12) then (if (rd x10 x12) < (x415002.length : Int) then (if (rd x415002 (rd x10 x12)) = 0 then (some false) else (vpack_posts.l0 k x10 x11 (wrap64 (x12 + 1)) x415000 x415001 x415002 x415003)) else (none)) else (none)) else (none)) else (none)) else (some true)
def vpack_posts.f (k : Nat) (a0_0 : Int) (a0_1 : Int) (l0_2 : List Int) (l0_3 : List Int) (l1 : List Int) : Option (Bool) := (floor_Right.f k l1).bind fun t415 => (if t415 = true then (vpack_posts.l0 k l1 (l1.length : Int) 0 a0_0 a0_1 l0_2 l0_3) else (some false))
theorem vpack_posts.mono_l : ∀ k, (∀ y0 y1 y2 y3 y4 y5 y6, LeO (vpack_posts.l0 k y0 y1 y2 y3 y4 y5 y6) (vpack_posts.l0 (k + 1) y0 y1 y2 y3 y4 y5 y6))
  | 0 => fun _ _ _ _ _ _ _ r h => by simp [vpack_posts.l0] at h
  | k + 1 => by
    have ih0 := vpack_posts.mono_l k
    · intro y0 y1 y2 y3 y4 y5 y6
      unfold vpack_posts.l0
      with_reducible repeat' first
   | exact ih0 _ _ _ _ _ _ _
   | exact floor_Right.mono _ _
   | exact LeO.refl _
   | exact LeO.none _
   | refine LeO.ite ?_ ?_
   | refine LeO.bind ?_ (fun _ => ?_)
theorem vpack_posts.mono : ∀ a0 a1 a2 a3 a4 k, LeO (vpack_posts.f k a0 a1 a2 a3 a4) (vpack_posts.f (k + 1) a0 a1 a2 a3 a4) := by
  intro a0 a1 a2 a3 a4 k
  have ih0 := vpack_posts.mono_l k
  unfold vpack_posts.f
  with_reducible repeat' first
   | exact ih0 _ _ _ _ _ _ _
   | exact floor_Right.mono _ _
   | exact LeO.refl _
   | exact LeO.none _
   | refine LeO.ite ?_ ?_
   | refine LeO.bind ?_ (fun _ => ?_)
set_option maxHeartbeats 8000000 in
set_option maxRecDepth 100000 in
theorem vpack_posts.calls (k : Nat) (a0_0 : Int) (a0_1 : Int) (A0_2 : Option Addr) (c0_2 : Nat) (l0_2 : List Int) (A0_3 : Option Addr) (c0_3 : Nat) (l0_3 : List Int) (A1 : Option Addr) (c1 : Nat) (l1 : List Int) (r : Bool) (w : World) (hr0_2 : Kd.C (Kd.int .i64) w A0_2 l0_2.length l0_2) (hc0_2 : l0_2.length ≤ c0_2) (hr0_3 : Kd.C (Kd.int .i64) w A0_3 l0_3.length l0_3) (hc0_3 : l0_3.length ≤ c0_3) (hr1 : Kd.C (Kd.int .i64) w A1 l1.length l1) (hc1 : l1.length ≤ c1) (h : vpack_posts.f k a0_0 a0_1 l0_2 l0_3 l1 = some r) :
    Calls Try.prog 48 #[.agg #[.int .i64 a0_0, .int .i64 a0_1, .slice A0_2 l0_2.length c0_2, .slice A0_3 l0_3.length c0_3], .slice A1 l1.length c1] w fun e w' => e = .returned (.bool r) ∧ Below w.heap.size w w' := by
 have hu24 := Try.underlying24
 have HR0_2 := Aside0.mk hr0_2
 have HC0_2 := Aside0.mk hc0_2
 clear hr0_2 hc0_2
 have HR0_3 := Aside0.mk hr0_3
 have HC0_3 := Aside0.mk hc0_3
 clear hr0_3 hc0_3
 have HR1 := Aside0.mk hr1
 have HC1 := Aside0.mk hc1
 clear hr1 hc1
 have HB := Aside0.mk (Below.refl w.heap.size w)
 have H : ((floor_Right.f k l1).bind fun t415 => (if t415 = true then (vpack_posts.l0 k l1 (l1.length : Int) 0 a0_0 a0_1 l0_2 l0_3) else (some false))) = some r := h
 clear h
 obtain ⟨t415, A3, H⟩ := ob_ H
 (try dsimp only at H)
 by_cases c4 : t415 = true
 {
 subst c4
 rw [if_pos rfl] at H
 have H' := Aside0.mk H
 clear H
 go_enter Try.func48, Try.ntmps48
 go_wp2_with (first | ((with_reducible refine gate_dst (N := 2) rfl ?_); refine bx_ HB 2 #[.int .i64 a0_0, .int .i64 a0_1, .slice A0_2 l0_2.length c0_2, .slice A0_3 l0_3.length c0_3] 24 ?_; clear HB; intro gb414 hg w5 hb BK414 GE414 HB; have GW414 := GE414; clear hb hg) | ((with_reducible refine gate_callee (f := 66) rfl ?_); refine gL_ (some 8) Try.func66 #[.slice A1 l1.length c1] ?_; (with_reducible refine (floor_Right.calls k _ _ l1 true _ ?side1 ?side2 A3.out).mono ?_); (case side1 => exact kC_ HR1 HB); (case side2 => exact HC1.out); rintro e w' ⟨rfl, ⟨nd, rfl⟩⟩; refine ⟨_, rfl, ?_⟩))
 go_loopg [12] k (fun kq v12 w' => ∃ (x12_1 : Int), v12 = .int .i64 x12_1 ∧ Aside0 (vpack_posts.l0 kq l1 (l1.length : Int) x12_1 a0_0 a0_1 l0_2 l0_3 = some r) ∧ Aside0 (kq ≤ k) ∧ Aside0 (w'.heap[gb414]? = some (.cells #[.int .i64 a0_0, .int .i64 a0_1, (.slice A0_2 l0_2.length c0_2), (.slice A0_3 l0_3.length c0_3)] 24 (0, 0))) ∧ Aside0 (Below w.heap.size w w'))
 case atStart => exact ⟨(0), rs_, H', ⟨Nat.le_refl _⟩, ⟨bk_ BK414⟩, ⟨bl_ HB⟩⟩
 case round => (
 clear H'
 try clear c1
 try clear c4
 obtain ⟨x12_1, rfl, HA, HK1, BK414, HB⟩ := hrel
 cases gk with
 | zero => exact absurd HA.out (by simp [vpack_posts.l0])
 | succ k1 => (
 have H := HA.out
 clear HA
 simp only [vpack_posts.l0] at H
 by_cases c6 : x12_1 < (l1.length : Int)
 {
 rw [if_pos c6] at H
 have c6b0 : decide (x12_1 < (l1.length : Int)) = true := decide_eq_true c6
 clear c6
 by_cases c7 : 0 ≤ x12_1
 {
 rw [if_pos c7] at H
 have c7b0 : decide (0 ≤ x12_1) = true := decide_eq_true c7
 clear c7
 by_cases c8 : x12_1 < (l1.length : Int)
 {
 rw [if_pos c8] at H
 have c8b0 : decide (x12_1 < (l1.length : Int)) = true := decide_eq_true c8
 clear c8
 by_cases c9 : 0 ≤ (rd l1 x12_1)
 {
 rw [if_pos c9] at H
 have c9b0 : decide (0 ≤ (rd l1 x12_1)) = true := decide_eq_true c9
 clear c9
 by_cases c10 : (rd l1 x12_1) < (l0_2.length : Int)
 {
 rw [if_pos c10] at H
 have c10b0 : decide ((rd l1 x12_1) < (l0_2.length : Int)) = true := decide_eq_true c10
 clear c10
 by_cases c11 : (rd l0_2 (rd l1 x12_1)) = 0
 {
 rw [if_pos c11] at H
 have c11b0 : ((rd l0_2 (rd l1 x12_1)) == 0) = true := beq_iff_eq.mpr c11
 have c11b1 : ((rd l0_2 (rd l1 x12_1)) != 0) = false := bne_eq_false_iff_eq.mpr c11
 clear c11
 obtain rfl := Option.some.inj H
 have p416 : 0 ≤ (x12_1 : Int) := of_decide_eq_true am_
 have q416 : x12_1 < (l1.length : Int) := of_decide_eq_true am_
 obtain ⟨ad416, e416, hx416_0⟩ := Kd.at_int HR1.out x12_1 p416 q416
 cases e416
 replace hx416_0 := (HB.out.cell (World.block_lt_of_cell? w _ hx416_0)).trans hx416_0
 replace p416 := eq_true p416
 replace q416 := eq_true q416
 obtain ⟨hcz12_0, hcz12_1, hcz12_2, hcz12_3, hfz12_0, hfz12_1, hfz12_2, hfz12_3⟩ := e4_ BK414
 have p417 : 0 ≤ ((rd l1 x12_1) : Int) := of_decide_eq_true am_
 have q417 : (rd l1 x12_1) < (l0_2.length : Int) := of_decide_eq_true am_
 obtain ⟨ad417, e417, hx417_0⟩ := Kd.at_int HR0_2.out (rd l1 x12_1) p417 q417
 cases e417
 replace hx417_0 := (HB.out.cell (World.block_lt_of_cell? w _ hx417_0)).trans hx417_0
 replace p417 := eq_true p417
 replace q417 := eq_true q417
 go_wp2
 go_ret
 exact ⟨by first | rfl | (simp [errW_none, errW_some] <;> rfl) | (simp [*, errW_none, errW_some] <;> rfl), bl_ HB⟩}
 {
 rw [if_neg c11] at H
 have c11b0 : ((rd l0_2 (rd l1 x12_1)) == 0) = false := beq_eq_false_iff_ne.mpr c11
 have c11b1 : ((rd l0_2 (rd l1 x12_1)) != 0) = true := bne_iff_ne.mpr c11
 have H' := Aside0.mk H
 clear H
 have p416 : 0 ≤ (x12_1 : Int) := of_decide_eq_true am_
 have q416 : x12_1 < (l1.length : Int) := of_decide_eq_true am_
 obtain ⟨ad416, e416, hx416_0⟩ := Kd.at_int HR1.out x12_1 p416 q416
 cases e416
 replace hx416_0 := (HB.out.cell (World.block_lt_of_cell? w _ hx416_0)).trans hx416_0
 replace p416 := eq_true p416
 replace q416 := eq_true q416
 obtain ⟨hcz13_0, hcz13_1, hcz13_2, hcz13_3, hfz13_0, hfz13_1, hfz13_2, hfz13_3⟩ := e4_ BK414
 have p417 : 0 ≤ ((rd l1 x12_1) : Int) := of_decide_eq_true am_
 have q417 : (rd l1 x12_1) < (l0_2.length : Int) := of_decide_eq_true am_
 obtain ⟨ad417, e417, hx417_0⟩ := Kd.at_int HR0_2.out (rd l1 x12_1) p417 q417
 cases e417
 replace hx417_0 := (HB.out.cell (World.block_lt_of_cell? w _ hx417_0)).trans hx417_0
 replace p417 := eq_true p417
 replace q417 := eq_true q417
 go_wp2
 go_roundg k1
 case measure => have := HK1.out; omega
 case rel => exact ⟨(wrap64 (x12_1 + 1)), rs_, H', ⟨by have := HK1.out; omega⟩, ⟨bk_ BK414⟩, ⟨bl_ HB⟩⟩}}
 {
 rw [if_neg c10] at H
 exact absurd H (by simp)}}
 {
 rw [if_neg c9] at H
 exact absurd H (by simp)}}
 {
 rw [if_neg c8] at H
 exact absurd H (by simp)}}
 {
 rw [if_neg c7] at H
 exact absurd H (by simp)}}
 {
 rw [if_neg c6] at H
 have c6b0 : decide (x12_1 < (l1.length : Int)) = false := decide_eq_false c6
 clear c6
 obtain rfl := Option.some.inj H
 go_wp2
 go_ret
 exact ⟨by first | rfl | (simp [errW_none, errW_some] <;> rfl) | (simp [*, errW_none, errW_some] <;> rfl), bl_ HB⟩}))}
 {
 replace c4 := Bool.eq_false_iff.mpr c4
 subst c4
 rw [if_neg (show ¬ (false = true) by decide)] at H
 obtain rfl := Option.some.inj H
 go_enter Try.func48, Try.ntmps48
 go_wp2_with (first | ((with_reducible refine gate_dst (N := 2) rfl ?_); refine bx_ HB 2 #[.int .i64 a0_0, .int .i64 a0_1, .slice A0_2 l0_2.length c0_2, .slice A0_3 l0_3.length c0_3] 24 ?_; clear HB; intro gb414 hg w14 hb BK414 GE414 HB; have GW414 := GE414; clear hb hg) | ((with_reducible refine gate_callee (f := 66) rfl ?_); refine gL_ (some 8) Try.func66 #[.slice A1 l1.length c1] ?_; (with_reducible refine (floor_Right.calls k _ _ l1 false _ ?side1 ?side2 A3.out).mono ?_); (case side1 => exact kC_ HR1 HB); (case side2 => exact HC1.out); rintro e w' ⟨rfl, ⟨nd, rfl⟩⟩; refine ⟨_, rfl, ?_⟩))
 go_ret
 exact ⟨by first | rfl | (simp [errW_none, errW_some] <;> rfl) | (simp [*, errW_none, errW_some] <;> rfl), bl_ HB⟩}
end Go.Proofs.Ytpdfdaoohknfoaa.P
namespace Go.Proofs.Ytpdfdaoohknfoaa.P
open Go.RowKit Go.Proofs.YtpdfdaoohknfoaaW.PrintWords Go.Proofs.YtpdfdaoohknfoaaW.PrintLast Go.Proofs.YtpdfdaoohknfoaaW.PrintMore
attribute [local go_sem] max2_int min2_int max_two min_two max_three min_three max_four min_four   -- for this text's walks alone
set_option linter.unusedVariables false
set_option linter.unusedSimpArgs false

mutual
def vpack_Right.j0 : Nat → Bool → Int → Int → List Int → List Int → List (List Int) → List (List Int) → Option (Bool)
  | 0, _, _, _, _, _, _, _ => none
  | k + 1, x27, x419000, x419001, x419002, x419003, x420000, x420001 => if x27 = true then (some false) else (vpack_Right.l0 k x420000 (x420000.length : Int) 0 x419000 x419001 x419002 x419003 x420000 x420001)
def vpack_Right.l0 : Nat → List (List Int) → Int → Int → Int → Int → List Int → List Int → List (List Int) → List (List Int) → Option (Bool)
  | 0, _, _, _, _, _, _, _, _, _ => none
  | k + 1, x29, x30, x31, x419000, x419001, x419002, x419003, x420000, x420001 => if x31 < x30 then (if 0 ≤ x31 then (if x31 < (x29.length : Int) then (if ((rd_L1 x29 x31).length : Int) = 0 then (if x31 < (x420001.length : Int) then (vpack_Right.j2 k x31 (rd_L1 x29 x31) x29 x30 x31 (((rd_L5 x420001 x31).length : Int) == 0) x419000 x419001 x419002 x419003 x420000 x420001) else (none)) else (vpack_Right.j2 k x31 (rd_L1 x29 x31) x29 x30 x31 false x419000 x419001 x419002 x419003 x420000 x420001)) else (none)) else (none)) else (some true)
def vpack_Right.j2 : Nat → Int → List Int → List (List Int) → Int → Int → Bool → Int → Int → List Int → List Int → List (List Int) → List (List Int) → Option (Bool)
  | 0, _, _, _, _, _, _, _, _, _, _, _, _ => none
  | k + 1, x5, x6, x29, x30, x31, x47, x419000, x419001, x419002, x419003, x420000, x420001 => if x47 = true then (vpack_Right.l0 k x29 x30 (wrap64 (x31 + 1)) x419000 x419001 x419002 x419003 x420000 x420001) else ((vpack_posts.f k x419000 x419001 x419002 x419003 x6).bind fun t423 => (if t423 = true then (if 0 ≤ x5 then (if x5 < (x420001.length : Int) then (vpack_Right.j3 k x5 x29 x30 x31 (((rd_L5 x420001 x5).length : Int) != 16) x419000 x419001 x419002 x419003 x420000 x420001) else (none)) else (none)) else (vpack_Right.j3 k x5 x29 x30 x31 true x419000 x419001 x419002 x419003 x420000 x420001)))
def vpack_Right.j3 : Nat → Int → List (List Int) → Int → Int → Bool → Int → Int → List Int → List Int → List (List Int) → List (List Int) → Option (Bool)
  | 0, _, _, _, _, _, _, _, _, _, _, _ => none
  | k + 1, x5, x29, x30, x31, x60, x419000, x419001, x419002, x419003, x420000, x420001 => if x60 = true then (some false) else (if 0 ≤ x5 then (if x5 < (x420001.length : Int) then (vpack_Right.l1 k x29 x30 x31 (rd_L5 x420001 x5) ((rd_L5 x420001 x5).length : Int) 0 x419000 x419001 x419002 x419003 x420000 x420001) else (none)) else (none))
def vpack_Right.l1 : Nat → List (List Int) → Int → Int → List Int → Int → Int → Int → Int → List Int → List Int → List (List Int) → List (List Int) → Option (Bool)
  | 0, _, _, _, _, _, _, _, _, _, _, _, _ => none
  | k + 1, x29, x30, x31, x65, x66, x67, x419000, x419001, x419002, x419003, x420000, x420001 => if x67 < x66 then (if 0 ≤ x67 then (if x67 < (x65.length : Int) then (if (rd x65 x67) < (-4194303) then (some false) else (if (rd x65 x67) > 4194303 then (some false) else (vpack_Right.l1 k x29 x30 x31 x65 x66 (wrap64 (x67 + 1)) x419000 x419001 x419002 x419003 x420000 x420001))) else (none)) else (none)) else (vpack_Right.l0 k x29 x30 (wrap64 (x31 + 1)) x419000 x419001 x419002 x419003 x420000 x420001)
end
def vpack_Right.f (k : Nat) (a0_0 : Int) (a0_1 : Int) (l0_2 : List Int) (l0_3 : List Int) (l1_0 : List (List Int)) (l1_1 : List (List Int)) : Option (Bool) := (vhead_Right.f k a0_0 a0_1 l0_2 l0_3).bind fun t420 => (if t420 = true then (if (l1_0.length : Int) = a0_0 then (vpack_Right.j0 k ((l1_1.length : Int) != a0_0) a0_0 a0_1 l0_2 l0_3 l1_0 l1_1) else (vpack_Right.j0 k true a0_0 a0_1 l0_2 l0_3 l1_0 l1_1)) else (vpack_Right.j0 k true a0_0 a0_1 l0_2 l0_3 l1_0 l1_1))
theorem vpack_Right.mono_l : ∀ k, (∀ y0 y1 y2 y3 y4 y5 y6, LeO (vpack_Right.j0 k y0 y1 y2 y3 y4 y5 y6) (vpack_Right.j0 (k + 1) y0 y1 y2 y3 y4 y5 y6)) ∧ (∀ y0 y1 y2 y3 y4 y5 y6 y7 y8, LeO (vpack_Right.l0 k y0 y1 y2 y3 y4 y5 y6 y7 y8) (vpack_Right.l0 (k + 1) y0 y1 y2 y3 y4 y5 y6 y7 y8)) ∧ (∀ y0 y1 y2 y3 y4 y5 y6 y7 y8 y9 y10 y11, LeO (vpack_Right.j2 k y0 y1 y2 y3 y4 y5 y6 y7 y8 y9 y10 y11) (vpack_Right.j2 (k + 1) y0 y1 y2 y3 y4 y5 y6 y7 y8 y9 y10 y11)) ∧ (∀ y0 y1 y2 y3 y4 y5 y6 y7 y8 y9 y10, LeO (vpack_Right.j3 k y0 y1 y2 y3 y4 y5 y6 y7 y8 y9 y10) (vpack_Right.j3 (k + 1) y0 y1 y2 y3 y4 y5 y6 y7 y8 y9 y10)) ∧ (∀ y0 y1 y2 y3 y4 y5 y6 y7 y8 y9 y10 y11, LeO (vpack_Right.l1 k y0 y1 y2 y3 y4 y5 y6 y7 y8 y9 y10 y11) (vpack_Right.l1 (k + 1) y0 y1 y2 y3 y4 y5 y6 y7 y8 y9 y10 y11))
  | 0 => ⟨fun _ _ _ _ _ _ _ r h => by simp [vpack_Right.j0] at h, fun _ _ _ _ _ _ _ _ _ r h => by simp [vpack_Right.l0] at h, fun _ _ _ _ _ _ _ _ _ _ _ _ r h => by simp [vpack_Right.j2] at h, fun _ _ _ _ _ _ _ _ _ _ _ r h => by simp [vpack_Right.j3] at h, fun _ _ _ _ _ _ _ _ _ _ _ _ r h => by simp [vpack_Right.l1] at h⟩
  | k + 1 => by
    obtain ⟨ih0, ih1, ih2, ih3, ih4⟩ := vpack_Right.mono_l k
    refine ⟨?_, ?_, ?_, ?_, ?_⟩
    all_goals (intros; first | unfold vpack_Right.j0 | unfold vpack_Right.l0 | unfold vpack_Right.j2 | unfold vpack_Right.j3 | unfold vpack_Right.l1)
    all_goals with_reducible repeat' first
     | exact ih0 _ _ _ _ _ _ _
     | exact ih1 _ _ _ _ _ _ _ _ _
     | exact ih2 _ _ _ _ _ _ _ _ _ _ _ _
     | exact ih3 _ _ _ _ _ _ _ _ _ _ _
     | exact ih4 _ _ _ _ _ _ _ _ _ _ _ _
     | exact vhead_Right.mono _ _ _ _ _
     | exact vpack_posts.mono _ _ _ _ _ _
     | exact LeO.refl _
     | exact LeO.none _
     | refine LeO.ite ?_ ?_
     | refine LeO.bind ?_ (fun _ => ?_)
theorem vpack_Right.mono : ∀ a0 a1 a2 a3 a4 a5 k, LeO (vpack_Right.f k a0 a1 a2 a3 a4 a5) (vpack_Right.f (k + 1) a0 a1 a2 a3 a4 a5) := by
  intro a0 a1 a2 a3 a4 a5 k
  obtain ⟨ih0, ih1, ih2, ih3, ih4⟩ := vpack_Right.mono_l k
  unfold vpack_Right.f
  with_reducible repeat' first
   | exact ih0 _ _ _ _ _ _ _
   | exact ih1 _ _ _ _ _ _ _ _ _
   | exact ih2 _ _ _ _ _ _ _ _ _ _ _ _
   | exact ih3 _ _ _ _ _ _ _ _ _ _ _
   | exact ih4 _ _ _ _ _ _ _ _ _ _ _ _
   | exact vhead_Right.mono _ _ _ _ _
   | exact vpack_posts.mono _ _ _ _ _ _
   | exact LeO.refl _
   | exact LeO.none _
   | refine LeO.ite ?_ ?_
   | refine LeO.bind ?_ (fun _ => ?_)
set_option maxHeartbeats 8000000 in
set_option maxRecDepth 100000 in
theorem vpack_Right.calls (k : Nat) (a0_0 : Int) (a0_1 : Int) (A0_2 : Option Addr) (c0_2 : Nat) (l0_2 : List Int) (A0_3 : Option Addr) (c0_3 : Nat) (l0_3 : List Int) (A1_0 : Option Addr) (c1_0 : Nat) (l1_0 : List (List Int)) (A1_1 : Option Addr) (c1_1 : Nat) (l1_1 : List (List Int)) (r : Bool) (w : World) (hr0_2 : Kd.C (Kd.int .i64) w A0_2 l0_2.length l0_2) (hc0_2 : l0_2.length ≤ c0_2) (hr0_3 : Kd.C (Kd.int .i64) w A0_3 l0_3.length l0_3) (hc0_3 : l0_3.length ≤ c0_3) (hr1_0 : Kd.C (Kd.slice 3 (Kd.int .i64)) w A1_0 l1_0.length l1_0) (hc1_0 : l1_0.length ≤ c1_0) (hr1_1 : Kd.C (Kd.slice 2 (Kd.int .i64)) w A1_1 l1_1.length l1_1) (hc1_1 : l1_1.length ≤ c1_1) (h : vpack_Right.f k a0_0 a0_1 l0_2 l0_3 l1_0 l1_1 = some r) :
    Calls Try.prog 29 #[.agg #[.int .i64 a0_0, .int .i64 a0_1, .slice A0_2 l0_2.length c0_2, .slice A0_3 l0_3.length c0_3], .agg #[.slice A1_0 l1_0.length c1_0, .slice A1_1 l1_1.length c1_1]] w fun e w' => e = .returned (.bool r) ∧ Below w.heap.size w w' := by
 have hu24 := Try.underlying24
 have hu48 := Try.underlying48
 have HR0_2 := Aside0.mk hr0_2
 have HC0_2 := Aside0.mk hc0_2
 clear hr0_2 hc0_2
 have HR0_3 := Aside0.mk hr0_3
 have HC0_3 := Aside0.mk hc0_3
 clear hr0_3 hc0_3
 have HR1_0 := Aside0.mk hr1_0
 have HC1_0 := Aside0.mk hc1_0
 clear hr1_0 hc1_0
 have HR1_1 := Aside0.mk hr1_1
 have HC1_1 := Aside0.mk hc1_1
 clear hr1_1 hc1_1
 have HB := Aside0.mk (Below.refl w.heap.size w)
 have H : ((vhead_Right.f k a0_0 a0_1 l0_2 l0_3).bind fun t420 => (if t420 = true then (if (l1_0.length : Int) = a0_0 then (vpack_Right.j0 k ((l1_1.length : Int) != a0_0) a0_0 a0_1 l0_2 l0_3 l1_0 l1_1) else (vpack_Right.j0 k true a0_0 a0_1 l0_2 l0_3 l1_0 l1_1)) else (vpack_Right.j0 k true a0_0 a0_1 l0_2 l0_3 l1_0 l1_1))) = some r := h
 clear h
 have HC3 := Aside0.mk H
 clear H
 go_enter Try.func29, Try.ntmps29
 go_upto_region 1 with (first | ((with_reducible refine gate_dst (N := 2) rfl ?_); (try (refine gate_guard (by rfl) ?_; dsimp only)); refine bx_ HB 2 #[.int .i64 a0_0, .int .i64 a0_1, .slice A0_2 l0_2.length c0_2, .slice A0_3 l0_3.length c0_3] 24 ?_; clear HB; intro gb418 hg w4 hb BK418 GE418 HB; have GW418 := GE418; clear hb hg) | ((with_reducible refine gate_dst (N := 3) rfl ?_); (try (refine gate_guard (by rfl) ?_; dsimp only)); refine bx_ HB 3 #[.slice A1_0 l1_0.length c1_0, .slice A1_1 l1_1.length c1_1] 48 ?_; clear HB; intro gb419 hg w5 hb BK419 GE419 HB; have GW419 := GE419; obtain ⟨NB418_419, NB419_418⟩ := NN_ BK418 hg; replace BK418 := FB_ BK418 hb; clear hb hg))
 (try simp only [Act.put, List.setIfInBounds_toArray, List.set_cons_zero, List.set_cons_succ])
 go_cut [27] (fun v27 wc => ∃ (kq : Nat) (x27_2 : Bool), v27 = .bool x27_2 ∧ Aside0 (vpack_Right.j0 kq x27_2 a0_0 a0_1 l0_2 l0_3 l1_0 l1_1 = some r) ∧ Aside0 (kq ≤ k) ∧ Aside0 (wc.heap[gb418]? = some (.cells #[.int .i64 a0_0, .int .i64 a0_1, (.slice A0_2 l0_2.length c0_2), (.slice A0_3 l0_3.length c0_3)] 24 (0, 0))) ∧ Aside0 (wc.heap[gb419]? = some (.cells #[(.slice A1_0 l1_0.length c1_0), (.slice A1_1 l1_1.length c1_1)] 48 (0, 0))) ∧ Aside0 (Below w.heap.size w wc))
 case first => (
 have H := HC3.out
 clear HC3
 obtain ⟨t420, A6, H⟩ := ob_ H
 (try dsimp only at H)
 by_cases c7 : t420 = true
 {
 subst c7
 rw [if_pos rfl] at H
 by_cases c8 : (l1_0.length : Int) = a0_0
 {
 rw [if_pos c8] at H
 have c8b0 : ((l1_0.length : Int) == a0_0) = true := beq_iff_eq.mpr c8
 have c8b1 : ((l1_0.length : Int) != a0_0) = false := bne_eq_false_iff_eq.mpr c8
 clear c8
 (first | rw [c8b0] | (simp only [i64_w, i32_w]; rw [c8b0]) | skip)
 have H' := Aside0.mk H
 clear H
 have hnb9 := NB418_419.out
 have hnc9 := NB419_418.out
 obtain ⟨hcz10_0, hcz10_1, hcz10_2, hcz10_3, hfz10_0, hfz10_1, hfz10_2, hfz10_3⟩ := e4_ BK418
 go_wp2_with (first | ((with_reducible refine gate_callee (f := 17) rfl ?_); refine gL_ (some 10) Try.func17 #[.agg #[.int .i64 a0_0, .int .i64 a0_1, .slice A0_2 l0_2.length c0_2, .slice A0_3 l0_3.length c0_3]] ?_; (with_reducible refine (vhead_Right.calls k a0_0 a0_1 _ _ l0_2 _ _ l0_3 true _ ?side1 ?side2 ?side3 ?side4 A6.out).mono ?_); (case side1 => exact kC_ HR0_2 HB); (case side2 => exact HC0_2.out); (case side3 => exact kC_ HR0_3 HB); (case side4 => exact HC0_3.out); rintro e w11 ⟨rfl, hb⟩; refine ⟨_, rfl, ?_⟩; replace BK418 := FB_ BK418 hb; replace BK419 := FB_ BK419 hb; replace HB := BS_ HB hb; (try clear hb); obtain ⟨hcz12_0, hcz12_1, hfz12_0, hfz12_1⟩ := e2_ BK419; obtain ⟨hcz13_0, hcz13_1, hcz13_2, hcz13_3, hfz13_0, hfz13_1, hfz13_2, hfz13_3⟩ := e4_ BK418))
 go_meet
 case rel => exact ⟨_, (((l1_1.length : Int) != a0_0)), rs_, H', ⟨ol_⟩, ⟨bk_ BK418⟩, ⟨bk_ BK419⟩, ⟨bl_ HB⟩⟩}
 {
 rw [if_neg c8] at H
 have c8b0 : ((l1_0.length : Int) == a0_0) = false := beq_eq_false_iff_ne.mpr c8
 have c8b1 : ((l1_0.length : Int) != a0_0) = true := bne_iff_ne.mpr c8
 (first | rw [c8b0] | (simp only [i64_w, i32_w]; rw [c8b0]) | skip)
 have H' := Aside0.mk H
 clear H
 have hnb14 := NB418_419.out
 have hnc14 := NB419_418.out
 obtain ⟨hcz15_0, hcz15_1, hcz15_2, hcz15_3, hfz15_0, hfz15_1, hfz15_2, hfz15_3⟩ := e4_ BK418
 go_wp2_with (first | ((with_reducible refine gate_callee (f := 17) rfl ?_); refine gL_ (some 10) Try.func17 #[.agg #[.int .i64 a0_0, .int .i64 a0_1, .slice A0_2 l0_2.length c0_2, .slice A0_3 l0_3.length c0_3]] ?_; (with_reducible refine (vhead_Right.calls k a0_0 a0_1 _ _ l0_2 _ _ l0_3 true _ ?side1 ?side2 ?side3 ?side4 A6.out).mono ?_); (case side1 => exact kC_ HR0_2 HB); (case side2 => exact HC0_2.out); (case side3 => exact kC_ HR0_3 HB); (case side4 => exact HC0_3.out); rintro e w16 ⟨rfl, hb⟩; refine ⟨_, rfl, ?_⟩; replace BK418 := FB_ BK418 hb; replace BK419 := FB_ BK419 hb; replace HB := BS_ HB hb; (try clear hb); obtain ⟨hcz17_0, hcz17_1, hfz17_0, hfz17_1⟩ := e2_ BK419; obtain ⟨hcz18_0, hcz18_1, hcz18_2, hcz18_3, hfz18_0, hfz18_1, hfz18_2, hfz18_3⟩ := e4_ BK418))
 go_meet
 case rel => exact ⟨_, (true), rs_, H', ⟨ol_⟩, ⟨bk_ BK418⟩, ⟨bk_ BK419⟩, ⟨bl_ HB⟩⟩}}
 {
 replace c7 := Bool.eq_false_iff.mpr c7
 subst c7
 rw [if_neg (show ¬ (false = true) by decide)] at H
 have H' := Aside0.mk H
 clear H
 have hnb19 := NB418_419.out
 have hnc19 := NB419_418.out
 obtain ⟨hcz20_0, hcz20_1, hcz20_2, hcz20_3, hfz20_0, hfz20_1, hfz20_2, hfz20_3⟩ := e4_ BK418
 go_wp2_with (first | ((with_reducible refine gate_callee (f := 17) rfl ?_); refine gL_ (some 10) Try.func17 #[.agg #[.int .i64 a0_0, .int .i64 a0_1, .slice A0_2 l0_2.length c0_2, .slice A0_3 l0_3.length c0_3]] ?_; (with_reducible refine (vhead_Right.calls k a0_0 a0_1 _ _ l0_2 _ _ l0_3 false _ ?side1 ?side2 ?side3 ?side4 A6.out).mono ?_); (case side1 => exact kC_ HR0_2 HB); (case side2 => exact HC0_2.out); (case side3 => exact kC_ HR0_3 HB); (case side4 => exact HC0_3.out); rintro e w21 ⟨rfl, hb⟩; refine ⟨_, rfl, ?_⟩; replace BK418 := FB_ BK418 hb; replace BK419 := FB_ BK419 hb; replace HB := BS_ HB hb; (try clear hb)))
 go_meet
 case rel => exact ⟨_, (true), rs_, H', ⟨ol_⟩, ⟨bk_ BK418⟩, ⟨bk_ BK419⟩, ⟨bl_ HB⟩⟩})
 case rest => (
 clear HC3
 obtain ⟨kq, x27_2, rfl, HA, HJ2, BK418, BK419, HB⟩ := hcut
 cases kq with
 | zero => exact absurd HA.out (by simp [vpack_Right.j0])
 | succ kj2 => (
 have H := HA.out
 clear HA
 simp only [vpack_Right.j0] at H
 by_cases c22 : x27_2 = true
 {
 subst c22
 rw [if_pos rfl] at H
 obtain rfl := Option.some.inj H
 go_wp2
 go_ret
 exact ⟨by first | rfl | (simp [errW_none, errW_some] <;> rfl) | (simp [*, errW_none, errW_some] <;> rfl), bl_ HB⟩}
 {
 replace c22 := Bool.eq_false_iff.mpr c22
 subst c22
 rw [if_neg (show ¬ (false = true) by decide)] at H
 have H' := Aside0.mk H
 clear H
 have hnb23 := NB419_418.out
 have hnc23 := NB418_419.out
 obtain ⟨hcz24_0, hcz24_1, hfz24_0, hfz24_1⟩ := e2_ BK419
 go_wp2
 go_loopg [31] kj2 (fun kq v31 w' => ∃ (x31_2 : Int), v31 = .int .i64 x31_2 ∧ Aside0 (vpack_Right.l0 kq l1_0 (l1_0.length : Int) x31_2 a0_0 a0_1 l0_2 l0_3 l1_0 l1_1 = some r) ∧ Aside0 (kq ≤ kj2) ∧ Aside0 (w'.heap[gb418]? = some (.cells #[.int .i64 a0_0, .int .i64 a0_1, (.slice A0_2 l0_2.length c0_2), (.slice A0_3 l0_3.length c0_3)] 24 (0, 0))) ∧ Aside0 (w'.heap[gb419]? = some (.cells #[(.slice A1_0 l1_0.length c1_0), (.slice A1_1 l1_1.length c1_1)] 48 (0, 0))) ∧ Aside0 (Below w.heap.size w w'))
 case atStart => exact ⟨(0), rs_, H', ⟨Nat.le_refl _⟩, ⟨bk_ BK418⟩, ⟨bk_ BK419⟩, ⟨bl_ HB⟩⟩
 case round => (
 clear H'
 try clear c22
 try clear hcz24_0
 try clear hcz24_1
 try clear hfz24_0
 try clear hfz24_1
 obtain ⟨x31_2, rfl, HA, HK2, BK418, BK419, HB⟩ := hrel
 cases gk with
 | zero => exact absurd HA.out (by simp [vpack_Right.l0])
 | succ k2 => (
 have H := HA.out
 clear HA
 simp only [vpack_Right.l0] at H
 by_cases c25 : x31_2 < (l1_0.length : Int)
 {
 rw [if_pos c25] at H
 have c25b0 : decide (x31_2 < (l1_0.length : Int)) = true := decide_eq_true c25
 clear c25
 by_cases c26 : 0 ≤ x31_2
 {
 rw [if_pos c26] at H
 have c26b0 : decide (0 ≤ x31_2) = true := decide_eq_true c26
 clear c26
 by_cases c27 : x31_2 < (l1_0.length : Int)
 {
 rw [if_pos c27] at H
 have c27b0 : decide (x31_2 < (l1_0.length : Int)) = true := decide_eq_true c27
 clear c27
 have HC28 := Aside0.mk H
 clear H
 have p421 : 0 ≤ (x31_2 : Int) := of_decide_eq_true am_
 have q421 : x31_2 < (l1_0.length : Int) := of_decide_eq_true am_
 obtain ⟨ad421, A421_0, c421_0, e421, hx421_0, hl421_0, hi421_0⟩ := at_L1 HR1_0.out x31_2 p421 q421
 cases e421
 replace hx421_0 := (HB.out.cell (World.block_lt_of_cell? w _ hx421_0)).trans hx421_0
 have HR421_0 := Aside0.mk hi421_0
 have HC421_0 := Aside0.mk hl421_0
 clear hi421_0 hl421_0
 replace p421 := eq_true p421
 replace q421 := eq_true q421
 go_upto_region 6 with (fail)
 go_cut [47] (fun v47 wc => ∃ (kq : Nat) (x47_27 : Bool), v47 = .bool x47_27 ∧ Aside0 (vpack_Right.j2 kq x31_2 (rd_L1 l1_0 x31_2) l1_0 (l1_0.length : Int) x31_2 x47_27 a0_0 a0_1 l0_2 l0_3 l1_0 l1_1 = some r) ∧ Aside0 (kq ≤ k2) ∧ Aside0 (wc.heap[gb418]? = some (.cells #[.int .i64 a0_0, .int .i64 a0_1, (.slice A0_2 l0_2.length c0_2), (.slice A0_3 l0_3.length c0_3)] 24 (0, 0))) ∧ Aside0 (wc.heap[gb419]? = some (.cells #[(.slice (some ad421) l1_0.length c1_0), (.slice A1_1 l1_1.length c1_1)] 48 (0, 0))) ∧ Aside0 (Below w.heap.size w wc))
 case first => (
 have H := HC28.out
 clear HC28
 by_cases c29 : ((rd_L1 l1_0 x31_2).length : Int) = 0
 {
 rw [if_pos c29] at H
 have c29b0 : (((rd_L1 l1_0 x31_2).length : Int) == 0) = true := beq_iff_eq.mpr c29
 have c29b1 : (((rd_L1 l1_0 x31_2).length : Int) != 0) = false := bne_eq_false_iff_eq.mpr c29
 clear c29
 (first | rw [c29b0] | (simp only [i64_w, i32_w]; rw [c29b0]) | skip)
 by_cases c30 : x31_2 < (l1_1.length : Int)
 {
 rw [if_pos c30] at H
 have c30b0 : decide (x31_2 < (l1_1.length : Int)) = true := decide_eq_true c30
 clear c30
 have H' := Aside0.mk H
 clear H
 have hnb31 := NB419_418.out
 have hnc31 := NB418_419.out
 obtain ⟨hcz32_0, hcz32_1, hfz32_0, hfz32_1⟩ := e2_ BK419
 have p422 : 0 ≤ (x31_2 : Int) := of_decide_eq_true am_
 have q422 : x31_2 < (l1_1.length : Int) := of_decide_eq_true am_
 obtain ⟨ad422, A422_0, c422_0, e422, hx422_0, hl422_0, hi422_0⟩ := at_L5 HR1_1.out x31_2 p422 q422
 cases e422
 replace hx422_0 := (HB.out.cell (World.block_lt_of_cell? w _ hx422_0)).trans hx422_0
 have HR422_0 := Aside0.mk hi422_0
 have HC422_0 := Aside0.mk hl422_0
 clear hi422_0 hl422_0
 replace p422 := eq_true p422
 replace q422 := eq_true q422
 go_wp2
 go_meet
 case rel => exact ⟨_, ((((rd_L5 l1_1 x31_2).length : Int) == 0)), rs_, H', ⟨by have := HJ2.out; have := HK2.out; first | omega | exact Nat.le_refl _⟩, ⟨bk_ BK418⟩, ⟨bk_ BK419⟩, ⟨bl_ HB⟩⟩}
 {
 rw [if_neg c30] at H
 exact absurd H (by simp)}}
 {
 rw [if_neg c29] at H
 have c29b0 : (((rd_L1 l1_0 x31_2).length : Int) == 0) = false := beq_eq_false_iff_ne.mpr c29
 have c29b1 : (((rd_L1 l1_0 x31_2).length : Int) != 0) = true := bne_iff_ne.mpr c29
 have c29b2 : ¬ ((rd_L1 l1_0 x31_2) = []) := fun h_ => c29 (by rw [h_]; rfl)
 (first | rw [c29b0] | (simp only [i64_w, i32_w]; rw [c29b0]) | skip)
 have H' := Aside0.mk H
 clear H
 go_wp2
 go_meet
 case rel => exact ⟨_, (false), rs_, H', ⟨by have := HJ2.out; have := HK2.out; first | omega | exact Nat.le_refl _⟩, ⟨bk_ BK418⟩, ⟨bk_ BK419⟩, ⟨bl_ HB⟩⟩})
 case rest => (
 clear HC28
 try clear c22
 try clear c25
 try clear c25b0
 try clear c26
 try clear c26b0
 try clear c27
 try clear c27b0
 try clear hcz24_0
 try clear hcz24_1
 try clear hfz24_0
 try clear hfz24_1
 try clear hx421_0
 try clear p421
 try clear q421
 obtain ⟨kq, x47_27, rfl, HA, HJ27, BK418, BK419, HB⟩ := hcut
 cases kq with
 | zero => exact absurd HA.out (by simp [vpack_Right.j2])
 | succ kj27 => (
 have H := HA.out
 clear HA
 simp only [vpack_Right.j2] at H
 by_cases c33 : x47_27 = true
 {
 subst c33
 rw [if_pos rfl] at H
 have H' := Aside0.mk H
 clear H
 go_wp2
 go_roundg kj27
 case measure => have := HJ2.out; have := HK2.out; have := HJ27.out; omega
 case rel => exact ⟨(wrap64 (x31_2 + 1)), rs_, H', ⟨by have := HJ2.out; have := HK2.out; have := HJ27.out; omega⟩, ⟨bk_ BK418⟩, ⟨bk_ BK419⟩, ⟨bl_ HB⟩⟩}
 {
 replace c33 := Bool.eq_false_iff.mpr c33
 subst c33
 rw [if_neg (show ¬ (false = true) by decide)] at H
 have HC34 := Aside0.mk H
 clear H
 go_upto_region 7 with (fail)
 go_cut [60] (fun v60 wc => ∃ (kq : Nat) (x60_33 : Bool), v60 = .bool x60_33 ∧ Aside0 (vpack_Right.j3 kq x31_2 l1_0 (l1_0.length : Int) x31_2 x60_33 a0_0 a0_1 l0_2 l0_3 l1_0 l1_1 = some r) ∧ Aside0 (kq ≤ kj27) ∧ Aside0 (wc.heap[gb418]? = some (.cells #[.int .i64 a0_0, .int .i64 a0_1, (.slice A0_2 l0_2.length c0_2), (.slice A0_3 l0_3.length c0_3)] 24 (0, 0))) ∧ Aside0 (wc.heap[gb419]? = some (.cells #[(.slice (some ad421) l1_0.length c1_0), (.slice A1_1 l1_1.length c1_1)] 48 (0, 0))) ∧ Aside0 (Below w.heap.size w wc))
 case first => (
 have H := HC34.out
 clear HC34
 obtain ⟨t423, A35, H⟩ := ob_ H
 (try dsimp only at H)
 by_cases c36 : t423 = true
 {
 subst c36
 rw [if_pos rfl] at H
 by_cases c37 : 0 ≤ x31_2
 {
 rw [if_pos c37] at H
 have c37b0 : decide (0 ≤ x31_2) = true := decide_eq_true c37
 clear c37
 (first | rw [c37b0] | (simp only [i64_w, i32_w]; rw [c37b0]) | skip)
 by_cases c38 : x31_2 < (l1_1.length : Int)
 {
 rw [if_pos c38] at H
 have c38b0 : decide (x31_2 < (l1_1.length : Int)) = true := decide_eq_true c38
 clear c38
 have H' := Aside0.mk H
 clear H
 have hnb39 := NB418_419.out
 have hnc39 := NB419_418.out
 obtain ⟨hcz40_0, hcz40_1, hcz40_2, hcz40_3, hfz40_0, hfz40_1, hfz40_2, hfz40_3⟩ := e4_ BK418
 go_wp2_with (first | ((with_reducible refine gate_callee (f := 48) rfl ?_); refine gL_ (some 50) Try.func48 #[.agg #[.int .i64 a0_0, .int .i64 a0_1, .slice A0_2 l0_2.length c0_2, .slice A0_3 l0_3.length c0_3], .slice A421_0 (rd_L1 l1_0 x31_2).length c421_0] ?_; (with_reducible refine (vpack_posts.calls kj27 a0_0 a0_1 _ _ l0_2 _ _ l0_3 _ _ (rd_L1 l1_0 x31_2) true _ ?side1 ?side2 ?side3 ?side4 ?side5 ?side6 A35.out).mono ?_); (case side1 => exact kC_ HR0_2 HB); (case side2 => exact HC0_2.out); (case side3 => exact kC_ HR0_3 HB); (case side4 => exact HC0_3.out); (case side5 => exact kC_ HR421_0 HB); (case side6 => exact HC421_0.out); rintro e w41 ⟨rfl, hb⟩; refine ⟨_, rfl, ?_⟩; replace BK418 := FB_ BK418 hb; replace BK419 := FB_ BK419 hb; replace HB := BS_ HB hb; (try clear hb); obtain ⟨hcz42_0, hcz42_1, hfz42_0, hfz42_1⟩ := e2_ BK419; have p424 : 0 ≤ (x31_2 : Int) := of_decide_eq_true am_; have q424 : x31_2 < (l1_1.length : Int) := of_decide_eq_true am_; obtain ⟨ad424, A424_0, c424_0, e424, hx424_0, hl424_0, hi424_0⟩ := at_L5 HR1_1.out x31_2 p424 q424; cases e424; replace hx424_0 := (HB.out.cell (World.block_lt_of_cell? w _ hx424_0)).trans hx424_0; have HR424_0 := Aside0.mk hi424_0; have HC424_0 := Aside0.mk hl424_0; clear hi424_0 hl424_0; replace p424 := eq_true p424; replace q424 := eq_true q424))
 go_meet
 case rel => exact ⟨_, ((((rd_L5 l1_1 x31_2).length : Int) != 16)), rs_, H', ⟨by have := HJ2.out; have := HK2.out; have := HJ27.out; first | omega | exact Nat.le_refl _⟩, ⟨bk_ BK418⟩, ⟨bk_ BK419⟩, ⟨bl_ HB⟩⟩}
 {
 rw [if_neg c38] at H
 exact absurd H (by simp)}}
 {
 rw [if_neg c37] at H
 exact absurd H (by simp)}}
 {
 replace c36 := Bool.eq_false_iff.mpr c36
 subst c36
 rw [if_neg (show ¬ (false = true) by decide)] at H
 have H' := Aside0.mk H
 clear H
 have hnb43 := NB418_419.out
 have hnc43 := NB419_418.out
 obtain ⟨hcz44_0, hcz44_1, hcz44_2, hcz44_3, hfz44_0, hfz44_1, hfz44_2, hfz44_3⟩ := e4_ BK418
 go_wp2_with (first | ((with_reducible refine gate_callee (f := 48) rfl ?_); refine gL_ (some 50) Try.func48 #[.agg #[.int .i64 a0_0, .int .i64 a0_1, .slice A0_2 l0_2.length c0_2, .slice A0_3 l0_3.length c0_3], .slice A421_0 (rd_L1 l1_0 x31_2).length c421_0] ?_; (with_reducible refine (vpack_posts.calls kj27 a0_0 a0_1 _ _ l0_2 _ _ l0_3 _ _ (rd_L1 l1_0 x31_2) false _ ?side1 ?side2 ?side3 ?side4 ?side5 ?side6 A35.out).mono ?_); (case side1 => exact kC_ HR0_2 HB); (case side2 => exact HC0_2.out); (case side3 => exact kC_ HR0_3 HB); (case side4 => exact HC0_3.out); (case side5 => exact kC_ HR421_0 HB); (case side6 => exact HC421_0.out); rintro e w45 ⟨rfl, hb⟩; refine ⟨_, rfl, ?_⟩; replace BK418 := FB_ BK418 hb; replace BK419 := FB_ BK419 hb; replace HB := BS_ HB hb; (try clear hb)))
 go_meet
 case rel => exact ⟨_, (true), rs_, H', ⟨by have := HJ2.out; have := HK2.out; have := HJ27.out; first | omega | exact Nat.le_refl _⟩, ⟨bk_ BK418⟩, ⟨bk_ BK419⟩, ⟨bl_ HB⟩⟩})
 case rest => (
 clear HC34
 try clear c22
 try clear c25
 try clear c25b0
 try clear c26
 try clear c26b0
 try clear c27
 try clear c27b0
 try clear c33
 try clear hcz24_0
 try clear hcz24_1
 try clear hfz24_0
 try clear hfz24_1
 try clear hx421_0
 try clear p421
 try clear q421
 obtain ⟨kq, x60_33, rfl, HA, HJ33, BK418, BK419, HB⟩ := hcut
 cases kq with
 | zero => exact absurd HA.out (by simp [vpack_Right.j3])
 | succ kj33 => (
 have H := HA.out
 clear HA
 simp only [vpack_Right.j3] at H
 by_cases c46 : x60_33 = true
 {
 subst c46
 rw [if_pos rfl] at H
 obtain rfl := Option.some.inj H
 go_wp2
 go_ret
 exact ⟨by first | rfl | (simp [errW_none, errW_some] <;> rfl) | (simp [*, errW_none, errW_some] <;> rfl), bl_ HB⟩}
 {
 replace c46 := Bool.eq_false_iff.mpr c46
 subst c46
 rw [if_neg (show ¬ (false = true) by decide)] at H
 by_cases c47 : 0 ≤ x31_2
 {
 rw [if_pos c47] at H
 have c47b0 : decide (0 ≤ x31_2) = true := decide_eq_true c47
 clear c47
 by_cases c48 : x31_2 < (l1_1.length : Int)
 {
 rw [if_pos c48] at H
 have c48b0 : decide (x31_2 < (l1_1.length : Int)) = true := decide_eq_true c48
 clear c48
 have H' := Aside0.mk H
 clear H
 have hnb49 := NB419_418.out
 have hnc49 := NB418_419.out
 obtain ⟨hcz50_0, hcz50_1, hfz50_0, hfz50_1⟩ := e2_ BK419
 have p425 : 0 ≤ (x31_2 : Int) := of_decide_eq_true am_
 have q425 : x31_2 < (l1_1.length : Int) := of_decide_eq_true am_
 obtain ⟨ad425, A425_0, c425_0, e425, hx425_0, hl425_0, hi425_0⟩ := at_L5 HR1_1.out x31_2 p425 q425
 cases e425
 replace hx425_0 := (HB.out.cell (World.block_lt_of_cell? w _ hx425_0)).trans hx425_0
 have HR425_0 := Aside0.mk hi425_0
 have HC425_0 := Aside0.mk hl425_0
 clear hi425_0 hl425_0
 replace p425 := eq_true p425
 replace q425 := eq_true q425
 go_wp2
 go_loopg [67] kj33 (fun kq v67 w' => ∃ (x67_5 : Int), v67 = .int .i64 x67_5 ∧ Aside0 (vpack_Right.l1 kq l1_0 (l1_0.length : Int) x31_2 (rd_L5 l1_1 x31_2) ((rd_L5 l1_1 x31_2).length : Int) x67_5 a0_0 a0_1 l0_2 l0_3 l1_0 l1_1 = some r) ∧ Aside0 (kq ≤ kj33) ∧ Aside0 (w'.heap[gb418]? = some (.cells #[.int .i64 a0_0, .int .i64 a0_1, (.slice A0_2 l0_2.length c0_2), (.slice A0_3 l0_3.length c0_3)] 24 (0, 0))) ∧ Aside0 (w'.heap[gb419]? = some (.cells #[(.slice (some ad421) l1_0.length c1_0), (.slice (some ad425) l1_1.length c1_1)] 48 (0, 0))) ∧ Aside0 (Below w.heap.size w w'))
 case atStart => exact ⟨(0), rs_, H', ⟨Nat.le_refl _⟩, ⟨bk_ BK418⟩, ⟨bk_ BK419⟩, ⟨bl_ HB⟩⟩
 case round => (
 clear H'
 try clear c22
 try clear c25
 try clear c25b0
 try clear c26
 try clear c26b0
 try clear c27
 try clear c27b0
 try clear c33
 try clear c46
 try clear c47
 try clear c47b0
 try clear c48
 try clear c48b0
 try clear hcz24_0
 try clear hcz24_1
 try clear hcz50_0
 try clear hcz50_1
 try clear hfz24_0
 try clear hfz24_1
 try clear hfz50_0
 try clear hfz50_1
 try clear hx421_0
 try clear hx425_0
 try clear p421
 try clear p425
 try clear q421
 try clear q425
 obtain ⟨x67_5, rfl, HA, HK5, BK418, BK419, HB⟩ := hrel
 cases gk with
 | zero => exact absurd HA.out (by simp [vpack_Right.l1])
 | succ k5 => (
 have H := HA.out
 clear HA
 simp only [vpack_Right.l1] at H
 by_cases c51 : x67_5 < ((rd_L5 l1_1 x31_2).length : Int)
 {
 rw [if_pos c51] at H
 have c51b0 : decide (x67_5 < ((rd_L5 l1_1 x31_2).length : Int)) = true := decide_eq_true c51
 clear c51
 by_cases c52 : 0 ≤ x67_5
 {
 rw [if_pos c52] at H
 have c52b0 : decide (0 ≤ x67_5) = true := decide_eq_true c52
 clear c52
 by_cases c53 : x67_5 < ((rd_L5 l1_1 x31_2).length : Int)
 {
 rw [if_pos c53] at H
 have c53b0 : decide (x67_5 < ((rd_L5 l1_1 x31_2).length : Int)) = true := decide_eq_true c53
 clear c53
 by_cases c54 : (rd (rd_L5 l1_1 x31_2) x67_5) < (-4194303)
 {
 rw [if_pos c54] at H
 have c54b0 : decide ((rd (rd_L5 l1_1 x31_2) x67_5) < (-4194303)) = true := decide_eq_true c54
 clear c54
 obtain rfl := Option.some.inj H
 have p426 : 0 ≤ (x67_5 : Int) := of_decide_eq_true am_
 have q426 : x67_5 < ((rd_L5 l1_1 x31_2).length : Int) := of_decide_eq_true am_
 obtain ⟨ad426, e426, hx426_0⟩ := Kd.at_int HR425_0.out x67_5 p426 q426
 cases e426
 replace hx426_0 := (HB.out.cell (World.block_lt_of_cell? w _ hx426_0)).trans hx426_0
 replace p426 := eq_true p426
 replace q426 := eq_true q426
 go_wp2
 go_ret
 exact ⟨by first | rfl | (simp [errW_none, errW_some] <;> rfl) | (simp [*, errW_none, errW_some] <;> rfl), bl_ HB⟩}
 {
 rw [if_neg c54] at H
 have c54b0 : decide ((rd (rd_L5 l1_1 x31_2) x67_5) < (-4194303)) = false := decide_eq_false c54
 clear c54
 by_cases c55 : (rd (rd_L5 l1_1 x31_2) x67_5) > 4194303
 {
 rw [if_pos c55] at H
 have c55b0 : decide (4194303 < (rd (rd_L5 l1_1 x31_2) x67_5)) = true := decide_eq_true c55
 clear c55
 obtain rfl := Option.some.inj H
 have p426 : 0 ≤ (x67_5 : Int) := of_decide_eq_true am_
 have q426 : x67_5 < ((rd_L5 l1_1 x31_2).length : Int) := of_decide_eq_true am_
 obtain ⟨ad426, e426, hx426_0⟩ := Kd.at_int HR425_0.out x67_5 p426 q426
 cases e426
 replace hx426_0 := (HB.out.cell (World.block_lt_of_cell? w _ hx426_0)).trans hx426_0
 replace p426 := eq_true p426
 replace q426 := eq_true q426
 go_wp2
 go_ret
 exact ⟨by first | rfl | (simp [errW_none, errW_some] <;> rfl) | (simp [*, errW_none, errW_some] <;> rfl), bl_ HB⟩}
 {
 rw [if_neg c55] at H
 have c55b0 : decide (4194303 < (rd (rd_L5 l1_1 x31_2) x67_5)) = false := decide_eq_false c55
 clear c55
 have H' := Aside0.mk H
 clear H
 have p426 : 0 ≤ (x67_5 : Int) := of_decide_eq_true am_
 have q426 : x67_5 < ((rd_L5 l1_1 x31_2).length : Int) := of_decide_eq_true am_
 obtain ⟨ad426, e426, hx426_0⟩ := Kd.at_int HR425_0.out x67_5 p426 q426
 cases e426
 replace hx426_0 := (HB.out.cell (World.block_lt_of_cell? w _ hx426_0)).trans hx426_0
 replace p426 := eq_true p426
 replace q426 := eq_true q426
 go_wp2
 go_roundg k5
 case measure => have := HJ2.out; have := HK2.out; have := HJ27.out; have := HJ33.out; have := HK5.out; omega
 case rel => exact ⟨(wrap64 (x67_5 + 1)), rs_, H', ⟨by have := HJ2.out; have := HK2.out; have := HJ27.out; have := HJ33.out; have := HK5.out; omega⟩, ⟨bk_ BK418⟩, ⟨bk_ BK419⟩, ⟨bl_ HB⟩⟩}}}
 {
 rw [if_neg c53] at H
 exact absurd H (by simp)}}
 {
 rw [if_neg c52] at H
 exact absurd H (by simp)}}
 {
 rw [if_neg c51] at H
 have c51b0 : decide (x67_5 < ((rd_L5 l1_1 x31_2).length : Int)) = false := decide_eq_false c51
 clear c51
 have H' := Aside0.mk H
 clear H
 go_wp2
 go_roundg k5
 case measure => have := HJ2.out; have := HK2.out; have := HJ27.out; have := HJ33.out; have := HK5.out; omega
 case rel => exact ⟨(wrap64 (x31_2 + 1)), rs_, H', ⟨by have := HJ2.out; have := HK2.out; have := HJ27.out; have := HJ33.out; have := HK5.out; omega⟩, ⟨bk_ BK418⟩, ⟨bk_ BK419⟩, ⟨bl_ HB⟩⟩}))}
 {
 rw [if_neg c48] at H
 exact absurd H (by simp)}}
 {
 rw [if_neg c47] at H
 exact absurd H (by simp)}}))}))}
 {
 rw [if_neg c27] at H
 exact absurd H (by simp)}}
 {
 rw [if_neg c26] at H
 exact absurd H (by simp)}}
 {
 rw [if_neg c25] at H
 have c25b0 : decide (x31_2 < (l1_0.length : Int)) = false := decide_eq_false c25
 clear c25
 obtain rfl := Option.some.inj H
 go_wp2
 go_ret
 exact ⟨by first | rfl | (simp [errW_none, errW_some] <;> rfl) | (simp [*, errW_none, errW_some] <;> rfl), bl_ HB⟩}))}))
end Go.Proofs.Ytpdfdaoohknfoaa.P
namespace Go.Proofs.Ytpdfdaoohknfoaa.P
open Go.RowKit Go.Proofs.YtpdfdaoohknfoaaW.PrintWords Go.Proofs.YtpdfdaoohknfoaaW.PrintLast Go.Proofs.YtpdfdaoohknfoaaW.PrintMore
attribute [local go_sem] max2_int min2_int max_two min_two max_three min_three max_four min_four   -- for this text's walks alone
set_option linter.unusedVariables false
set_option linter.unusedSimpArgs false

mutual
def vhead_Plain.l0 : Nat → Int → Int → Int → List Int → Option (Int × Int × List Int × List Int)
  | 0, _, _, _, _ => none
  | k + 1, x11, x112000, x112001, x112002 => if x11 < 45 then (if x11 < 19 then (if x112002.length < 17592186044416 then (vhead_Plain.l0 k (wrap64 (x11 + 1)) x112000 x112001 (x112002 ++ [5])) else (none)) else (if x112002.length < 17592186044416 then (vhead_Plain.l0 k (wrap64 (x11 + 1)) x112000 x112001 (x112002 ++ [6])) else (none))) else (vhead_Plain.l1 k 0 x112000 x112001 x112002 ([] : List Int))
def vhead_Plain.l1 : Nat → Int → Int → Int → List Int → List Int → Option (Int × Int × List Int × List Int)
  | 0, _, _, _, _, _ => none
  | k + 1, x23, x112000, x112001, x112002, x112003 => if x23 < 16 then (if x112003.length < 17592186044416 then (vhead_Plain.l1 k (wrap64 (x23 + 1)) x112000 x112001 x112002 (x112003 ++ [4])) else (none)) else (some (x112000, x112001, x112002, x112003))
end
def vhead_Plain.f (k : Nat) (a0 : Int) (a1 : Int) : Option (Int × Int × List Int × List Int) := vhead_Plain.l0 k 0 a0 a1 ([] : List Int)
theorem vhead_Plain.mono_l : ∀ k, (∀ y0 y1 y2 y3, LeO (vhead_Plain.l0 k y0 y1 y2 y3) (vhead_Plain.l0 (k + 1) y0 y1 y2 y3)) ∧ (∀ y0 y1 y2 y3 y4, LeO (vhead_Plain.l1 k y0 y1 y2 y3 y4) (vhead_Plain.l1 (k + 1) y0 y1 y2 y3 y4))
  | 0 => ⟨fun _ _ _ _ r h => by simp [vhead_Plain.l0] at h, fun _ _ _ _ _ r h => by simp [vhead_Plain.l1] at h⟩
  | k + 1 => by
    obtain ⟨ih0, ih1⟩ := vhead_Plain.mono_l k
    refine ⟨?_, ?_⟩
    all_goals (intros; first | unfold vhead_Plain.l0 | unfold vhead_Plain.l1)
    all_goals with_reducible repeat' first
     | exact ih0 _ _ _ _
     | exact ih1 _ _ _ _ _
     | exact LeO.refl _
     | exact LeO.none _
     | refine LeO.ite ?_ ?_
     | refine LeO.bind ?_ (fun _ => ?_)
theorem vhead_Plain.mono : ∀ a0 a1 k, LeO (vhead_Plain.f k a0 a1) (vhead_Plain.f (k + 1) a0 a1) := by
  intro a0 a1 k
  obtain ⟨ih0, ih1⟩ := vhead_Plain.mono_l k
  unfold vhead_Plain.f
  with_reducible repeat' first
   | exact ih0 _ _ _ _
   | exact ih1 _ _ _ _ _
   | exact LeO.refl _
   | exact LeO.none _
   | refine LeO.ite ?_ ?_
   | refine LeO.bind ?_ (fun _ => ?_)
set_option maxHeartbeats 8000000 in
set_option maxRecDepth 100000 in
theorem vhead_Plain.calls (k : Nat) (a0 : Int) (a1 : Int) (r1 : Int) (r2 : Int) (r3 : List Int) (r4 : List Int) (w : World) (h : vhead_Plain.f k a0 a1 = some (r1, r2, r3, r4)) :
    Calls Try.prog 21 #[.int .i64 a0, .int .i64 a1] w fun e w' => ∃ v2_ v3_ : Value, e = .returned (.agg #[.int .i64 r1, .int .i64 r2, v2_, v3_]) ∧ Kd.R (Kd.int .i64) 3 w' w.heap.size (fun k_ => some k_ ≠ (v3_ : Value).ownBlock) v2_ r3 ∧ Kd.R (Kd.int .i64) 3 w' w.heap.size (fun k_ => some k_ ≠ (v2_ : Value).ownBlock) v3_ r4 ∧ Below w.heap.size w w' := by
 have hu24 := Try.underlying24
 have HB := Aside0.mk (Below.refl w.heap.size w)
 have H : (vhead_Plain.l0 k 0 a0 a1 ([] : List Int)) = some (r1, r2, r3, r4) := h
 clear h
 have H' := Aside0.mk H
 clear H
 go_enter Try.func21, Try.ntmps21
 go_wp2_with (first | ((with_reducible refine gate_dst (N := 4) rfl ?_); refine bx_ HB 4 #[.int .i64 0, .int .i64 0, .slice none 0 0, .slice none 0 0] 24 ?_; clear HB; intro gb110 hg w3 hb BK110 GE110 HB; have GW110 := GE110; clear hb hg) | ((with_reducible refine gate_dst (N := 5) rfl ?_); refine bx_ HB 5 #[.int .i64 0, .int .i64 0, .slice none 0 0, .slice none 0 0] 24 ?_; clear HB; intro gb111 hg w4 hb BK111 GE111 HB; have GW111 := GE111; obtain ⟨NB110_111, NB111_110⟩ := NN_ BK110 hg; replace BK110 := FB_ BK110 hb; clear hb hg; have hnb5 := NB111_110.out; have hnc5 := NB110_111.out; obtain ⟨hcz6_0, hcz6_1, hcz6_2, hcz6_3, hfz6_0, hfz6_1, hfz6_2, hfz6_3⟩ := e4_ BK111))
 go_loopg [11] k (fun kq v11 w' => ∃ (x11_1 : Int) (x112002_1 : List Int) (u112002 : Value), v11 = .int .i64 x11_1 ∧ Aside0 (vhead_Plain.l0 kq x11_1 a0 a1 x112002_1 = some (r1, r2, r3, r4)) ∧ Aside0 (kq ≤ k) ∧ Aside0 (Kd.R (Kd.int .i64) 3 w' w.heap.size (fun _ => True) u112002 x112002_1) ∧ Aside0 (w'.heap[gb110]? = some (.cells #[.int .i64 0, .int .i64 0, (.slice none 0 0), (.slice none 0 0)] 24 (0, 0))) ∧ Aside0 (w'.heap[gb111]? = some (.cells #[.int .i64 a0, .int .i64 a1, u112002, (.slice none 0 0)] 24 (0, 0))) ∧ Aside0 (Below w.heap.size w w'))
 case atStart => exact ⟨(0), (([] : List Int)), (.slice none 0 0), rs_, H', ⟨Nat.le_refl _⟩, ⟨by first | exact Kd.R_nil _ _ _ _ _ | exact Kd.N_nil _ _ _ _ _ | exact Kd.V_nil _ _ _ _ _ | exact Kd.Q_nil _ _ _ _ _ | exact Kd.S_nil _ _ _ _ _⟩, ⟨bk_ BK110⟩, ⟨bp_ BK111⟩, ⟨bl_ HB⟩⟩
 case round => (
 clear H'
 try clear hcz6_0
 try clear hcz6_1
 try clear hcz6_2
 try clear hcz6_3
 try clear hfz6_0
 try clear hfz6_1
 try clear hfz6_2
 try clear hfz6_3
 obtain ⟨x11_1, x112002_1, u112002, rfl, HA, HK1, HO_112002, BK110, BK111, HB⟩ := hrel
 cases gk with
 | zero => exact absurd HA.out (by simp [vhead_Plain.l0])
 | succ k1 => (
 have H := HA.out
 clear HA
 simp only [vhead_Plain.l0] at H
 by_cases c7 : x11_1 < 45
 {
 rw [if_pos c7] at H
 have c7b0 : decide (x11_1 < 45) = true := decide_eq_true c7
 clear c7
 by_cases c8 : x11_1 < 19
 {
 rw [if_pos c8] at H
 have c8b0 : decide (x11_1 < 19) = true := decide_eq_true c8
 clear c8
 by_cases c9 : x112002_1.length < 17592186044416
 {
 rw [if_pos c9] at H
 have LMc9 := Aside0.mk c9
 clear c9
 obtain ⟨y112, hy112⟩ : ∃ y_ : List Int, y_ = (x112002_1 ++ [5]) := ⟨_, rfl⟩
 replace H : (vhead_Plain.l0 k1 (wrap64 (x11_1 + 1)) a0 a1 y112) = some (r1, r2, r3, r4) := by first | (rw [hy112]; with_reducible exact H) | (have H2_ := (Option.bind_some _ _).symm.trans H; rw [hy112]; with_reducible exact H2_) | (have H2_ := (Option.bind_some _ _).symm.trans H; with_reducible exact H2_) | with_reducible exact H | (rw [hy112]; exact H) | exact H
 have Ny112 := Aside0.mk hy112
 clear hy112
 have H' := Aside0.mk H
 clear H
 have hnb10 := NB111_110.out
 have hnc10 := NB110_111.out
 obtain ⟨hcz11_0, hcz11_1, hcz11_2, hcz11_3, hfz11_0, hfz11_1, hfz11_2, hfz11_3⟩ := e4_ BK111
 go_wp2_with (first | ((with_reducible refine gate_builtin (b := .append) (xs := #[.tmp 17, .tmp 19]) rfl ?_); at_builtin; refine Kd.R_append (Kd.int .i64) (w0 := w) w.heap.size rfl (.tmp 17) (.tmp 19) 22 3 (.int .i64 0) 8 rfl Try.underlying22 info3 rfl (by decide) (by omega) u112002 x112002_1 5 [.int .i64 5] (fun _ => True) (fun _ => False) rfl rfl ?aP (fun _ hk => hk.elim) ?aF ?aO ?aB ?aS ?aL ?_; (case aP => exact rfl); (case aB => exact (bl_ HB)); (case aF => exact (fun _ _ => trivial)); (case aO => exact (kR_ HO_112002)); (case aS => exact (bs_ HB)); (case aL => have := LMc9.out; omega); intro v113 w12 ho hb hg hat; rw [← Ny112.out] at ho; replace BK110 := (FG_ BK110 hg (Kd.R_ne HO_112002.out BK110.out (by decide))); replace BK111 := (FG_ BK111 hg (Kd.R_ne HO_112002.out BK111.out (by decide))); replace HB := Aside0.mk (hb); have HO114 := Aside0.mk (ho); clear HO_112002; clear ho hb hg hat; obtain ⟨Ao13, co13, eo13⟩ := Kd.R_slice HO114.out; subst eo13; obtain ⟨hcz14_0, hcz14_1, hcz14_2, hcz14_3, hfz14_0, hfz14_1, hfz14_2, hfz14_3⟩ := e4_ BK111))
 go_roundg k1
 case measure => have := HK1.out; omega
 case rel => exact ⟨(wrap64 (x11_1 + 1)), (y112), (.slice Ao13 y112.length co13), rs_, H', ⟨by have := HK1.out; omega⟩, ⟨by (with_reducible repeat (first | apply Kd.R_alloc | apply Kd.R_drewN | apply Kd.R_drew)); exact Kd.R_mono (Kd.R_far (p := ⟨gb111, 2, none⟩) (Kd.R_types HO114.out BK111.out (by decide)) (fun _ hk => hk.2) (.slice Ao13 y112.length co13)) (fun _ hk => trivial)⟩, ⟨bk_ BK110⟩, ⟨bp_ BK111⟩, ⟨bl_ HB⟩⟩}
 {
 rw [if_neg c9] at H
 exact absurd H (by simp)}}
 {
 rw [if_neg c8] at H
 have c8b0 : decide (x11_1 < 19) = false := decide_eq_false c8
 clear c8
 by_cases c15 : x112002_1.length < 17592186044416
 {
 rw [if_pos c15] at H
 have LMc15 := Aside0.mk c15
 clear c15
 obtain ⟨y115, hy115⟩ : ∃ y_ : List Int, y_ = (x112002_1 ++ [6]) := ⟨_, rfl⟩
 replace H : (vhead_Plain.l0 k1 (wrap64 (x11_1 + 1)) a0 a1 y115) = some (r1, r2, r3, r4) := by first | (rw [hy115]; with_reducible exact H) | (have H2_ := (Option.bind_some _ _).symm.trans H; rw [hy115]; with_reducible exact H2_) | (have H2_ := (Option.bind_some _ _).symm.trans H; with_reducible exact H2_) | with_reducible exact H | (rw [hy115]; exact H) | exact H
 have Ny115 := Aside0.mk hy115
 clear hy115
 have H' := Aside0.mk H
 clear H
 have hnb16 := NB111_110.out
 have hnc16 := NB110_111.out
 obtain ⟨hcz17_0, hcz17_1, hcz17_2, hcz17_3, hfz17_0, hfz17_1, hfz17_2, hfz17_3⟩ := e4_ BK111
 go_wp2_with (first | ((with_reducible refine gate_builtin (b := .append) (xs := #[.tmp 17, .tmp 19]) rfl ?_); at_builtin; refine Kd.R_append (Kd.int .i64) (w0 := w) w.heap.size rfl (.tmp 17) (.tmp 19) 22 3 (.int .i64 0) 8 rfl Try.underlying22 info3 rfl (by decide) (by omega) u112002 x112002_1 6 [.int .i64 6] (fun _ => True) (fun _ => False) rfl rfl ?aP (fun _ hk => hk.elim) ?aF ?aO ?aB ?aS ?aL ?_; (case aP => exact rfl); (case aB => exact (bl_ HB)); (case aF => exact (fun _ _ => trivial)); (case aO => exact (kR_ HO_112002)); (case aS => exact (bs_ HB)); (case aL => have := LMc15.out; omega); intro v116 w18 ho hb hg hat; rw [← Ny115.out] at ho; replace BK110 := (FG_ BK110 hg (Kd.R_ne HO_112002.out BK110.out (by decide))); replace BK111 := (FG_ BK111 hg (Kd.R_ne HO_112002.out BK111.out (by decide))); replace HB := Aside0.mk (hb); have HO117 := Aside0.mk (ho); clear HO_112002; clear ho hb hg hat; obtain ⟨Ao19, co19, eo19⟩ := Kd.R_slice HO117.out; subst eo19; obtain ⟨hcz20_0, hcz20_1, hcz20_2, hcz20_3, hfz20_0, hfz20_1, hfz20_2, hfz20_3⟩ := e4_ BK111))
 go_roundg k1
 case measure => have := HK1.out; omega
 case rel => exact ⟨(wrap64 (x11_1 + 1)), (y115), (.slice Ao19 y115.length co19), rs_, H', ⟨by have := HK1.out; omega⟩, ⟨by (with_reducible repeat (first | apply Kd.R_alloc | apply Kd.R_drewN | apply Kd.R_drew)); exact Kd.R_mono (Kd.R_far (p := ⟨gb111, 2, none⟩) (Kd.R_types HO117.out BK111.out (by decide)) (fun _ hk => hk.2) (.slice Ao19 y115.length co19)) (fun _ hk => trivial)⟩, ⟨bk_ BK110⟩, ⟨bp_ BK111⟩, ⟨bl_ HB⟩⟩}
 {
 rw [if_neg c15] at H
 exact absurd H (by simp)}}}
 {
 rw [if_neg c7] at H
 have c7b0 : decide (x11_1 < 45) = false := decide_eq_false c7
 clear c7
 have H' := Aside0.mk H
 clear H
 go_wp2
 go_loopg [23] k1 (fun kq v23 w' => ∃ (x23_2 : Int) (x112003_2 : List Int) (u112003 : Value), v23 = .int .i64 x23_2 ∧ Aside0 (vhead_Plain.l1 kq x23_2 a0 a1 x112002_1 x112003_2 = some (r1, r2, r3, r4)) ∧ Aside0 (kq ≤ k1) ∧ Aside0 (Kd.R (Kd.int .i64) 3 w' w.heap.size (fun k_ => some k_ ≠ (u112003 : Value).ownBlock) u112002 x112002_1) ∧ Aside0 (Kd.R (Kd.int .i64) 3 w' w.heap.size (fun k_ => some k_ ≠ (u112002 : Value).ownBlock) u112003 x112003_2) ∧ Aside0 (w'.heap[gb110]? = some (.cells #[.int .i64 0, .int .i64 0, (.slice none 0 0), (.slice none 0 0)] 24 (0, 0))) ∧ Aside0 (w'.heap[gb111]? = some (.cells #[.int .i64 a0, .int .i64 a1, u112002, u112003] 24 (0, 0))) ∧ Aside0 (Below w.heap.size w w'))
 case atStart => exact ⟨(0), (([] : List Int)), (.slice none 0 0), rs_, H', ⟨Nat.le_refl _⟩, ⟨by (with_reducible repeat (first | apply Kd.R_alloc | apply Kd.R_drewN | apply Kd.R_drew)); exact Kd.R_mono HO_112002.out (fun _ hk => (by simp [Value.ownBlock]))⟩, ⟨by first | exact Kd.R_nil _ _ _ _ _ | exact Kd.N_nil _ _ _ _ _ | exact Kd.V_nil _ _ _ _ _ | exact Kd.Q_nil _ _ _ _ _ | exact Kd.S_nil _ _ _ _ _⟩, ⟨bk_ BK110⟩, ⟨bk_ BK111⟩, ⟨bl_ HB⟩⟩
 case round => (
 clear H'
 try clear c7
 try clear c7b0
 try clear hcz6_0
 try clear hcz6_1
 try clear hcz6_2
 try clear hcz6_3
 try clear hfz6_0
 try clear hfz6_1
 try clear hfz6_2
 try clear hfz6_3
 obtain ⟨x23_2, x112003_2, u112003, rfl, HA, HK2, HO_112002, HO_112003, BK110, BK111, HB⟩ := hrel
 cases gk with
 | zero => exact absurd HA.out (by simp [vhead_Plain.l1])
 | succ k2 => (
 have H := HA.out
 clear HA
 simp only [vhead_Plain.l1] at H
 by_cases c21 : x23_2 < 16
 {
 rw [if_pos c21] at H
 have c21b0 : decide (x23_2 < 16) = true := decide_eq_true c21
 clear c21
 by_cases c22 : x112003_2.length < 17592186044416
 {
 rw [if_pos c22] at H
 have LMc22 := Aside0.mk c22
 clear c22
 obtain ⟨y118, hy118⟩ : ∃ y_ : List Int, y_ = (x112003_2 ++ [4]) := ⟨_, rfl⟩
 replace H : (vhead_Plain.l1 k2 (wrap64 (x23_2 + 1)) a0 a1 x112002_1 y118) = some (r1, r2, r3, r4) := by first | (rw [hy118]; with_reducible exact H) | (have H2_ := (Option.bind_some _ _).symm.trans H; rw [hy118]; with_reducible exact H2_) | (have H2_ := (Option.bind_some _ _).symm.trans H; with_reducible exact H2_) | with_reducible exact H | (rw [hy118]; exact H) | exact H
 have Ny118 := Aside0.mk hy118
 clear hy118
 have H' := Aside0.mk H
 clear H
 have hnb23 := NB111_110.out
 have hnc23 := NB110_111.out
 obtain ⟨hcz24_0, hcz24_1, hcz24_2, hcz24_3, hfz24_0, hfz24_1, hfz24_2, hfz24_3⟩ := e4_ BK111
 go_wp2_with (first | ((with_reducible refine gate_builtin (b := .append) (xs := #[.tmp 26, .tmp 27]) rfl ?_); at_builtin; refine Kd.R_append (Kd.int .i64) (w0 := w) w.heap.size rfl (.tmp 26) (.tmp 27) 22 3 (.int .i64 0) 8 rfl Try.underlying22 info3 rfl (by decide) (by omega) u112003 x112003_2 4 [.int .i64 4] (fun k_ => some k_ ≠ (u112002 : Value).ownBlock) (fun _ => False) rfl rfl ?aP (fun _ hk => hk.elim) ?aF ?aO ?aB ?aS ?aL ?_; (case aP => exact rfl); (case aB => exact (bl_ HB)); (case aF => exact (fun k_ hk => Kd.fresh' (Kd.R_lt (kR_ HO_112002)) k_ hk)); (case aO => exact (kR_ HO_112003)); (case aS => exact (bs_ HB)); (case aL => have := LMc22.out; omega); intro v119 w25 ho hb hg hat; rw [← Ny118.out] at ho; replace HO_112002 := Aside0.mk (Kd.R_after (ok := (fun _ => True)) (by (with_reducible repeat (first | apply Kd.R_alloc | apply Kd.R_drewN | apply Kd.R_drew)); exact Kd.R_mono HO_112002.out (fun _ hk => ⟨trivial, hk⟩)) hg hat); replace BK110 := (FG_ BK110 hg (Kd.R_ne HO_112003.out BK110.out (by decide))); replace BK111 := (FG_ BK111 hg (Kd.R_ne HO_112003.out BK111.out (by decide))); replace HB := Aside0.mk (hb); have HO120 := Aside0.mk (ho); clear HO_112003; clear ho hb hg hat; obtain ⟨Ao26, co26, eo26⟩ := Kd.R_slice HO120.out; subst eo26; obtain ⟨hcz27_0, hcz27_1, hcz27_2, hcz27_3, hfz27_0, hfz27_1, hfz27_2, hfz27_3⟩ := e4_ BK111))
 go_roundg k2
 case measure => have := HK1.out; have := HK2.out; omega
 case rel => exact ⟨(wrap64 (x23_2 + 1)), (y118), (.slice Ao26 y118.length co26), rs_, H', ⟨by have := HK1.out; have := HK2.out; omega⟩, ⟨by (with_reducible repeat (first | apply Kd.R_alloc | apply Kd.R_drewN | apply Kd.R_drew)); exact Kd.R_mono (Kd.R_far (p := ⟨gb111, 3, none⟩) (Kd.R_types HO_112002.out BK111.out (by decide)) (fun _ hk => hk.2) (.slice Ao26 y118.length co26)) (fun _ hk => hk.1.2)⟩, ⟨kRk_ HO120 BK111⟩, ⟨bk_ BK110⟩, ⟨bp_ BK111⟩, ⟨bl_ HB⟩⟩}
 {
 rw [if_neg c22] at H
 exact absurd H (by simp)}}
 {
 rw [if_neg c21] at H
 have c21b0 : decide (x23_2 < 16) = false := decide_eq_false c21
 clear c21
 simp only [Option.some.injEq, Prod.mk.injEq] at H
 obtain ⟨rfl, rfl, rfl, rfl⟩ := H
 have hnb28 := NB111_110.out
 have hnc28 := NB110_111.out
 obtain ⟨hcz29_0, hcz29_1, hcz29_2, hcz29_3, hfz29_0, hfz29_1, hfz29_2, hfz29_3⟩ := e4_ BK111
 obtain ⟨hcz30_0, hcz30_1, hcz30_2, hcz30_3, hfz30_0, hfz30_1, hfz30_2, hfz30_3⟩ := e4_ BK110
 obtain ⟨Ao31, co31, eo31⟩ := Kd.R_slice HO_112002.out
 subst eo31
 obtain ⟨Ao32, co32, eo32⟩ := Kd.R_slice HO_112003.out
 subst eo32
 go_wp2
 refine bodyPost_ret (results_cell_row rfl _ _ gb110 24 #[.int .i64 a0, .int .i64 a1, .slice Ao31 x112002_1.length co31, .slice Ao32 x112003_2.length co32] (0, 0) _ rfl (bp_ BK110) Try.underlying24 rfl kf_) rfl ?_
 exact ⟨_, _, by first | rfl | (simp [errW_none, errW_some] <;> rfl) | (simp [*, errW_none, errW_some] <;> rfl), by (with_reducible repeat (first | apply Kd.R_alloc | apply Kd.R_drewN | apply Kd.R_drew)); exact Kd.R_mono (Kd.R_far (p := ⟨gb110, 3, none⟩) (Kd.R_far (p := ⟨gb110, 2, none⟩) (Kd.R_far (p := ⟨gb110, 1, none⟩) (Kd.R_far (p := ⟨gb110, 0, none⟩) (Kd.R_types HO_112002.out BK110.out (by decide)) (fun _ hk => hk.2) (.int .i64 a0)) (fun _ hk => hk.2) (.int .i64 a1)) (fun _ hk => hk.2) (.slice Ao31 x112002_1.length co31)) (fun _ hk => hk.2) (.slice Ao32 x112003_2.length co32)) (fun _ hk => hk.1), by (with_reducible repeat (first | apply Kd.R_alloc | apply Kd.R_drewN | apply Kd.R_drew)); exact Kd.R_mono (Kd.R_far (p := ⟨gb110, 3, none⟩) (Kd.R_far (p := ⟨gb110, 2, none⟩) (Kd.R_far (p := ⟨gb110, 1, none⟩) (Kd.R_far (p := ⟨gb110, 0, none⟩) (Kd.R_types HO_112003.out BK110.out (by decide)) (fun _ hk => hk.2) (.int .i64 a0)) (fun _ hk => hk.2) (.int .i64 a1)) (fun _ hk => hk.2) (.slice Ao31 x112002_1.length co31)) (fun _ hk => hk.2) (.slice Ao32 x112003_2.length co32)) (fun _ hk => hk.1), bl_ HB⟩}))}))
end Go.Proofs.Ytpdfdaoohknfoaa.P
namespace Go.Proofs.Ytpdfdaoohknfoaa.P
open Go.RowKit Go.Proofs.YtpdfdaoohknfoaaW.PrintWords Go.Proofs.YtpdfdaoohknfoaaW.PrintLast Go.Proofs.YtpdfdaoohknfoaaW.PrintMore
attribute [local go_sem] max2_int min2_int max_two min_two max_three min_three max_four min_four   -- for this text's walks alone
set_option linter.unusedVariables false
set_option linter.unusedSimpArgs false

def bits_Right.f (l0_0 : List Int) (a0_1 : Int) : Option (Bool) := if a0_1 < 0 then (some false) else (if a0_1 > 32000 then (some false) else (if (l0_0.length : Int) = (wrap64 (Int.tdiv (wrap64 (a0_1 + 7)) 8)) then (if (Int.tmod a0_1 8) = 0 then (some true) else (if 0 ≤ (wrap64 (Int.tdiv a0_1 8)) then (if (wrap64 (Int.tdiv a0_1 8)) < (l0_0.length : Int) then (if 0 ≤ (Int.tmod a0_1 8) then (some ((shr .u8 (rd l0_0 (wrap64 (Int.tdiv a0_1 8))) (Int.tmod a0_1 8)) == 0)) else (none)) else (none)) else (none))) else (some false)))
set_option maxHeartbeats 8000000 in
set_option maxRecDepth 100000 in
theorem bits_Right.calls (A0_0 : Option Addr) (c0_0 : Nat) (l0_0 : List Int) (a0_1 : Int) (r : Bool) (w : World) (hr0_0 : Kd.C (Kd.int .u8) w A0_0 l0_0.length l0_0) (hc0_0 : l0_0.length ≤ c0_0) (h : bits_Right.f l0_0 a0_1 = some r) :
    Calls Try.prog 75 #[.agg #[.slice A0_0 l0_0.length c0_0, .int .i64 a0_1]] w fun e w' => e = .returned (.bool r) ∧ Below w.heap.size w w' := by
 have hu66 := Try.underlying66
 have HR0_0 := Aside0.mk hr0_0
 have HC0_0 := Aside0.mk hc0_0
 clear hr0_0 hc0_0
 have HB := Aside0.mk (Below.refl w.heap.size w)
 have H : (if a0_1 < 0 then (some false) else (if a0_1 > 32000 then (some false) else (if (l0_0.length : Int) = (wrap64 (Int.tdiv (wrap64 (a0_1 + 7)) 8)) then (if (Int.tmod a0_1 8) = 0 then (some true) else (if 0 ≤ (wrap64 (Int.tdiv a0_1 8)) then (if (wrap64 (Int.tdiv a0_1 8)) < (l0_0.length : Int) then (if 0 ≤ (Int.tmod a0_1 8) then (some ((shr .u8 (rd l0_0 (wrap64 (Int.tdiv a0_1 8))) (Int.tmod a0_1 8)) == 0)) else (none)) else (none)) else (none))) else (some false)))) = some r := h
 clear h
 by_cases c2 : a0_1 < 0
 {
 rw [if_pos c2] at H
 have c2b0 : decide (a0_1 < 0) = true := decide_eq_true c2
 clear c2
 obtain rfl := Option.some.inj H
 go_enter Try.func75, Try.ntmps75
 go_wp2_with (first | ((with_reducible refine gate_dst (N := 1) rfl ?_); (try (refine gate_guard (by rfl) ?_; dsimp only)); refine bx_ HB 1 #[.slice A0_0 l0_0.length c0_0, .int .i64 a0_1] 66 ?_; clear HB; intro gb427 hg w3 hb BK427 GE427 HB; have GW427 := GE427; clear hb hg; obtain ⟨hcz4_0, hcz4_1, hfz4_0, hfz4_1⟩ := e2_ BK427))
 repeat (go_quiet (first | ((with_reducible refine gate_dst (N := 1) rfl ?_); (try (refine gate_guard (by rfl) ?_; dsimp only)); refine bx_ HB 1 #[.slice A0_0 l0_0.length c0_0, .int .i64 a0_1] 66 ?_; clear HB; intro gb427 hg w3 hb BK427 GE427 HB; have GW427 := GE427; clear hb hg; obtain ⟨hcz4_0, hcz4_1, hfz4_0, hfz4_1⟩ := e2_ BK427)); try go_wp2_with (first | ((with_reducible refine gate_dst (N := 1) rfl ?_); (try (refine gate_guard (by rfl) ?_; dsimp only)); refine bx_ HB 1 #[.slice A0_0 l0_0.length c0_0, .int .i64 a0_1] 66 ?_; clear HB; intro gb427 hg w3 hb BK427 GE427 HB; have GW427 := GE427; clear hb hg; obtain ⟨hcz4_0, hcz4_1, hfz4_0, hfz4_1⟩ := e2_ BK427)))
 go_ret
 exact ⟨by first | rfl | (simp [errW_none, errW_some] <;> rfl) | (simp [*, errW_none, errW_some] <;> rfl), bl_ HB⟩}
 {
 rw [if_neg c2] at H
 have c2b0 : decide (a0_1 < 0) = false := decide_eq_false c2
 clear c2
 by_cases c5 : a0_1 > 32000
 {
 rw [if_pos c5] at H
 have c5b0 : decide (32000 < a0_1) = true := decide_eq_true c5
 clear c5
 obtain rfl := Option.some.inj H
 go_enter Try.func75, Try.ntmps75
 go_wp2_with (first | ((with_reducible refine gate_dst (N := 1) rfl ?_); (try (refine gate_guard (by rfl) ?_; dsimp only)); refine bx_ HB 1 #[.slice A0_0 l0_0.length c0_0, .int .i64 a0_1] 66 ?_; clear HB; intro gb427 hg w6 hb BK427 GE427 HB; have GW427 := GE427; clear hb hg; obtain ⟨hcz7_0, hcz7_1, hfz7_0, hfz7_1⟩ := e2_ BK427))
 repeat (go_quiet (first | ((with_reducible refine gate_dst (N := 1) rfl ?_); (try (refine gate_guard (by rfl) ?_; dsimp only)); refine bx_ HB 1 #[.slice A0_0 l0_0.length c0_0, .int .i64 a0_1] 66 ?_; clear HB; intro gb427 hg w6 hb BK427 GE427 HB; have GW427 := GE427; clear hb hg; obtain ⟨hcz7_0, hcz7_1, hfz7_0, hfz7_1⟩ := e2_ BK427)); try go_wp2_with (first | ((with_reducible refine gate_dst (N := 1) rfl ?_); (try (refine gate_guard (by rfl) ?_; dsimp only)); refine bx_ HB 1 #[.slice A0_0 l0_0.length c0_0, .int .i64 a0_1] 66 ?_; clear HB; intro gb427 hg w6 hb BK427 GE427 HB; have GW427 := GE427; clear hb hg; obtain ⟨hcz7_0, hcz7_1, hfz7_0, hfz7_1⟩ := e2_ BK427)))
 go_ret
 exact ⟨by first | rfl | (simp [errW_none, errW_some] <;> rfl) | (simp [*, errW_none, errW_some] <;> rfl), bl_ HB⟩}
 {
 rw [if_neg c5] at H
 have c5b0 : decide (32000 < a0_1) = false := decide_eq_false c5
 clear c5
 by_cases c8 : (l0_0.length : Int) = (wrap64 (Int.tdiv (wrap64 (a0_1 + 7)) 8))
 {
 rw [if_pos c8] at H
 have c8b0 : ((l0_0.length : Int) == (wrap64 (Int.tdiv (wrap64 (a0_1 + 7)) 8))) = true := beq_iff_eq.mpr c8
 have c8b1 : ((l0_0.length : Int) != (wrap64 (Int.tdiv (wrap64 (a0_1 + 7)) 8))) = false := bne_eq_false_iff_eq.mpr c8
 clear c8
 by_cases c9 : (Int.tmod a0_1 8) = 0
 {
 rw [if_pos c9] at H
 have c9b0 : ((Int.tmod a0_1 8) == 0) = true := beq_iff_eq.mpr c9
 have c9b1 : ((Int.tmod a0_1 8) != 0) = false := bne_eq_false_iff_eq.mpr c9
 clear c9
 obtain rfl := Option.some.inj H
 go_enter Try.func75, Try.ntmps75
 go_wp2_with (first | ((with_reducible refine gate_dst (N := 1) rfl ?_); (try (refine gate_guard (by rfl) ?_; dsimp only)); refine bx_ HB 1 #[.slice A0_0 l0_0.length c0_0, .int .i64 a0_1] 66 ?_; clear HB; intro gb427 hg w10 hb BK427 GE427 HB; have GW427 := GE427; clear hb hg; obtain ⟨hcz11_0, hcz11_1, hfz11_0, hfz11_1⟩ := e2_ BK427))
 repeat (go_quiet (first | ((with_reducible refine gate_dst (N := 1) rfl ?_); (try (refine gate_guard (by rfl) ?_; dsimp only)); refine bx_ HB 1 #[.slice A0_0 l0_0.length c0_0, .int .i64 a0_1] 66 ?_; clear HB; intro gb427 hg w10 hb BK427 GE427 HB; have GW427 := GE427; clear hb hg; obtain ⟨hcz11_0, hcz11_1, hfz11_0, hfz11_1⟩ := e2_ BK427)); try go_wp2_with (first | ((with_reducible refine gate_dst (N := 1) rfl ?_); (try (refine gate_guard (by rfl) ?_; dsimp only)); refine bx_ HB 1 #[.slice A0_0 l0_0.length c0_0, .int .i64 a0_1] 66 ?_; clear HB; intro gb427 hg w10 hb BK427 GE427 HB; have GW427 := GE427; clear hb hg; obtain ⟨hcz11_0, hcz11_1, hfz11_0, hfz11_1⟩ := e2_ BK427)))
 go_ret
 exact ⟨by first | rfl | (simp [errW_none, errW_some] <;> rfl) | (simp [*, errW_none, errW_some] <;> rfl), bl_ HB⟩}
 {
 rw [if_neg c9] at H
 have c9b0 : ((Int.tmod a0_1 8) == 0) = false := beq_eq_false_iff_ne.mpr c9
 have c9b1 : ((Int.tmod a0_1 8) != 0) = true := bne_iff_ne.mpr c9
 obtain ⟨ji12, hji12⟩ : ∃ j_ : Int, (wrap64 (Int.tdiv a0_1 8)) = j_ := ⟨_, rfl⟩
 replace H : (if 0 ≤ (ji12) then (if (ji12) < (l0_0.length : Int) then (if 0 ≤ (Int.tmod a0_1 8) then (some ((shr .u8 (rd l0_0 (ji12)) (Int.tmod a0_1 8)) == 0)) else (none)) else (none)) else (none)) = some r := by first | (rw [hji12] at H; exact H) | (simp only [hji12] at H ⊢; exact H)
 have hji12w : (IntKind.i64.wrap (Int.tdiv a0_1 8)) = ji12 := (i64_w _).trans hji12
 by_cases c13 : 0 ≤ (ji12)
 {
 rw [if_pos c13] at H
 have c13b0 : decide (0 ≤ (ji12)) = true := decide_eq_true c13
 clear c13
 by_cases c14 : (ji12) < (l0_0.length : Int)
 {
 rw [if_pos c14] at H
 have c14b0 : decide ((ji12) < (l0_0.length : Int)) = true := decide_eq_true c14
 clear c14
 obtain ⟨ji15, hji15⟩ : ∃ j_ : Int, (Int.tmod a0_1 8) = j_ := ⟨_, rfl⟩
 replace H : (if 0 ≤ (ji15) then (some ((shr .u8 (rd l0_0 (ji12)) (ji15)) == 0)) else (none)) = some r := by first | (rw [hji15] at H; exact H) | (simp only [hji15] at H ⊢; exact H)
 have hji15b : ji15 ≤ 8 := by have h_ := Int.tmod_lt_of_pos a0_1 (show (0 : Int) < 8 by decide); rw [hji15] at h_; omega
 (try rw [hji15] at c9b0)
 (try rw [hji15] at c9b1)
 by_cases c16 : 0 ≤ (ji15)
 {
 rw [if_pos c16] at H
 have c16b0 := eq_true c16
 have c16b1 : decide (0 ≤ (ji15)) = true := decide_eq_true c16
 clear c16
 obtain ⟨ji17, hji17⟩ : ∃ j_ : Int, (shr .u8 (rd l0_0 (ji12)) (ji15)) = j_ := ⟨_, rfl⟩
 replace H : (some ((ji17) == 0)) = some r := by first | (rw [hji17] at H; exact H) | (simp only [hji17] at H ⊢; exact H)
 have hji17_ : ((rd l0_0 (ji12)) / 2 ^ min (ji15).toNat 8) = ji17 := hji17
 have hji17z : (ji15) ≤ 8 → ((rd l0_0 (ji12)) / 2 ^ (ji15).toNat) = ji17 := shr_small hji17
 obtain rfl := Option.some.inj H
 go_enter Try.func75, Try.ntmps75
 go_wp2_with (first | ((with_reducible refine gate_dst (N := 1) rfl ?_); (try (refine gate_guard (by rfl) ?_; dsimp only)); refine bx_ HB 1 #[.slice A0_0 l0_0.length c0_0, .int .i64 a0_1] 66 ?_; clear HB; intro gb427 hg w18 hb BK427 GE427 HB; have GW427 := GE427; clear hb hg; obtain ⟨hcz19_0, hcz19_1, hfz19_0, hfz19_1⟩ := e2_ BK427; have p428 : 0 ≤ ((ji12) : Int) := of_decide_eq_true am_; have q428 : (ji12) < (l0_0.length : Int) := of_decide_eq_true am_; obtain ⟨ad428, e428, hx428_0⟩ := Kd.at_int HR0_0.out (ji12) p428 q428; cases e428; replace hx428_0 := (HB.out.cell (World.block_lt_of_cell? w _ hx428_0)).trans hx428_0; replace p428 := eq_true p428; replace q428 := eq_true q428))
 repeat (go_quiet (first | ((with_reducible refine gate_dst (N := 1) rfl ?_); (try (refine gate_guard (by rfl) ?_; dsimp only)); refine bx_ HB 1 #[.slice A0_0 l0_0.length c0_0, .int .i64 a0_1] 66 ?_; clear HB; intro gb427 hg w18 hb BK427 GE427 HB; have GW427 := GE427; clear hb hg; obtain ⟨hcz19_0, hcz19_1, hfz19_0, hfz19_1⟩ := e2_ BK427; have p428 : 0 ≤ ((ji12) : Int) := of_decide_eq_true am_; have q428 : (ji12) < (l0_0.length : Int) := of_decide_eq_true am_; obtain ⟨ad428, e428, hx428_0⟩ := Kd.at_int HR0_0.out (ji12) p428 q428; cases e428; replace hx428_0 := (HB.out.cell (World.block_lt_of_cell? w _ hx428_0)).trans hx428_0; replace p428 := eq_true p428; replace q428 := eq_true q428)); try go_wp2_with (first | ((with_reducible refine gate_dst (N := 1) rfl ?_); (try (refine gate_guard (by rfl) ?_; dsimp only)); refine bx_ HB 1 #[.slice A0_0 l0_0.length c0_0, .int .i64 a0_1] 66 ?_; clear HB; intro gb427 hg w18 hb BK427 GE427 HB; have GW427 := GE427; clear hb hg; obtain ⟨hcz19_0, hcz19_1, hfz19_0, hfz19_1⟩ := e2_ BK427; have p428 : 0 ≤ ((ji12) : Int) := of_decide_eq_true am_; have q428 : (ji12) < (l0_0.length : Int) := of_decide_eq_true am_; obtain ⟨ad428, e428, hx428_0⟩ := Kd.at_int HR0_0.out (ji12) p428 q428; cases e428; replace hx428_0 := (HB.out.cell (World.block_lt_of_cell? w _ hx428_0)).trans hx428_0; replace p428 := eq_true p428; replace q428 := eq_true q428)))
 go_ret
 exact ⟨by first | rfl | (simp [errW_none, errW_some] <;> rfl) | (simp only [← hji12, ← hji15, ← hji17]; first | rfl | (simp [errW_none, errW_some] <;> rfl)) | (simp [*, errW_none, errW_some] <;> rfl), bl_ HB⟩}
 {
 rw [if_neg c16] at H
 exact absurd H (by simp)}}
 {
 rw [if_neg c14] at H
 exact absurd H (by simp)}}
 {
 rw [if_neg c13] at H
 exact absurd H (by simp)}}}
 {
 rw [if_neg c8] at H
 have c8b0 : ((l0_0.length : Int) == (wrap64 (Int.tdiv (wrap64 (a0_1 + 7)) 8))) = false := beq_eq_false_iff_ne.mpr c8
 have c8b1 : ((l0_0.length : Int) != (wrap64 (Int.tdiv (wrap64 (a0_1 + 7)) 8))) = true := bne_iff_ne.mpr c8
 obtain rfl := Option.some.inj H
 go_enter Try.func75, Try.ntmps75
 go_wp2_with (first | ((with_reducible refine gate_dst (N := 1) rfl ?_); (try (refine gate_guard (by rfl) ?_; dsimp only)); refine bx_ HB 1 #[.slice A0_0 l0_0.length c0_0, .int .i64 a0_1] 66 ?_; clear HB; intro gb427 hg w20 hb BK427 GE427 HB; have GW427 := GE427; clear hb hg; obtain ⟨hcz21_0, hcz21_1, hfz21_0, hfz21_1⟩ := e2_ BK427))
 repeat (go_quiet (first | ((with_reducible refine gate_dst (N := 1) rfl ?_); (try (refine gate_guard (by rfl) ?_; dsimp only)); refine bx_ HB 1 #[.slice A0_0 l0_0.length c0_0, .int .i64 a0_1] 66 ?_; clear HB; intro gb427 hg w20 hb BK427 GE427 HB; have GW427 := GE427; clear hb hg; obtain ⟨hcz21_0, hcz21_1, hfz21_0, hfz21_1⟩ := e2_ BK427)); try go_wp2_with (first | ((with_reducible refine gate_dst (N := 1) rfl ?_); (try (refine gate_guard (by rfl) ?_; dsimp only)); refine bx_ HB 1 #[.slice A0_0 l0_0.length c0_0, .int .i64 a0_1] 66 ?_; clear HB; intro gb427 hg w20 hb BK427 GE427 HB; have GW427 := GE427; clear hb hg; obtain ⟨hcz21_0, hcz21_1, hfz21_0, hfz21_1⟩ := e2_ BK427)))
 go_ret
 exact ⟨by first | rfl | (simp [errW_none, errW_some] <;> rfl) | (simp [*, errW_none, errW_some] <;> rfl), bl_ HB⟩}}}
end Go.Proofs.Ytpdfdaoohknfoaa.P
namespace Go.Proofs.Ytpdfdaoohknfoaa.P
open Go.RowKit Go.Proofs.YtpdfdaoohknfoaaW.PrintWords Go.Proofs.YtpdfdaoohknfoaaW.PrintLast Go.Proofs.YtpdfdaoohknfoaaW.PrintMore
attribute [local go_sem] max2_int min2_int max_two min_two max_three min_three max_four min_four   -- for this text's walks alone
set_option linter.unusedVariables false
set_option linter.unusedSimpArgs false

def bits_own.f (l0_0 : List Int) (a0_1 : Int) : Option (List Int × Int) := (bits_Right.f l0_0 a0_1).bind fun t431 => (if t431 = true then ((some (([] : List Int) : List Int)).bind fun y432 => (if y432.length + l0_0.length < 140737488355328 then (some ((y432 ++ l0_0), a0_1)) else (none))) else (some (([] : List Int), 0)))
def bits_own.T3 : Bool × List (List Nat × List Nat) := (true, [([], []), ([], []), ([1], [1]), ([0, 2], [0, 2]), ([], []), ([4], [4]), ([3, 5], [3, 5]), ([6, 3, 0, 1, 2, 3, 4, 5, 6], [6])])
def bits_own.B3 : List Nat := [0, 0, 2, 7, 0, 16, 63, 127]
theorem bits_own.tab3 : rtab .any (opsOf Try.f72 3) = bits_own.T3 := by kernel_rfl
theorem bits_own.bits3 : waitsOk bits_own.T3.2 bits_own.B3 = true := by kernel_rfl
set_option maxHeartbeats 8000000 in
set_option maxRecDepth 100000 in
theorem bits_own.calls (A0_0 : Option Addr) (c0_0 : Nat) (l0_0 : List Int) (a0_1 : Int) (r1 : List Int) (r2 : Int) (w : World) (hr0_0 : Kd.C (Kd.int .u8) w A0_0 l0_0.length l0_0) (hc0_0 : l0_0.length ≤ c0_0) (h : bits_own.f l0_0 a0_1 = some (r1, r2)) :
    Calls Try.prog 72 #[.agg #[.slice A0_0 l0_0.length c0_0, .int .i64 a0_1]] w fun e w' => ∃ v0_ : Value, e = .returned (.agg #[v0_, .int .i64 r2]) ∧ Kd.R (Kd.int .u8) 5 w' w.heap.size (fun _ => True) v0_ r1 ∧ Below w.heap.size w w' := by
 have hu66 := Try.underlying66
 have HR0_0 := Aside0.mk hr0_0
 have HC0_0 := Aside0.mk hc0_0
 clear hr0_0 hc0_0
 have HB := Aside0.mk (Below.refl w.heap.size w)
 have H : ((bits_Right.f l0_0 a0_1).bind fun t431 => (if t431 = true then ((some (([] : List Int) : List Int)).bind fun y432 => (if y432.length + l0_0.length < 140737488355328 then (some ((y432 ++ l0_0), a0_1)) else (none))) else (some (([] : List Int), 0)))) = some (r1, r2) := h
 clear h
 obtain ⟨t431, A2, H⟩ := ob_ H
 (try dsimp only at H)
 by_cases c3 : t431 = true
 {
 subst c3
 rw [if_pos rfl] at H
 obtain ⟨y432, hy432⟩ : ∃ y_ : List Int, y_ = (([] : List Int)) := ⟨_, rfl⟩
 replace H : (if y432.length + l0_0.length < 140737488355328 then (some ((y432 ++ l0_0), a0_1)) else (none)) = some (r1, r2) := by first | (rw [hy432]; with_reducible exact H) | (have H2_ := (Option.bind_some _ _).symm.trans H; rw [hy432]; with_reducible exact H2_) | (have H2_ := (Option.bind_some _ _).symm.trans H; with_reducible exact H2_) | with_reducible exact H | (rw [hy432]; exact H) | exact H
 have Ny432 := Aside0.mk hy432
 clear hy432
 by_cases c4 : y432.length + l0_0.length < 140737488355328
 {
 rw [if_pos c4] at H
 have LMc4 := Aside0.mk c4
 clear c4
 obtain ⟨y435, hy435⟩ : ∃ y_ : List Int, y_ = (y432 ++ l0_0) := ⟨_, rfl⟩
 replace H : (some (y435, a0_1)) = some (r1, r2) := by first | (rw [hy435]; with_reducible exact H) | (have H2_ := (Option.bind_some _ _).symm.trans H; rw [hy435]; with_reducible exact H2_) | (have H2_ := (Option.bind_some _ _).symm.trans H; with_reducible exact H2_) | with_reducible exact H | (rw [hy435]; exact H) | exact H
 have Ny435 := Aside0.mk hy435
 clear hy435
 simp only [Option.some.injEq, Prod.mk.injEq] at H
 obtain ⟨rfl, rfl⟩ := H
 go_enter Try.func72, Try.ntmps72
 try go_wp2_with (first | ((with_reducible refine gate_dst (N := 1) rfl ?_); refine bx_ HB 1 #[.slice A0_0 l0_0.length c0_0, .int .i64 a0_1] 66 ?_; clear HB; intro gb429 hg w5 hb BK429 GE429 HB; have GW429 := GE429; clear hb hg) | ((with_reducible refine gate_dst (N := 2) rfl ?_); refine bx_ HB 2 #[.slice none 0 0, .int .i64 0] 66 ?_; clear HB; intro gb430 hg w6 hb BK430 GE430 HB; have GW430 := GE430; obtain ⟨NB429_430, NB430_429⟩ := NN_ BK429 hg; replace BK429 := FB_ BK429 hb; clear hb hg; have hnb7 := NB429_430.out; have hnc7 := NB430_429.out; obtain ⟨hcz8_0, hcz8_1, hfz8_0, hfz8_1⟩ := e2_ BK429) | ((with_reducible refine gate_callee (f := 75) rfl ?_); refine gL_ (some 4) Try.func75 #[.agg #[.slice A0_0 l0_0.length c0_0, .int .i64 a0_1]] ?_; (with_reducible refine (bits_Right.calls _ _ l0_0 a0_1 true _ ?side1 ?side2 A2.out).mono ?_); (case side1 => exact kC_ HR0_0 HB); (case side2 => exact HC0_0.out); rintro e w9 ⟨rfl, hb⟩; refine ⟨_, rfl, ?_⟩; replace BK429 := FB_ BK429 hb; replace BK430 := FB_ BK430 hb; replace HB := BS_ HB hb; (try clear hb)))
 replace BK429 := Aside0.mk (blk_drew BK429.out)
 replace BK430 := Aside0.mk (blk_drew BK430.out)
 replace HB := Aside0.mk (below_drew1 HB.out)
 refine start_ (n := 8) (S := fun w' => w'.cell? ⟨gb429, 0, none⟩ = some (.slice A0_0 l0_0.length c0_0) ∧ w'.cell? ⟨gb429, 1, none⟩ = some (.int .i64 a0_1)) (ds := []) (B_ 8 0) kf_ rfl rfl ⟨ce_ BK429 0, ce_ BK429 1⟩ (fun hHeld => ?_); refine with_tabW bits_own.tab3 bits_own.bits3 (fun HT_ HW_ => ?_)
 generalize w9.drew = w10 at BK429 BK430 HB hHeld ⊢
 refine pu_ 1 (some 8) (B_ 8 2) HT_ ?_
 refine pu_ 4 (some 11) (B_ 8 18) HT_ ?_
 refine take_ (i := 2) (N := some 9) (v := ?_) (a' := ?_) (B_ 8 22) rfl rfl (take_ofW HT_.out HW_.out kf_) (fun _ _ _ h => h) (Or.inl ⟨by rfl, ?_⟩) hHeld ?_ ?_
 rotate_left
 {
 rintro w' ⟨s0, s1⟩
 go_simp
 with_reducible rfl}
 rotate_left
 {
 exact sp_}
 refine take_ (i := 5) (N := some 12) (v := ?_) (a' := ?_) (B_ 8 54) rfl rfl (take_ofW HT_.out HW_.out kf_) (fun _ _ _ h => h) (Or.inl ⟨by rfl, ?_⟩) hHeld ?_ ?_
 rotate_left
 {
 rintro w' ⟨s0, s1⟩
 go_simp
 with_reducible rfl}
 rotate_left
 {
 exact sp_}
 refine one_ (i := 0) (N := some 7) (B_ 8 55) rfl rfl (one_of HT_.out kf_) (by decide) (fun K hK => ?_)
 refine Kd.R_lit_step (Kd.int .u8) _ 5 ?hg (N := 7) ?hd (xs := ([] : List Int)) (inner := []) (ok := fun _ => True) (okp := fun _ => True) ?hr ?hp (fun _ hk => hk) trivial (Below.refl _ _) (Nat.le_refl _) (by simp) ?_; (case hd => rfl); (case hg => rfl); (case hr => first | (go_simp; done) | (go_simp; rfl)); (case hp => exact (Reps.none _ _))
 intro v433 w11 ho12 hb hg_ hnew_
 clear hg_ hnew_
 (first | rw [← Ny432.out] at ho12 | (simp only [Int.reduceToNat] at ho12; rw [← Ny432.out] at ho12))
 have HO434 := Aside0.mk (Kd.R_lower ho12 (bs_ HB))
 replace BK429 := FB_ BK429 hb
 replace BK430 := FB_ BK430 hb
 replace HB := BS_ HB hb
 clear hb ho12
 refine hK.out _ _ ⟨ce_ BK429 0, ce_ BK429 1⟩ (fun hHeld => ?_)
 clear hK K
 refine norm_ (a' := ?_) ?_ ?_
 rotate_left
 {
 show Act.put _ (some 7) _ = _
 exact sp_}
 refine one_ (i := 3) (N := some 10) (B_ 8 63) rfl rfl (one_of HT_.out kf_) (by decide) (fun K hK => ?_)
 refine Kd.R_append_rows_step (Kd.int .u8) (w0 := w) w.heap.size (by rfl) (.tmp 7) (.tmp 9) 34 5 (.int .u8 0) 1 rfl Try.underlying34 info5 rfl (by decide) (by omega) v433 y432 l0_0 _ _ _ (fun _ => True) (fun _ => False) rfl rfl ?aO ?aR (fun _ _ h => h) (fun _ h => h.elim) ?aF ?aB ?aS ?aL ?_
 (case aR => exact kC_ HR0_0 HB)
 (case aB => exact (bl_ HB))
 (case aF => exact (fun _ _ => trivial))
 (case aO => exact (kR_ HO434))
 (case aS => exact (bs_ HB))
 (case aL => have := LMc4.out; omega)
 intro v436 w13 ho hb hg hat
 rw [← Ny435.out] at ho
 replace BK429 := (FG_ BK429 hg (Kd.R_ne HO434.out BK429.out (by decide)))
 replace BK430 := (FG_ BK430 hg (Kd.R_ne HO434.out BK430.out (by decide)))
 replace HB := Aside0.mk (hb)
 have HO437 := Aside0.mk (ho)
 clear HO434
 clear ho hb hg hat
 obtain ⟨Ao14, co14, eo14⟩ := Kd.R_slice HO437.out
 (first | subst eo14 | (injection eo14 with f1_ f2_ f3_; have f4_ := f1_.symm; have f5_ := f3_.symm; clear f1_ f2_ f3_; subst f4_; subst f5_))
 refine hK.out _ _ ⟨ce_ BK429 0, ce_ BK429 1⟩ (fun hHeld => ?_)
 clear hK K
 refine norm_ (a' := ?_) ?_ ?_
 rotate_left
 {
 show Act.put _ (some 10) _ = _
 exact sp_}
 refine pu_ 6 (some 13) (B_ 8 127) HT_ ?_
 refine one_ (i := 7) (N := none) (B_ 8 255) rfl rfl (one_of HT_.out kf_) (by decide) (fun K hK => ?_)
 have hs15 : w13.cell? ⟨gb430, 0, none⟩ = some (.slice none 0 0) := ce_ BK430 0
 have hfs15 := blk_frozen BK430.out 0
 have hns15_0 := NB429_430.out
 have hms15_0 := NB430_429.out
 have hs16 : w13.cell? ⟨gb430, 1, none⟩ = some (.int .i64 0) := ce_ BK430 1
 have hfs16 := blk_frozen BK430.out 1
 have hns16_0 := NB429_430.out
 have hms16_0 := NB430_429.out
 refine skip_ (w1 := ?_) (by rfl) rfl ?_ ?_
 rotate_left
 {
 go_simp
 rfl}
 refine hK.out _ _ ⟨((cell_far (p := ⟨gb430, _, none⟩) NB429_430.out _).trans (((cell_far (p := ⟨gb430, _, none⟩) NB429_430.out _).trans (hHeld.1)))), ((cell_far (p := ⟨gb430, _, none⟩) NB429_430.out _).trans (((cell_far (p := ⟨gb430, _, none⟩) NB429_430.out _).trans (hHeld.2))))⟩ (fun hHeld => ?_)
 clear hK K
 refine done_ (done_of HT_.out kf_) ?_
 try go_wp2
 refine bodyPost_ret (results_cell_row rfl _ _ gb430 66 #[.slice Ao14 y435.length co14, .int .i64 a0_1] (0, 0) _ rfl (bp_ BK430) Try.underlying66 rfl kf_) rfl ?_
 exact ⟨_, by first | rfl | (simp [errW_none, errW_some] <;> rfl) | (simp [*, errW_none, errW_some] <;> rfl), by (with_reducible repeat (first | apply Kd.R_alloc | apply Kd.R_drewN | apply Kd.R_drew)); exact Kd.R_mono (Kd.R_far (p := ⟨gb430, 1, none⟩) (Kd.R_far (p := ⟨gb430, 0, none⟩) (Kd.R_types HO437.out BK430.out (by decide)) (fun _ hk => hk.2) (.slice Ao14 y435.length co14)) (fun _ hk => hk.2) (.int .i64 a0_1)) (fun _ hk => trivial), bl_ HB⟩}
 {
 rw [if_neg c4] at H
 exact absurd H (by simp)}}
 {
 replace c3 := Bool.eq_false_iff.mpr c3
 subst c3
 rw [if_neg (show ¬ (false = true) by decide)] at H
 simp only [Option.some.injEq, Prod.mk.injEq] at H
 obtain ⟨rfl, rfl⟩ := H
 go_enter Try.func72, Try.ntmps72
 go_wp2_with (first | ((with_reducible refine gate_dst (N := 1) rfl ?_); refine bx_ HB 1 #[.slice A0_0 l0_0.length c0_0, .int .i64 a0_1] 66 ?_; clear HB; intro gb429 hg w17 hb BK429 GE429 HB; have GW429 := GE429; clear hb hg) | ((with_reducible refine gate_dst (N := 2) rfl ?_); refine bx_ HB 2 #[.slice none 0 0, .int .i64 0] 66 ?_; clear HB; intro gb430 hg w18 hb BK430 GE430 HB; have GW430 := GE430; obtain ⟨NB429_430, NB430_429⟩ := NN_ BK429 hg; replace BK429 := FB_ BK429 hb; clear hb hg; have hnb19 := NB429_430.out; have hnc19 := NB430_429.out; obtain ⟨hcz20_0, hcz20_1, hfz20_0, hfz20_1⟩ := e2_ BK429) | ((with_reducible refine gate_callee (f := 75) rfl ?_); refine gL_ (some 4) Try.func75 #[.agg #[.slice A0_0 l0_0.length c0_0, .int .i64 a0_1]] ?_; (with_reducible refine (bits_Right.calls _ _ l0_0 a0_1 false _ ?side1 ?side2 A2.out).mono ?_); (case side1 => exact kC_ HR0_0 HB); (case side2 => exact HC0_0.out); rintro e w21 ⟨rfl, hb⟩; refine ⟨_, rfl, ?_⟩; replace BK429 := FB_ BK429 hb; replace BK430 := FB_ BK430 hb; replace HB := BS_ HB hb; (try clear hb); obtain ⟨hcz22_0, hcz22_1, hfz22_0, hfz22_1⟩ := e2_ BK430))
 refine bodyPost_ret (results_cell_row rfl _ _ gb430 66 #[.slice none 0 0, .int .i64 0] (0, 0) _ rfl (bp_ BK430) Try.underlying66 rfl kf_) rfl ?_
 exact ⟨_, by first | rfl | (simp [errW_none, errW_some] <;> rfl) | (simp [*, errW_none, errW_some] <;> rfl), by first | exact Kd.R_nil _ _ _ _ _ | exact Kd.N_nil _ _ _ _ _ | exact Kd.V_nil _ _ _ _ _ | exact Kd.Q_nil _ _ _ _ _ | exact Kd.S_nil _ _ _ _ _, bl_ HB⟩}
end Go.Proofs.Ytpdfdaoohknfoaa.P
namespace Go.Proofs.Ytpdfdaoohknfoaa.P
open Go.RowKit Go.Proofs.YtpdfdaoohknfoaaW.PrintWords Go.Proofs.YtpdfdaoohknfoaaW.PrintLast Go.Proofs.YtpdfdaoohknfoaaW.PrintMore
attribute [local go_sem] max2_int min2_int max_two min_two max_three min_three max_four min_four   -- for this text's walks alone
set_option linter.unusedVariables false
set_option linter.unusedSimpArgs false

mutual
def bits_Put.j0 : Nat → Int → Int → Bool → List Int → Int → Option (List Int × Int × Int)
  | 0, _, _, _, _, _ => none
  | k + 1, x1, x2, x21, x439000, x439001 => if x21 = true then (some (x439000, x439001, 1)) else (if (wrap64 (x439001 + x2)) > 32000 then (some (x439000, x439001, 3)) else (bits_Put.l0 k x1 x2 0 x439000 x439001))
def bits_Put.l0 : Nat → Int → Int → Int → List Int → Int → Option (List Int × Int × Int)
  | 0, _, _, _, _, _ => none
  | k + 1, x1, x29, x30, x439000, x439001 => if x30 < x29 then (if (Int.tmod x439001 8) = 0 then (if x439000.length < 140737488355328 then ((some (x439000 ++ [0] : List Int)).bind fun y444 => (if 0 ≤ (wrap64 (Int.tdiv x439001 8)) then (if (wrap64 (Int.tdiv x439001 8)) < (y444.length : Int) then (if 0 ≤ (Int.tmod x439001 8) then (bits_Put.l0 k (x1 / 2) x29 (wrap64 (x30 + 1)) (y444.set ((wrap64 (Int.tdiv x439001 8)) : Int).toNat (Go.bits .or .u8 (rd y444 (wrap64 (Int.tdiv x439001 8))) (shl .u8 ((Go.bits .and .u64 x1 1) % 256) (Int.tmod x439001 8)))) (wrap64 (x439001 + 1))) else (none)) else (none)) else (none))) else (none)) else (if 0 ≤ (wrap64 (Int.tdiv x439001 8)) then (if (wrap64 (Int.tdiv x439001 8)) < (x439000.length : Int) then (if 0 ≤ (Int.tmod x439001 8) then (bits_Put.l0 k (x1 / 2) x29 (wrap64 (x30 + 1)) (x439000.set ((wrap64 (Int.tdiv x439001 8)) : Int).toNat (Go.bits .or .u8 (rd x439000 (wrap64 (Int.tdiv x439001 8))) (shl .u8 ((Go.bits .and .u64 x1 1) % 256) (Int.tmod x439001 8)))) (wrap64 (x439001 + 1))) else (none)) else (none)) else (none))) else (some (x439000, x439001, 0))
end
def bits_Put.f (k : Nat) (l0_0 : List Int) (a0_1 : Int) (a1 : Int) (a2 : Int) : Option (List Int × Int × Int) := (bits_own.f l0_0 a0_1).bind fun bt440 => (if a2 < 0 then (bits_Put.j0 k a1 a2 true bt440.1 bt440.2) else (if a2 > 32 then (bits_Put.j0 k a1 a2 true bt440.1 bt440.2) else (if 0 ≤ a2 then (bits_Put.j0 k a1 a2 ((shr .u64 a1 a2) != 0) bt440.1 bt440.2) else (none))))
theorem bits_Put.mono_l : ∀ k, (∀ y0 y1 y2 y3 y4, LeO (bits_Put.j0 k y0 y1 y2 y3 y4) (bits_Put.j0 (k + 1) y0 y1 y2 y3 y4)) ∧ (∀ y0 y1 y2 y3 y4, LeO (bits_Put.l0 k y0 y1 y2 y3 y4) (bits_Put.l0 (k + 1) y0 y1 y2 y3 y4))
  | 0 => ⟨fun _ _ _ _ _ r h => by simp [bits_Put.j0] at h, fun _ _ _ _ _ r h => by simp [bits_Put.l0] at h⟩
  | k + 1 => by
    obtain ⟨ih0, ih1⟩ := bits_Put.mono_l k
    refine ⟨?_, ?_⟩
    all_goals (intros; first | unfold bits_Put.j0 | unfold bits_Put.l0)
    all_goals with_reducible repeat' first
     | exact ih0 _ _ _ _ _
     | exact ih1 _ _ _ _ _
     | exact LeO.refl _
     | exact LeO.none _
     | refine LeO.ite ?_ ?_
     | refine LeO.bind ?_ (fun _ => ?_)
theorem bits_Put.mono : ∀ a0 a1 a2 a3 k, LeO (bits_Put.f k a0 a1 a2 a3) (bits_Put.f (k + 1) a0 a1 a2 a3) := by
  intro a0 a1 a2 a3 k
  obtain ⟨ih0, ih1⟩ := bits_Put.mono_l k
  unfold bits_Put.f
  with_reducible repeat' first
   | exact ih0 _ _ _ _ _
   | exact ih1 _ _ _ _ _
   | exact LeO.refl _
   | exact LeO.none _
   | refine LeO.ite ?_ ?_
   | refine LeO.bind ?_ (fun _ => ?_)
def bits_Put.T10 : Bool × List (List Nat × List Nat) := (true, [([], []), ([0], [0]), ([], []), ([2], [2]), ([3], [3]), ([1, 4], [1, 4]), ([5], [5]), ([], []), ([7], [7]), ([8], [8]), ([], []), ([10], [10]), ([11], [11]), ([9, 12], [9, 12]), ([6, 13], [6, 13]), ([1, 4, 0, 1, 2, 3, 4, 5, 6, 7, 8, 9, 10, 11, 12, 13, 14], [1, 4]), ([15, 14, 0, 1, 2, 3, 4, 5, 6, 7, 8, 9, 10, 11, 12, 13, 14], [14, 15])])
def bits_Put.B10 : List Nat := [0, 1, 0, 4, 12, 31, 63, 0, 128, 384, 0, 1024, 3072, 8064, 16383, 32767, 65535]
theorem bits_Put.tab10 : rtab .any (opsOf Try.f64 10) = bits_Put.T10 := by kernel_rfl
theorem bits_Put.bits10 : waitsOk bits_Put.T10.2 bits_Put.B10 = true := by kernel_rfl
set_option maxHeartbeats 8000000 in
set_option maxRecDepth 100000 in
theorem bits_Put.calls (k : Nat) (A0_0 : Option Addr) (c0_0 : Nat) (l0_0 : List Int) (a0_1 : Int) (a1 : Int) (a2 : Int) (r1 : List Int) (r2 : Int) (r3 : Int) (w : World) (hr0_0 : Kd.C (Kd.int .u8) w A0_0 l0_0.length l0_0) (hc0_0 : l0_0.length ≤ c0_0) (h : bits_Put.f k l0_0 a0_1 a1 a2 = some (r1, r2, r3)) :
    Calls Try.prog 64 #[.agg #[.slice A0_0 l0_0.length c0_0, .int .i64 a0_1], .int .u64 a1, .int .i64 a2] w fun e w' => ∃ v0_ : Value, e = .returned (.tuple #[.agg #[v0_, .int .i64 r2], .int .i64 r3]) ∧ Kd.R (Kd.int .u8) 5 w' w.heap.size (fun _ => True) v0_ r1 ∧ Below w.heap.size w w' := by
 have hu66 := Try.underlying66
 have HR0_0 := Aside0.mk hr0_0
 have HC0_0 := Aside0.mk hc0_0
 clear hr0_0 hc0_0
 have HB := Aside0.mk (Below.refl w.heap.size w)
 have H : ((bits_own.f l0_0 a0_1).bind fun bt440 => (if a2 < 0 then (bits_Put.j0 k a1 a2 true bt440.1 bt440.2) else (if a2 > 32 then (bits_Put.j0 k a1 a2 true bt440.1 bt440.2) else (if 0 ≤ a2 then (bits_Put.j0 k a1 a2 ((shr .u64 a1 a2) != 0) bt440.1 bt440.2) else (none))))) = some (r1, r2, r3) := h
 clear h
 obtain ⟨⟨t440, t443⟩, A4, H⟩ := ob_ H
 (try dsimp only at H)
 have HC5 := Aside0.mk H
 clear H
 go_enter Try.func64, Try.ntmps64
 go_upto_region 2 with (first | ((with_reducible refine gate_dst (N := 3) rfl ?_); refine bx_ HB 3 #[.slice A0_0 l0_0.length c0_0, .int .i64 a0_1] 66 ?_; clear HB; intro gb438 hg w6 hb BK438 GE438 HB; have GW438 := GE438; clear hb hg) | ((with_reducible refine gate_dst (N := 6) rfl ?_); refine bx_ HB 6 #[.slice none 0 0, .int .i64 0] 66 ?_; clear HB; intro gb439 hg w7 hb BK439 GE439 HB; have GW439 := GE439; obtain ⟨NB438_439, NB439_438⟩ := NN_ BK438 hg; replace BK438 := FB_ BK438 hb; clear hb hg; have hnb8 := NB438_439.out; have hnc8 := NB439_438.out; obtain ⟨hcz9_0, hcz9_1, hfz9_0, hfz9_1⟩ := e2_ BK438) | ((with_reducible refine gate_callee (f := 72) rfl ?_); refine gL_ (some 9) Try.func72 #[.agg #[.slice A0_0 l0_0.length c0_0, .int .i64 a0_1]] ?_; (with_reducible refine (bits_own.calls _ _ l0_0 a0_1 t440 t443 _ ?side1 ?side2 A4.out).mono ?_); (case side1 => exact kC_ HR0_0 HB); (case side2 => exact HC0_0.out); rintro e w10 ⟨v441, rfl, ho0, hb⟩; refine ⟨_, rfl, ?_⟩; have HO442 := Aside0.mk (Kd.R_lower ho0 (bs_ HB)); replace BK438 := FB_ BK438 hb; replace BK439 := FB_ BK439 hb; replace HB := BS_ HB hb; (try clear hb); (try clear ho0); obtain ⟨Ao11, co11, eo11⟩ := Kd.R_slice HO442.out; subst eo11; obtain ⟨hcz12_0, hcz12_1, hfz12_0, hfz12_1⟩ := e2_ BK438))
 (try simp only [Act.put, List.setIfInBounds_toArray, List.set_cons_zero, List.set_cons_succ])
 go_cut [21] (fun v21 wc => ∃ (kq : Nat) (x21_4 : Bool), v21 = .bool x21_4 ∧ Aside0 (bits_Put.j0 kq a1 a2 x21_4 t440 t443 = some (r1, r2, r3)) ∧ Aside0 (kq ≤ k) ∧ Aside0 (Kd.R (Kd.int .u8) 5 wc w.heap.size (fun _ => True) (.slice Ao11 t440.length co11) t440) ∧ Aside0 (wc.heap[gb438]? = some (.cells #[(.slice Ao11 t440.length co11), .int .i64 t443] 66 (0, 0))) ∧ Aside0 (wc.heap[gb439]? = some (.cells #[(.slice none 0 0), .int .i64 0] 66 (0, 0))) ∧ Aside0 (Below w.heap.size w wc))
 case first => (
 have H := HC5.out
 clear HC5
 by_cases c13 : a2 < 0
 {
 rw [if_pos c13] at H
 have c13b0 : decide (a2 < 0) = true := decide_eq_true c13
 clear c13
 (first | rw [c13b0] | (simp only [i64_w, i32_w]; rw [c13b0]) | skip)
 have H' := Aside0.mk H
 clear H
 go_wp2
 go_meet
 case rel => exact ⟨_, (true), rs_, H', ⟨ol_⟩, ⟨by (with_reducible repeat (first | apply Kd.R_alloc | apply Kd.R_drewN | apply Kd.R_drew)); exact Kd.R_mono (Kd.R_far (p := ⟨gb438, 1, none⟩) (Kd.R_far (p := ⟨gb438, 0, none⟩) (Kd.R_types HO442.out BK438.out (by decide)) (fun _ hk => hk.2) (.slice Ao11 t440.length co11)) (fun _ hk => hk.2) (.int .i64 t443)) (fun _ hk => trivial)⟩, ⟨bp_ BK438⟩, ⟨bk_ BK439⟩, ⟨bl_ HB⟩⟩}
 {
 rw [if_neg c13] at H
 have c13b0 : decide (a2 < 0) = false := decide_eq_false c13
 clear c13
 (first | rw [c13b0] | (simp only [i64_w, i32_w]; rw [c13b0]) | skip)
 by_cases c14 : a2 > 32
 {
 rw [if_pos c14] at H
 have c14b0 : decide (32 < a2) = true := decide_eq_true c14
 clear c14
 have H' := Aside0.mk H
 clear H
 go_wp2
 go_meet
 case rel => exact ⟨_, (true), rs_, H', ⟨ol_⟩, ⟨by (with_reducible repeat (first | apply Kd.R_alloc | apply Kd.R_drewN | apply Kd.R_drew)); exact Kd.R_mono (Kd.R_far (p := ⟨gb438, 1, none⟩) (Kd.R_far (p := ⟨gb438, 0, none⟩) (Kd.R_types HO442.out BK438.out (by decide)) (fun _ hk => hk.2) (.slice Ao11 t440.length co11)) (fun _ hk => hk.2) (.int .i64 t443)) (fun _ hk => trivial)⟩, ⟨bp_ BK438⟩, ⟨bk_ BK439⟩, ⟨bl_ HB⟩⟩}
 {
 rw [if_neg c14] at H
 have c14b0 : decide (32 < a2) = false := decide_eq_false c14
 clear c14
 by_cases c15 : 0 ≤ a2
 {
 rw [if_pos c15] at H
 have c15b0 := eq_true c15
 have c15b1 : decide (0 ≤ a2) = true := decide_eq_true c15
 clear c15
 obtain ⟨ji16, hji16⟩ : ∃ j_ : Int, (shr .u64 a1 a2) = j_ := ⟨_, rfl⟩
 replace H : (bits_Put.j0 k a1 a2 ((ji16) != 0) t440 t443) = some (r1, r2, r3) := by first | (rw [hji16] at H; exact H) | (simp only [hji16] at H ⊢; exact H)
 have hji16_ : (a1 / 2 ^ min a2.toNat 64) = ji16 := hji16
 have hji16z : a2 ≤ 64 → (a1 / 2 ^ a2.toNat) = ji16 := shr_small hji16
 have H' := Aside0.mk H
 clear H
 go_wp2
 go_meet
 case rel => exact ⟨_, (((ji16) != 0)), (by first | rfl | (simp; done) | (simp only [← hji16] <;> (first | rfl | simp)) | (simp [*]; done)), H', ⟨ol_⟩, ⟨by (with_reducible repeat (first | apply Kd.R_alloc | apply Kd.R_drewN | apply Kd.R_drew)); exact Kd.R_mono (Kd.R_far (p := ⟨gb438, 1, none⟩) (Kd.R_far (p := ⟨gb438, 0, none⟩) (Kd.R_types HO442.out BK438.out (by decide)) (fun _ hk => hk.2) (.slice Ao11 t440.length co11)) (fun _ hk => hk.2) (.int .i64 t443)) (fun _ hk => trivial)⟩, ⟨bp_ BK438⟩, ⟨bk_ BK439⟩, ⟨bl_ HB⟩⟩}
 {
 rw [if_neg c15] at H
 exact absurd H (by simp)}}})
 case rest => (
 clear HC5
 try clear hcz12_0
 try clear hcz12_1
 try clear hcz9_0
 try clear hcz9_1
 try clear hfz12_0
 try clear hfz12_1
 try clear hfz9_0
 try clear hfz9_1
 obtain ⟨kq, x21_4, rfl, HA, HJ4, HO_439000, BK438, BK439, HB⟩ := hcut
 cases kq with
 | zero => exact absurd HA.out (by simp [bits_Put.j0])
 | succ kj4 => (
 have H := HA.out
 clear HA
 simp only [bits_Put.j0] at H
 by_cases c17 : x21_4 = true
 {
 subst c17
 rw [if_pos rfl] at H
 simp only [Option.some.injEq, Prod.mk.injEq] at H
 obtain ⟨rfl, rfl, rfl⟩ := H
 have hnb18 := NB438_439.out
 have hnc18 := NB439_438.out
 obtain ⟨hcz19_0, hcz19_1, hfz19_0, hfz19_1⟩ := e2_ BK438
 obtain ⟨hcz20_0, hcz20_1, hfz20_0, hfz20_1⟩ := e2_ BK439
 go_wp2
 refine bodyPost_ret (results_ct rfl _ _ gb439 66 #[.slice Ao11 t440.length co11, .int .i64 t443] (0, 0) _ rfl (bp_ BK439) Try.underlying66 rfl kf_) rfl ?_
 exact ⟨_, by first | rfl | (simp [errW_none, errW_some] <;> rfl) | (simp [*, errW_none, errW_some] <;> rfl), by (with_reducible repeat (first | apply Kd.R_alloc | apply Kd.R_drewN | apply Kd.R_drew)); exact Kd.R_mono (Kd.R_far (p := ⟨gb439, 1, none⟩) (Kd.R_far (p := ⟨gb439, 0, none⟩) (Kd.R_types HO_439000.out BK439.out (by decide)) (fun _ hk => hk.2) (.slice Ao11 t440.length co11)) (fun _ hk => hk.2) (.int .i64 t443)) (fun _ hk => trivial), bl_ HB⟩}
 {
 replace c17 := Bool.eq_false_iff.mpr c17
 subst c17
 rw [if_neg (show ¬ (false = true) by decide)] at H
 by_cases c21 : (wrap64 (t443 + a2)) > 32000
 {
 rw [if_pos c21] at H
 have c21b0 : decide (32000 < (wrap64 (t443 + a2))) = true := decide_eq_true c21
 clear c21
 simp only [Option.some.injEq, Prod.mk.injEq] at H
 obtain ⟨rfl, rfl, rfl⟩ := H
 have hnb22 := NB438_439.out
 have hnc22 := NB439_438.out
 obtain ⟨hcz23_0, hcz23_1, hfz23_0, hfz23_1⟩ := e2_ BK438
 obtain ⟨hcz24_0, hcz24_1, hfz24_0, hfz24_1⟩ := e2_ BK439
 go_wp2
 refine bodyPost_ret (results_ct rfl _ _ gb439 66 #[.slice Ao11 t440.length co11, .int .i64 t443] (0, 0) _ rfl (bp_ BK439) Try.underlying66 rfl kf_) rfl ?_
 exact ⟨_, by first | rfl | (simp [errW_none, errW_some] <;> rfl) | (simp [*, errW_none, errW_some] <;> rfl), by (with_reducible repeat (first | apply Kd.R_alloc | apply Kd.R_drewN | apply Kd.R_drew)); exact Kd.R_mono (Kd.R_far (p := ⟨gb439, 1, none⟩) (Kd.R_far (p := ⟨gb439, 0, none⟩) (Kd.R_types HO_439000.out BK439.out (by decide)) (fun _ hk => hk.2) (.slice Ao11 t440.length co11)) (fun _ hk => hk.2) (.int .i64 t443)) (fun _ hk => trivial), bl_ HB⟩}
 {
 rw [if_neg c21] at H
 have c21b0 : decide (32000 < (wrap64 (t443 + a2))) = false := decide_eq_false c21
 clear c21
 have H' := Aside0.mk H
 clear H
 have hnb25 := NB438_439.out
 have hnc25 := NB439_438.out
 obtain ⟨hcz26_0, hcz26_1, hfz26_0, hfz26_1⟩ := e2_ BK438
 go_wp2
 go_loopg [1, 30] kj4 (fun kq v1 v30 w' => ∃ (x1_2 : Int) (x30_2 : Int) (x439000_2 : List Int) (x439001_2 : Int) (u439000 : Value), v1 = .int .u64 x1_2 ∧ v30 = .int .i64 x30_2 ∧ Aside0 (bits_Put.l0 kq x1_2 a2 x30_2 x439000_2 x439001_2 = some (r1, r2, r3)) ∧ Aside0 (kq ≤ kj4) ∧ Aside0 (Kd.R (Kd.int .u8) 5 w' w.heap.size (fun _ => True) u439000 x439000_2) ∧ Aside0 (w'.heap[gb438]? = some (.cells #[u439000, .int .i64 x439001_2] 66 (0, 0))) ∧ Aside0 (w'.heap[gb439]? = some (.cells #[(.slice none 0 0), .int .i64 0] 66 (0, 0))) ∧ Aside0 (Below w.heap.size w w'))
 case atStart => exact ⟨(a1), (0), (t440), (t443), (.slice Ao11 t440.length co11), rs_, rs_, H', ⟨Nat.le_refl _⟩, ⟨kR_ HO_439000⟩, ⟨bk_ BK438⟩, ⟨bk_ BK439⟩, ⟨bl_ HB⟩⟩
 case round => (
 clear H'
 try clear c17
 try clear c21
 try clear c21b0
 try clear hcz12_0
 try clear hcz12_1
 try clear hcz26_0
 try clear hcz26_1
 try clear hcz9_0
 try clear hcz9_1
 try clear hfz12_0
 try clear hfz12_1
 try clear hfz26_0
 try clear hfz26_1
 try clear hfz9_0
 try clear hfz9_1
 obtain ⟨x1_2, x30_2, x439000_2, x439001_2, u439000, rfl, rfl, HA, HK2, HO_439000, BK438, BK439, HB⟩ := hrel
 cases gk with
 | zero => exact absurd HA.out (by simp [bits_Put.l0])
 | succ k2 => (
 have H := HA.out
 clear HA
 simp only [bits_Put.l0] at H
 by_cases c27 : x30_2 < a2
 {
 rw [if_pos c27] at H
 have c27b0 : decide (x30_2 < a2) = true := decide_eq_true c27
 clear c27
 by_cases c28 : (Int.tmod x439001_2 8) = 0
 {
 rw [if_pos c28] at H
 have c28b0 : ((Int.tmod x439001_2 8) == 0) = true := beq_iff_eq.mpr c28
 have c28b1 : ((Int.tmod x439001_2 8) != 0) = false := bne_eq_false_iff_eq.mpr c28
 clear c28
 by_cases c29 : x439000_2.length < 140737488355328
 {
 rw [if_pos c29] at H
 have LMc29 := Aside0.mk c29
 clear c29
 obtain ⟨y444, hy444⟩ : ∃ y_ : List Int, y_ = (x439000_2 ++ [0]) := ⟨_, rfl⟩
 replace H : (if 0 ≤ (wrap64 (Int.tdiv x439001_2 8)) then (if (wrap64 (Int.tdiv x439001_2 8)) < (y444.length : Int) then (if 0 ≤ (Int.tmod x439001_2 8) then (bits_Put.l0 k2 (x1_2 / 2) a2 (wrap64 (x30_2 + 1)) (y444.set ((wrap64 (Int.tdiv x439001_2 8)) : Int).toNat (Go.bits .or .u8 (rd y444 (wrap64 (Int.tdiv x439001_2 8))) (shl .u8 ((Go.bits .and .u64 x1_2 1) % 256) (Int.tmod x439001_2 8)))) (wrap64 (x439001_2 + 1))) else (none)) else (none)) else (none)) = some (r1, r2, r3) := by first | (rw [hy444]; with_reducible exact H) | (have H2_ := (Option.bind_some _ _).symm.trans H; rw [hy444]; with_reducible exact H2_) | (have H2_ := (Option.bind_some _ _).symm.trans H; with_reducible exact H2_) | with_reducible exact H | (rw [hy444]; exact H) | exact H
 have Ny444 := Aside0.mk hy444
 clear hy444
 obtain ⟨ji30, hji30⟩ : ∃ j_ : Int, (wrap64 (Int.tdiv x439001_2 8)) = j_ := ⟨_, rfl⟩
 replace H : (if 0 ≤ (ji30) then (if (ji30) < (y444.length : Int) then (if 0 ≤ (Int.tmod x439001_2 8) then (bits_Put.l0 k2 (x1_2 / 2) a2 (wrap64 (x30_2 + 1)) (y444.set ((ji30) : Int).toNat (Go.bits .or .u8 (rd y444 (ji30)) (shl .u8 ((Go.bits .and .u64 x1_2 1) % 256) (Int.tmod x439001_2 8)))) (wrap64 (x439001_2 + 1))) else (none)) else (none)) else (none)) = some (r1, r2, r3) := by first | (rw [hji30] at H; exact H) | (simp only [hji30] at H ⊢; exact H)
 have hji30w : (IntKind.i64.wrap (Int.tdiv x439001_2 8)) = ji30 := (i64_w _).trans hji30
 by_cases c31 : 0 ≤ (ji30)
 {
 rw [if_pos c31] at H
 have c31b0 : decide (0 ≤ (ji30)) = true := decide_eq_true c31
 clear c31
 by_cases c32 : (ji30) < (y444.length : Int)
 {
 rw [if_pos c32] at H
 have c32b0 : decide ((ji30) < (y444.length : Int)) = true := decide_eq_true c32
 clear c32
 obtain ⟨ji33, hji33⟩ : ∃ j_ : Int, (Int.tmod x439001_2 8) = j_ := ⟨_, rfl⟩
 replace H : (if 0 ≤ (ji33) then (bits_Put.l0 k2 (x1_2 / 2) a2 (wrap64 (x30_2 + 1)) (y444.set ((ji30) : Int).toNat (Go.bits .or .u8 (rd y444 (ji30)) (shl .u8 ((Go.bits .and .u64 x1_2 1) % 256) (ji33)))) (wrap64 (x439001_2 + 1))) else (none)) = some (r1, r2, r3) := by first | (rw [hji33] at H; exact H) | (simp only [hji33] at H ⊢; exact H)
 have hji33b : ji33 ≤ 8 := by have h_ := Int.tmod_lt_of_pos x439001_2 (show (0 : Int) < 8 by decide); rw [hji33] at h_; omega
 (try rw [hji33] at c28b0)
 (try rw [hji33] at c28b1)
 by_cases c34 : 0 ≤ (ji33)
 {
 rw [if_pos c34] at H
 have c34b0 := eq_true c34
 have c34b1 : decide (0 ≤ (ji33)) = true := decide_eq_true c34
 clear c34
 obtain ⟨ji35, hji35⟩ : ∃ j_ : Int, (shl .u8 ((Go.bits .and .u64 x1_2 1) % 256) (ji33)) = j_ := ⟨_, rfl⟩
 replace H : (bits_Put.l0 k2 (x1_2 / 2) a2 (wrap64 (x30_2 + 1)) (y444.set ((ji30) : Int).toNat (Go.bits .or .u8 (rd y444 (ji30)) (ji35))) (wrap64 (x439001_2 + 1))) = some (r1, r2, r3) := by first | (rw [hji35] at H; exact H) | (simp only [hji35] at H ⊢; exact H)
 have hji35_ : (IntKind.u8.wrap (((Go.bits .and .u64 x1_2 1) % 256) * 2 ^ min (ji33).toNat 8)) = ji35 := hji35
 have hji35z : (ji33) ≤ 8 → (IntKind.u8.wrap (((Go.bits .and .u64 x1_2 1) % 256) * 2 ^ (ji33).toNat)) = ji35 := shl_small hji35
 have hji35y : (((Go.bits .and .u64 x1_2 1) % 256) * 2 ^ min (ji33).toNat 8 % 256) = ji35 := (IntKind.wrap_u8 _).symm.trans hji35_
 have hji35x : (ji33) ≤ 8 → (((Go.bits .and .u64 x1_2 1) % 256) * 2 ^ (ji33).toNat % 256) = ji35 := fun h_ => (IntKind.wrap_u8 _).symm.trans (hji35z h_)
 have hji35w : (((Go.bits .and .u64 x1_2 1) % 256) * 2 ^ min (ji33).toNat 8 % 256) = ji35 ∧ ((ji33) ≤ 8 → (((Go.bits .and .u64 x1_2 1) % 256) * 2 ^ (ji33).toNat % 256) = ji35) := ⟨hji35y, hji35x⟩
 obtain ⟨y448, hy448⟩ : ∃ y_ : List Int, y_ = (y444.set ((ji30) : Int).toNat (Go.bits .or .u8 (rd y444 (ji30)) (ji35))) := ⟨_, rfl⟩
 replace H : (bits_Put.l0 k2 (x1_2 / 2) a2 (wrap64 (x30_2 + 1)) y448 (wrap64 (x439001_2 + 1))) = some (r1, r2, r3) := by first | (rw [hy448]; with_reducible exact H) | (have H2_ := (Option.bind_some _ _).symm.trans H; rw [hy448]; with_reducible exact H2_) | (have H2_ := (Option.bind_some _ _).symm.trans H; with_reducible exact H2_) | with_reducible exact H | (rw [hy448]; exact H) | exact H
 have Ny448 := Aside0.mk hy448
 clear hy448
 have H' := Aside0.mk H
 clear H
 have hnb37 := NB438_439.out
 have hnc37 := NB439_438.out
 obtain ⟨hcz38_0, hcz38_1, hfz38_0, hfz38_1⟩ := e2_ BK438
 try go_wp2_with (first | ((with_reducible refine gate_builtin (b := .append) (xs := #[.tmp 37, .tmp 38]) rfl ?_); at_builtin; refine Kd.R_append (Kd.int .u8) (w0 := w) w.heap.size rfl (.tmp 37) (.tmp 38) 34 5 (.int .u8 0) 1 rfl Try.underlying34 info5 rfl (by decide) (by omega) u439000 x439000_2 0 [.int .u8 0] (fun _ => True) (fun _ => False) rfl rfl ?aP (fun _ hk => hk.elim) ?aF ?aO ?aB ?aS ?aL ?_; (case aP => exact rfl); (case aB => exact (bl_ HB)); (case aF => exact (fun _ _ => trivial)); (case aO => exact (kR_ HO_439000)); (case aS => exact (bs_ HB)); (case aL => have := LMc29.out; omega); intro v445 w39 ho hb hg hat; rw [← Ny444.out] at ho; replace BK438 := (FG_ BK438 hg (Kd.R_ne HO_439000.out BK438.out (by decide))); replace BK439 := (FG_ BK439 hg (Kd.R_ne HO_439000.out BK439.out (by decide))); replace HB := Aside0.mk (hb); have HO446 := Aside0.mk (ho); clear HO_439000; clear ho hb hg hat; obtain ⟨Ao40, co40, eo40⟩ := Kd.R_slice HO446.out; subst eo40; obtain ⟨hcz41_0, hcz41_1, hfz41_0, hfz41_1⟩ := e2_ BK438))
 have n0_ : Aside0 (Kd.R (Kd.int .u8) 5 (w39.setCell ⟨gb438, 0, none⟩ (.slice Ao40 y444.length co40)) w.heap.size (fun _ => True) (.slice Ao40 y444.length co40) y444) := ⟨by (with_reducible repeat (first | apply Kd.R_alloc | apply Kd.R_drewN | apply Kd.R_drew)); exact Kd.R_mono (Kd.R_far (p := ⟨gb438, 0, none⟩) (Kd.R_types HO446.out BK438.out (by decide)) (fun _ hk => hk.2) (.slice Ao40 y444.length co40)) (fun _ hk => trivial)⟩
 have n1_ : Aside0 ((w39.setCell ⟨gb438, 0, none⟩ (.slice Ao40 y444.length co40)).heap[gb438]? = some (.cells #[.slice Ao40 y444.length co40, .int .i64 x439001_2] 66 (0, 0))) := ⟨bp_ BK438⟩
 have n2_ : Aside0 ((w39.setCell ⟨gb438, 0, none⟩ (.slice Ao40 y444.length co40)).heap[gb439]? = some (.cells #[.slice none 0 0, .int .i64 0] 66 (0, 0))) := ⟨bk_ BK439⟩
 have n3_ : Aside0 (Below w.heap.size w (w39.setCell ⟨gb438, 0, none⟩ (.slice Ao40 y444.length co40))) := ⟨bl_ HB⟩
 (try clear HO446)
 (try clear BK438)
 (try clear BK439)
 (try clear HB)
 generalize (w39.setCell ⟨gb438, 0, none⟩ (.slice Ao40 y444.length co40)) = w42 at n0_ n1_ n2_ n3_ ⊢
 have HO446 := n0_
 have BK438 := n1_
 have BK439 := n2_
 have HB := n3_
 clear n0_ n1_ n2_ n3_
 replace HO446 := Aside0.mk (Kd.R_drew HO446.out)
 replace BK438 := Aside0.mk (blk_drew BK438.out)
 replace BK439 := Aside0.mk (blk_drew BK439.out)
 replace HB := Aside0.mk (below_drew1 HB.out)
 have p447 : 0 ≤ ((ji30) : Int) := of_decide_eq_true am_
 have q447 : (ji30) < (y444.length : Int) := of_decide_eq_true am_
 obtain ⟨ad447, e447, hx447_0⟩ := Kd.at_int (Kd.R_reads' HO446.out).2.2 (ji30) p447 q447
 cases e447
 replace p447 := eq_true p447
 replace q447 := eq_true q447
 have p36 : 0 ≤ ((ji30) : Int) := of_decide_eq_true am_
 have q36 : ((ji30) : Int) < ((y444.length : Int) : Int) := of_decide_eq_true am_
 obtain ⟨go36, co36, eo36, gb36, gl36, cl36, HG36⟩ := Kd.R_form HO446.out (by omega)
 (first | cases eo36 | (injection eo36 with ea_ en_ ec_; (first | subst ea_ | (injection ea_ with ea_; subst ea_)); subst ec_; clear en_))
 have GB36 := Aside0.mk gb36
 have GG36 := Aside0.mk HG36
 clear gb36 gl36 HG36
 (first | simp only [add_plain] at hx447_0 | skip)
 obtain ⟨hx36_0, hf36_0⟩ := Kd.R_celln 0 HO446.out ((ji30) : Int) p36 q36
 replace p36 := eq_true p36
 replace q36 := eq_true q36
 have HP44 := Kd.R_putn HO446.out ((ji30) : Int) (Go.bits .or .u8 (rd y444 (ji30)) (ji35))
 rw [← Ny448.out] at HP44
 have HQ44 := Aside0.mk HP44
 clear HP44
 refine start_ (n := 17) (S := fun w' => w'.cell? ⟨gb438, 0, none⟩ = some (.slice (some ⟨go36, 0, none⟩) y444.length co40) ∧ w'.cell? ⟨gb438, 1, none⟩ = some (.int .i64 x439001_2) ∧ w'.cell? ⟨go36, ((ji30)).toNat, none⟩ = some (.int .u8 (rd y444 (ji30)))) (ds := [16]) (B_ 17 0) kf_ rfl rfl ⟨ce_ BK438 0, ce_ BK438 1, hx447_0⟩ (fun hHeld => ?_); refine with_tabW bits_Put.tab10 bits_Put.bits10 (fun HT_ HW_ => ?_)
 generalize w42.drew = w43 at HO446 BK438 BK439 HB GG36 HQ44 hf36_0 hx36_0 hx447_0 hHeld ⊢
 refine pu_ 0 (some 41) (B_ 17 1) HT_ ?_
 refine pu_ 2 (some 43) (B_ 17 5) HT_ ?_
 refine pu_ 7 (some 48) (B_ 17 133) HT_ ?_
 refine pu_ 8 (some 49) (B_ 17 389) HT_ ?_
 refine pu_ 9 (some 50) (B_ 17 901) HT_ ?_
 refine pu_ 10 (some 51) (B_ 17 1925) HT_ ?_
 refine take_ (i := 1) (N := some 42) (v := ?_) (a' := ?_) (B_ 17 1927) rfl rfl (take_ofW HT_.out HW_.out kf_) (fun _ _ _ h => h) (Or.inl ⟨by rfl, ?_⟩) hHeld ?_ ?_
 rotate_left
 {
 rintro w' ⟨s0, s1, s2⟩
 go_simp
 with_reducible rfl}
 rotate_left
 {
 exact sp_}
 refine take_ (i := 3) (N := some 44) (v := ?_) (a' := ?_) (B_ 17 1935) rfl rfl (take_ofW HT_.out HW_.out kf_) (fun _ _ _ h => h) (Or.inl ⟨by rfl, ?_⟩) hHeld ?_ ?_
 rotate_left
 {
 rintro w' ⟨s0, s1, s2⟩
 go_simp
 with_reducible rfl}
 rotate_left
 {
 exact sp_}
 refine pu_ 4 (some 45) (B_ 17 1951) HT_ ?_
 refine pu_ 5 (some 46) (B_ 17 1983) HT_ ?_
 refine take_ (i := 6) (N := some 47) (v := ?_) (a' := ?_) (B_ 17 2047) rfl rfl (take_ofW HT_.out HW_.out kf_) (fun _ _ _ h => h) (Or.inl ⟨by rfl, ?_⟩) hHeld ?_ ?_
 rotate_left
 {
 rintro w' ⟨s0, s1, s2⟩
 go_simp
 with_reducible rfl}
 rotate_left
 {
 exact sp_}
 refine take_ (i := 11) (N := some 52) (v := ?_) (a' := ?_) (B_ 17 4095) rfl rfl (take_ofW HT_.out HW_.out kf_) (fun _ _ _ h => h) (Or.inl ⟨by rfl, ?_⟩) hHeld ?_ ?_
 rotate_left
 {
 rintro w' ⟨s0, s1, s2⟩
 go_simp
 with_reducible rfl}
 rotate_left
 {
 exact sp_}
 refine pu_ 12 (some 53) (B_ 17 8191) HT_ ?_
 refine pu_ 13 (some 54) (B_ 17 16383) HT_ ?_
 refine pu_ 14 (some 55) (B_ 17 32767) HT_ ?_
 refine pu_ 15 (some 56) (B_ 17 65535) HT_ ?_
 refine last_ (i := 16) (N := none) (B_ 17 131071) rfl rfl (one_of HT_.out kf_) (by decide) (fun K hK => ?_)
 refine skip_ (w1 := ?_) (by rfl) rfl ?_ ?_
 rotate_left
 {
 go_simp
 rfl}
 refine hK.out _ _ ?_
 clear hK K
 refine done_ (done_of HT_.out kf_) ?_
 have n0_ : Aside0 (Kd.R (Kd.int .u8) 5 (w43.setCell ⟨go36, ((ji30) : Int).toNat, none⟩ (.int .u8 (Go.bits .or .u8 (rd y444 (ji30)) (ji35)))) w.heap.size (fun _ => True) (.slice (some ⟨go36, 0, none⟩) y444.length co40) y448) := ⟨kR_ HQ44⟩
 have n1_ : Aside0 ((w43.setCell ⟨go36, ((ji30) : Int).toNat, none⟩ (.int .u8 (Go.bits .or .u8 (rd y444 (ji30)) (ji35)))).heap[gb438]? = some (.cells #[.slice (some ⟨go36, 0, none⟩) y444.length co40, .int .i64 x439001_2] 66 (0, 0))) := ⟨by (with_reducible repeat (first | refine blk_drewN ?_ _ | refine blk_drew ?_ | refine blk_alloc ?_ _)); refine blk_far ?_ (by have h_ := Kd.R_ne HO446.out BK438.out (by decide); intro e_; exact h_ (by rw [e_]; rfl)) _; (with_reducible repeat (first | refine blk_drewN ?_ _ | refine blk_drew ?_ | refine blk_alloc ?_ _)); exact BK438.out⟩
 have n2_ : Aside0 ((w43.setCell ⟨go36, ((ji30) : Int).toNat, none⟩ (.int .u8 (Go.bits .or .u8 (rd y444 (ji30)) (ji35)))).heap[gb439]? = some (.cells #[.slice none 0 0, .int .i64 0] 66 (0, 0))) := ⟨by (with_reducible repeat (first | refine blk_drewN ?_ _ | refine blk_drew ?_ | refine blk_alloc ?_ _)); refine blk_far ?_ (by have h_ := Kd.R_ne HO446.out BK439.out (by decide); intro e_; exact h_ (by rw [e_]; rfl)) _; (with_reducible repeat (first | refine blk_drewN ?_ _ | refine blk_drew ?_ | refine blk_alloc ?_ _)); exact BK439.out⟩
 have n3_ : Aside0 (Below w.heap.size w (w43.setCell ⟨go36, ((ji30) : Int).toNat, none⟩ (.int .u8 (Go.bits .or .u8 (rd y444 (ji30)) (ji35))))) := ⟨by repeat (first | (with_reducible first | exact HB.out | apply below_alloc | apply pw_below_drewN | apply below_drew1 | refine below_set ?_ GB36.out | refine below_set ?_ GE438.out | refine below_set ?_ GE439.out) | exact HB.out)⟩
 (try clear HO446)
 (try clear BK438)
 (try clear BK439)
 (try clear HB)
 (try simp only [IntKind.wrap_u8, IntKind.wrap_u32])
 (try simp only [show _ = ji35 from hji35w.2 (by omega)])
 generalize (w43.setCell ⟨go36, ((ji30) : Int).toNat, none⟩ (.int .u8 (Go.bits .or .u8 (rd y444 (ji30)) (ji35)))) = w45 at n0_ n1_ n2_ n3_ ⊢
 have HO446 := n0_
 have BK438 := n1_
 have BK439 := n2_
 have HB := n3_
 clear n0_ n1_ n2_ n3_
 obtain ⟨hcz46_0, hcz46_1, hfz46_0, hfz46_1⟩ := e2_ BK438
 try go_wp2
 first | go_roundg k2 | (subst hji30; go_roundg k2)
 case measure => have := HJ4.out; have := HK2.out; omega
 case rel => exact ⟨(x1_2 / 2), (wrap64 (x30_2 + 1)), (y448), (wrap64 (x439001_2 + 1)), (.slice (some ⟨go36, 0, none⟩) y444.length co40), rs_, rs_, H', ⟨by have := HJ4.out; have := HK2.out; omega⟩, ⟨by (with_reducible repeat (first | apply Kd.R_alloc | apply Kd.R_drewN | apply Kd.R_drew)); exact Kd.R_mono (Kd.R_far (p := ⟨gb438, 1, none⟩) (Kd.R_types HO446.out BK438.out (by decide)) (fun _ hk => hk.2) (.int .i64 (wrap64 (x439001_2 + 1)))) (fun _ hk => trivial)⟩, ⟨bp_ BK438⟩, ⟨bk_ BK439⟩, ⟨bl_ HB⟩⟩}
 {
 rw [if_neg c34] at H
 exact absurd H (by simp)}}
 {
 rw [if_neg c32] at H
 exact absurd H (by simp)}}
 {
 rw [if_neg c31] at H
 exact absurd H (by simp)}}
 {
 rw [if_neg c29] at H
 exact absurd H (by simp)}}
 {
 rw [if_neg c28] at H
 have c28b0 : ((Int.tmod x439001_2 8) == 0) = false := beq_eq_false_iff_ne.mpr c28
 have c28b1 : ((Int.tmod x439001_2 8) != 0) = true := bne_iff_ne.mpr c28
 obtain ⟨ji47, hji47⟩ : ∃ j_ : Int, (wrap64 (Int.tdiv x439001_2 8)) = j_ := ⟨_, rfl⟩
 replace H : (if 0 ≤ (ji47) then (if (ji47) < (x439000_2.length : Int) then (if 0 ≤ (Int.tmod x439001_2 8) then (bits_Put.l0 k2 (x1_2 / 2) a2 (wrap64 (x30_2 + 1)) (x439000_2.set ((ji47) : Int).toNat (Go.bits .or .u8 (rd x439000_2 (ji47)) (shl .u8 ((Go.bits .and .u64 x1_2 1) % 256) (Int.tmod x439001_2 8)))) (wrap64 (x439001_2 + 1))) else (none)) else (none)) else (none)) = some (r1, r2, r3) := by first | (rw [hji47] at H; exact H) | (simp only [hji47] at H ⊢; exact H)
 have hji47w : (IntKind.i64.wrap (Int.tdiv x439001_2 8)) = ji47 := (i64_w _).trans hji47
 by_cases c48 : 0 ≤ (ji47)
 {
 rw [if_pos c48] at H
 have c48b0 : decide (0 ≤ (ji47)) = true := decide_eq_true c48
 clear c48
 by_cases c49 : (ji47) < (x439000_2.length : Int)
 {
 rw [if_pos c49] at H
 have c49b0 : decide ((ji47) < (x439000_2.length : Int)) = true := decide_eq_true c49
 clear c49
 obtain ⟨ji50, hji50⟩ : ∃ j_ : Int, (Int.tmod x439001_2 8) = j_ := ⟨_, rfl⟩
 replace H : (if 0 ≤ (ji50) then (bits_Put.l0 k2 (x1_2 / 2) a2 (wrap64 (x30_2 + 1)) (x439000_2.set ((ji47) : Int).toNat (Go.bits .or .u8 (rd x439000_2 (ji47)) (shl .u8 ((Go.bits .and .u64 x1_2 1) % 256) (ji50)))) (wrap64 (x439001_2 + 1))) else (none)) = some (r1, r2, r3) := by first | (rw [hji50] at H; exact H) | (simp only [hji50] at H ⊢; exact H)
 have hji50b : ji50 ≤ 8 := by have h_ := Int.tmod_lt_of_pos x439001_2 (show (0 : Int) < 8 by decide); rw [hji50] at h_; omega
 (try rw [hji50] at c28b0)
 (try rw [hji50] at c28b1)
 by_cases c51 : 0 ≤ (ji50)
 {
 rw [if_pos c51] at H
 have c51b0 := eq_true c51
 have c51b1 : decide (0 ≤ (ji50)) = true := decide_eq_true c51
 clear c51
 obtain ⟨ji52, hji52⟩ : ∃ j_ : Int, (shl .u8 ((Go.bits .and .u64 x1_2 1) % 256) (ji50)) = j_ := ⟨_, rfl⟩
 replace H : (bits_Put.l0 k2 (x1_2 / 2) a2 (wrap64 (x30_2 + 1)) (x439000_2.set ((ji47) : Int).toNat (Go.bits .or .u8 (rd x439000_2 (ji47)) (ji52))) (wrap64 (x439001_2 + 1))) = some (r1, r2, r3) := by first | (rw [hji52] at H; exact H) | (simp only [hji52] at H ⊢; exact H)
 have hji52_ : (IntKind.u8.wrap (((Go.bits .and .u64 x1_2 1) % 256) * 2 ^ min (ji50).toNat 8)) = ji52 := hji52
 have hji52z : (ji50) ≤ 8 → (IntKind.u8.wrap (((Go.bits .and .u64 x1_2 1) % 256) * 2 ^ (ji50).toNat)) = ji52 := shl_small hji52
 have hji52y : (((Go.bits .and .u64 x1_2 1) % 256) * 2 ^ min (ji50).toNat 8 % 256) = ji52 := (IntKind.wrap_u8 _).symm.trans hji52_
 have hji52x : (ji50) ≤ 8 → (((Go.bits .and .u64 x1_2 1) % 256) * 2 ^ (ji50).toNat % 256) = ji52 := fun h_ => (IntKind.wrap_u8 _).symm.trans (hji52z h_)
 have hji52w : (((Go.bits .and .u64 x1_2 1) % 256) * 2 ^ min (ji50).toNat 8 % 256) = ji52 ∧ ((ji50) ≤ 8 → (((Go.bits .and .u64 x1_2 1) % 256) * 2 ^ (ji50).toNat % 256) = ji52) := ⟨hji52y, hji52x⟩
 obtain ⟨y450, hy450⟩ : ∃ y_ : List Int, y_ = (x439000_2.set ((ji47) : Int).toNat (Go.bits .or .u8 (rd x439000_2 (ji47)) (ji52))) := ⟨_, rfl⟩
 replace H : (bits_Put.l0 k2 (x1_2 / 2) a2 (wrap64 (x30_2 + 1)) y450 (wrap64 (x439001_2 + 1))) = some (r1, r2, r3) := by first | (rw [hy450]; with_reducible exact H) | (have H2_ := (Option.bind_some _ _).symm.trans H; rw [hy450]; with_reducible exact H2_) | (have H2_ := (Option.bind_some _ _).symm.trans H; with_reducible exact H2_) | with_reducible exact H | (rw [hy450]; exact H) | exact H
 have Ny450 := Aside0.mk hy450
 clear hy450
 have H' := Aside0.mk H
 clear H
 have hnb54 := NB438_439.out
 have hnc54 := NB439_438.out
 obtain ⟨hcz55_0, hcz55_1, hfz55_0, hfz55_1⟩ := e2_ BK438
 try go_wp2
 replace HO_439000 := Aside0.mk (Kd.R_drew HO_439000.out)
 replace BK438 := Aside0.mk (blk_drew BK438.out)
 replace BK439 := Aside0.mk (blk_drew BK439.out)
 replace HB := Aside0.mk (below_drew1 HB.out)
 obtain ⟨Ao57, co57, eo57⟩ := Kd.R_slice HO_439000.out
 (first | subst eo57 | (injection eo57 with f1_ f2_ f3_; have f4_ := f1_.symm; have f5_ := f3_.symm; clear f1_ f2_ f3_; subst f4_; subst f5_))
 have p449 : 0 ≤ ((ji47) : Int) := of_decide_eq_true am_
 have q449 : (ji47) < (x439000_2.length : Int) := of_decide_eq_true am_
 obtain ⟨ad449, e449, hx449_0⟩ := Kd.at_int (Kd.R_reads' HO_439000.out).2.2 (ji47) p449 q449
 cases e449
 replace p449 := eq_true p449
 replace q449 := eq_true q449
 have p53 : 0 ≤ ((ji47) : Int) := of_decide_eq_true am_
 have q53 : ((ji47) : Int) < ((x439000_2.length : Int) : Int) := of_decide_eq_true am_
 obtain ⟨go53, co53, eo53, gb53, gl53, cl53, HG53⟩ := Kd.R_form HO_439000.out (by omega)
 (first | cases eo53 | (injection eo53 with ea_ en_ ec_; (first | subst ea_ | (injection ea_ with ea_; subst ea_)); subst ec_; clear en_))
 have GB53 := Aside0.mk gb53
 have GG53 := Aside0.mk HG53
 clear gb53 gl53 HG53
 (first | simp only [add_plain] at hx449_0 | skip)
 obtain ⟨hx53_0, hf53_0⟩ := Kd.R_celln 0 HO_439000.out ((ji47) : Int) p53 q53
 replace p53 := eq_true p53
 replace q53 := eq_true q53
 have HP58 := Kd.R_putn HO_439000.out ((ji47) : Int) (Go.bits .or .u8 (rd x439000_2 (ji47)) (ji52))
 rw [← Ny450.out] at HP58
 have HQ58 := Aside0.mk HP58
 clear HP58
 refine start_ (n := 17) (S := fun w' => w'.cell? ⟨gb438, 0, none⟩ = some (.slice (some ⟨go53, 0, none⟩) x439000_2.length co57) ∧ w'.cell? ⟨gb438, 1, none⟩ = some (.int .i64 x439001_2) ∧ w'.cell? ⟨go53, ((ji47)).toNat, none⟩ = some (.int .u8 (rd x439000_2 (ji47)))) (ds := [16]) (B_ 17 0) kf_ rfl rfl ⟨ce_ BK438 0, ce_ BK438 1, hx449_0⟩ (fun hHeld => ?_); refine with_tabW bits_Put.tab10 bits_Put.bits10 (fun HT_ HW_ => ?_)
 generalize wr.drew = w56 at HO_439000 BK438 BK439 HB GG53 HQ58 hf53_0 hx449_0 hx53_0 hHeld ⊢
 refine pu_ 0 (some 41) (B_ 17 1) HT_ ?_
 refine pu_ 2 (some 43) (B_ 17 5) HT_ ?_
 refine pu_ 7 (some 48) (B_ 17 133) HT_ ?_
 refine pu_ 8 (some 49) (B_ 17 389) HT_ ?_
 refine pu_ 9 (some 50) (B_ 17 901) HT_ ?_
 refine pu_ 10 (some 51) (B_ 17 1925) HT_ ?_
 refine take_ (i := 1) (N := some 42) (v := ?_) (a' := ?_) (B_ 17 1927) rfl rfl (take_ofW HT_.out HW_.out kf_) (fun _ _ _ h => h) (Or.inl ⟨by rfl, ?_⟩) hHeld ?_ ?_
 rotate_left
 {
 rintro w' ⟨s0, s1, s2⟩
 go_simp
 with_reducible rfl}
 rotate_left
 {
 exact sp_}
 refine take_ (i := 3) (N := some 44) (v := ?_) (a' := ?_) (B_ 17 1935) rfl rfl (take_ofW HT_.out HW_.out kf_) (fun _ _ _ h => h) (Or.inl ⟨by rfl, ?_⟩) hHeld ?_ ?_
 rotate_left
 {
 rintro w' ⟨s0, s1, s2⟩
 go_simp
 with_reducible rfl}
 rotate_left
 {
 exact sp_}
 refine pu_ 4 (some 45) (B_ 17 1951) HT_ ?_
 refine pu_ 5 (some 46) (B_ 17 1983) HT_ ?_
 refine take_ (i := 6) (N := some 47) (v := ?_) (a' := ?_) (B_ 17 2047) rfl rfl (take_ofW HT_.out HW_.out kf_) (fun _ _ _ h => h) (Or.inl ⟨by rfl, ?_⟩) hHeld ?_ ?_
 rotate_left
 {
 rintro w' ⟨s0, s1, s2⟩
 go_simp
 with_reducible rfl}
 rotate_left
 {
 exact sp_}
 refine take_ (i := 11) (N := some 52) (v := ?_) (a' := ?_) (B_ 17 4095) rfl rfl (take_ofW HT_.out HW_.out kf_) (fun _ _ _ h => h) (Or.inl ⟨by rfl, ?_⟩) hHeld ?_ ?_
 rotate_left
 {
 rintro w' ⟨s0, s1, s2⟩
 go_simp
 with_reducible rfl}
 rotate_left
 {
 exact sp_}
 refine pu_ 12 (some 53) (B_ 17 8191) HT_ ?_
 refine pu_ 13 (some 54) (B_ 17 16383) HT_ ?_
 refine pu_ 14 (some 55) (B_ 17 32767) HT_ ?_
 refine pu_ 15 (some 56) (B_ 17 65535) HT_ ?_
 refine last_ (i := 16) (N := none) (B_ 17 131071) rfl rfl (one_of HT_.out kf_) (by decide) (fun K hK => ?_)
 refine skip_ (w1 := ?_) (by rfl) rfl ?_ ?_
 rotate_left
 {
 go_simp
 rfl}
 refine hK.out _ _ ?_
 clear hK K
 refine done_ (done_of HT_.out kf_) ?_
 have n0_ : Aside0 (Kd.R (Kd.int .u8) 5 (w56.setCell ⟨go53, ((ji47) : Int).toNat, none⟩ (.int .u8 (Go.bits .or .u8 (rd x439000_2 (ji47)) (ji52)))) w.heap.size (fun _ => True) (.slice (some ⟨go53, 0, none⟩) x439000_2.length co57) y450) := ⟨kR_ HQ58⟩
 have n1_ : Aside0 ((w56.setCell ⟨go53, ((ji47) : Int).toNat, none⟩ (.int .u8 (Go.bits .or .u8 (rd x439000_2 (ji47)) (ji52)))).heap[gb438]? = some (.cells #[.slice (some ⟨go53, 0, none⟩) x439000_2.length co57, .int .i64 x439001_2] 66 (0, 0))) := ⟨by (with_reducible repeat (first | refine blk_drewN ?_ _ | refine blk_drew ?_ | refine blk_alloc ?_ _)); refine blk_far ?_ (by have h_ := Kd.R_ne HO_439000.out BK438.out (by decide); intro e_; exact h_ (by rw [e_]; rfl)) _; (with_reducible repeat (first | refine blk_drewN ?_ _ | refine blk_drew ?_ | refine blk_alloc ?_ _)); exact BK438.out⟩
 have n2_ : Aside0 ((w56.setCell ⟨go53, ((ji47) : Int).toNat, none⟩ (.int .u8 (Go.bits .or .u8 (rd x439000_2 (ji47)) (ji52)))).heap[gb439]? = some (.cells #[.slice none 0 0, .int .i64 0] 66 (0, 0))) := ⟨by (with_reducible repeat (first | refine blk_drewN ?_ _ | refine blk_drew ?_ | refine blk_alloc ?_ _)); refine blk_far ?_ (by have h_ := Kd.R_ne HO_439000.out BK439.out (by decide); intro e_; exact h_ (by rw [e_]; rfl)) _; (with_reducible repeat (first | refine blk_drewN ?_ _ | refine blk_drew ?_ | refine blk_alloc ?_ _)); exact BK439.out⟩
 have n3_ : Aside0 (Below w.heap.size w (w56.setCell ⟨go53, ((ji47) : Int).toNat, none⟩ (.int .u8 (Go.bits .or .u8 (rd x439000_2 (ji47)) (ji52))))) := ⟨by repeat (first | (with_reducible first | exact HB.out | apply below_alloc | apply pw_below_drewN | apply below_drew1 | refine below_set ?_ GB53.out | refine below_set ?_ GE438.out | refine below_set ?_ GE439.out) | exact HB.out)⟩
 (try clear HO_439000)
 (try clear BK438)
 (try clear BK439)
 (try clear HB)
 (try simp only [IntKind.wrap_u8, IntKind.wrap_u32])
 (try simp only [show _ = ji52 from hji52w.2 (by omega)])
 generalize (w56.setCell ⟨go53, ((ji47) : Int).toNat, none⟩ (.int .u8 (Go.bits .or .u8 (rd x439000_2 (ji47)) (ji52)))) = w59 at n0_ n1_ n2_ n3_ ⊢
 have HO_439000 := n0_
 have BK438 := n1_
 have BK439 := n2_
 have HB := n3_
 clear n0_ n1_ n2_ n3_
 obtain ⟨hcz60_0, hcz60_1, hfz60_0, hfz60_1⟩ := e2_ BK438
 try go_wp2
 first | go_roundg k2 | (subst hji47; go_roundg k2)
 case measure => have := HJ4.out; have := HK2.out; omega
 case rel => exact ⟨(x1_2 / 2), (wrap64 (x30_2 + 1)), (y450), (wrap64 (x439001_2 + 1)), (.slice (some ⟨go53, 0, none⟩) x439000_2.length co57), rs_, rs_, H', ⟨by have := HJ4.out; have := HK2.out; omega⟩, ⟨by (with_reducible repeat (first | apply Kd.R_alloc | apply Kd.R_drewN | apply Kd.R_drew)); exact Kd.R_mono (Kd.R_far (p := ⟨gb438, 1, none⟩) (Kd.R_types HO_439000.out BK438.out (by decide)) (fun _ hk => hk.2) (.int .i64 (wrap64 (x439001_2 + 1)))) (fun _ hk => trivial)⟩, ⟨bp_ BK438⟩, ⟨bk_ BK439⟩, ⟨bl_ HB⟩⟩}
 {
 rw [if_neg c51] at H
 exact absurd H (by simp)}}
 {
 rw [if_neg c49] at H
 exact absurd H (by simp)}}
 {
 rw [if_neg c48] at H
 exact absurd H (by simp)}}}
 {
 rw [if_neg c27] at H
 have c27b0 : decide (x30_2 < a2) = false := decide_eq_false c27
 clear c27
 simp only [Option.some.injEq, Prod.mk.injEq] at H
 obtain ⟨rfl, rfl, rfl⟩ := H
 have hnb61 := NB438_439.out
 have hnc61 := NB439_438.out
 obtain ⟨hcz62_0, hcz62_1, hfz62_0, hfz62_1⟩ := e2_ BK438
 obtain ⟨Ao63, co63, eo63⟩ := Kd.R_slice HO_439000.out
 subst eo63
 obtain ⟨hcz64_0, hcz64_1, hfz64_0, hfz64_1⟩ := e2_ BK439
 go_wp2
 refine bodyPost_ret (results_ct rfl _ _ gb439 66 #[.slice Ao63 x439000_2.length co63, .int .i64 x439001_2] (0, 0) _ rfl (bp_ BK439) Try.underlying66 rfl kf_) rfl ?_
 exact ⟨_, by first | rfl | (simp [errW_none, errW_some] <;> rfl) | (simp [*, errW_none, errW_some] <;> rfl), by (with_reducible repeat (first | apply Kd.R_alloc | apply Kd.R_drewN | apply Kd.R_drew)); exact Kd.R_mono (Kd.R_far (p := ⟨gb439, 1, none⟩) (Kd.R_far (p := ⟨gb439, 0, none⟩) (Kd.R_types HO_439000.out BK439.out (by decide)) (fun _ hk => hk.2) (.slice Ao63 x439000_2.length co63)) (fun _ hk => hk.2) (.int .i64 x439001_2)) (fun _ hk => trivial), bl_ HB⟩}))}}))
end Go.Proofs.Ytpdfdaoohknfoaa.P
namespace Go.Proofs.Ytpdfdaoohknfoaa.P
open Go.RowKit Go.Proofs.YtpdfdaoohknfoaaW.PrintWords Go.Proofs.YtpdfdaoohknfoaaW.PrintLast Go.Proofs.YtpdfdaoohknfoaaW.PrintMore
attribute [local go_sem] max2_int min2_int max_two min_two max_three min_three max_four min_four   -- for this text's walks alone
set_option linter.unusedVariables false
set_option linter.unusedSimpArgs false

def vpack_put.f (k : Nat) (l0_0 : List Int) (a0_1 : Int) (a1 : Int) (a2 : Int) : Option (List Int × Int) := (bits_Put.f k l0_0 a0_1 a1 a2).bind fun bt453 => (some (bt453.1, bt453.2.1))
theorem vpack_put.mono : ∀ a0 a1 a2 a3 k, LeO (vpack_put.f k a0 a1 a2 a3) (vpack_put.f (k + 1) a0 a1 a2 a3) := by
  intro a0 a1 a2 a3 k
  unfold vpack_put.f
  with_reducible repeat' first
   | exact bits_Put.mono _ _ _ _ _
   | exact LeO.refl _
   | exact LeO.none _
   | refine LeO.ite ?_ ?_
   | refine LeO.bind ?_ (fun _ => ?_)
set_option maxHeartbeats 8000000 in
set_option maxRecDepth 100000 in
theorem vpack_put.calls (k : Nat) (A0_0 : Option Addr) (c0_0 : Nat) (l0_0 : List Int) (a0_1 : Int) (a1 : Int) (a2 : Int) (r1 : List Int) (r2 : Int) (w : World) (hr0_0 : Kd.C (Kd.int .u8) w A0_0 l0_0.length l0_0) (hc0_0 : l0_0.length ≤ c0_0) (h : vpack_put.f k l0_0 a0_1 a1 a2 = some (r1, r2)) :
    Calls Try.prog 50 #[.agg #[.slice A0_0 l0_0.length c0_0, .int .i64 a0_1], .int .u64 a1, .int .i64 a2] w fun e w' => ∃ v0_ : Value, e = .returned (.agg #[v0_, .int .i64 r2]) ∧ Kd.R (Kd.int .u8) 5 w' w.heap.size (fun _ => True) v0_ r1 ∧ Below w.heap.size w w' := by
 have hu66 := Try.underlying66
 have HR0_0 := Aside0.mk hr0_0
 have HC0_0 := Aside0.mk hc0_0
 clear hr0_0 hc0_0
 have HB := Aside0.mk (Below.refl w.heap.size w)
 have H : ((bits_Put.f k l0_0 a0_1 a1 a2).bind fun bt453 => (some (bt453.1, bt453.2.1))) = some (r1, r2) := h
 clear h
 obtain ⟨⟨t453, t456, t457⟩, A4, H⟩ := ob_ H
 (try dsimp only at H)
 simp only [Option.some.injEq, Prod.mk.injEq] at H
 obtain ⟨rfl, rfl⟩ := H
 go_enter Try.func50, Try.ntmps50
 go_wp2_with (first | ((with_reducible refine gate_dst (N := 3) rfl ?_); refine bx_ HB 3 #[.slice A0_0 l0_0.length c0_0, .int .i64 a0_1] 66 ?_; clear HB; intro gb451 hg w5 hb BK451 GE451 HB; have GW451 := GE451; clear hb hg) | ((with_reducible refine gate_dst (N := 6) rfl ?_); refine bx_ HB 6 #[.slice none 0 0, .int .i64 0] 66 ?_; clear HB; intro gb452 hg w6 hb BK452 GE452 HB; have GW452 := GE452; obtain ⟨NB451_452, NB452_451⟩ := NN_ BK451 hg; replace BK451 := FB_ BK451 hb; clear hb hg; have hnb7 := NB451_452.out; have hnc7 := NB452_451.out; obtain ⟨hcz8_0, hcz8_1, hfz8_0, hfz8_1⟩ := e2_ BK451) | ((with_reducible refine gate_callee (f := 64) rfl ?_); refine gL_ (some 11) Try.func64 #[.agg #[.slice A0_0 l0_0.length c0_0, .int .i64 a0_1], .int .u64 a1, .int .i64 a2] ?_; (with_reducible refine (bits_Put.calls k _ _ l0_0 a0_1 a1 a2 t453 t456 t457 _ ?side1 ?side2 A4.out).mono ?_); (case side1 => exact kC_ HR0_0 HB); (case side2 => exact HC0_0.out); rintro e w9 ⟨v454, rfl, ho0, hb⟩; refine ⟨_, rfl, ?_⟩; have HO455 := Aside0.mk (Kd.R_lower ho0 (bs_ HB)); replace BK451 := FB_ BK451 hb; replace BK452 := FB_ BK452 hb; replace HB := BS_ HB hb; (try clear hb); (try clear ho0); obtain ⟨Ao10, co10, eo10⟩ := Kd.R_slice HO455.out; subst eo10; obtain ⟨hcz11_0, hcz11_1, hfz11_0, hfz11_1⟩ := e2_ BK451; obtain ⟨hcz12_0, hcz12_1, hfz12_0, hfz12_1⟩ := e2_ BK452))
 refine bodyPost_ret (results_cell_row rfl _ _ gb452 66 #[.slice Ao10 t453.length co10, .int .i64 t456] (0, 0) _ rfl (bp_ BK452) Try.underlying66 rfl kf_) rfl ?_
 exact ⟨_, by first | rfl | (simp [errW_none, errW_some] <;> rfl) | (simp [*, errW_none, errW_some] <;> rfl), by (with_reducible repeat (first | apply Kd.R_alloc | apply Kd.R_drewN | apply Kd.R_drew)); exact Kd.R_mono (Kd.R_far (p := ⟨gb452, 1, none⟩) (Kd.R_far (p := ⟨gb452, 0, none⟩) (Kd.R_far (p := ⟨gb451, 1, none⟩) (Kd.R_far (p := ⟨gb451, 0, none⟩) (Kd.R_types (Kd.R_types HO455.out BK451.out (by decide)) BK452.out (by decide)) (fun _ hk => hk.1.2) (.slice Ao10 t453.length co10)) (fun _ hk => hk.1.2) (.int .i64 t456)) (fun _ hk => hk.2) (.slice Ao10 t453.length co10)) (fun _ hk => hk.2) (.int .i64 t456)) (fun _ hk => trivial), bl_ HB⟩
end Go.Proofs.Ytpdfdaoohknfoaa.P
namespace Go.Proofs.Ytpdfdaoohknfoaa.P
open Go.RowKit Go.Proofs.YtpdfdaoohknfoaaW.PrintWords Go.Proofs.YtpdfdaoohknfoaaW.PrintLast Go.Proofs.YtpdfdaoohknfoaaW.PrintMore
attribute [local go_sem] max2_int min2_int max_two min_two max_three min_three max_four min_four   -- for this text's walks alone
set_option linter.unusedVariables false
set_option linter.unusedSimpArgs false

mutual
def huff_Codes.l0 : Nat → List Int → List Int → Int → Int → Option (List Int × Int)
  | 0, _, _, _, _ => none
  | k + 1, x0, x4, x5, x6 => if x6 ≤ 16 then (huff_Codes.l1 k x0 x4 ((x5 * 2) % 4294967296) x6 x0 (x0.length : Int) 0) else (some (x4, 0))
def huff_Codes.l1 : Nat → List Int → List Int → Int → Int → List Int → Int → Int → Option (List Int × Int)
  | 0, _, _, _, _, _, _, _ => none
  | k + 1, x0, x4, x5, x6, x21, x22, x23 => if x23 < x22 then (if 0 ≤ x23 then (if x23 < (x21.length : Int) then (if (rd x21 x23) = x6 then (if x23 < (x4.length : Int) then (huff_Codes.l1 k x0 (x4.set (x23 : Int).toNat x5) ((x5 + 1) % 4294967296) x6 x21 x22 (wrap64 (x23 + 1))) else (none)) else (huff_Codes.l1 k x0 x4 x5 x6 x21 x22 (wrap64 (x23 + 1)))) else (none)) else (none)) else (huff_Codes.l0 k x0 x4 x5 (wrap64 (x6 + 1)))
end
def huff_Codes.f (k : Nat) (l0 : List Int) : Option (List Int × Int) := (huff_Right.f k l0).bind fun t458 => (if t458 = true then (if 0 ≤ (l0.length : Int) then (if ((l0.length : Int) : Int).toNat ≤ 70368744177664 then (huff_Codes.l0 k l0 (List.replicate ((l0.length : Int) : Int).toNat 0) 0 1) else (none)) else (none)) else (some (([] : List Int), 1)))
theorem huff_Codes.mono_l : ∀ k, (∀ y0 y1 y2 y3, LeO (huff_Codes.l0 k y0 y1 y2 y3) (huff_Codes.l0 (k + 1) y0 y1 y2 y3)) ∧ (∀ y0 y1 y2 y3 y4 y5 y6, LeO (huff_Codes.l1 k y0 y1 y2 y3 y4 y5 y6) (huff_Codes.l1 (k + 1) y0 y1 y2 y3 y4 y5 y6))
  | 0 => ⟨fun _ _ _ _ r h => by simp [huff_Codes.l0] at h, fun _ _ _ _ _ _ _ r h => by simp [huff_Codes.l1] at h⟩
  | k + 1 => by
    obtain ⟨ih0, ih1⟩ := huff_Codes.mono_l k
    refine ⟨?_, ?_⟩
    all_goals (intros; first | unfold huff_Codes.l0 | unfold huff_Codes.l1)
    all_goals with_reducible repeat' first
     | exact ih0 _ _ _ _
     | exact ih1 _ _ _ _ _ _ _
     | exact huff_Right.mono _ _
     | exact LeO.refl _
     | exact LeO.none _
     | refine LeO.ite ?_ ?_
     | refine LeO.bind ?_ (fun _ => ?_)
theorem huff_Codes.mono : ∀ a0 k, LeO (huff_Codes.f k a0) (huff_Codes.f (k + 1) a0) := by
  intro a0 k
  obtain ⟨ih0, ih1⟩ := huff_Codes.mono_l k
  unfold huff_Codes.f
  with_reducible repeat' first
   | exact ih0 _ _ _ _
   | exact ih1 _ _ _ _ _ _ _
   | exact huff_Right.mono _ _
   | exact LeO.refl _
   | exact LeO.none _
   | refine LeO.ite ?_ ?_
   | refine LeO.bind ?_ (fun _ => ?_)
set_option maxHeartbeats 8000000 in
set_option maxRecDepth 100000 in
theorem huff_Codes.calls (k : Nat) (A0 : Option Addr) (c0 : Nat) (l0 : List Int) (r1 : List Int) (r2 : Int) (w : World) (hr0 : Kd.C (Kd.int .i64) w A0 l0.length l0) (hc0 : l0.length ≤ c0) (h : huff_Codes.f k l0 = some (r1, r2)) :
    Calls Try.prog 68 #[.slice A0 l0.length c0] w fun e w' => ∃ v0_ : Value, e = .returned (.tuple #[v0_, .int .i64 r2]) ∧ Kd.R (Kd.int .u32) 116 w' w.heap.size (fun _ => True) v0_ r1 ∧ Below w.heap.size w w' := by
 have HR0 := Aside0.mk hr0
 have HC0 := Aside0.mk hc0
 clear hr0 hc0
 have HB := Aside0.mk (Below.refl w.heap.size w)
 have H : ((huff_Right.f k l0).bind fun t458 => (if t458 = true then (if 0 ≤ (l0.length : Int) then (if ((l0.length : Int) : Int).toNat ≤ 70368744177664 then (huff_Codes.l0 k l0 (List.replicate ((l0.length : Int) : Int).toNat 0) 0 1) else (none)) else (none)) else (some (([] : List Int), 1)))) = some (r1, r2) := h
 clear h
 obtain ⟨t458, A2, H⟩ := ob_ H
 (try dsimp only at H)
 by_cases c3 : t458 = true
 {
 subst c3
 rw [if_pos rfl] at H
 by_cases c4 : 0 ≤ (l0.length : Int)
 {
 rw [if_pos c4] at H
 have c4b0 := eq_true c4
 have c4b1 : decide (0 ≤ (l0.length : Int)) = true := decide_eq_true c4
 clear c4
 by_cases c5 : ((l0.length : Int) : Int).toNat ≤ 70368744177664
 {
 rw [if_pos c5] at H
 have c5b0 := eq_true c5
 have c5b1 : decide (((l0.length : Int) : Int).toNat ≤ 70368744177664) = true := decide_eq_true c5
 clear c5
 obtain ⟨y459, hy459⟩ : ∃ y_ : List Int, y_ = (List.replicate ((l0.length : Int) : Int).toNat 0) := ⟨_, rfl⟩
 replace H : (huff_Codes.l0 k l0 y459 0 1) = some (r1, r2) := by first | (rw [hy459]; with_reducible exact H) | (have H2_ := (Option.bind_some _ _).symm.trans H; rw [hy459]; with_reducible exact H2_) | (have H2_ := (Option.bind_some _ _).symm.trans H; with_reducible exact H2_) | with_reducible exact H | (rw [hy459]; exact H) | exact H
 have Ny459 := Aside0.mk hy459
 clear hy459
 have H' := Aside0.mk H
 clear H
 go_enter Try.func68, Try.ntmps68
 go_wp2_with (first | ((with_reducible refine gate_callee (f := 63) rfl ?_); refine gL_ (some 10) Try.func63 #[.slice A0 l0.length c0] ?_; (with_reducible refine (huff_Right.calls k _ _ l0 true _ ?side1 ?side2 A2.out).mono ?_); (case side1 => repeat (first | exact HR0.out | (with_reducible refine Kd.C_alloc ?_ _) | (with_reducible refine Kd.C_drewN ?_ _) | (with_reducible refine Kd.C_drew ?_))); (case side2 => exact HC0.out); rintro e w' ⟨rfl, ⟨nd, rfl⟩⟩; refine ⟨_, rfl, ?_⟩) | ((with_reducible refine gate_dst (N := 14) rfl ?_); refine Kd.R_make (Kd.int .u32) _ 116 rfl (N := 14) rfl 113 _ _ rfl (l0.length : Int) rfl rfl Try.underlying113 (.int .u32 0) 4 info116 rfl (by decide) (by omega) 0 (ok := fun _ => True) (okp := fun _ => True) rfl (fun _ hk => hk) trivial (of_decide_eq_true am_) (Nat.le_trans (Nat.mul_le_mul_right _ (of_decide_eq_true am_ : (l0.length : Int).toNat ≤ 70368744177664)) (by omega)) (Below.refl _ _) (Nat.le_refl _) ?_; intro v460 w6 ho7 hb hg_ hnew_; clear hg_ hnew_; (first | rw [← Ny459.out] at ho7 | (simp only [Int.reduceToNat] at ho7; rw [← Ny459.out] at ho7)); have HO461 := Aside0.mk (Kd.R_lower ho7 (bs_ HB)); replace HB := BS_ HB hb; clear hb ho7))
 go_loopg [5, 6] k (fun kq v5 v6 w' => ∃ (x4_1 : List Int) (x5_1 : Int) (x6_1 : Int), v5 = .int .u32 x5_1 ∧ v6 = .int .i64 x6_1 ∧ Aside0 (huff_Codes.l0 kq l0 x4_1 x5_1 x6_1 = some (r1, r2)) ∧ Aside0 (kq ≤ k) ∧ Aside0 (Kd.R (Kd.int .u32) 116 w' w.heap.size (fun _ => True) v460 x4_1) ∧ Aside0 (Below w.heap.size w w'))
 case atStart => exact ⟨(y459), (0), (1), rs_, rs_, H', ⟨Nat.le_refl _⟩, ⟨kR_ HO461⟩, ⟨bl_ HB⟩⟩
 case round => (
 clear H'
 try clear c3
 try clear c4
 try clear c4b0
 try clear c4b1
 try clear c5
 try clear c5b0
 try clear c5b1
 obtain ⟨x4_1, x5_1, x6_1, rfl, rfl, HA, HK1, HO_4, HB⟩ := hrel
 cases gk with
 | zero => exact absurd HA.out (by simp [huff_Codes.l0])
 | succ k1 => (
 have H := HA.out
 clear HA
 simp only [huff_Codes.l0] at H
 by_cases c8 : x6_1 ≤ 16
 {
 rw [if_pos c8] at H
 have c8b0 : decide (x6_1 ≤ 16) = true := decide_eq_true c8
 clear c8
 have H' := Aside0.mk H
 clear H
 go_wp2
 go_loopg [5, 23] k1 (fun kq v5 v23 w' => ∃ (x4_2 : List Int) (x5_2 : Int) (x23_2 : Int), v5 = .int .u32 x5_2 ∧ v23 = .int .i64 x23_2 ∧ Aside0 (huff_Codes.l1 kq l0 x4_2 x5_2 x6_1 l0 (l0.length : Int) x23_2 = some (r1, r2)) ∧ Aside0 (kq ≤ k1) ∧ Aside0 (Kd.R (Kd.int .u32) 116 w' w.heap.size (fun _ => True) v460 x4_2) ∧ Aside0 (Below w.heap.size w w'))
 case atStart => exact ⟨(x4_1), ((x5_1 * 2) % 4294967296), (0), rs_, rs_, H', ⟨Nat.le_refl _⟩, ⟨kR_ HO_4⟩, ⟨bl_ HB⟩⟩
 case round => (
 clear H'
 try clear c3
 try clear c4
 try clear c4b0
 try clear c4b1
 try clear c5
 try clear c5b0
 try clear c5b1
 try clear c8
 try clear c8b0
 obtain ⟨x4_2, x5_2, x23_2, rfl, rfl, HA, HK2, HO_4, HB⟩ := hrel
 cases gk with
 | zero => exact absurd HA.out (by simp [huff_Codes.l1])
 | succ k2 => (
 have H := HA.out
 clear HA
 simp only [huff_Codes.l1] at H
 by_cases c9 : x23_2 < (l0.length : Int)
 {
 rw [if_pos c9] at H
 have c9b0 : decide (x23_2 < (l0.length : Int)) = true := decide_eq_true c9
 clear c9
 by_cases c10 : 0 ≤ x23_2
 {
 rw [if_pos c10] at H
 have c10b0 : decide (0 ≤ x23_2) = true := decide_eq_true c10
 clear c10
 by_cases c11 : x23_2 < (l0.length : Int)
 {
 rw [if_pos c11] at H
 have c11b0 : decide (x23_2 < (l0.length : Int)) = true := decide_eq_true c11
 clear c11
 by_cases c12 : (rd l0 x23_2) = x6_1
 {
 rw [if_pos c12] at H
 have c12b0 : ((rd l0 x23_2) == x6_1) = true := beq_iff_eq.mpr c12
 have c12b1 : ((rd l0 x23_2) != x6_1) = false := bne_eq_false_iff_eq.mpr c12
 clear c12
 by_cases c13 : x23_2 < (x4_2.length : Int)
 {
 rw [if_pos c13] at H
 have c13b0 : decide (x23_2 < (x4_2.length : Int)) = true := decide_eq_true c13
 clear c13
 obtain ⟨y463, hy463⟩ : ∃ y_ : List Int, y_ = (x4_2.set (x23_2 : Int).toNat x5_2) := ⟨_, rfl⟩
 replace H : (huff_Codes.l1 k2 l0 y463 ((x5_2 + 1) % 4294967296) x6_1 l0 (l0.length : Int) (wrap64 (x23_2 + 1))) = some (r1, r2) := by first | (rw [hy463]; with_reducible exact H) | (have H2_ := (Option.bind_some _ _).symm.trans H; rw [hy463]; with_reducible exact H2_) | (have H2_ := (Option.bind_some _ _).symm.trans H; with_reducible exact H2_) | with_reducible exact H | (rw [hy463]; exact H) | exact H
 have Ny463 := Aside0.mk hy463
 clear hy463
 have H' := Aside0.mk H
 clear H
 have p462 : 0 ≤ (x23_2 : Int) := of_decide_eq_true am_
 have q462 : x23_2 < (l0.length : Int) := of_decide_eq_true am_
 obtain ⟨ad462, e462, hx462_0⟩ := Kd.at_int HR0.out x23_2 p462 q462
 cases e462
 replace hx462_0 := (HB.out.cell (World.block_lt_of_cell? w _ hx462_0)).trans hx462_0
 replace p462 := eq_true p462
 replace q462 := eq_true q462
 have p14 : 0 ≤ (x23_2 : Int) := of_decide_eq_true am_
 have q14 : (x23_2 : Int) < ((x4_2.length : Int) : Int) := of_decide_eq_true am_
 obtain ⟨go14, co14, eo14, gb14, gl14, cl14, HG14⟩ := Kd.R_form HO_4.out (by omega)
 (first | cases eo14 | (injection eo14 with ea_ en_ ec_; (first | subst ea_ | (injection ea_ with ea_; subst ea_)); subst ec_; clear en_))
 have GB14 := Aside0.mk gb14
 have GG14 := Aside0.mk HG14
 clear gb14 gl14 HG14
 obtain ⟨hx14_0, hf14_0⟩ := Kd.R_celln 0 HO_4.out (x23_2 : Int) p14 q14
 replace p14 := eq_true p14
 replace q14 := eq_true q14
 have HP15 := Kd.R_putg HO_4.out (x23_2 : Int) x5_2
 go_wp2_with (first | ((with_reducible refine gate_store (t := 116) (p := 34) rfl ?_); refine store_event (t := 116) (p := 34) (v := ?vo_w16) (w1 := (wr.setCell ⟨go14, (x23_2 : Int).toNat, none⟩ (.int .u32 x5_2))) ?hg ?ho ?hn ?hr ?_; (case ho => rfl); (case hg => rfl); (case hn => rfl); (case hr => first | (go_simp; done) | (go_simp; rfl)); intro w16 hw; have hg : wr.grownBy w16 (some go14) := (by rw [hw]; exact HP15.2); have hp_ : Kd.R (Kd.int .u32) 116 w16 w.heap.size (fun _ => True) (.slice (some ⟨go14, 0, none⟩) x4_2.length co14) y463 := (by rw [hw, Ny463.out]; exact HP15.1); clear HP15; replace HO_4 := Aside0.mk (hp_); replace HB := Aside0.mk ((by rw [hw]; exact below_set (HB.out) GB14.out : Below w.heap.size w w16)); clear hg hw hp_))
 go_roundg k2
 case measure => have := HK1.out; have := HK2.out; omega
 case rel => exact ⟨(y463), ((x5_2 + 1) % 4294967296), (wrap64 (x23_2 + 1)), rs_, rs_, H', ⟨by have := HK1.out; have := HK2.out; omega⟩, ⟨kR_ HO_4⟩, ⟨bl_ HB⟩⟩}
 {
 rw [if_neg c13] at H
 exact absurd H (by simp)}}
 {
 rw [if_neg c12] at H
 have c12b0 : ((rd l0 x23_2) == x6_1) = false := beq_eq_false_iff_ne.mpr c12
 have c12b1 : ((rd l0 x23_2) != x6_1) = true := bne_iff_ne.mpr c12
 have H' := Aside0.mk H
 clear H
 have p462 : 0 ≤ (x23_2 : Int) := of_decide_eq_true am_
 have q462 : x23_2 < (l0.length : Int) := of_decide_eq_true am_
 obtain ⟨ad462, e462, hx462_0⟩ := Kd.at_int HR0.out x23_2 p462 q462
 cases e462
 replace hx462_0 := (HB.out.cell (World.block_lt_of_cell? w _ hx462_0)).trans hx462_0
 replace p462 := eq_true p462
 replace q462 := eq_true q462
 go_wp2
 go_roundg k2
 case measure => have := HK1.out; have := HK2.out; omega
 case rel => exact ⟨(x4_2), (x5_2), (wrap64 (x23_2 + 1)), rs_, rs_, H', ⟨by have := HK1.out; have := HK2.out; omega⟩, ⟨kR_ HO_4⟩, ⟨bl_ HB⟩⟩}}
 {
 rw [if_neg c11] at H
 exact absurd H (by simp)}}
 {
 rw [if_neg c10] at H
 exact absurd H (by simp)}}
 {
 rw [if_neg c9] at H
 have c9b0 : decide (x23_2 < (l0.length : Int)) = false := decide_eq_false c9
 clear c9
 have H' := Aside0.mk H
 clear H
 go_wp2
 go_roundg k2
 case measure => have := HK1.out; have := HK2.out; omega
 case rel => exact ⟨(x4_2), (x5_2), (wrap64 (x6_1 + 1)), rs_, rs_, H', ⟨by have := HK1.out; have := HK2.out; omega⟩, ⟨kR_ HO_4⟩, ⟨bl_ HB⟩⟩}))}
 {
 rw [if_neg c8] at H
 have c8b0 : decide (x6_1 ≤ 16) = false := decide_eq_false c8
 clear c8
 simp only [Option.some.injEq, Prod.mk.injEq] at H
 obtain ⟨rfl, rfl⟩ := H
 go_wp2
 go_ret2
 exact ⟨_, by first | rfl | (simp [errW_none, errW_some] <;> rfl) | (simp [*, errW_none, errW_some] <;> rfl), by (with_reducible repeat (first | apply Kd.R_alloc | apply Kd.R_drewN | apply Kd.R_drew)); exact HO_4.out, bl_ HB⟩}))}
 {
 rw [if_neg c5] at H
 exact absurd H (by simp)}}
 {
 rw [if_neg c4] at H
 exact absurd H (by simp)}}
 {
 replace c3 := Bool.eq_false_iff.mpr c3
 subst c3
 rw [if_neg (show ¬ (false = true) by decide)] at H
 simp only [Option.some.injEq, Prod.mk.injEq] at H
 obtain ⟨rfl, rfl⟩ := H
 go_enter Try.func68, Try.ntmps68
 go_wp2_with (first | ((with_reducible refine gate_callee (f := 63) rfl ?_); refine gL_ (some 10) Try.func63 #[.slice A0 l0.length c0] ?_; (with_reducible refine (huff_Right.calls k _ _ l0 false _ ?side1 ?side2 A2.out).mono ?_); (case side1 => repeat (first | exact HR0.out | (with_reducible refine Kd.C_alloc ?_ _) | (with_reducible refine Kd.C_drewN ?_ _) | (with_reducible refine Kd.C_drew ?_))); (case side2 => exact HC0.out); rintro e w' ⟨rfl, ⟨nd, rfl⟩⟩; refine ⟨_, rfl, ?_⟩))
 go_ret2
 exact ⟨_, by first | rfl | (simp [errW_none, errW_some] <;> rfl) | (simp [*, errW_none, errW_some] <;> rfl), by first | exact Kd.R_nil _ _ _ _ _ | exact Kd.N_nil _ _ _ _ _ | exact Kd.V_nil _ _ _ _ _ | exact Kd.Q_nil _ _ _ _ _ | exact Kd.S_nil _ _ _ _ _, bl_ HB⟩}
end Go.Proofs.Ytpdfdaoohknfoaa.P
