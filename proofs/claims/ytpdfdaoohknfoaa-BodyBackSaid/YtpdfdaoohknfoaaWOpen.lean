/- What comes in, of any type built of whole numbers, slices and structs, reads as a kind of the print's words. -/
import Derived.Test.YtpdfdaoohknfoaaWMore1
import Derived.Deep.Slices
import Derived.Lib.SmallJoins
import Derived.WideShapes
namespace Go.Proofs.YtpdfdaoohknfoaaW.Row
open Go.RowKit Go.Proofs.YtpdfdaoohknfoaaW.PrintWords Go.Joins Go.WideShapes Go.ChangeShapes Go.Deep
/-- What comes in at type t reads as a kind's value, and is well formed. -/
def Opens {α : Type} (P : Program) (d : Kd α) (t : TypeId) (wf : α → Prop) : Prop :=
  ∀ {H : Type} {enc : TypeId × Value → H} {w : World} {base : Nat} {held : Bool} {fuel : Nat} {cs : List Value} {x : DataW H × List MemPlace},
    DataW.trod enc P w base (fun _ => true) held fuel t cs = some x → ∃ a, d.K w a cs ∧ wf a
variable {P : Program}
theorem opens_int {t : TypeId} {k : IntKind} (ht : P.underlying t = some (.int k)) : Opens P (Kd.int k) t (fun a => (Lit.int k a).wf = true) := by
  intro H enc w base held fuel cs x h
  obtain ⟨n, rfl, _, hw⟩ := DataW.trod_int ht h
  exact ⟨n, rfl, hw⟩
theorem list_of {β : Type} {p : Nat → β → Prop} (n : Nat) (h : ∀ i, i < n → ∃ y, p i y) : ∃ ys : List β, ys.length = n ∧ ∀ i y, ys[i]? = some y → p i y := by
  induction n with
  | zero => exact ⟨[], rfl, fun i y hy => by simp at hy⟩
  | succ n ih =>
    obtain ⟨ys, hl, hp⟩ := ih fun i hi => h i (by omega)
    obtain ⟨y, hy⟩ := h n (by omega)
    refine ⟨ys ++ [y], by simp [hl], fun i z hz => ?_⟩
    rcases Nat.lt_or_ge i ys.length with e | e
    · rw [List.getElem?_append_left e] at hz; exact hp i z hz
    · rw [List.getElem?_append_right e] at hz
      obtain ⟨h1, h2⟩ := List.getElem?_eq_some_iff.1 hz
      have : i = n := by simp at h1; omega
      subst this
      simp at h2; subst h2; exact hy
theorem opens_slice {α : Type} {d : Kd α} {t e : TypeId} {wf : α → Prop} (ht : P.underlying t = some (.slice e)) (ce : P.cellsOf e = d.sz) (h : Opens P d e wf) :
    Opens P (Kd.slice e d) t (fun l => l.length ≤ maxLen ∧ ∀ x ∈ l, wf x) := by
  intro H enc w base held fuel cs x hx
  rcases Deep.open_slice ht hx with ⟨rfl, _⟩ | ⟨a, len, cap, m, n, D, Pl, rfl, hb, hl, hm, hmm, _, hi⟩
  · exact ⟨[], ⟨none, 0, rfl, Nat.le_refl _, Kd.C_nil d w⟩, by simp, fun x hx => by simp at hx⟩
  · simp only [if_true] at hmm
    subst hmm
    have each : ∀ i, i < len → ∃ y : α × List Value, y.2.length = d.sz ∧ d.K w y.1 y.2 ∧ wf y.1 ∧ ∀ j u, y.2[j]? = some u → w.cell? (a.add (i * d.sz + j)) = some u := by
      intro i hlt
      obtain ⟨cs', h1, h2⟩ := hi i (by omega)
      obtain ⟨v, hK, hw⟩ := h h2
      obtain ⟨_, hlen, hcell⟩ := World.cells?_some h1
      rw [ce] at h1 hlen hcell
      refine ⟨(v, cs'), hlen, hK, hw, fun j u hj => ?_⟩
      have hjl : j < cs'.length := (List.getElem?_eq_some_iff.1 hj).1
      have := hcell j (by omega)
      rw [Addr.add_add] at this
      rw [this]; exact hj
    obtain ⟨ys, hyl, hy⟩ := list_of len each
    have hpts : ∀ (j : Nat) (p : α), (ys.map (·.1))[j]? = some p → ∃ c, (p, c) ∈ ys ∧ ys[j]? = some (p, c) := by
      intro j p hj
      rw [List.getElem?_map] at hj
      cases e : ys[j]? with
      | none => rw [e] at hj; cases hj
      | some z => rw [e] at hj; obtain rfl : z.1 = p := by simpa using hj
                  exact ⟨z.2, List.mem_of_getElem? e, rfl⟩
    refine ⟨ys.map (·.1), ⟨some a, m, by simp [hyl], by simpa [hyl] using hl, ?_⟩, ?_, ?_⟩
    · refine ⟨rfl, ?_, fun hp => ⟨a, rfl, fun j p hj => ?_⟩⟩
      · simp only [List.length_map]; unfold maxLen at hm; omega
      · obtain ⟨c, _, hc⟩ := hpts j p hj
        obtain ⟨e1, e2, _, e4⟩ := hy j _ hc
        exact ⟨c, e1, e2, e4⟩
    · simp only [List.length_map]; omega
    · intro x hx
      obtain ⟨z, hz, rfl⟩ := List.mem_map.1 hx
      obtain ⟨i, hi', hi''⟩ := List.getElem_of_mem hz
      exact (hy i z (by rw [← hi'']; exact List.getElem?_eq_getElem hi')).2.2.1
theorem opens_struct2 {α β γ : Type} {d0 : Kd α} {d1 : Kd β} {t : TypeId} {f0 f1 : Field} {wf0 : α → Prop} {wf1 : β → Prop} (f : γ → α × β) (mk : α → β → γ) (hf : ∀ a b, f (mk a b) = (a, b))
    (ht : P.underlying t = some (.struct #[f0, f1])) (o0 : f0.offset = 0) (o1 : f1.offset = d0.sz) (c0 : P.cellsOf f0.type = d0.sz) (c1 : P.cellsOf f1.type = d1.sz) (ct : P.cellsOf t = d0.sz + d1.sz)
    (h0 : Opens P d0 f0.type wf0) (h1 : Opens P d1 f1.type wf1) : Opens P (Kd.iso (Kd.pair d0 d1) f) t (fun x => wf0 (f x).1 ∧ wf1 (f x).2) := by
  intro H enc w base held fuel cs x hx
  obtain ⟨y0, y1, n, _, hlen, e0, e1⟩ := trod_struct2 ht hx
  rw [o0, c0, List.drop_zero] at e0
  rw [o1, c1] at e1
  obtain ⟨a, hA, wA⟩ := h0 e0
  obtain ⟨b, hB, wB⟩ := h1 e1
  refine ⟨mk a b, ?_, by show wf0 (f (mk a b)).1 ∧ wf1 (f (mk a b)).2; rw [hf]; exact ⟨wA, wB⟩⟩
  show (Kd.pair d0 d1).K w (f (mk a b)) cs
  rw [hf]
  refine ⟨_, _, ?_, hA, hB⟩
  rw [ct] at hlen
  rw [List.take_of_length_le (l := cs.drop d0.sz) (by rw [List.length_drop]; omega), List.take_append_drop]
variable {H : Type} {enc : TypeId × Value → H} {w : World} {base : Nat} {spare : Nat → Bool} {held : Bool}
theorem open_agg1 {r : Reach} {b0 : Nat} {t : TypeId} {f0 : Field} {v : Value} {d : DataW H} {p : List MemPlace} (hs : P.underlying t = some (.struct #[f0])) (hone : oneCellFields P #[f0] = true) (hC : P.cellsOf t = 1)
    (hv : Value.okWide P w r b0 t v) (h : DataW.Trod enc P w base spare held t v d p) :
    ∃ (v0 : Value) (y0 : DataW H × List MemPlace) (n : Nat), v = .agg #[v0] ∧ DataW.trod enc P w base spare held n f0.type [v0] = some y0 := by
  obtain ⟨cs, rfl, hsz⟩ := okWide_struct hs hv
  rw [hC] at hsz
  obtain ⟨c0, rfl⟩ : ∃ c0, cs = #[c0] := by
    cases cs with
    | mk l => match l, hsz with
      | [c], _ => exact ⟨c, rfl⟩
  obtain ⟨fuel, hf⟩ := h
  obtain ⟨y0, n, hx, _, h0⟩ := trod_struct1 hs hf
  obtain ⟨o0, k0⟩ := hone_of hone 0 f0 rfl
  exact ⟨c0, y0, n, rfl, by simpa [Value.cells, o0, k0] using h0⟩
theorem K_int {k : IntKind} {a : Int} {v : Value} (h : (Kd.int k).K w a [v]) : v = .int k a := by
  have e : [v] = [Value.int k a] := h
  injection e
theorem K_slice {α : Type} {e : Nat} {d : Kd α} {l : List α} {v : Value} (h : (Kd.slice e d).K w l [v]) : ∃ A c, v = .slice A l.length c ∧ l.length ≤ c ∧ d.C w A l.length l := by
  obtain ⟨A, c, hv, hl, hc⟩ := h
  injection hv with hv
  exact ⟨A, c, hv, hl, hc⟩
end Go.Proofs.YtpdfdaoohknfoaaW.Row
