/- The law VoiceEncodes holds for every input, and leaves its arguments as they were: its row, out of its pure statement and the walk. No further condition. -/
import Derived.Test.YtdajlfijkbafiaaRows
import Derived.Test.YtdajlfijkbafiaaE7
import Derived.Test.YtdajlfijkbafiaaE8
import Derived.WalkKit
import Derived.ProofKit
import Derived.OpenShut
import Derived.ShutString
import Derived.ChangeOld
import Derived.Below
import Derived.SizedLaws
import Derived.Test.YtdajlfijkbafiaaE2
set_option linter.unusedVariables false
set_option linter.unusedSimpArgs false
namespace Go.Proofs.Ytdajlfijkbafiaa.voiceEncodes
open Go.ChangeShapes Go.WideShapes Go.ChangeAt Go.RowKit Go.Joins Go.Deep Go.Proofs.YtdajlfijkbafiaaW.Row Go.Proofs.YtdajlfijkbafiaaW.PrintWords Go.Proofs.Ytdajlfijkbafiaa.P
open Go.ChangeMaps (open_string shut_string)
theorem own : ownKnob Try.prog.godebug = none := by kernel_rfl
theorem laidOut : laidOutB Try.prog = true := by kernel_rfl
set_option maxRecDepth 100000 in
theorem lifted (os : Os) (started : os.Started) (H : Type) (enc : TypeId × Value → H) :
    ReturnsInHanded {} Try.checked os 5 .any (Rows.voiceEncodesSpec.pre6 enc Try.prog Try.f5 Rows.voiceEncodesRow.domain false) (Rows.voiceEncodesSpec.post enc Try.prog Try.f5 false true false false) := by
  refine returnsInHanded_of_change_sized (C := Try.checked) own started (by kernel_rfl) Try.func5
    (ChangeSpec.witness6 (enc := enc) (C := Try.checked) false ⟨#[], #[.agg #[.int .i64 0, .int .i64 0, .slice none 0 0, .slice none 0 0], .agg #[.slice none 0 0]], []⟩ 8 (by kernel_rfl) (by kernel_rfl) (by kernel_rfl) (by kernel_rfl)) ?_
  intro W base args ds gs before hval0 hW hcnd _ _
  have hval : ∀ (j : Nat) t v, Try.f5.params[j]? = some t → args[j]? = some v → Value.okWide Try.prog W .any base t v := hval0
  have hW' := hW
  obtain ⟨p, q, hA0, hV, rfl, hfz, hnd⟩ := hW
  have hA : DataW.TrodAll enc Try.prog W 0 (fun _ => true) true Try.f5.params.toList args.toList ds p := hA0
  rw [Try.params5] at hA hval
  obtain ⟨v0, vs0, d0, ds0, p0, q0, hargs, rfl, rfl, h0, r0⟩ := trodAll_cons hA
  obtain ⟨v1, vs1, d1, ds1, p1, q1, rfl, rfl, rfl, h1, r1⟩ := trodAll_cons r0
  obtain ⟨rfl, rfl, rfl⟩ := trodAll_nil r1
  obtain rfl : args = #[v0, v1] := by cases args; simp_all
  obtain ⟨rfl, rfl⟩ := trodVars_none hV
  have k0 := h0
  have lt0 : ∀ x ∈ p0, x.block < W.heap.size := by obtain ⟨m, hm⟩ := k0; exact DataW.trod_lt m _ _ _ hm
  obtain ⟨u0_0, u0_1, u0_2, u0_3, y0_0, y0_1, y0_2, y0_3, n0, rfl, _, _, e0_0, e0_1, e0_2, e0_3⟩ := open_agg4 Try.underlying24 (by kernel_rfl) (by kernel_rfl) (hval 0 24 v0 rfl rfl) h0
  obtain ⟨a0_0, K0_0, w0_0⟩ := ((opens_int Try.underlying3)) e0_0
  obtain rfl := K_int K0_0
  obtain ⟨a0_1, K0_1, w0_1⟩ := ((opens_int Try.underlying3)) e0_1
  obtain rfl := K_int K0_1
  obtain ⟨l0_2, K0_2, w0_2⟩ := ((opens_slice Try.underlying22 (by kernel_rfl) (opens_int Try.underlying3))) e0_2
  obtain ⟨A0_2, c0_2, rfl, hc0_2, hr0_2⟩ := K_slice K0_2
  obtain ⟨l0_3, K0_3, w0_3⟩ := ((opens_slice Try.underlying22 (by kernel_rfl) (opens_int Try.underlying3))) e0_3
  obtain ⟨A0_3, c0_3, rfl, hc0_3, hr0_3⟩ := K_slice K0_3
  have k1 := h1
  have lt1 : ∀ x ∈ p1, x.block < W.heap.size := by obtain ⟨m, hm⟩ := k1; exact DataW.trod_lt m _ _ _ hm
  obtain ⟨u1_0, y1_0, n1, rfl, e1_0⟩ := open_agg1 Try.underlying37 (by kernel_rfl) (by kernel_rfl) (hval 1 37 v1 rfl rfl) h1
  obtain ⟨l1_0, K1_0, w1_0⟩ := ((opens_slice Try.underlying26 (by kernel_rfl) (opens_slice Try.underlying53 (by kernel_rfl) (opens_int Try.underlying2)))) e1_0
  obtain ⟨A1_0, c1_0, rfl, hc1_0, hr1_0⟩ := K_slice K1_0
  clear hA0 hval0
  refine (psalterylaw22_VoiceEncodes.walk Pure.VoiceEncodes a0_0 a0_1 _ _ l0_2 _ _ l0_3 _ _ l1_0 W hr0_2 hc0_2 hr0_3 hc0_3 hr1_0 hc1_0 w0_0 w0_1 w0_2 w0_3 w1_0).mono fun e W' ⟨he, bel⟩ => ?_
  subst he
  exact ⟨_, rfl, _, _, _, [], _, [], hW', trodAll_mk1 (shut_bool Try.underlying4 _), (trodAll_cons_mk (Below.trod laidOut (by kernel_rfl) (of_decide_eq_true (by kernel_rfl)) k0 bel lt0) (trodAll_cons_mk (Below.trod laidOut (by kernel_rfl) (of_decide_eq_true (by kernel_rfl)) k1 bel lt1) trodAll_mk0)), rfl, bel.frame _, fun h => by cases h⟩
theorem over : Rows.voiceEncodesRow.holds Try.pinned (OpenSpec.ofChange Rows.voiceEncodesSpec) :=
  OpenClaim.holds_of_wide 5 Try.f5 rfl rfl rfl rfl rfl rfl rfl ⟨rfl, rfl, rfl, rfl, rfl⟩ rfl rfl rfl rfl rfl (by kernel_rfl) Try.func5 (by kernel_rfl)
    (of_decide_eq_true (by kernel_rfl)) (by unfold Func.isWrapper; first | (rw [if_pos (by decide +kernel)]; kernel_rfl) | (rw [if_neg (by decide +kernel)]; exact ⟨rfl, rfl⟩))
    (fun os started H enc _ => lifted os started H enc)
theorem proved : Rows.VoiceEncodesSaid := over
#print axioms proved
end Go.Proofs.Ytdajlfijkbafiaa.voiceEncodes
namespace Go.Proofs.Ytdajlfijkbafiaa
theorem voiceEncodes_holds : Rows.VoiceEncodesSaid := voiceEncodes.proved
end Go.Proofs.Ytdajlfijkbafiaa
