-- PRINTED by print.py (a twelfth state) out of the translation. Not trusted: Lean checks it.
import Derived.Test.YtajnllkkgedgfaaPx0
namespace Go.Proofs.Ytajnllkkgedgfaa.P
open Go.RowKit Go.Proofs.YtajnllkkgedgfaaW.PrintWords Go.Proofs.YtajnllkkgedgfaaW.PrintLast Go.Proofs.YtajnllkkgedgfaaW.PrintMore
attribute [local go_sem] max2_int min2_int max_two min_two max_three min_three max_four min_four   -- for this text's walks alone
set_option linter.unusedVariables false
set_option linter.unusedSimpArgs false

/-! ### num_Mul: function 33 -/
def num_Mul.p0 (a0 a1 : Int) : Int := IntKind.u64.wrap (Go.bits .and .u64 a0 4294967295 * Go.bits .and .u64 a1 4294967295)
def num_Mul.p1 (a0 a1 : Int) : Int := IntKind.u64.wrap (a0 / 4294967296 * Go.bits .and .u64 a1 4294967295)
def num_Mul.p2 (a0 a1 : Int) : Int := IntKind.u64.wrap (Go.bits .and .u64 a0 4294967295 * (a1 / 4294967296))
def num_Mul.p3 (a0 a1 : Int) : Int := IntKind.u64.wrap (a0 / 4294967296 * (a1 / 4294967296))
def num_Mul.mid (a0 a1 : Int) : Int := IntKind.u64.wrap (IntKind.u64.wrap (num_Mul.p0 a0 a1 / 4294967296 + Go.bits .and .u64 (num_Mul.p1 a0 a1) 4294967295) + Go.bits .and .u64 (num_Mul.p2 a0 a1) 4294967295)
def num_Mul.high (a0 a1 : Int) : Int := IntKind.u64.wrap (IntKind.u64.wrap (IntKind.u64.wrap (num_Mul.p3 a0 a1 + num_Mul.p1 a0 a1 / 4294967296) + num_Mul.p2 a0 a1 / 4294967296) + num_Mul.mid a0 a1 / 4294967296)
def num_Mul.low (a0 a1 : Int) : Int := Go.bits .or .u64 (IntKind.u64.wrap (num_Mul.mid a0 a1 * 4294967296)) (Go.bits .and .u64 (num_Mul.p0 a0 a1) 4294967295)
def num_Mul.f (a0 : Int) (a1 : Int) : Option (Int × Int) := some (num_Mul.high a0 a1, num_Mul.low a0 a1)
set_option maxHeartbeats 4000000 in
set_option maxRecDepth 100000 in
theorem num_Mul.calls (a0 : Int) (a1 : Int) (r1 : Int) (r2 : Int) (w : World) (h : num_Mul.f a0 a1 = some (r1, r2)) :
    Calls Try.prog 33 #[.int .u64 a0, .int .u64 a1] w fun e w' => e = .returned (.tuple #[.int .u64 r1, .int .u64 r2]) ∧ Below w.heap.size w w' := by
  have HR : Aside0 (num_Mul.high a0 a1 = r1 ∧ num_Mul.low a0 a1 = r2) := ⟨by simpa [num_Mul.f] using h⟩
  clear h
  go_enter Try.func33, Try.ntmps33
  go_wp2
  go_quiet (fail)
  go_wp2
  go_ret2
  obtain ⟨h1, h2⟩ := HR.out
  rw [← h1, ← h2]
  refine ⟨?_, by repeat (first | exact Below.refl _ _ | apply below_alloc | apply pw_below_drewN | apply below_drew1)⟩
  rfl

end Go.Proofs.Ytajnllkkgedgfaa.P
