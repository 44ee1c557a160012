-- PRINTED by print.py (a twelfth state) out of the translation. Not trusted: Lean checks it.
import Derived.Test.YtoghpjggcfnoeaaPx0
namespace Go.Proofs.Ytoghpjggcfnoeaa.P
open Go.RowKit Go.Proofs.YtoghpjggcfnoeaaW.PrintWords Go.Proofs.YtoghpjggcfnoeaaW.PrintLast Go.Proofs.YtoghpjggcfnoeaaW.PrintMore
attribute [local go_sem] max2_int min2_int max_two min_two max_three min_three max_four min_four   -- for this text's walks alone
set_option linter.unusedVariables false
set_option linter.unusedSimpArgs false

/-! ### floor_At: function 16 -/
def floor_At.f (a0 : Int) : Option (Int) := some (if a0 = 0 then 0 else if a0 = 1 then 1 else if a0 = 2 then 2 else if a0 = 3 then 4 else if a0 = 4 then 8 else if a0 = 5 then 15 else -1)
set_option maxHeartbeats 4000000 in
set_option maxRecDepth 100000 in
theorem floor_At.low (a0 : Int) (w : World) (h : a0 < 0) : Calls Try.prog 16 #[.int .i64 a0] w fun e w' => e = .returned (.int .i64 (-1)) ∧ Below w.heap.size w w' := by
  go_enter Try.func16, Try.ntmps16
  go_wp2
  go_ret
  exact ⟨rfl, by repeat (first | exact Below.refl _ _ | apply below_alloc | apply pw_below_drewN | apply below_drew1)⟩
set_option maxHeartbeats 4000000 in
set_option maxRecDepth 100000 in
theorem floor_At.high (a0 : Int) (w : World) (h : 6 ≤ a0) : Calls Try.prog 16 #[.int .i64 a0] w fun e w' => e = .returned (.int .i64 (-1)) ∧ Below w.heap.size w w' := by
  have h0 : ¬ a0 < 0 := by omega
  go_enter Try.func16, Try.ntmps16
  go_wp2
  go_ret
  exact ⟨rfl, by repeat (first | exact Below.refl _ _ | apply below_alloc | apply pw_below_drewN | apply below_drew1)⟩
set_option maxHeartbeats 4000000 in
set_option maxRecDepth 100000 in
theorem floor_At.mid (a0 r : Int) (w : World) (h : (a0 = 0 ∧ r = 0) ∨ (a0 = 1 ∧ r = 1) ∨ (a0 = 2 ∧ r = 2) ∨ (a0 = 3 ∧ r = 4) ∨ (a0 = 4 ∧ r = 8) ∨ (a0 = 5 ∧ r = 15)) : Calls Try.prog 16 #[.int .i64 a0] w fun e w' => e = .returned (.int .i64 r) ∧ Below w.heap.size w w' := by
  rcases h with ⟨rfl, rfl⟩ | ⟨rfl, rfl⟩ | ⟨rfl, rfl⟩ | ⟨rfl, rfl⟩ | ⟨rfl, rfl⟩ | ⟨rfl, rfl⟩
  all_goals
    go_enter Try.func16, Try.ntmps16
    go_wp2
    (try simp only [Exit.inBlock, Exit.then])
    refine bodyPost_ret (v := .agg #[.int .i64 0, .int .i64 1, .int .i64 2, .int .i64 4, .int .i64 8, .int .i64 15]) ?_ rfl ?_
    · exact results_cell_row rfl _ _ w.heap.size 56 _ (0, 0) _ (by rfl) (heap_alloc_new w _) Try.underlying56 rfl (by rfl)
    simp only []
    go_at_K
    go_wp2
    go_ret
    exact ⟨rfl, by repeat (first | exact Below.refl _ _ | apply below_alloc | apply pw_below_drewN | apply below_drew1)⟩
theorem floor_At.calls (a0 : Int) (r : Int) (w : World) (h : floor_At.f a0 = some r) : Calls Try.prog 16 #[.int .i64 a0] w fun e w' => e = .returned (.int .i64 r) ∧ Below w.heap.size w w' := by
  have e := Option.some.inj h
  by_cases h0 : a0 < 0
  · obtain rfl : r = -1 := by rw [← e]; repeat (rw [if_neg (by omega)])
    exact floor_At.low a0 w h0
  by_cases h6 : 6 ≤ a0
  · obtain rfl : r = -1 := by rw [← e]; repeat (rw [if_neg (by omega)])
    exact floor_At.high a0 w h6
  refine floor_At.mid a0 r w ?_
  have : a0 = 0 ∨ a0 = 1 ∨ a0 = 2 ∨ a0 = 3 ∨ a0 = 4 ∨ a0 = 5 := by omega
  rcases this with h | h | h | h | h | h <;> subst h <;> simp at e <;> omega

end Go.Proofs.Ytoghpjggcfnoeaa.P
