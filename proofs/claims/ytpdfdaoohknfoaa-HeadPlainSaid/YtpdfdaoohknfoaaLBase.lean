/- Words of whole numbers as Go has them: what a wrap, a remainder, a shift, an 'and' come to where nothing overflows. -/
import Derived.Test.YtpdfdaoohknfoaaWMore1
import Derived.Test.YtpdfdaoohknfoaaThBits
import Derived.Laws.BitsAllLaws
namespace Go.Proofs.Ytpdfdaoohknfoaa.LB
set_option linter.unusedVariables false
set_option linter.unusedSimpArgs false
open Go.RowKit Go.Proofs.YtpdfdaoohknfoaaW.PrintWords Go.Proofs.YtpdfdaoohknfoaaW.PrintLast Go.Proofs.Ytpdfdaoohknfoaa.BT
theorem w64 {x : Int} (h : -9223372036854775808 ≤ x) (h' : x ≤ 9223372036854775807) : wrap64 x = x := by unfold wrap64; omega
theorem u64w {x : Int} (h : 0 ≤ x) (h' : x < 18446744073709551616) : IntKind.u64.wrap x = x := by
  simp only [IntKind.wrap, IntKind.bits, IntKind.signed]; simp; omega
theorem tdiv_nn {a : Int} (b : Int) (h : 0 ≤ a) : Int.tdiv a b = a / b := Int.tdiv_eq_ediv_of_nonneg h
theorem tmod_nn {a : Int} (b : Int) (h : 0 ≤ a) : Int.tmod a b = a % b := Int.tmod_eq_emod_of_nonneg h
theorem rd_nth (l : List Int) (i : Int) : rd l i = nth l i.toNat := rfl
theorem wf_bounds (k : IntKind) (x : Int) (h : (Lit.int k x).wf = true) : k.min ≤ x ∧ x ≤ k.max := by
  simpa [Lit.wf] using h
theorem wf_u8 {l : List Int} (h : ∀ x ∈ l, (Lit.int .u8 x).wf = true) : Bytes l := by
  intro x hx
  have := wf_bounds _ _ (h x hx)
  simp [IntKind.min, IntKind.max, IntKind.bits, IntKind.signed] at this
  omega
theorem wf_i64 {x : Int} (h : (Lit.int .i64 x).wf = true) : -9223372036854775808 ≤ x ∧ x ≤ 9223372036854775807 := by
  have := wf_bounds _ _ h
  simp [IntKind.min, IntKind.max, IntKind.bits, IntKind.signed] at this
  omega
theorem wf_u64 {x : Int} (h : (Lit.int .u64 x).wf = true) : 0 ≤ x ∧ x < 18446744073709551616 := by
  have := wf_bounds _ _ h
  simp [IntKind.min, IntKind.max, IntKind.bits, IntKind.signed] at this
  omega
theorem shr_small' {k : IntKind} {x y : Int} (h : y.toNat ≤ k.bits) : shr k x y = x / 2 ^ y.toNat := by unfold shr; rw [Nat.min_eq_left h]
theorem u64_eq (x : Int) : IntKind.u64.wrap x = x % 18446744073709551616 := by simp [IntKind.wrap, IntKind.bits, IntKind.signed]
theorem wrap64_eq (x : Int) : wrap64 x = (x + 9223372036854775808) % 18446744073709551616 - 9223372036854775808 := by unfold wrap64; omega
theorem pow_le32 {i : Nat} (h : i ≤ 32) : (2 : Int) ^ i ≤ 4294967296 := by
  have : (2 : Nat) ^ i ≤ 2 ^ 32 := Nat.pow_le_pow_right (by omega) h
  have := Int.ofNat_le.2 this; simpa using this
theorem and_low32 {x : Int} (h : 0 ≤ x) (h' : x < 18446744073709551616) : Go.bits .and .u64 x 4294967295 = x % 4294967296 := by
  rw [u64_and x 4294967295 h h' (by omega) (by omega)]
  have e : (4294967295 : Int).toNat = 2 ^ 32 - 1 := by decide
  rw [e, Nat.and_two_pow_sub_one_eq_mod]; omega
/-- an 'or' of parts that do not meet -/
theorem or_join {x y : Int} {i : Nat} (hx : 0 ≤ x) (hx' : x < 18446744073709551616) (hm : x % 2 ^ i = 0) (hy : 0 ≤ y) (hy' : y < 2 ^ i) (hy2 : y < 18446744073709551616) : Go.bits .or .u64 x y = x + y := by
  have hc : ((2 : Int) ^ i) = ((2 ^ i : Nat) : Int) := by simp
  have hp : 0 < 2 ^ i := Nat.pow_pos (n := i) (by omega : 0 < 2)
  rw [u64_or x y hx hx' hy hy2]
  rw [hc] at hm hy'
  have h0 : ((x.toNat % 2 ^ i : Nat) : Int) = 0 := by rw [Int.natCast_emod, Int.toNat_of_nonneg hx]; exact hm
  rw [nat_join i _ _ (by omega) (by omega), Int.natCast_add]; omega
end Go.Proofs.Ytpdfdaoohknfoaa.LB
